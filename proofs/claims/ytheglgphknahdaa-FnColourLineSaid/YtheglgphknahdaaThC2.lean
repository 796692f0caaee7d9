/- The plain law of colours, part 2: a line in two parts, quotes in pairs. No program in sight. -/
import Derived.Test.YtheglgphknahdaaThC
import Derived.Test.YtheglgphknahdaaEvS
namespace Go.Proofs.Ytheglgphknahdaa.ThC
open Go.RowKit Go.Proofs.YtheglgphknahdaaW.PrintWords Go.Proofs.Ytheglgphknahdaa.Ev
set_option linter.unusedVariables false
set_option linter.unusedSimpArgs false

theorem cstep_digit (st : Int) (q : Bool) (c : Int) : 48 ≤ (cstep st q c).2.2.toNat ∧ (cstep st q c).2.2.toNat ≤ 52 := by
  unfold cstep
  repeat' split
  all_goals (dsimp only; decide)
theorem cstep_flip (st : Int) (q : Bool) (c : Int) : (cstep st q c).2.1 = (if c = 34 ∧ (cstep st q c).2.2.toNat = 51 then !q else q) := by
  unfold cstep
  cases q with
  | true =>
    rw [if_pos rfl]
    by_cases h : c = 34
    · rw [if_pos ⟨h, rfl⟩]; simp [h]
    · rw [if_neg (fun h' => h h'.1)]; simpa using h
  | false =>
    rw [if_neg (show ¬ (false = true) by decide)]
    by_cases h1 : c = 123 ∧ st < 9
    · rw [if_pos h1, if_neg (fun h => by omega)]
    · rw [if_neg h1]
      by_cases h2 : st > 0
      · rw [if_pos h2]
        by_cases h3 : c = 125
        · rw [if_pos h3, if_neg (fun h => by omega)]
        · rw [if_neg h3, if_neg (fun h => absurd h.2 (show ¬ ((52 : UInt8).toNat = 51) by decide))]
      · rw [if_neg h2]
        by_cases h3 : c = 34
        · rw [if_pos h3, if_pos ⟨h3, rfl⟩]; rfl
        · have e : ∀ x : Nat, (if c = 34 ∧ x = 51 then !false else false) = false := fun x => if_neg (fun h => h3 h.1)
          rw [e, if_neg h3]
          repeat' split
          all_goals rfl
theorem crun_snoc (a : Int) (s : ByteArray) (n : Nat) : crun a s (n + 1) = ((cstep (crun a s n).1 (crun a s n).2.1 (bt s n)).1, (cstep (crun a s n).1 (crun a s n).2.1 (bt s n)).2.1, (crun a s n).2.2 ++ [(cstep (crun a s n).1 (crun a s n).2.1 (bt s n)).2.2]) := rfl
theorem crun_congr (a : Int) {s t : ByteArray} : ∀ n : Nat, (∀ i : Int, 0 ≤ i → i < n → bt s i = bt t i) → crun a s n = crun a t n
  | 0, _ => rfl
  | n + 1, h => by
    rw [crun_snoc, crun_snoc, crun_congr a n (fun i h0 h1 => h i h0 (by omega)), h n (by omega) (by omega)]
theorem crun_join (a : Int) (s : ByteArray) (m : Nat) (hm : m ≤ s.size) (hq : (crun a s m).2.1 = false) : ∀ n : Nat, m + n ≤ s.size → (crun a s (m + n)).1 = (crun (crun a s m).1 (s.extract m s.size) n).1 ∧ (crun a s (m + n)).2.1 = (crun (crun a s m).1 (s.extract m s.size) n).2.1 ∧ (crun a s (m + n)).2.2 = (crun a s m).2.2 ++ (crun (crun a s m).1 (s.extract m s.size) n).2.2
  | 0, _ => ⟨rfl, hq, by show _ = _ ++ []; rw [List.append_nil]; rfl⟩
  | n + 1, h => by
    obtain ⟨h1, h2, h3⟩ := crun_join a s m hm hq n (by omega)
    have hb : bt (s.extract m s.size) n = bt s ((m + n : Nat) : Int) := by
      have := bt_ext s (a := (m : Int)) (b := (s.size : Int)) (i := (n : Int)) (by omega) (by omega) (by omega) (by omega)
      rw [Int.toNat_natCast, Int.toNat_natCast] at this
      rw [this, show (m : Int) + n = ((m + n : Nat) : Int) from by omega]
    rw [show m + (n + 1) = (m + n) + 1 from by omega, crun_snoc, crun_snoc, hb, h1, h2, h3]
    exact ⟨rfl, rfl, by rw [List.append_assoc]⟩
theorem crun_get (a : Int) (s : ByteArray) : ∀ (n i : Nat), i < n → (crun a s n).2.2[i]? = some (cstep (crun a s i).1 (crun a s i).2.1 (bt s i)).2.2
  | 0, i, h => by omega
  | n + 1, i, h => by
    rw [crun_snoc]
    have hl := crun_len a s n
    by_cases e : i = n
    · subst e
      show ((crun a s i).2.2 ++ [_])[i]? = _
      rw [List.getElem?_append_right (by omega), hl, Nat.sub_self]; rfl
    · show ((crun a s n).2.2 ++ [_])[i]? = _
      rw [List.getElem?_append_left (by omega)]
      exact crun_get a s n i (by omega)
end Go.Proofs.Ytheglgphknahdaa.ThC
