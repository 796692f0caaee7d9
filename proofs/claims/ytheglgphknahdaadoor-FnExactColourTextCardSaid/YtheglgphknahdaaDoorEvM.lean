/- What the printed functions answer, part M: lists of numbers compared, marked, held. -/
import Derived.Test.YtheglgphknahdaaDoorX11
import Derived.Test.YtheglgphknahdaaDoorWp
import Derived.Test.YtheglgphknahdaaDoorThB
namespace Go.Proofs.YtheglgphknahdaaDoor.Ev
open Go.RowKit Go.Proofs.YtheglgphknahdaaDoor.X Go.Proofs.YtheglgphknahdaaDoor.Wp Go.Proofs.YtheglgphknahdaaDoorW.PrintWords Go.Proofs.YtheglgphknahdaaDoor.ThB
set_option linter.unusedVariables false
set_option linter.unusedSimpArgs false

theorem eqInts (a b : List Int) (ha : a.length ≤ 140737488351232) : W (fun k => laws_eqIntS.f k a b) (fun r => r = true ↔ a = b) := by
  unfold laws_eqIntS.f
  refine W.ite (fun hl => ?_) (fun hl => W.ret ⟨fun h => by simp at h, fun h => absurd (by rw [h]) hl⟩)
  refine W.loop (l := fun i k => laws_eqIntS.l0 k a b i) (P := fun _ r => r = true ↔ a = b) (fun i : Int => 0 ≤ i ∧ i ≤ a.length ∧ ∀ j, 0 ≤ j → j < i → rd a j = rd b j) (fun i => (a.length - i).toNat) ?_ 0 ⟨by omega, by omega, fun j h0 h1 => by omega⟩
  intro i ⟨h0, h1, h2⟩ ih
  refine W.step (fun k => laws_eqIntS.l0.eq_2 ..) ?_
  by_cases hlt : i < a.length
  · rw [w64 (x := i + 1) (by omega) (by omega)]
    refine W.pos hlt (W.pos h0 (W.pos (by omega) (W.ite (fun he => ih (i + 1) ⟨by omega, by omega, fun j h3 h4 => ?_⟩ (by omega)) (fun he => W.ret ⟨fun h => by simp at h, fun h => absurd (by rw [h]) he⟩))))
    by_cases e : j = i
    · subst e; exact he
    · exact h2 j h3 (by omega)
  · refine W.neg hlt (W.ret ⟨fun _ => rd_ext (by omega) (fun j h3 h4 => h2 j h3 (by omega)), fun _ => rfl⟩)

theorem eqInts_true {a b : List Int} (h : a = b) (ha : a.length ≤ 140737488351232) : W (fun k => laws_eqIntS.f k a b) (· = true) := (eqInts a b ha).mono fun r hr => hr.2 h

/-- The numbers from k on. -/
def upTo (k : Int) : Nat → List Int
  | 0 => []
  | n + 1 => upTo k n ++ [k + n]
theorem upTo_len (k : Int) : ∀ n, (upTo k n).length = n
  | 0 => rfl
  | n + 1 => by simp [upTo, upTo_len k n]
theorem upTo_rd (k : Int) : ∀ (n : Nat) (i : Int), 0 ≤ i → i < n → rd (upTo k n) i = k + i
  | 0 => fun i h0 h1 => by omega
  | n + 1 => fun i h0 h1 => by
    unfold upTo
    by_cases e : i = n
    · subst e; rw [rd_snoc _ _ (by rw [upTo_len])]
    · rw [rd_left _ _ h0 (by rw [upTo_len]; omega)]
      exact upTo_rd k n i h0 (by omega)

theorem markInts (a : List Int) (k : Int) (h0 : 0 ≤ k) (h1 : k ≤ 1000) (ha : a.length ≤ 140737488351232) : W (fun f => laws_markIntS.f f a k) (fun r => r = (k + a.length, upTo k a.length)) := by
  unfold laws_markIntS.f
  have key := W.loop (l := fun (s : Int × List Int) f => laws_markIntS.l0 f s.2 (k + s.1) s.1) (P := fun _ r => r = (k + a.length, upTo k a.length)) (fun s => 0 ≤ s.1 ∧ s.1 ≤ a.length ∧ s.2.length = a.length ∧ ∀ j, 0 ≤ j → j < s.1 → rd s.2 j = k + j) (fun s => (a.length - s.1).toNat) (by
    rintro ⟨i, x⟩ ⟨h2, h3, h4, h5⟩ ih
    dsimp only at h2 h3 h4 h5 ⊢
    refine W.step (fun f => laws_markIntS.l0.eq_2 ..) ?_
    by_cases hlt : i < a.length
    · rw [w64 (x := i + 1) (by omega) (by omega), w64 (x := k + i + 1) (by omega) (by omega)]
      have next := ih (i + 1, x.set i.toNat (k + i)) ⟨by dsimp only; omega, by dsimp only; omega, by dsimp only; rw [List.length_set]; exact h4, fun j h6 h7 => by
        dsimp only at h7 ⊢
        by_cases e : j = i
        · subst e; exact rd_set_self _ _ h6 (by omega)
        · rw [rd_set_ne _ _ h6 h2 e]; exact h5 j h6 (by omega)⟩ (by dsimp only; omega)
      dsimp only at next
      rw [show k + (i + 1) = k + i + 1 from by omega] at next
      exact W.pos (by omega) (W.pos h2 next)
    · refine W.neg (by omega) (W.ret ?_)
      have e : i = a.length := by omega
      subst e
      exact Prod.ext rfl (rd_ext (by rw [upTo_len]; exact h4) (fun j h6 h7 => by
        dsimp only at h7
        show rd x j = _
        rw [h5 j h6 (by omega), upTo_rd _ _ _ h6 (by omega)]))) (0, a) ⟨by simp, by simp, rfl, fun j h6 h7 => by dsimp only at h7; omega⟩
  simpa using key

theorem heldInts (k : Int) (n : Nat) (h0 : 0 ≤ k) (h1 : k ≤ 1000) (hn : n ≤ 140737488351232) : W (fun f => laws_heldIntS.f f (upTo k n) k) (fun r => r = k + n) := by
  unfold laws_heldIntS.f
  have hl := upTo_len k n
  have key := W.loop (l := fun (i : Int) f => laws_heldIntS.l0 f (upTo k n) (k + i) i) (P := fun _ r => r = k + n) (fun i => 0 ≤ i ∧ i ≤ n) (fun i => (n - i).toNat) (by
    rintro i ⟨h2, h3⟩ ih
    refine W.step (fun f => laws_heldIntS.l0.eq_2 ..) ?_
    by_cases hlt : i < n
    · rw [w64 (x := i + 1) (by omega) (by omega), w64 (x := k + i + 1) (by omega) (by omega)]
      have next := ih (i + 1) ⟨by omega, by omega⟩ (by omega)
      rw [show k + (i + 1) = k + i + 1 from by omega] at next
      exact W.pos (by omega) (W.pos h2 (W.pos (upTo_rd k n i h2 hlt) next))
    · exact W.neg (by omega) (W.ret (by omega))) 0 ⟨by omega, by omega⟩
  simpa using key
end Go.Proofs.YtheglgphknahdaaDoor.Ev
