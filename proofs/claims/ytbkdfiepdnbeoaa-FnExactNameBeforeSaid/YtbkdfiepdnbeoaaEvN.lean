/- What the printed functions answer, part N: classes of bytes, names before places. -/
import Derived.Test.YtbkdfiepdnbeoaaX28
import Derived.Test.YtbkdfiepdnbeoaaEvA
import Derived.Test.YtbkdfiepdnbeoaaEvS
namespace Go.Proofs.Ytbkdfiepdnbeoaa.Ev
open Go.RowKit Go.Proofs.Ytbkdfiepdnbeoaa.X Go.Proofs.Ytbkdfiepdnbeoaa.Wp Go.Proofs.YtbkdfiepdnbeoaaW.PrintWords
set_option linter.unusedVariables false
set_option linter.unusedSimpArgs false

/-- The class of a byte: 0 for spaces and line ends, 1 for letters and digits, 2 for others. -/
def cls (c : Int) : Int := if c = 32 ∨ c = 10 then 0 else if (48 ≤ c ∧ c ≤ 57) ∨ (97 ≤ c ∧ c ≤ 122) ∨ (65 ≤ c ∧ c ≤ 90) then 1 else 2
theorem kindW (c : Int) : W (fun k => spec_l8Kind.f k c) (· = cls c) := by
  unfold spec_l8Kind.f
  have yes : c = 32 ∨ c = 10 → W (fun k => spec_l8Kind.j0 k c true) (· = cls c) := fun h =>
    W.step (fun k => spec_l8Kind.j0.eq_2 ..) (W.pos rfl (W.ret (by unfold cls; rw [if_pos h])))
  refine W.ite (fun h => yes (.inl h)) (fun h => ?_)
  by_cases h10 : c = 10
  · rw [show (c == 10) = true from by simpa using h10]; exact yes (.inr h10)
  · rw [show (c == 10) = false from by simpa using h10]
    refine W.step (fun k => spec_l8Kind.j0.eq_2 ..) (W.neg (by decide) ?_)
    by_cases a : (48 ≤ c ∧ c ≤ 57) ∨ (97 ≤ c ∧ c ≤ 122) ∨ (65 ≤ c ∧ c ≤ 90)
    · rw [show cls c = 1 from by unfold cls; rw [if_neg (by omega), if_pos a]]
      repeat' (first | exact W.ret rfl | (exfalso; omega) | refine W.ite (fun _ => ?_) (fun _ => ?_))
    · rw [show cls c = 2 from by unfold cls; rw [if_neg (by omega), if_neg a]]
      repeat' (first | exact W.ret rfl | (exfalso; omega) | refine W.ite (fun _ => ?_) (fun _ => ?_))
theorem classW (c : Int) : W (fun k => impl_class.f k c) (· = cls c) := by
  unfold impl_class.f
  have yes : c = 32 ∨ c = 10 → W (fun k => impl_class.j0 k c true) (· = cls c) := fun h =>
    W.step (fun k => impl_class.j0.eq_2 ..) (W.pos rfl (W.ret (by unfold cls; rw [if_pos h])))
  refine W.ite (fun h => yes (.inl h)) (fun h => ?_)
  by_cases h10 : c = 10
  · rw [show (c == 10) = true from by simpa using h10]; exact yes (.inr h10)
  · rw [show (c == 10) = false from by simpa using h10]
    refine W.step (fun k => impl_class.j0.eq_2 ..) (W.neg (by decide) ?_)
    by_cases a : (48 ≤ c ∧ c ≤ 57) ∨ (97 ≤ c ∧ c ≤ 122) ∨ (65 ≤ c ∧ c ≤ 90)
    · rw [show cls c = 1 from by unfold cls; rw [if_neg (by omega), if_pos a]]
      repeat' (first | exact W.ret rfl | (exfalso; omega) | refine W.ite (fun _ => ?_) (fun _ => ?_))
    · rw [show cls c = 2 from by unfold cls; rw [if_neg (by omega), if_neg a]]
      repeat' (first | exact W.ret rfl | (exfalso; omega) | refine W.ite (fun _ => ?_) (fun _ => ?_))

/-- Where the bytes of a class before p begin. -/
def back (s : ByteArray) (of : Int) : Nat → Nat
  | 0 => 0
  | n + 1 => if cls (bt s n) = of then back s of n else n + 1
theorem back_le (s : ByteArray) (of : Int) : ∀ n, back s of n ≤ n
  | 0 => Nat.le_refl _
  | n + 1 => by
    unfold back
    split
    · have := back_le s of n; omega
    · omega
theorem back_in (s : ByteArray) (of : Int) : ∀ (n : Nat) (j : Int), back s of n ≤ j → j < n → cls (bt s j) = of
  | 0 => fun j h0 h1 => by omega
  | n + 1 => fun j h0 h1 => by
    unfold back at h0
    split at h0
    · rename_i hc
      by_cases e : j = n
      · subst e; exact hc
      · exact back_in s of n j h0 (by omega)
    · omega
theorem back_stop (s : ByteArray) (of : Int) : ∀ (n : Nat), 0 < back s of n → cls (bt s ((back s of n : Int) - 1)) ≠ of
  | 0 => fun h => by simp [back] at h
  | n + 1 => fun h => by
    unfold back at h ⊢
    split
    · rename_i hc
      rw [if_pos hc] at h
      exact back_stop s of n h
    · rename_i hc
      rw [show ((n + 1 : Nat) : Int) - 1 = n from by omega]
      exact hc

theorem implBack (s : ByteArray) (p of : Int) (h0 : 0 ≤ p) (hp : p ≤ s.size) (hs : s.size ≤ 140737488351232) : W (fun k => impl_skipBack.f k s p of) (fun r => r = back s of p.toNat) := by
  unfold impl_skipBack.f
  have key := W.loop (l := fun (n : Nat) k => impl_skipBack.l0 k s n of) (P := fun n r => r = back s of n) (fun n : Nat => n ≤ s.size) (fun n => n) (by
    intro n hn ih
    refine W.step (fun k => impl_skipBack.l0.eq_2 ..) ?_
    cases n with
    | zero => exact W.neg (by simp) (W.ret (by simp [back]))
    | succ n =>
      rw [w64 (x := ((n + 1 : Nat) : Int) - 1) (by omega) (by omega), show ((n + 1 : Nat) : Int) - 1 = n from by omega]
      refine W.pos (by omega) (W.pos (by omega) (W.pos (by omega) (W.bind_eq (classW _) (W.ite (fun hc => ?_) (fun hc => ?_)))))
      · have := ih n (by omega) (by omega)
        refine this.mono fun r hr => ?_
        rw [hr]; simp [back, hc]
      · refine W.ret ?_
        simp [back, hc]) p.toNat (by omega)
  rw [show ((p.toNat : Nat) : Int) = p from by omega] at key
  exact key

/-- The name before a place. -/
def nameBefore (s : ByteArray) (p : Int) : ByteArray := s.extract (back s 1 p.toNat) p.toNat

theorem implName (s : ByteArray) (p : Int) (hs : s.size ≤ 140737488351232) : W (fun k => impl_NameBefore.f k s p) (fun r => r = if VT s ∧ 0 ≤ p ∧ p ≤ s.size then nameBefore s p else ⟨#[]⟩) := by
  unfold impl_NameBefore.f
  refine W.bind (implPlace s p hs) (fun b hb => W.ite (fun h => ?_) (fun h => ?_))
  · have hv := hb.1 h
    have hle := back_le s 1 p.toNat
    rw [if_pos hv]
    refine W.bind_eq (implBack s p 1 hv.2.1 hv.2.2 hs) (W.pos (by omega) (W.pos (by omega) (W.pos (by omega) (W.ret ?_))))
    unfold nameBefore
    rw [Int.toNat_natCast]
  · rw [if_neg (fun hv => h (hb.2 hv))]
    exact W.ret rfl

theorem specName (s : ByteArray) (p : Int) (hs : s.size ≤ 140737488351232) : W (fun k => spec_NameBefore.f k s p) (fun r => r = if VT s ∧ 0 ≤ p ∧ p ≤ s.size then nameBefore s p else ⟨#[]⟩) := by
  unfold spec_NameBefore.f
  have out : ¬ (VT s ∧ 0 ≤ p ∧ p ≤ s.size) → W (fun k => spec_NameBefore.j0 k s p true) (fun r => r = if VT s ∧ 0 ≤ p ∧ p ≤ s.size then nameBefore s p else ⟨#[]⟩) := fun hv => by
    rw [if_neg hv]
    exact W.step (fun k => spec_NameBefore.j0.eq_2 ..) (W.pos rfl (W.ret rfl))
  refine W.bind (specTV s hs) (fun b hb => W.ite (fun h => W.call (l1In_eq ..) ?_) (fun h => out (fun hv => h (hb.2 hv.1))))
  by_cases hp : 0 ≤ p ∧ p ≤ s.size
  · have hv := hb.1 h
    rw [if_pos ⟨hv, hp⟩, show (!decide (0 ≤ p ∧ p ≤ (s.size : Int))) = false from by rw [decide_eq_true hp]; rfl]
    refine W.step (fun k => spec_NameBefore.j0.eq_2 ..) (W.neg (by decide) ?_)
    have key := W.loop (l := fun (n : Nat) k => spec_NameBefore.l0 k s p n) (P := fun n r => r = s.extract (back s 1 n) p.toNat) (fun n : Nat => (n : Int) ≤ p) (fun n => n) (by
      intro n hn ih
      refine W.step (fun k => spec_NameBefore.l0.eq_2 ..) ?_
      cases n with
      | zero => exact W.neg (by simp) (W.pos (by simp) (W.pos (by omega) (W.pos (by omega) (W.ret (by simp [back])))))
      | succ n =>
        rw [w64 (x := ((n + 1 : Nat) : Int) - 1) (by omega) (by omega), show ((n + 1 : Nat) : Int) - 1 = n from by omega]
        refine W.pos (by omega) (W.pos (by omega) (W.pos (by omega) (W.bind_eq (kindW _) (W.ite (fun hc => ?_) (fun hc => ?_)))))
        · have := ih n (by omega) (by omega)
          refine this.mono fun r hr => ?_
          rw [hr]; simp [back, hc]
        · refine W.pos (by omega) (W.pos (by omega) (W.pos (by omega) (W.ret ?_)))
          rw [Int.toNat_natCast]; simp [back, hc]) p.toNat (by omega)
    rw [show ((p.toNat : Nat) : Int) = p from by omega] at key
    exact key
  · rw [show (!decide (0 ≤ p ∧ p ≤ (s.size : Int))) = true from by rw [decide_eq_false hp]; rfl]
    exact out (fun hv => hp hv.2)
end Go.Proofs.Ytbkdfiepdnbeoaa.Ev
