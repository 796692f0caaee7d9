/- What the printed functions answer, part C: a line's colours. -/
import Derived.Test.YtheglgphknahdaaDoorX14
import Derived.Test.YtheglgphknahdaaDoorX3
import Derived.Test.YtheglgphknahdaaDoorX4
import Derived.Test.YtheglgphknahdaaDoorLibC
import Derived.Test.YtheglgphknahdaaDoorEvLn
namespace Go.Proofs.YtheglgphknahdaaDoor.Ev
open Go.RowKit Go.Proofs.YtheglgphknahdaaDoor.X Go.Proofs.YtheglgphknahdaaDoor.Wp Go.Proofs.YtheglgphknahdaaDoorW.PrintWords Go.Proofs.YtheglgphknahdaaDoor.ThL Go.Proofs.YtheglgphknahdaaDoor.ThC
set_option linter.unusedVariables false
set_option linter.unusedSimpArgs false

theorem kindC (c : Int) : W (fun k => spec_l8Kind.f k c) (· = cls c) := by
  unfold spec_l8Kind.f
  have yes : c = 32 ∨ c = 10 → W (fun k => spec_l8Kind.j0 k c true) (· = cls c) := fun h =>
    W.step (fun k => spec_l8Kind.j0.eq_2 ..) (W.pos rfl (W.ret (by unfold cls; rw [if_pos h])))
  refine W.ite (fun h => yes (.inl h)) (fun h => ?_)
  by_cases h10 : c = 10
  · rw [show (c == 10) = true from by simpa using h10]; exact yes (.inr h10)
  · rw [show (c == 10) = false from by simpa using h10]
    refine W.step (fun k => spec_l8Kind.j0.eq_2 ..) (W.neg (by decide) ?_)
    by_cases a : (48 ≤ c ∧ c ≤ 57) ∨ (97 ≤ c ∧ c ≤ 122) ∨ (65 ≤ c ∧ c ≤ 90)
    · rw [show cls c = 1 from by unfold cls; rw [if_neg (by omega), if_pos a]]
      repeat' (first | exact W.ret rfl | (exfalso; omega) | refine W.ite (fun _ => ?_) (fun _ => ?_))
    · rw [show cls c = 2 from by unfold cls; rw [if_neg (by omega), if_neg a]]
      repeat' (first | exact W.ret rfl | (exfalso; omega) | refine W.ite (fun _ => ?_) (fun _ => ?_))

/-- The colours of the first n bytes, as a text. -/
def colT (a : Int) (s : ByteArray) (n : Nat) : ByteArray := ⟨(crun a s n).2.2.toArray⟩
theorem colT_size (a : Int) (s : ByteArray) (n : Nat) : (colT a s n).size = n := by
  show (crun a s n).2.2.toArray.size = n
  rw [List.size_toArray, crun_len]
theorem arr_snoc (l : List UInt8) (o : UInt8) : (⟨l.toArray⟩ : ByteArray) ++ ⟨#[o]⟩ = ⟨(l ++ [o]).toArray⟩ := by
  apply str_ext
  · rw [ByteArray.size_append]
    show l.toArray.size + 1 = (l ++ [o]).toArray.size
    simp
  · intro i h0 h1
    rw [ByteArray.size_append] at h1
    have hz : (⟨l.toArray⟩ : ByteArray).size = l.length := by show l.toArray.size = _; simp
    have hz1 : (⟨#[o]⟩ : ByteArray).size = 1 := rfl
    have hz2 : (⟨(l ++ [o]).toArray⟩ : ByteArray).size = l.length + 1 := by show (l ++ [o]).toArray.size = _; simp
    rw [hz, hz1] at h1
    by_cases c : i < l.length
    · rw [bt_cat_left _ _ (by omega)]
      obtain ⟨p, e⟩ := bt_eq (⟨l.toArray⟩ : ByteArray) h0 (by omega)
      obtain ⟨p2, e2⟩ := bt_eq (⟨(l ++ [o]).toArray⟩ : ByteArray) h0 (by omega)
      rw [e, e2]
      show ((l.toArray[i.toNat]'p).toNat : Int) = ((l ++ [o]).toArray[i.toNat]'p2).toNat
      rw [List.getElem_toArray, List.getElem_toArray, List.getElem_append_left (by omega)]
    · rw [bt_cat_right _ _ (by omega)]
      have ei : i = l.length := by omega
      subst ei
      obtain ⟨p2, e2⟩ := bt_eq (⟨(l ++ [o]).toArray⟩ : ByteArray) (i := (l.length : Int)) (by omega) (by omega)
      rw [e2, hz, Int.sub_self]
      show (o.toNat : Int) = ((l ++ [o]).toArray[(l.length : Int).toNat]'p2).toNat
      rw [List.getElem_toArray]
      simp
theorem colT_succ (a : Int) (s : ByteArray) (n : Nat) : colT a s (n + 1) = colT a s n ++ ⟨#[(cstep (crun a s n).1 (crun a s n).2.1 (bt s n)).2.2]⟩ := by
  unfold colT
  rw [arr_snoc]; rfl

theorem specLine (a : Int) (s : ByteArray) (h0 : 0 ≤ a) (h9 : a ≤ 9) (hs : s.size ≤ 1000000) : W (fun k => spec_l17Line.f k a s) (fun r => r = ((crun a s s.size).1, colT a s s.size)) := by
  unfold spec_l17Line.f
  have key := W.loop (l := fun (n : Nat) k => spec_l17Line.l0 k (crun a s n).1 s (colT a s n) (crun a s n).2.1 n) (P := fun _ r => r = ((crun a s s.size).1, colT a s s.size)) (fun n : Nat => n ≤ s.size) (fun n => s.size - n) (by
    intro n hn ih
    refine W.step (fun k => spec_l17Line.l0.eq_2 ..) ?_
    obtain ⟨r0, r9⟩ := crun_range s h0 h9 n
    have hz := colT_size a s n
    by_cases hlt : n < s.size
    · have next := ih (n + 1) (by omega) (by omega)
      rw [colT_succ, show ((n + 1 : Nat) : Int) = (n : Int) + 1 from by omega] at next
      rw [show (crun a s (n + 1)).1 = (cstep (crun a s n).1 (crun a s n).2.1 (bt s n)).1 from rfl, show (crun a s (n + 1)).2.1 = (cstep (crun a s n).1 (crun a s n).2.1 (bt s n)).2.1 from rfl] at next
      rw [w64 (x := (n : Int) + 1) (by omega) (by omega)]
      obtain ⟨A, hA⟩ : ∃ A, A = (crun a s n).1 := ⟨_, rfl⟩
      obtain ⟨Q, hQ⟩ : ∃ Q, Q = (crun a s n).2.1 := ⟨_, rfl⟩
      obtain ⟨c, hc⟩ : ∃ c, c = bt s n := ⟨_, rfl⟩
      rw [← hA, ← hQ, ← hc] at next
      rw [← hA] at r0 r9
      rw [← hA, ← hQ, ← hc]
      refine W.pos (by omega) (W.pos (by omega) ?_)
      unfold cstep at next
      cases Q with
      | true =>
        rw [if_pos rfl] at next
        exact W.pos rfl (W.pos (by omega) next)
      | false =>
        rw [if_neg (show ¬ (false = true) by decide)] at next
        refine W.neg (show ¬ (false = true) by decide) ?_
        have j1 : ∀ b : Bool, b = decide (c = 123 ∧ A < 9) → W (fun k => spec_l17Line.j1 k A s (colT a s n) false n c (⟨#[48]⟩ : ByteArray) b) (fun r => r = ((crun a s s.size).1, colT a s s.size)) := by
          intro b hb
          refine W.step (fun k => spec_l17Line.j1.eq_2 ..) ?_
          rw [w64 (x := (n : Int) + 1) (by omega) (by omega), w64 (x := A + 1) (by omega) (by omega), w64 (x := A - 1) (by omega) (by omega)]
          by_cases h2 : c = 123 ∧ A < 9
          · rw [if_pos h2] at next
            exact W.pos (by rw [hb]; simpa using h2) (W.pos (by omega) next)
          · rw [if_neg h2] at next
            refine W.neg (by rw [hb]; simpa using h2) ?_
            by_cases h3 : A > 0
            · rw [if_pos h3] at next
              refine W.pos h3 ?_
              by_cases h4 : c = 125
              · rw [if_pos h4] at next
                exact W.pos h4 (W.pos (by omega) next)
              · rw [if_neg h4] at next
                exact W.neg h4 (W.pos (by omega) next)
            · rw [if_neg h3] at next
              refine W.neg h3 ?_
              by_cases h5 : c = 34
              · rw [if_pos h5] at next
                exact W.pos h5 (W.pos (by omega) next)
              · rw [if_neg h5] at next
                refine W.neg h5 ?_
                have j2 : ∀ b : Bool, b = decide (48 ≤ c ∧ c ≤ 57) → W (fun k => spec_l17Line.j2 k A s (colT a s n) false n c (⟨#[48]⟩ : ByteArray) b) (fun r => r = ((crun a s s.size).1, colT a s s.size)) := by
                  intro b hb
                  refine W.step (fun k => spec_l17Line.j2.eq_2 ..) ?_
                  rw [w64 (x := (n : Int) + 1) (by omega) (by omega)]
                  by_cases h6 : 48 ≤ c ∧ c ≤ 57
                  · rw [if_pos h6] at next
                    exact W.pos (by rw [hb]; simpa using h6) (W.pos (by omega) next)
                  · rw [if_neg h6] at next
                    refine W.neg (by rw [hb]; simpa using h6) (W.bind_eq (kindC c) ?_)
                    by_cases h7 : cls c = 1
                    · rw [if_pos h7] at next
                      exact W.pos h7 (W.pos (by omega) next)
                    · rw [if_neg h7] at next
                      exact W.neg h7 (W.pos (by rw [hz]; show n + 1 ≤ _; omega) next)
                refine W.ite (fun h => j2 _ ?_) (fun h => j2 _ ?_)
                · by_cases h8 : c ≤ 57 <;> simp [h8]; omega
                · rw [Eq.comm, decide_eq_false_iff_not]; omega
        refine W.ite (fun h => j1 _ ?_) (fun h => j1 _ ?_)
        · by_cases h8 : A < 9 <;> simp [h, h8]
        · rw [Eq.comm, decide_eq_false_iff_not]; exact fun h' => h h'.1
    · have e : n = s.size := by omega
      subst e
      exact W.neg (by omega) (W.ret rfl)) 0 (by omega)
  exact key

/-- What a line's colouring answers. -/
noncomputable def clRes (a : Int) (s : ByteArray) : Int × ByteArray × Bool := if (0 ≤ a ∧ a ≤ 9) ∧ VT s ∧ nl s s.size = 0 then ((crun a s s.size).1, colT a s s.size, true) else (-1, ⟨#[]⟩, false)

theorem contains10 (s : ByteArray) : strings_Contains.f s (⟨#[10]⟩ : ByteArray) = some (decide (nl s s.size ≠ 0)) := by
  have h1 : strings_Contains.f s (⟨#[10]⟩ : ByteArray) = some (decide (0 ≤ Lib.indexByte s.data.toList 10)) := rfl
  rw [h1]
  congr 1
  rw [Bool.eq_iff_iff]
  simp only [decide_eq_true_eq]
  have ib : ∀ l : List UInt8, 0 ≤ Lib.indexByte l 10 ↔ ∃ i : Nat, ∃ h : i < l.length, l[i] = 10 := by
    intro l
    induction l with
    | nil => simp [Lib.indexByte]
    | cons b l ih =>
      have hge := Lib.indexByte_ge l 10
      unfold Lib.indexByte
      by_cases c : b = 10
      · rw [if_pos (by simpa using c)]
        exact ⟨fun _ => ⟨0, by simp, c⟩, fun _ => by omega⟩
      · rw [if_neg (by simpa using c)]
        by_cases d : Lib.indexByte l 10 = -1
        · rw [if_pos (by simpa using d)]
          constructor
          · intro h; omega
          · rintro ⟨i, hi, he⟩
            cases i with
            | zero => exact absurd he c
            | succ i => exact absurd (ih.2 ⟨i, by simpa using hi, by simpa using he⟩) (by omega)
        · rw [if_neg (by simpa using d)]
          constructor
          · intro _
            obtain ⟨i, hi, he⟩ := ih.1 (by omega)
            exact ⟨i + 1, by simpa using hi, by simpa using he⟩
          · intro _; omega
  rw [ib, Ne, nl_zero_iff]
  constructor
  · rintro ⟨i, hi, he⟩ hno
    have hi2 : i < s.size := by rw [data_length] at hi; exact hi
    obtain ⟨p, e⟩ := bt_eq s (i := (i : Int)) (by omega) (by omega)
    apply hno i (by omega) (by omega)
    rw [e]
    have : s[i]'hi2 = 10 := by rw [← he]; rfl
    simp only [Int.toNat_natCast]
    rw [this]; rfl
  · intro hno
    apply Classical.byContradiction
    intro hex
    apply hno
    intro j h0 h2 h3
    obtain ⟨p, e⟩ := bt_eq s h0 h2
    apply hex
    refine ⟨j.toNat, by rw [data_length]; exact p, ?_⟩
    rw [e] at h3
    have : (s[j.toNat]'p) = 10 := UInt8.toNat_inj.1 (by simpa using (by exact_mod_cast h3 : (s[j.toNat]'p).toNat = 10))
    rw [← this]; rfl
theorem implCL (a : Int) (s : ByteArray) (hs : s.size ≤ 140737488351232) : W (fun k => impl_ColourLine.f k a s) (fun r => r = clRes a s) := by
  unfold impl_ColourLine.f clRes
  refine W.call (in_eq ..) (W.ite (fun h1 => ?_) (fun h1 => W.ret (by rw [if_neg (fun h => h1 (by simpa using h.1))])))
  rw [decide_eq_true_eq] at h1
  refine W.bind (implTV s hs) (fun b hb => W.ite (fun h2 => ?_) (fun h2 => W.ret (by rw [if_neg (fun h => h2 (hb.2 h.2.1))])))
  have hv := hb.1 h2
  have hsz := hv.1
  refine W.call (contains10 s) (W.ite (fun h3 => W.ret ?_) (fun h3 => ?_))
  · rw [decide_eq_true_eq] at h3
    rw [if_neg (fun h => h3 h.2.2)]
  · rw [decide_eq_true_eq] at h3
    refine W.call (show impl_colour.f a s = some ((crun a s s.size).1, colT a s s.size) from by unfold impl_colour.f; rw [if_pos ⟨h1.1, h1.2, by omega⟩]; rfl) (W.ret ?_)
    rw [if_pos ⟨h1, hv, by omega⟩]
end Go.Proofs.YtheglgphknahdaaDoor.Ev
