/- For every code, the law on ColourLine answers true: there is a colour for every byte, from 0 to 4; a line in two parts, divided where no string is open, has the colours of both. Conditions: none. -/
import Derived.Test.YtheglgphknahdaaX5
import Derived.Test.YtheglgphknahdaaEvC
import Derived.Test.YtheglgphknahdaaEvL
import Derived.Test.YtheglgphknahdaaEvDL
import Derived.Test.YtheglgphknahdaaThC2
namespace Go.Proofs.Ytheglgphknahdaa.Pure
open Go.RowKit Go.Proofs.Ytheglgphknahdaa.X Go.Proofs.Ytheglgphknahdaa.Wp Go.Proofs.Ytheglgphknahdaa.Ev Go.Proofs.Ytheglgphknahdaa.ThL Go.Proofs.Ytheglgphknahdaa.ThC Go.Proofs.YtheglgphknahdaaW.PrintWords
set_option linter.unusedVariables false
set_option linter.unusedSimpArgs false

theorem colT_bt (a : Int) (s : ByteArray) (n : Nat) {i : Int} (h0 : 0 ≤ i) (h1 : i < n) : bt (colT a s n) i = ((cstep (crun a s i.toNat).1 (crun a s i.toNat).2.1 (bt s i)).2.2.toNat : Int) := by
  have hz := colT_size a s n
  obtain ⟨p, e⟩ := bt_eq (colT a s n) h0 (by omega)
  rw [e]
  have hg := crun_get a s n i.toNat (by omega)
  rw [show ((i.toNat : Nat) : Int) = i from by omega] at hg
  have : (colT a s n)[i.toNat]'p = (cstep (crun a s i.toNat).1 (crun a s i.toNat).2.1 (bt s i)).2.2 := by
    have hl := crun_len a s n
    have hlt : i.toNat < (crun a s n).2.2.length := by omega
    rw [List.getElem?_eq_getElem hlt] at hg
    injection hg with hg
  rw [this]
theorem colT_cat (a c : Int) (s t u : ByteArray) (m n k : Nat) (h : (crun a s k).2.2 = (crun a t m).2.2 ++ (crun c u n).2.2) : colT a t m ++ colT c u n = colT a s k := by
  unfold colT
  rw [h]
  apply toList_inj.1
  rw [toList_data, toList_data]
  show (_ ++ _ : ByteArray).data.toList = _
  rw [ByteArray.data_append]
  simp

theorem FnColourLine : laws_FnColourLine.Pure := by
  intro l _ _ hw
  refine W.rounds (r := true) ?_
  unfold laws_FnColourLine.f
  refine W.ite (fun _ => W.ret rfl) (fun _ => W.bind (drawCL hw) (fun r hr => ?_))
  obtain ⟨a, s⟩ := r
  dsimp only at hr ⊢
  have hs : s.size ≤ 140737488351232 := by omega
  refine W.bind_eq (implCL a s hs) (W.bind_eq (specCL a s hs) (W.pos rfl (W.pos rfl ?_)))
  rw [show ((clRes a s).2.2 != (clRes a s).2.2) = false from by simp]
  refine W.step (fun k => laws_FnColourLine.j0.eq_2 ..) (W.neg (by decide) ?_)
  by_cases hg : (0 ≤ a ∧ a ≤ 9) ∧ VT s ∧ nl s s.size = 0
  · have hc : clRes a s = ((crun a s s.size).1, colT a s s.size, true) := by unfold clRes; rw [if_pos hg]
    rw [hc]
    have hz := colT_size a s s.size
    refine W.pos rfl (W.pos (by show ((colT a s s.size).size : Int) = s.size; omega) ?_)
    obtain ⟨⟨a0, a9⟩, hv, hnl⟩ := hg
    have hno := (nl_zero_iff s).1 hnl
    -- the loop
    have key := W.loop (l := fun (z : Nat × Int) k => laws_FnColourLine.l0 k a s (crun a s s.size).1 (colT a s s.size) z.2 (z.1 : Int)) (P := fun _ r => r = true) (fun z => z.1 ≤ s.size ∧ 0 ≤ z.2 ∧ z.2 ≤ z.1 ∧ (z.2 % 2 = 1 ↔ (crun a s z.1).2.1 = true)) (fun z => s.size - z.1) (by
      rintro ⟨n, q⟩ ⟨hn, q0, q1, hq⟩ ih
      dsimp only at hn q0 q1 hq ⊢
      refine W.step (fun k => laws_FnColourLine.l0.eq_2 ..) ?_
      by_cases hlt : n < s.size
      · refine W.pos (by omega) (W.pos (by omega) ?_)
        have hb := colT_bt a s s.size (i := (n : Int)) (by omega) (by omega)
        rw [Int.toNat_natCast] at hb
        have hd := cstep_digit (crun a s n).1 (crun a s n).2.1 (bt s n)
        have hf := cstep_flip (crun a s n).1 (crun a s n).2.1 (bt s n)
        have next : ∀ q' : Int, 0 ≤ q' → q' ≤ n + 1 → (q' % 2 = 1 ↔ (crun a s (n + 1)).2.1 = true) → W (fun k => laws_FnColourLine.j4 k a s (crun a s s.size).1 (colT a s s.size) q' n) (· = true) := by
          intro q' h0 h1 hq'
          have nx := ih (n + 1, q') ⟨by omega, h0, by omega, hq'⟩ (by dsimp only; omega)
          dsimp only at nx
          rw [show ((n + 1 : Nat) : Int) = (n : Int) + 1 from by omega] at nx
          refine W.step (fun k => laws_FnColourLine.j4.eq_2 ..) ?_
          rw [w64 (x := (n : Int) + 1) (by omega) (by omega)]
          refine W.ite (fun he => W.pos (by omega) (W.pos (by omega) ?_)) (fun _ => nx)
          rw [Int.tmod_eq_emod_of_nonneg h0] at he
          have hqf : (crun a s (n + 1)).2.1 = false := by
            cases hcase : (crun a s (n + 1)).2.1 with
            | false => rfl
            | true => have := hq'.2 hcase; omega
          rw [show ((n : Int) + 1).toNat = n + 1 from by omega]
          -- the two parts
          obtain ⟨F, hF⟩ : ∃ F, F = s.extract 0 (n + 1) := ⟨_, rfl⟩
          obtain ⟨R, hR⟩ : ∃ R, R = s.extract (n + 1) s.size := ⟨_, rfl⟩
          have szF : F.size = n + 1 := by rw [hF, ByteArray.size_extract]; omega
          have szR : R.size = s.size - (n + 1) := by rw [hR, ByteArray.size_extract]; omega
          have btF : ∀ i : Int, 0 ≤ i → i < ((n + 1 : Nat) : Int) → bt F i = bt s i := by
            intro i i0 i1
            have := bt_ext s (a := 0) (b := ((n + 1 : Nat) : Int)) (i := i) (by omega) i0 (by omega) (by omega)
            rw [Int.toNat_natCast, Int.zero_add] at this
            rw [hF]; exact this
          have btR : ∀ i : Int, 0 ≤ i → i < R.size → bt R i = bt s (((n + 1 : Nat) : Int) + i) := by
            intro i i0 i1
            have := bt_ext s (a := ((n + 1 : Nat) : Int)) (b := (s.size : Int)) (i := i) (by omega) i0 (by omega) (by omega)
            rw [Int.toNat_natCast, Int.toNat_natCast] at this
            rw [hR]; exact this
          have vF : VT F := ⟨by have := hv.1; omega, fun j j0 j1 => by rw [btF j j0 (by omega)]; exact hv.2 j j0 (by omega)⟩
          have vR : VT R := ⟨by have := hv.1; omega, fun j j0 j1 => by rw [btR j j0 j1]; exact hv.2 _ (by omega) (by omega)⟩
          have nF : nl F F.size = 0 := (nl_zero_iff F).2 (fun j j0 j1 => by rw [btF j j0 (by omega)]; exact hno j j0 (by omega))
          have nR : nl R R.size = 0 := (nl_zero_iff R).2 (fun j j0 j1 => by rw [btR j j0 j1]; exact hno _ (by omega) (by omega))
          have rg := crun_range s a0 a9 (n + 1)
          have cF : crun a F F.size = crun a s (n + 1) := by rw [szF]; exact crun_congr a (n + 1) btF
          have c1 : clRes a F = ((crun a s (n + 1)).1, colT a F F.size, true) := by unfold clRes; rw [if_pos ⟨⟨a0, a9⟩, vF, nF⟩, cF]
          have c2 : clRes (crun a s (n + 1)).1 R = ((crun (crun a s (n + 1)).1 R R.size).1, colT (crun a s (n + 1)).1 R R.size, true) := by unfold clRes; rw [if_pos ⟨rg, vR, nR⟩]
          have join := crun_join a s (n + 1) (by omega) hqf R.size (by omega)
          rw [← hR, show n + 1 + R.size = s.size from by omega] at join
          rw [← hF, ← hR]
          refine W.bind_eq (implCL a F (by omega)) ?_
          rw [c1]
          refine W.bind_eq (implCL _ R (by omega)) ?_
          rw [c2]
          have z1 := colT_size a F F.size
          have z2 := colT_size (crun a s (n + 1)).1 R R.size
          refine W.pos join.1.symm (W.pos (by show (colT a F F.size).size + (colT _ R R.size).size ≤ _; omega) (W.pos ?_ nx))
          rw [colT_cat a (crun a s (n + 1)).1 s F R F.size R.size s.size (by rw [join.2.2, cF])]
        have hq1 : (crun a s (n + 1)).2.1 = (if bt s n = 34 ∧ (cstep (crun a s n).1 (crun a s n).2.1 (bt s n)).2.2.toNat = 51 then !(crun a s n).2.1 else (crun a s n).2.1) := hf
        have j3 : ∀ x : Bool, x = decide (bt s n = 34 ∧ bt (colT a s s.size) n = 51) → W (fun k => laws_FnColourLine.j3 k a s (crun a s s.size).1 (colT a s s.size) q n x) (· = true) := by
          intro x hx
          refine W.step (fun k => laws_FnColourLine.j3.eq_2 ..) ?_
          rw [w64 (x := q + 1) (by omega) (by omega)]
          by_cases hcond : bt s n = 34 ∧ bt (colT a s s.size) n = 51
          · refine W.pos (by rw [hx]; simpa using hcond) (next (q + 1) (by omega) (by omega) ?_)
            rw [hb] at hcond
            rw [hq1, if_pos ⟨hcond.1, by omega⟩]
            cases hcase : (crun a s n).2.1 with
            | false =>
              rw [hcase] at hq
              have : ¬ q % 2 = 1 := fun h => by simpa using hq.1 h
              simp; omega
            | true =>
              have := hq.2 hcase
              simp; omega
          · refine W.neg (by rw [hx]; simpa using hcond) (next q q0 (by omega) ?_)
            rw [hb] at hcond
            rw [hq1, if_neg (fun h => hcond ⟨h.1, by omega⟩)]
            exact hq
        have j2 : W (fun k => laws_FnColourLine.j2 k a s (crun a s s.size).1 (colT a s s.size) q n false) (· = true) := by
          refine W.step (fun k => laws_FnColourLine.j2.eq_2 ..) (W.neg (by decide) (W.pos (by omega) (W.pos (by omega) (W.ite (fun h => W.pos (by omega) (j3 _ ?_)) (fun h => j3 _ ?_)))))
          · by_cases h2 : bt (colT a s s.size) n = 51 <;> simp [h, h2]
          · rw [Eq.comm, decide_eq_false_iff_not]; exact fun h' => h h'.1
        refine W.neg (by omega) ?_
        rw [decide_eq_false (show ¬ bt (colT a s s.size) n > 52 by omega)]
        exact j2
      · have e : n = s.size := by omega
        subst e
        have rg := crun_range s a0 a9 s.size
        refine W.neg (by omega) (W.pos rg.1 (W.ret ?_))
        simpa using rg.2) (0, 0) ⟨by dsimp only; omega, by dsimp only; omega, by dsimp only; omega, by dsimp only; simp [crun]⟩
    exact key
  · have hc : clRes a s = (-1, ⟨#[]⟩, false) := by unfold clRes; rw [if_neg hg]
    rw [hc]
    exact W.neg (by decide) (W.pos rfl (W.pos (by rw [toList_data]) alive_then))
end Go.Proofs.Ytheglgphknahdaa.Pure
