-- written by a program of this session (wip/xprint.py) out of the translation
import Derived.Test.YtdpnfdoplahfgaaDoorX0
import Derived.Test.YtdpnfdoplahfgaaDoorX2
import Derived.Test.YtdpnfdoplahfgaaDoorX6
import Derived.Test.YtdpnfdoplahfgaaDoorX7
import Derived.Test.YtdpnfdoplahfgaaDoorX11
import Derived.Test.YtdpnfdoplahfgaaDoorX14
namespace Go.Proofs.YtdpnfdoplahfgaaDoor.X
open Go.RowKit Go.Proofs.YtdpnfdoplahfgaaDoorW.PrintWords Go.Proofs.YtdpnfdoplahfgaaDoorW.PrintLast Go.Proofs.YtdpnfdoplahfgaaDoorW.PrintMore
attribute [local go_sem] max2_int min2_int max_two min_two max_three min_three max_four min_four   -- for this text's walks alone
set_option linter.unusedVariables false
set_option linter.unusedSimpArgs false

/-! ### laws_FnFoldOuter: function 9 -/
mutual
def laws_FnFoldOuter.j0 : Nat → ByteArray → Bool → Option (Bool)
  | 0, _, _ => none
  | k + 1, x3, x32 => if x32 = true then ((laws_alive.f k).bind fun t345 => (some t345)) else (laws_FnFoldOuter.l0 k x3 (([] : List Int)) 0)
def laws_FnFoldOuter.l0 : Nat → ByteArray → List Int → Int → Option (Bool)
  | 0, _, _, _ => none
  | k + 1, x3, x5, x6 => (impl_LineMany.f k x3).bind fun t349 => (if x6 < t349 then (if x5.length < 17592186044416 then (laws_FnFoldOuter.l0 k x3 (x5 ++ [x6]) (wrap64 (x6 + 1))) else (none)) else ((impl_VisibleLines.f k x3 x5).bind fun t353 => (laws_FnFoldOuter.l1 k x3 x5 t353 0 0)))
def laws_FnFoldOuter.l1 : Nat → ByteArray → List Int → List Int → Int → Int → Option (Bool)
  | 0, _, _, _, _, _ => none
  | k + 1, x3, x5, x7, x8, x9 => if x9 < (x5.length : Int) then ((impl_FoldAround.f k x3 x9).bind fun t356 => (if t356 = (-1) then (if x8 ≥ (x7.length : Int) then (some false) else (if 0 ≤ x8 then (if x8 < (x7.length : Int) then (if (rd x7 x8) = x9 then (laws_FnFoldOuter.l1 k x3 x5 x7 (wrap64 (x8 + 1)) (wrap64 (x9 + 1))) else (some false)) else (none)) else (none))) else (laws_FnFoldOuter.l1 k x3 x5 x7 x8 (wrap64 (x9 + 1))))) else (some (x8 == (x7.length : Int)))
end
def laws_FnFoldOuter.f (k : Nat) (l0 : List Int) : Option (Bool) := if (l0.length : Int) > 1048576 then (some true) else ((spec_DrawFoldAround.f k l0).bind fun bt339 => ((impl_FoldAround.f k bt339.1 bt339.2).bind fun t341 => ((spec_FoldAround.f k bt339.1 bt339.2).bind fun t342 => (if t341 = t342 then ((spec_TextValid.f k bt339.1).bind fun t343 => (if t343 = true then ((impl_LineMany.f k bt339.1).bind fun t344 => (laws_FnFoldOuter.j0 k bt339.1 (decide (t344 > 120)))) else (laws_FnFoldOuter.j0 k bt339.1 true))) else (some false)))))
theorem laws_FnFoldOuter.mono_l : ∀ k, (∀ y0 y1, LeO (laws_FnFoldOuter.j0 k y0 y1) (laws_FnFoldOuter.j0 (k + 1) y0 y1)) ∧ (∀ y0 y1 y2, LeO (laws_FnFoldOuter.l0 k y0 y1 y2) (laws_FnFoldOuter.l0 (k + 1) y0 y1 y2)) ∧ (∀ y0 y1 y2 y3 y4, LeO (laws_FnFoldOuter.l1 k y0 y1 y2 y3 y4) (laws_FnFoldOuter.l1 (k + 1) y0 y1 y2 y3 y4))
  | 0 => ⟨fun _ _ r h => by simp [laws_FnFoldOuter.j0] at h, fun _ _ _ r h => by simp [laws_FnFoldOuter.l0] at h, fun _ _ _ _ _ r h => by simp [laws_FnFoldOuter.l1] at h⟩
  | k + 1 => by
    obtain ⟨ih0, ih1, ih2⟩ := laws_FnFoldOuter.mono_l k
    refine ⟨?_, ?_, ?_⟩
    · intro y0 y1
      unfold laws_FnFoldOuter.j0
      repeat' first
      | (with_reducible exact ih0 _ _)
      | (with_reducible exact ih1 _ _ _)
      | (with_reducible exact ih2 _ _ _ _ _)
      | (with_reducible exact impl_FoldAround.mono _ _ _)
      | (with_reducible exact impl_LineMany.mono _ _)
      | (with_reducible exact impl_VisibleLines.mono _ _ _)
      | (with_reducible exact laws_alive.mono _)
      | (with_reducible exact spec_DrawFoldAround.mono _ _)
      | (with_reducible exact spec_FoldAround.mono _ _ _)
      | (with_reducible exact spec_TextValid.mono _ _)
      | (with_reducible exact LeO.refl _)
      | (with_reducible exact LeO.none _)
      | (with_reducible refine LeO.ite ?_ ?_)
      | (with_reducible refine LeO.bind ?_ (fun _ => ?_))
      | exact ih0 _ _
      | exact ih1 _ _ _
      | exact ih2 _ _ _ _ _
      | exact impl_FoldAround.mono _ _ _
      | exact impl_LineMany.mono _ _
      | exact impl_VisibleLines.mono _ _ _
      | exact laws_alive.mono _
      | exact spec_DrawFoldAround.mono _ _
      | exact spec_FoldAround.mono _ _ _
      | exact spec_TextValid.mono _ _
      | exact LeO.none _
      | refine LeO.ite ?_ ?_
      | refine LeO.bind ?_ (fun _ => ?_)
    · intro y0 y1 y2
      unfold laws_FnFoldOuter.l0
      repeat' first
      | (with_reducible exact ih0 _ _)
      | (with_reducible exact ih1 _ _ _)
      | (with_reducible exact ih2 _ _ _ _ _)
      | (with_reducible exact impl_FoldAround.mono _ _ _)
      | (with_reducible exact impl_LineMany.mono _ _)
      | (with_reducible exact impl_VisibleLines.mono _ _ _)
      | (with_reducible exact laws_alive.mono _)
      | (with_reducible exact spec_DrawFoldAround.mono _ _)
      | (with_reducible exact spec_FoldAround.mono _ _ _)
      | (with_reducible exact spec_TextValid.mono _ _)
      | (with_reducible exact LeO.refl _)
      | (with_reducible exact LeO.none _)
      | (with_reducible refine LeO.ite ?_ ?_)
      | (with_reducible refine LeO.bind ?_ (fun _ => ?_))
      | exact ih0 _ _
      | exact ih1 _ _ _
      | exact ih2 _ _ _ _ _
      | exact impl_FoldAround.mono _ _ _
      | exact impl_LineMany.mono _ _
      | exact impl_VisibleLines.mono _ _ _
      | exact laws_alive.mono _
      | exact spec_DrawFoldAround.mono _ _
      | exact spec_FoldAround.mono _ _ _
      | exact spec_TextValid.mono _ _
      | exact LeO.none _
      | refine LeO.ite ?_ ?_
      | refine LeO.bind ?_ (fun _ => ?_)
    · intro y0 y1 y2 y3 y4
      unfold laws_FnFoldOuter.l1
      repeat' first
      | (with_reducible exact ih0 _ _)
      | (with_reducible exact ih1 _ _ _)
      | (with_reducible exact ih2 _ _ _ _ _)
      | (with_reducible exact impl_FoldAround.mono _ _ _)
      | (with_reducible exact impl_LineMany.mono _ _)
      | (with_reducible exact impl_VisibleLines.mono _ _ _)
      | (with_reducible exact laws_alive.mono _)
      | (with_reducible exact spec_DrawFoldAround.mono _ _)
      | (with_reducible exact spec_FoldAround.mono _ _ _)
      | (with_reducible exact spec_TextValid.mono _ _)
      | (with_reducible exact LeO.refl _)
      | (with_reducible exact LeO.none _)
      | (with_reducible refine LeO.ite ?_ ?_)
      | (with_reducible refine LeO.bind ?_ (fun _ => ?_))
      | exact ih0 _ _
      | exact ih1 _ _ _
      | exact ih2 _ _ _ _ _
      | exact impl_FoldAround.mono _ _ _
      | exact impl_LineMany.mono _ _
      | exact impl_VisibleLines.mono _ _ _
      | exact laws_alive.mono _
      | exact spec_DrawFoldAround.mono _ _
      | exact spec_FoldAround.mono _ _ _
      | exact spec_TextValid.mono _ _
      | exact LeO.none _
      | refine LeO.ite ?_ ?_
      | refine LeO.bind ?_ (fun _ => ?_)
theorem laws_FnFoldOuter.mono : ∀ a0 k, LeO (laws_FnFoldOuter.f k a0) (laws_FnFoldOuter.f (k + 1) a0) := by
  intro a0 k
  obtain ⟨ih0, ih1, ih2⟩ := laws_FnFoldOuter.mono_l k
  unfold laws_FnFoldOuter.f
  repeat' first
      | (with_reducible exact ih0 _ _)
      | (with_reducible exact ih1 _ _ _)
      | (with_reducible exact ih2 _ _ _ _ _)
      | (with_reducible exact impl_FoldAround.mono _ _ _)
      | (with_reducible exact impl_LineMany.mono _ _)
      | (with_reducible exact impl_VisibleLines.mono _ _ _)
      | (with_reducible exact laws_alive.mono _)
      | (with_reducible exact spec_DrawFoldAround.mono _ _)
      | (with_reducible exact spec_FoldAround.mono _ _ _)
      | (with_reducible exact spec_TextValid.mono _ _)
      | (with_reducible exact LeO.refl _)
      | (with_reducible exact LeO.none _)
      | (with_reducible refine LeO.ite ?_ ?_)
      | (with_reducible refine LeO.bind ?_ (fun _ => ?_))
      | exact ih0 _ _
      | exact ih1 _ _ _
      | exact ih2 _ _ _ _ _
      | exact impl_FoldAround.mono _ _ _
      | exact impl_LineMany.mono _ _
      | exact impl_VisibleLines.mono _ _ _
      | exact laws_alive.mono _
      | exact spec_DrawFoldAround.mono _ _
      | exact spec_FoldAround.mono _ _ _
      | exact spec_TextValid.mono _ _
      | exact LeO.none _
      | refine LeO.ite ?_ ?_
      | refine LeO.bind ?_ (fun _ => ?_)
set_option maxHeartbeats 8000000 in
set_option maxRecDepth 100000 in
theorem laws_FnFoldOuter.calls (k : Nat) (A0 : Option Addr) (c0 : Nat) (l0 : List Int) (r : Bool) (w : World) (hr0 : Kd.C (Kd.int .u8) w A0 l0.length l0) (hc0 : l0.length ≤ c0) (h : laws_FnFoldOuter.f k l0 = some r) :
    Calls Tryd.prog 9 #[.slice A0 l0.length c0] w fun e w' => e = .returned (.bool r) ∧ Below w.heap.size w w' := by
  have HR0 := Aside0.mk hr0
  have HC0 := Aside0.mk hc0
  clear hr0 hc0
  have HB := Aside0.mk (Below.refl w.heap.size w)
  have H : (if (l0.length : Int) > 1048576 then (some true) else ((spec_DrawFoldAround.f k l0).bind fun bt339 => ((impl_FoldAround.f k bt339.1 bt339.2).bind fun t341 => ((spec_FoldAround.f k bt339.1 bt339.2).bind fun t342 => (if t341 = t342 then ((spec_TextValid.f k bt339.1).bind fun t343 => (if t343 = true then ((impl_LineMany.f k bt339.1).bind fun t344 => (laws_FnFoldOuter.j0 k bt339.1 (decide (t344 > 120)))) else (laws_FnFoldOuter.j0 k bt339.1 true))) else (some false)))))) = some r := h
  clear h
  by_cases c2 : (l0.length : Int) > 1048576
  · rw [if_pos c2] at H
    have c2b0 : decide (1048576 < (l0.length : Int)) = true := decide_eq_true c2
    have c2b1 : decide (1048576 < l0.length) = true := decide_eq_true (by omega)
    clear c2
    obtain rfl := Option.some.inj H
    go_enter Tryd.func9, Tryd.ntmps9
    go_wp2
    go_ret
    exact ⟨by first | rfl | (simp [errW_none, errW_some] <;> rfl) | (simp [*, errW_none, errW_some] <;> rfl), by repeat (first | (with_reducible first | exact HB.out | apply below_alloc | apply pw_below_drewN | apply below_drew1) | exact HB.out)⟩
  · rw [if_neg c2] at H
    have c2b0 : decide (1048576 < (l0.length : Int)) = false := decide_eq_false c2
    have c2b1 : decide (1048576 < l0.length) = false := decide_eq_false (by omega)
    clear c2
    replace H := Option.bind_eq_some_iff.mp H
    obtain ⟨⟨t339, t340⟩, A30, H⟩ := H
    replace H : ((impl_FoldAround.f k t339 t340).bind fun t341 => ((spec_FoldAround.f k t339 t340).bind fun t342 => (if t341 = t342 then ((spec_TextValid.f k t339).bind fun t343 => (if t343 = true then ((impl_LineMany.f k t339).bind fun t344 => (laws_FnFoldOuter.j0 k t339 (decide (t344 > 120)))) else (laws_FnFoldOuter.j0 k t339 true))) else (some false)))) = some r := H
    have A3 := Aside0.mk A30
    clear A30
    replace H := Option.bind_eq_some_iff.mp H
    obtain ⟨t341, A40, H⟩ := H
    replace H : ((spec_FoldAround.f k t339 t340).bind fun t342 => (if t341 = t342 then ((spec_TextValid.f k t339).bind fun t343 => (if t343 = true then ((impl_LineMany.f k t339).bind fun t344 => (laws_FnFoldOuter.j0 k t339 (decide (t344 > 120)))) else (laws_FnFoldOuter.j0 k t339 true))) else (some false))) = some r := H
    have A4 := Aside0.mk A40
    clear A40
    replace H := Option.bind_eq_some_iff.mp H
    obtain ⟨t342, A50, H⟩ := H
    replace H : (if t341 = t342 then ((spec_TextValid.f k t339).bind fun t343 => (if t343 = true then ((impl_LineMany.f k t339).bind fun t344 => (laws_FnFoldOuter.j0 k t339 (decide (t344 > 120)))) else (laws_FnFoldOuter.j0 k t339 true))) else (some false)) = some r := H
    have A5 := Aside0.mk A50
    clear A50
    by_cases c6 : t341 = t342
    · rw [if_pos c6] at H
      have c6b0 : (t341 == t342) = true := beq_iff_eq.mpr c6
      have c6b1 : (t341 != t342) = false := bne_eq_false_iff_eq.mpr c6
      clear c6
      have HC7 := Aside0.mk H
      clear H
      go_enter Tryd.func9, Tryd.ntmps9
      go_upto_region 6 with (first | ((with_reducible refine gate_callee (f := 30) rfl ?_); refine goesL_ (some 15) rfl rfl Tryd.func30 (by kernel_rfl) rfl #[.slice A0 l0.length c0] rfl (by (try simp only [List.map_toArray, List.map_cons, List.map_nil]); first | done | rfl | (simp only [List.length_drop, List.length_take]; rfl)) ?_; (with_reducible refine (spec_DrawFoldAround.calls k _ _ l0 t339 t340 _ ?side1 ?side2 A3.out).mono ?_); (case side1 => repeat (first | exact HR0.out | (with_reducible refine Kd.C_alloc ?_ _) | (with_reducible refine Kd.C_drewN ?_ _) | (with_reducible refine Kd.C_drew ?_))); (case side2 => exact HC0.out); rintro e w8 ⟨rfl, hb⟩; refine ⟨_, rfl, ?_⟩; have n0_ := Aside0.mk (below_step (by repeat (first | (with_reducible first | exact HB.out | apply below_alloc | apply pw_below_drewN | apply below_drew1) | exact HB.out)) hb); clear HB; have HB := n0_; clear n0_; (try clear hb); (try clear hb2); (try clear hk); (try clear hi)) | ((with_reducible refine gate_callee (f := 17) rfl ?_); refine goesL_ (some 20) rfl rfl Tryd.func17 (by kernel_rfl) rfl #[.string t339, .int .i64 t340] rfl (by (try simp only [List.map_toArray, List.map_cons, List.map_nil]); first | done | rfl | (simp only [List.length_drop, List.length_take]; rfl)) ?_; (with_reducible refine (impl_FoldAround.calls k t339 t340 t341 _ A4.out).mono ?_); rintro e w9 ⟨rfl, hb⟩; refine ⟨_, rfl, ?_⟩; have n0_ := Aside0.mk (below_step (by repeat (first | (with_reducible first | exact HB.out | apply below_alloc | apply pw_below_drewN | apply below_drew1) | exact HB.out)) hb); clear HB; have HB := n0_; clear n0_; (try clear hb); (try clear hb2); (try clear hk); (try clear hi)) | ((with_reducible refine gate_callee (f := 16) rfl ?_); refine goesL_ (some 23) rfl rfl Tryd.func16 (by kernel_rfl) rfl #[.string t339, .int .i64 t340] rfl (by (try simp only [List.map_toArray, List.map_cons, List.map_nil]); first | done | rfl | (simp only [List.length_drop, List.length_take]; rfl)) ?_; (with_reducible refine (spec_FoldAround.calls k t339 t340 t342 _ A5.out).mono ?_); rintro e w' ⟨rfl, ⟨nd, rfl⟩⟩; refine ⟨_, rfl, ?_⟩))
      (try simp only [Act.put, List.setIfInBounds_toArray, List.set_cons_zero, List.set_cons_succ])
      go_cut [32] (fun v32 wc => ∃ (kq : Nat) (x32_6 : Bool), v32 = .bool x32_6 ∧ Aside0 (laws_FnFoldOuter.j0 kq t339 x32_6 = some r) ∧ Aside0 (kq ≤ k) ∧ Aside0 (Below w.heap.size w wc))
      case first =>
        have H := HC7.out
        clear HC7
        replace H := Option.bind_eq_some_iff.mp H
        obtain ⟨t343, A100, H⟩ := H
        replace H : (if t343 = true then ((impl_LineMany.f k t339).bind fun t344 => (laws_FnFoldOuter.j0 k t339 (decide (t344 > 120)))) else (laws_FnFoldOuter.j0 k t339 true)) = some r := H
        have A10 := Aside0.mk A100
        clear A100
        by_cases c11 : t343 = true
        · subst c11
          have H1 : ((impl_LineMany.f k t339).bind fun t344 => (laws_FnFoldOuter.j0 k t339 (decide (t344 > 120)))) = some r := by rw [if_pos rfl] at H; exact H
          clear H
          have H := H1
          clear H1
          replace H := Option.bind_eq_some_iff.mp H
          obtain ⟨t344, A120, H⟩ := H
          replace H : (laws_FnFoldOuter.j0 k t339 (decide (t344 > 120))) = some r := H
          have A12 := Aside0.mk A120
          clear A120
          have H' := Aside0.mk H
          clear H
          go_wp2_with (first | ((with_reducible refine gate_callee (f := 31) rfl ?_); refine goesL_ (some 26) rfl rfl Tryd.func31 (by kernel_rfl) rfl #[.string t339] rfl (by (try simp only [List.map_toArray, List.map_cons, List.map_nil]); first | done | rfl | (simp only [List.length_drop, List.length_take]; rfl)) ?_; (with_reducible refine (spec_TextValid.calls k t339 true _ A10.out).mono ?_); rintro e w' ⟨rfl, ⟨nd, rfl⟩⟩; refine ⟨_, rfl, ?_⟩) | (go_at_call 29; (with_reducible refine (impl_LineMany.calls k t339 t344 _ A12.out).mono ?_); rintro e w' ⟨rfl, ⟨nd, rfl⟩⟩))
          go_meet
          case rel => exact ⟨_, (decide (t344 > 120)), (by first | rfl | (simp; done) | (simp [*]; done)), H', ⟨by first | omega | exact Nat.le_refl _⟩, ⟨by repeat (first | (with_reducible first | exact HB.out | apply below_alloc | apply pw_below_drewN | apply below_drew1) | exact HB.out)⟩⟩
        · replace c11 := Bool.eq_false_iff.mpr c11
          subst c11
          have H1 : (laws_FnFoldOuter.j0 k t339 true) = some r := by rw [if_neg (show ¬ (false = true) by decide)] at H; exact H
          clear H
          have H := H1
          clear H1
          have H' := Aside0.mk H
          clear H
          go_wp2_with (first | ((with_reducible refine gate_callee (f := 31) rfl ?_); refine goesL_ (some 26) rfl rfl Tryd.func31 (by kernel_rfl) rfl #[.string t339] rfl (by (try simp only [List.map_toArray, List.map_cons, List.map_nil]); first | done | rfl | (simp only [List.length_drop, List.length_take]; rfl)) ?_; (with_reducible refine (spec_TextValid.calls k t339 false _ A10.out).mono ?_); rintro e w' ⟨rfl, ⟨nd, rfl⟩⟩; refine ⟨_, rfl, ?_⟩))
          go_meet
          case rel => exact ⟨_, (true), (by first | rfl | (simp; done) | (simp [*]; done)), H', ⟨by first | omega | exact Nat.le_refl _⟩, ⟨by repeat (first | (with_reducible first | exact HB.out | apply below_alloc | apply pw_below_drewN | apply below_drew1) | exact HB.out)⟩⟩
      case rest =>
        clear HC7
        try clear c1
        try clear c2
        try clear c2b0
        try clear c2b1
        try clear p2
        try clear c3
        try clear c6
        try clear c6b0
        try clear c6b1
        try clear c9
        try clear c11
        obtain ⟨kq, x32_6, rfl, HA, HJ6, HB⟩ := hcut
        cases kq with
        | zero => exact absurd HA.out (by simp [laws_FnFoldOuter.j0])
        | succ kj6 =>
          have H := HA.out
          clear HA
          simp only [laws_FnFoldOuter.j0] at H
          by_cases c13 : x32_6 = true
          · subst c13
            have H1 : ((laws_alive.f kj6).bind fun t345 => (some t345)) = some r := by rw [if_pos rfl] at H; exact H
            clear H
            have H := H1
            clear H1
            replace H := Option.bind_eq_some_iff.mp H
            obtain ⟨t345, A140, H⟩ := H
            replace H : (some t345) = some r := H
            have A14 := Aside0.mk A140
            clear A140
            obtain rfl := Option.some.inj H
            go_wp2_with (first | ((with_reducible refine gate_callee (f := 20) rfl ?_); refine goesL_ (some 33) rfl rfl Tryd.func20 (by kernel_rfl) rfl #[] rfl (by (try simp only [List.map_toArray, List.map_cons, List.map_nil]); first | done | rfl | (simp only [List.length_drop, List.length_take]; rfl)) ?_; (with_reducible refine (laws_alive.calls kj6  t345 _ A14.out).mono ?_); rintro e w' ⟨rfl, ⟨nd, rfl⟩⟩; refine ⟨_, rfl, ?_⟩))
            go_ret
            exact ⟨by first | rfl | (simp [errW_none, errW_some] <;> rfl) | (simp [*, errW_none, errW_some] <;> rfl), by repeat (first | (with_reducible first | exact HB.out | apply below_alloc | apply pw_below_drewN | apply below_drew1) | exact HB.out)⟩
          · replace c13 := Bool.eq_false_iff.mpr c13
            subst c13
            have H1 : (laws_FnFoldOuter.l0 kj6 t339 (([] : List Int)) 0) = some r := by rw [if_neg (show ¬ (false = true) by decide)] at H; exact H
            clear H
            have H := H1
            clear H1
            obtain ⟨y346, hy346⟩ : ∃ y_ : List Int, y_ = (([] : List Int)) := ⟨_, rfl⟩
            replace H : (laws_FnFoldOuter.l0 kj6 t339 y346 0) = some r := by first | (rw [hy346]; with_reducible exact H) | (have H2_ := (Option.bind_some _ _).symm.trans H; rw [hy346]; with_reducible exact H2_) | (have H2_ := (Option.bind_some _ _).symm.trans H; with_reducible exact H2_) | with_reducible exact H | (rw [hy346]; exact H) | exact H
            have Ny346 := Aside0.mk hy346
            clear hy346
            have H' := Aside0.mk H
            clear H
            go_wp2_with (first | ((with_reducible refine gate_dst (N := 34) rfl ?_); refine Kd.R_lit (Kd.int .i64) _ 3 ?hg (N := 34) ?hd (xs := ([] : List Int)) (inner := []) (ok := fun _ => True) (okp := fun _ => True) ?hr ?hp (fun _ hk => hk) trivial (Below.refl _ _) (Nat.le_refl _) (by simp) ?_; (case hd => rfl); (case hg => rfl); (case hr => first | (go_simp; done) | (go_simp; rfl)); (case hp => exact (Reps.none _ _)); intro v347 w15 ho16 hb hg_ hnew_; clear hg_ hnew_; (first | rw [← Ny346.out] at ho16 | (simp only [Int.reduceToNat] at ho16; rw [← Ny346.out] at ho16)); have n0_ := Aside0.mk (Kd.R_lower ho16 (below_size (by repeat (first | (with_reducible first | exact HB.out | apply below_alloc | apply pw_below_drewN | apply below_drew1) | exact HB.out)))); have n1_ := Aside0.mk (below_step (by repeat (first | (with_reducible first | exact HB.out | apply below_alloc | apply pw_below_drewN | apply below_drew1) | exact HB.out)) hb); clear HB; have HO348 := n0_; have HB := n1_; clear n0_ n1_; clear hb ho16))
            go_loopg [5, 6] kj6 (fun kq v5 v6 w' => ∃ (x5_2 : List Int) (x6_2 : Int), v6 = .int .i64 x6_2 ∧ Aside0 (laws_FnFoldOuter.l0 kq t339 x5_2 x6_2 = some r) ∧ Aside0 (kq ≤ kj6) ∧ Aside0 (Kd.R (Kd.int .i64) 3 w' w.heap.size (fun _ => True) v5 x5_2) ∧ Aside0 (Below w.heap.size w w'))
            case atStart => exact ⟨(y346), (0), (by first | rfl | (simp; done) | (simp [*]; done)), H', ⟨Nat.le_refl _⟩, ⟨by (with_reducible repeat (first | apply Kd.R_alloc | apply Kd.R_drewN | apply Kd.R_drew)); exact HO348.out⟩, ⟨by repeat (first | (with_reducible first | exact HB.out | apply below_alloc | apply pw_below_drewN | apply below_drew1) | exact HB.out)⟩⟩
            case round =>
              clear H'
              try clear c1
              try clear c2
              try clear c2b0
              try clear c2b1
              try clear p2
              try clear c3
              try clear c6
              try clear c6b0
              try clear c6b1
              try clear c9
              try clear c11
              try clear c13
              try clear c16
              try clear p2
              obtain ⟨x5_2, x6_2, rfl, HA, HK2, HO_5, HB⟩ := hrel
              cases gk with
              | zero => exact absurd HA.out (by simp [laws_FnFoldOuter.l0])
              | succ k2 =>
                have H := HA.out
                clear HA
                simp only [laws_FnFoldOuter.l0] at H
                replace H := Option.bind_eq_some_iff.mp H
                obtain ⟨t349, A170, H⟩ := H
                replace H : (if x6_2 < t349 then (if x5_2.length < 17592186044416 then (laws_FnFoldOuter.l0 k2 t339 (x5_2 ++ [x6_2]) (wrap64 (x6_2 + 1))) else (none)) else ((impl_VisibleLines.f k2 t339 x5_2).bind fun t353 => (laws_FnFoldOuter.l1 k2 t339 x5_2 t353 0 0))) = some r := H
                have A17 := Aside0.mk A170
                clear A170
                by_cases c18 : x6_2 < t349
                · rw [if_pos c18] at H
                  have c18b0 : decide (x6_2 < t349) = true := decide_eq_true c18
                  clear c18
                  by_cases c19 : x5_2.length < 17592186044416
                  · rw [if_pos c19] at H
                    have LMc19 := Aside0.mk c19
                    clear c19
                    obtain ⟨y350, hy350⟩ : ∃ y_ : List Int, y_ = (x5_2 ++ [x6_2]) := ⟨_, rfl⟩
                    replace H : (laws_FnFoldOuter.l0 k2 t339 y350 (wrap64 (x6_2 + 1))) = some r := by first | (rw [hy350]; with_reducible exact H) | (have H2_ := (Option.bind_some _ _).symm.trans H; rw [hy350]; with_reducible exact H2_) | (have H2_ := (Option.bind_some _ _).symm.trans H; with_reducible exact H2_) | with_reducible exact H | (rw [hy350]; exact H) | exact H
                    have Ny350 := Aside0.mk hy350
                    clear hy350
                    have H' := Aside0.mk H
                    clear H
                    go_wp2_with (first | ((with_reducible refine gate_callee (f := 29) rfl ?_); refine goesL_ (some 37) rfl rfl Tryd.func29 (by kernel_rfl) rfl #[.string t339] rfl (by (try simp only [List.map_toArray, List.map_cons, List.map_nil]); first | done | rfl | (simp only [List.length_drop, List.length_take]; rfl)) ?_; (with_reducible refine (impl_LineMany.calls k2 t339 t349 _ A17.out).mono ?_); rintro e w' ⟨rfl, ⟨nd, rfl⟩⟩; refine ⟨_, rfl, ?_⟩) | ((with_reducible refine gate_builtin (b := .append) (xs := #[.tmp 41, .tmp 43]) rfl ?_); at_builtin; refine Kd.R_append (Kd.int .i64) (w0 := w) w.heap.size rfl (.tmp 41) (.tmp 43) 29 3 (.int .i64 0) 8 rfl Tryd.underlying29 info3 rfl (by decide) (by omega) u5 x5_2 x6_2 [.int .i64 x6_2] (fun _ => True) (fun _ => False) rfl rfl ?aP (fun _ hk => hk.elim) ?aF ?aO ?aB ?aS ?aL ?_; (case aP => exact rfl); (case aB => exact (by repeat (first | (with_reducible first | exact HB.out | apply below_alloc | apply pw_below_drewN | apply below_drew1) | exact HB.out))); (case aF => exact (fun _ _ => trivial)); (case aO => exact (by (with_reducible repeat (first | apply Kd.R_alloc | apply Kd.R_drewN | apply Kd.R_drew)); exact HO_5.out)); (case aS => exact (below_size (by repeat (first | (with_reducible first | exact HB.out | apply below_alloc | apply pw_below_drewN | apply below_drew1) | exact HB.out)))); (case aL => have := LMc19.out; omega); intro v351 w20 ho hb hg hat; rw [← Ny350.out] at ho; have n0_ := Aside0.mk (hb); have n1_ := Aside0.mk (ho); clear HB; clear HO_5; have HB := n0_; have HO352 := n1_; clear n0_ n1_; clear ho hb hg hat))
                    go_roundg k2
                    case measure => have := HJ6.out; have := HK2.out; omega
                    case rel => exact ⟨(y350), (wrap64 (x6_2 + 1)), (by first | rfl | (simp; done) | (simp [*]; done)), H', ⟨by have := HJ6.out; have := HK2.out; omega⟩, ⟨by (with_reducible repeat (first | apply Kd.R_alloc | apply Kd.R_drewN | apply Kd.R_drew)); exact HO352.out⟩, ⟨by repeat (first | (with_reducible first | exact HB.out | apply below_alloc | apply pw_below_drewN | apply below_drew1) | exact HB.out)⟩⟩
                  · rw [if_neg c19] at H
                    exact absurd H (by simp)
                · rw [if_neg c18] at H
                  have c18b0 : decide (x6_2 < t349) = false := decide_eq_false c18
                  clear c18
                  replace H := Option.bind_eq_some_iff.mp H
                  obtain ⟨t353, A210, H⟩ := H
                  replace H : (laws_FnFoldOuter.l1 k2 t339 x5_2 t353 0 0) = some r := H
                  have A21 := Aside0.mk A210
                  clear A210
                  have H' := Aside0.mk H
                  clear H
                  go_wp2_with (first | ((with_reducible refine gate_callee (f := 29) rfl ?_); refine goesL_ (some 37) rfl rfl Tryd.func29 (by kernel_rfl) rfl #[.string t339] rfl (by (try simp only [List.map_toArray, List.map_cons, List.map_nil]); first | done | rfl | (simp only [List.length_drop, List.length_take]; rfl)) ?_; (with_reducible refine (impl_LineMany.calls k2 t339 t349 _ A17.out).mono ?_); rintro e w' ⟨rfl, ⟨nd, rfl⟩⟩; refine ⟨_, rfl, ?_⟩; obtain ⟨Ao22, co22, eo22⟩ := Kd.R_slice HO_5.out; subst eo22) | ((with_reducible refine gate_callee (f := 24) rfl ?_); refine goesL_ (some 47) rfl rfl Tryd.func24 (by kernel_rfl) rfl #[.string t339, .slice Ao22 x5_2.length co22] rfl (by (try simp only [List.map_toArray, List.map_cons, List.map_nil]); first | done | rfl | (simp only [List.length_drop, List.length_take]; rfl)) ?_; (with_reducible refine (impl_VisibleLines.calls k2 t339 _ _ x5_2 t353 _ ?side1 ?side2 A21.out).mono ?_); (case side1 => repeat (first | exact (Kd.R_reads' HO_5.out).2.2 | (with_reducible refine Kd.C_alloc ?_ _) | (with_reducible refine Kd.C_drewN ?_ _) | (with_reducible refine Kd.C_drew ?_))); (case side2 => exact (Kd.R_reads' HO_5.out).2.1); rintro e w23 ⟨v354, rfl, ho0, hb⟩; refine ⟨_, rfl, ?_⟩; have n0_ := Aside0.mk (Kd.R_elder' (by (with_reducible repeat (first | apply Kd.R_alloc | apply Kd.R_drewN | apply Kd.R_drew)); exact HO_5.out) (Kd.R_base ho0) hb); have n1_ := Aside0.mk (Kd.R_lower (Kd.R_new' ho0 (Kd.R_lt (by (with_reducible repeat (first | apply Kd.R_alloc | apply Kd.R_drewN | apply Kd.R_drew)); exact HO_5.out))) (below_size (by repeat (first | (with_reducible first | exact HB.out | apply below_alloc | apply pw_below_drewN | apply below_drew1) | exact HB.out)))); have n2_ := Aside0.mk (below_step (by repeat (first | (with_reducible first | exact HB.out | apply below_alloc | apply pw_below_drewN | apply below_drew1) | exact HB.out)) hb); clear HO_5; clear HB; have HO_5 := n0_; have HO355 := n1_; have HB := n2_; clear n0_ n1_ n2_; (try clear hb); (try clear hb2); (try clear hk); (try clear hi); (try clear ho0)))
                  go_loopg [8, 9] k2 (fun kq v8 v9 w' => ∃ (x8_3 : Int) (x9_3 : Int), v8 = .int .i64 x8_3 ∧ v9 = .int .i64 x9_3 ∧ Aside0 (laws_FnFoldOuter.l1 kq t339 x5_2 t353 x8_3 x9_3 = some r) ∧ Aside0 (kq ≤ k2) ∧ Aside0 (Kd.R (Kd.int .i64) 3 w' w.heap.size (fun k_ => some k_ ≠ (v354 : Value).ownBlock) (.slice Ao22 x5_2.length co22) x5_2) ∧ Aside0 (Kd.R (Kd.int .i64) 3 w' w.heap.size (fun k_ => some k_ ≠ ((.slice Ao22 x5_2.length co22) : Value).ownBlock) v354 t353) ∧ Aside0 (Below w.heap.size w w'))
                  case atStart => exact ⟨(0), (0), (by first | rfl | (simp; done) | (simp [*]; done)), (by first | rfl | (simp; done) | (simp [*]; done)), H', ⟨Nat.le_refl _⟩, ⟨by (with_reducible repeat (first | apply Kd.R_alloc | apply Kd.R_drewN | apply Kd.R_drew)); exact Kd.R_mono HO_5.out (fun _ hk => hk.2)⟩, ⟨by (with_reducible repeat (first | apply Kd.R_alloc | apply Kd.R_drewN | apply Kd.R_drew)); exact Kd.R_mono HO355.out (fun _ hk => hk.2)⟩, ⟨by repeat (first | (with_reducible first | exact HB.out | apply below_alloc | apply pw_below_drewN | apply below_drew1) | exact HB.out)⟩⟩
                  case round =>
                    clear H'
                    try clear c1
                    try clear c2
                    try clear c2b0
                    try clear c2b1
                    try clear p2
                    try clear c3
                    try clear c6
                    try clear c6b0
                    try clear c6b1
                    try clear p6
                    try clear c9
                    try clear c11
                    try clear c13
                    try clear c16
                    try clear c17
                    try clear c18
                    try clear c18b0
                    try clear c19
                    try clear c20
                    try clear p2
                    obtain ⟨x8_3, x9_3, rfl, rfl, HA, HK3, HO_5, HO_7, HB⟩ := hrel
                    cases gk with
                    | zero => exact absurd HA.out (by simp [laws_FnFoldOuter.l1])
                    | succ k3 =>
                      have H := HA.out
                      clear HA
                      simp only [laws_FnFoldOuter.l1] at H
                      by_cases c24 : x9_3 < (x5_2.length : Int)
                      · rw [if_pos c24] at H
                        have c24b0 : decide (x9_3 < (x5_2.length : Int)) = true := decide_eq_true c24
                        clear c24
                        replace H := Option.bind_eq_some_iff.mp H
                        obtain ⟨t356, A250, H⟩ := H
                        replace H : (if t356 = (-1) then (if x8_3 ≥ (t353.length : Int) then (some false) else (if 0 ≤ x8_3 then (if x8_3 < (t353.length : Int) then (if (rd t353 x8_3) = x9_3 then (laws_FnFoldOuter.l1 k3 t339 x5_2 t353 (wrap64 (x8_3 + 1)) (wrap64 (x9_3 + 1))) else (some false)) else (none)) else (none))) else (laws_FnFoldOuter.l1 k3 t339 x5_2 t353 x8_3 (wrap64 (x9_3 + 1)))) = some r := H
                        have A25 := Aside0.mk A250
                        clear A250
                        by_cases c26 : t356 = (-1)
                        · rw [if_pos c26] at H
                          have c26b0 : (t356 == (-1)) = true := beq_iff_eq.mpr c26
                          have c26b1 : (t356 != (-1)) = false := bne_eq_false_iff_eq.mpr c26
                          clear c26
                          by_cases c27 : x8_3 ≥ (t353.length : Int)
                          · rw [if_pos c27] at H
                            have c27b0 : decide ((t353.length : Int) ≤ x8_3) = true := decide_eq_true c27
                            clear c27
                            obtain rfl := Option.some.inj H
                            go_wp2_with (first | ((with_reducible refine gate_callee (f := 17) rfl ?_); refine goesL_ (some 56) rfl rfl Tryd.func17 (by kernel_rfl) rfl #[.string t339, .int .i64 x9_3] rfl (by (try simp only [List.map_toArray, List.map_cons, List.map_nil]); first | done | rfl | (simp only [List.length_drop, List.length_take]; rfl)) ?_; (with_reducible refine (impl_FoldAround.calls k3 t339 x9_3 t356 _ A25.out).mono ?_); rintro e w28 ⟨rfl, hb⟩; refine ⟨_, rfl, ?_⟩; have n0_ := Aside0.mk (Kd.R_below (by (with_reducible repeat (first | apply Kd.R_alloc | apply Kd.R_drewN | apply Kd.R_drew)); exact HO_5.out) hb); have n1_ := Aside0.mk (Kd.R_below (by (with_reducible repeat (first | apply Kd.R_alloc | apply Kd.R_drewN | apply Kd.R_drew)); exact HO_7.out) hb); have n2_ := Aside0.mk (below_step (by repeat (first | (with_reducible first | exact HB.out | apply below_alloc | apply pw_below_drewN | apply below_drew1) | exact HB.out)) hb); clear HO_5; clear HO_7; clear HB; have HO_5 := n0_; have HO_7 := n1_; have HB := n2_; clear n0_ n1_ n2_; (try clear hb); (try clear hb2); (try clear hk); (try clear hi); obtain ⟨Ao29, co29, eo29⟩ := Kd.R_slice HO_7.out; subst eo29))
                            go_ret
                            exact ⟨by first | rfl | (simp [errW_none, errW_some] <;> rfl) | (simp [*, errW_none, errW_some] <;> rfl), by repeat (first | (with_reducible first | exact HB.out | apply below_alloc | apply pw_below_drewN | apply below_drew1) | exact HB.out)⟩
                          · rw [if_neg c27] at H
                            have c27b0 : decide ((t353.length : Int) ≤ x8_3) = false := decide_eq_false c27
                            clear c27
                            by_cases c30 : 0 ≤ x8_3
                            · rw [if_pos c30] at H
                              have c30b0 : decide (0 ≤ x8_3) = true := decide_eq_true c30
                              clear c30
                              by_cases c31 : x8_3 < (t353.length : Int)
                              · rw [if_pos c31] at H
                                have c31b0 : decide (x8_3 < (t353.length : Int)) = true := decide_eq_true c31
                                clear c31
                                by_cases c32 : (rd t353 x8_3) = x9_3
                                · rw [if_pos c32] at H
                                  have c32b0 : ((rd t353 x8_3) == x9_3) = true := beq_iff_eq.mpr c32
                                  have c32b1 : ((rd t353 x8_3) != x9_3) = false := bne_eq_false_iff_eq.mpr c32
                                  clear c32
                                  have H' := Aside0.mk H
                                  clear H
                                  go_wp2_with (first | ((with_reducible refine gate_callee (f := 17) rfl ?_); refine goesL_ (some 56) rfl rfl Tryd.func17 (by kernel_rfl) rfl #[.string t339, .int .i64 x9_3] rfl (by (try simp only [List.map_toArray, List.map_cons, List.map_nil]); first | done | rfl | (simp only [List.length_drop, List.length_take]; rfl)) ?_; (with_reducible refine (impl_FoldAround.calls k3 t339 x9_3 t356 _ A25.out).mono ?_); rintro e w33 ⟨rfl, hb⟩; refine ⟨_, rfl, ?_⟩; have n0_ := Aside0.mk (Kd.R_below (by (with_reducible repeat (first | apply Kd.R_alloc | apply Kd.R_drewN | apply Kd.R_drew)); exact HO_5.out) hb); have n1_ := Aside0.mk (Kd.R_below (by (with_reducible repeat (first | apply Kd.R_alloc | apply Kd.R_drewN | apply Kd.R_drew)); exact HO_7.out) hb); have n2_ := Aside0.mk (below_step (by repeat (first | (with_reducible first | exact HB.out | apply below_alloc | apply pw_below_drewN | apply below_drew1) | exact HB.out)) hb); clear HO_5; clear HO_7; clear HB; have HO_5 := n0_; have HO_7 := n1_; have HB := n2_; clear n0_ n1_ n2_; (try clear hb); (try clear hb2); (try clear hk); (try clear hi); obtain ⟨Ao34, co34, eo34⟩ := Kd.R_slice HO_7.out; subst eo34; have p357 : 0 ≤ (x8_3 : Int) := of_decide_eq_true (by first | (with_reducible assumption) | assumption); have q357 : x8_3 < (t353.length : Int) := of_decide_eq_true (by first | (with_reducible assumption) | assumption); obtain ⟨ad357, e357, hx357_0⟩ := Kd.at_int (Kd.R_reads' HO_7.out).2.2 x8_3 p357 q357; cases e357; replace p357 := eq_true p357; replace q357 := eq_true q357))
                                  go_roundg k3
                                  case measure => have := HJ6.out; have := HK2.out; have := HK3.out; omega
                                  case rel => exact ⟨(wrap64 (x8_3 + 1)), (wrap64 (x9_3 + 1)), (by first | rfl | (simp; done) | (simp [*]; done)), (by first | rfl | (simp; done) | (simp [*]; done)), H', ⟨by have := HJ6.out; have := HK2.out; have := HK3.out; omega⟩, ⟨by (with_reducible repeat (first | apply Kd.R_alloc | apply Kd.R_drewN | apply Kd.R_drew)); exact HO_5.out⟩, ⟨by (with_reducible repeat (first | apply Kd.R_alloc | apply Kd.R_drewN | apply Kd.R_drew)); exact HO_7.out⟩, ⟨by repeat (first | (with_reducible first | exact HB.out | apply below_alloc | apply pw_below_drewN | apply below_drew1) | exact HB.out)⟩⟩
                                · rw [if_neg c32] at H
                                  have c32b0 : ((rd t353 x8_3) == x9_3) = false := beq_eq_false_iff_ne.mpr c32
                                  have c32b1 : ((rd t353 x8_3) != x9_3) = true := bne_iff_ne.mpr c32
                                  obtain rfl := Option.some.inj H
                                  go_wp2_with (first | ((with_reducible refine gate_callee (f := 17) rfl ?_); refine goesL_ (some 56) rfl rfl Tryd.func17 (by kernel_rfl) rfl #[.string t339, .int .i64 x9_3] rfl (by (try simp only [List.map_toArray, List.map_cons, List.map_nil]); first | done | rfl | (simp only [List.length_drop, List.length_take]; rfl)) ?_; (with_reducible refine (impl_FoldAround.calls k3 t339 x9_3 t356 _ A25.out).mono ?_); rintro e w35 ⟨rfl, hb⟩; refine ⟨_, rfl, ?_⟩; have n0_ := Aside0.mk (Kd.R_below (by (with_reducible repeat (first | apply Kd.R_alloc | apply Kd.R_drewN | apply Kd.R_drew)); exact HO_5.out) hb); have n1_ := Aside0.mk (Kd.R_below (by (with_reducible repeat (first | apply Kd.R_alloc | apply Kd.R_drewN | apply Kd.R_drew)); exact HO_7.out) hb); have n2_ := Aside0.mk (below_step (by repeat (first | (with_reducible first | exact HB.out | apply below_alloc | apply pw_below_drewN | apply below_drew1) | exact HB.out)) hb); clear HO_5; clear HO_7; clear HB; have HO_5 := n0_; have HO_7 := n1_; have HB := n2_; clear n0_ n1_ n2_; (try clear hb); (try clear hb2); (try clear hk); (try clear hi); obtain ⟨Ao36, co36, eo36⟩ := Kd.R_slice HO_7.out; subst eo36; have p357 : 0 ≤ (x8_3 : Int) := of_decide_eq_true (by first | (with_reducible assumption) | assumption); have q357 : x8_3 < (t353.length : Int) := of_decide_eq_true (by first | (with_reducible assumption) | assumption); obtain ⟨ad357, e357, hx357_0⟩ := Kd.at_int (Kd.R_reads' HO_7.out).2.2 x8_3 p357 q357; cases e357; replace p357 := eq_true p357; replace q357 := eq_true q357))
                                  go_ret
                                  exact ⟨by first | rfl | (simp [errW_none, errW_some] <;> rfl) | (simp [*, errW_none, errW_some] <;> rfl), by repeat (first | (with_reducible first | exact HB.out | apply below_alloc | apply pw_below_drewN | apply below_drew1) | exact HB.out)⟩
                              · rw [if_neg c31] at H
                                exact absurd H (by simp)
                            · rw [if_neg c30] at H
                              exact absurd H (by simp)
                        · rw [if_neg c26] at H
                          have c26b0 : (t356 == (-1)) = false := beq_eq_false_iff_ne.mpr c26
                          have c26b1 : (t356 != (-1)) = true := bne_iff_ne.mpr c26
                          have H' := Aside0.mk H
                          clear H
                          go_wp2_with (first | ((with_reducible refine gate_callee (f := 17) rfl ?_); refine goesL_ (some 56) rfl rfl Tryd.func17 (by kernel_rfl) rfl #[.string t339, .int .i64 x9_3] rfl (by (try simp only [List.map_toArray, List.map_cons, List.map_nil]); first | done | rfl | (simp only [List.length_drop, List.length_take]; rfl)) ?_; (with_reducible refine (impl_FoldAround.calls k3 t339 x9_3 t356 _ A25.out).mono ?_); rintro e w37 ⟨rfl, hb⟩; refine ⟨_, rfl, ?_⟩; have n0_ := Aside0.mk (Kd.R_below (by (with_reducible repeat (first | apply Kd.R_alloc | apply Kd.R_drewN | apply Kd.R_drew)); exact HO_5.out) hb); have n1_ := Aside0.mk (Kd.R_below (by (with_reducible repeat (first | apply Kd.R_alloc | apply Kd.R_drewN | apply Kd.R_drew)); exact HO_7.out) hb); have n2_ := Aside0.mk (below_step (by repeat (first | (with_reducible first | exact HB.out | apply below_alloc | apply pw_below_drewN | apply below_drew1) | exact HB.out)) hb); clear HO_5; clear HO_7; clear HB; have HO_5 := n0_; have HO_7 := n1_; have HB := n2_; clear n0_ n1_ n2_; (try clear hb); (try clear hb2); (try clear hk); (try clear hi)))
                          go_roundg k3
                          case measure => have := HJ6.out; have := HK2.out; have := HK3.out; omega
                          case rel => exact ⟨(x8_3), (wrap64 (x9_3 + 1)), (by first | rfl | (simp; done) | (simp [*]; done)), (by first | rfl | (simp; done) | (simp [*]; done)), H', ⟨by have := HJ6.out; have := HK2.out; have := HK3.out; omega⟩, ⟨by (with_reducible repeat (first | apply Kd.R_alloc | apply Kd.R_drewN | apply Kd.R_drew)); exact HO_5.out⟩, ⟨by (with_reducible repeat (first | apply Kd.R_alloc | apply Kd.R_drewN | apply Kd.R_drew)); exact HO_7.out⟩, ⟨by repeat (first | (with_reducible first | exact HB.out | apply below_alloc | apply pw_below_drewN | apply below_drew1) | exact HB.out)⟩⟩
                      · rw [if_neg c24] at H
                        have c24b0 : decide (x9_3 < (x5_2.length : Int)) = false := decide_eq_false c24
                        clear c24
                        obtain rfl := Option.some.inj H
                        obtain ⟨Ao38, co38, eo38⟩ := Kd.R_slice HO_7.out
                        subst eo38
                        go_wp2
                        go_ret
                        exact ⟨by first | rfl | (simp [errW_none, errW_some] <;> rfl) | (simp [*, errW_none, errW_some] <;> rfl), by repeat (first | (with_reducible first | exact HB.out | apply below_alloc | apply pw_below_drewN | apply below_drew1) | exact HB.out)⟩
    · rw [if_neg c6] at H
      have c6b0 : (t341 == t342) = false := beq_eq_false_iff_ne.mpr c6
      have c6b1 : (t341 != t342) = true := bne_iff_ne.mpr c6
      obtain rfl := Option.some.inj H
      go_enter Tryd.func9, Tryd.ntmps9
      go_wp2_with (first | ((with_reducible refine gate_callee (f := 30) rfl ?_); refine goesL_ (some 15) rfl rfl Tryd.func30 (by kernel_rfl) rfl #[.slice A0 l0.length c0] rfl (by (try simp only [List.map_toArray, List.map_cons, List.map_nil]); first | done | rfl | (simp only [List.length_drop, List.length_take]; rfl)) ?_; (with_reducible refine (spec_DrawFoldAround.calls k _ _ l0 t339 t340 _ ?side1 ?side2 A3.out).mono ?_); (case side1 => repeat (first | exact HR0.out | (with_reducible refine Kd.C_alloc ?_ _) | (with_reducible refine Kd.C_drewN ?_ _) | (with_reducible refine Kd.C_drew ?_))); (case side2 => exact HC0.out); rintro e w39 ⟨rfl, hb⟩; refine ⟨_, rfl, ?_⟩; have n0_ := Aside0.mk (below_step (by repeat (first | (with_reducible first | exact HB.out | apply below_alloc | apply pw_below_drewN | apply below_drew1) | exact HB.out)) hb); clear HB; have HB := n0_; clear n0_; (try clear hb); (try clear hb2); (try clear hk); (try clear hi)) | ((with_reducible refine gate_callee (f := 17) rfl ?_); refine goesL_ (some 20) rfl rfl Tryd.func17 (by kernel_rfl) rfl #[.string t339, .int .i64 t340] rfl (by (try simp only [List.map_toArray, List.map_cons, List.map_nil]); first | done | rfl | (simp only [List.length_drop, List.length_take]; rfl)) ?_; (with_reducible refine (impl_FoldAround.calls k t339 t340 t341 _ A4.out).mono ?_); rintro e w40 ⟨rfl, hb⟩; refine ⟨_, rfl, ?_⟩; have n0_ := Aside0.mk (below_step (by repeat (first | (with_reducible first | exact HB.out | apply below_alloc | apply pw_below_drewN | apply below_drew1) | exact HB.out)) hb); clear HB; have HB := n0_; clear n0_; (try clear hb); (try clear hb2); (try clear hk); (try clear hi)) | ((with_reducible refine gate_callee (f := 16) rfl ?_); refine goesL_ (some 23) rfl rfl Tryd.func16 (by kernel_rfl) rfl #[.string t339, .int .i64 t340] rfl (by (try simp only [List.map_toArray, List.map_cons, List.map_nil]); first | done | rfl | (simp only [List.length_drop, List.length_take]; rfl)) ?_; (with_reducible refine (spec_FoldAround.calls k t339 t340 t342 _ A5.out).mono ?_); rintro e w' ⟨rfl, ⟨nd, rfl⟩⟩; refine ⟨_, rfl, ?_⟩))
      go_ret
      exact ⟨by first | rfl | (simp [errW_none, errW_some] <;> rfl) | (simp [*, errW_none, errW_some] <;> rfl), by repeat (first | (with_reducible first | exact HB.out | apply below_alloc | apply pw_below_drewN | apply below_drew1) | exact HB.out)⟩

/-- THE ONE PURE STATEMENT of laws_FnFoldOuter: yours. -/
def laws_FnFoldOuter.Pure : Prop := ∀ (l0 : List Int), l0.length ≤ maxLen → l0.length * 1 ≤ 140737488351232 → (∀ x ∈ l0, (Lit.int .u8 x).wf = true) → ∃ k, laws_FnFoldOuter.f k l0 = some true
theorem laws_FnFoldOuter.walk (P : laws_FnFoldOuter.Pure) (a0 : Option Addr) (len0 cap0 : Nat) (z0 : List Int) (w : World) (w0 : (a0 = none ∧ len0 = 0 ∧ cap0 = 0 ∧ z0 = []) ∨ ∃ x, a0 = some x ∧ len0 ≤ cap0 ∧ cap0 ≤ maxLen ∧ z0.length = cap0 ∧ (∀ i, i < z0.length → w.cell? (x.add i) = some (.int .u8 (z0.getD i 0))) ∧ ∀ n ∈ z0, (Lit.int .u8 n).wf = true) (y0 : len0 * 1 ≤ 140737488351232) :
    Calls Tryd.prog 9 #[.slice a0 len0 cap0] w fun e w' => e = .returned (.bool true) ∧ Below w.heap.size w w' := by
  obtain ⟨l0, rfl, hr0, hm0, hw0, hc0⟩ := ReadsInt.ofRowC w0
  obtain ⟨k, h⟩ := P l0 hm0 y0 hw0
  refine (laws_FnFoldOuter.calls k _ _ l0 true w (Kd.C_of_reads (d := (0 : Int)) (h1 := fun _ => rfl) hr0) hc0 h).mono ?_
  rintro e w' ⟨rfl, hd⟩
  exact ⟨rfl, hd⟩

end Go.Proofs.YtdpnfdoplahfgaaDoor.X
