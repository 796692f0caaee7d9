-- written by a program of this session (wip/xprint.py) out of the translation
import Derived.Test.YtdpnfdoplahfgaaDoorX0
import Derived.Test.YtdpnfdoplahfgaaDoorX6
import Derived.Test.YtdpnfdoplahfgaaDoorX7
import Derived.Test.YtdpnfdoplahfgaaDoorX10
import Derived.Test.YtdpnfdoplahfgaaDoorX11
import Derived.Test.YtdpnfdoplahfgaaDoorX14
namespace Go.Proofs.YtdpnfdoplahfgaaDoor.X
open Go.RowKit Go.Proofs.YtdpnfdoplahfgaaDoorW.PrintWords Go.Proofs.YtdpnfdoplahfgaaDoorW.PrintLast Go.Proofs.YtdpnfdoplahfgaaDoorW.PrintMore
attribute [local go_sem] max2_int min2_int max_two min_two max_three min_three max_four min_four   -- for this text's walks alone
set_option linter.unusedVariables false
set_option linter.unusedSimpArgs false

/-! ### laws_FnFoldAround: function 10 -/
def laws_FnFoldAround.l0 : Nat → ByteArray → Int → Int → List Int → Int → Option (Bool)
  | 0, _, _, _, _, _ => none
  | k + 1, x3, x4, x5, x6, x7 => if x7 < (x6.length : Int) then (if 0 ≤ x7 then (if (rd x6 x7) = x4 then (some false) else (laws_FnFoldAround.l0 k x3 x4 x5 x6 (wrap64 (x7 + 1)))) else (none)) else (if x5 < x4 then ((impl_FoldEnd.f k x3 x5).bind fun t370 => (some (decide (t370 ≥ x4)))) else (some false))
def laws_FnFoldAround.f (k : Nat) (l0 : List Int) : Option (Bool) := if (l0.length : Int) > 1048576 then (some true) else ((spec_DrawFoldAround.f k l0).bind fun bt358 => ((impl_FoldAround.f k bt358.1 bt358.2).bind fun t360 => ((spec_FoldAround.f k bt358.1 bt358.2).bind fun t361 => (if t360 = t361 then (if t360 < 0 then (if t360 = (-1) then ((laws_alive.f k).bind fun t362 => (some t362)) else (some false)) else ((impl_VisibleLines.f k bt358.1 (([t360] : List Int))).bind fun t366 => (laws_FnFoldAround.l0 k bt358.1 bt358.2 t360 t366 0))) else (some false)))))
theorem laws_FnFoldAround.mono_l : ∀ k, (∀ y0 y1 y2 y3 y4, LeO (laws_FnFoldAround.l0 k y0 y1 y2 y3 y4) (laws_FnFoldAround.l0 (k + 1) y0 y1 y2 y3 y4))
  | 0 => fun _ _ _ _ _ r h => by simp [laws_FnFoldAround.l0] at h
  | k + 1 => by
    have ih0 := laws_FnFoldAround.mono_l k
    · intro y0 y1 y2 y3 y4
      unfold laws_FnFoldAround.l0
      repeat' first
      | (with_reducible exact ih0 _ _ _ _ _)
      | (with_reducible exact impl_FoldAround.mono _ _ _)
      | (with_reducible exact impl_FoldEnd.mono _ _ _)
      | (with_reducible exact impl_VisibleLines.mono _ _ _)
      | (with_reducible exact laws_alive.mono _)
      | (with_reducible exact spec_DrawFoldAround.mono _ _)
      | (with_reducible exact spec_FoldAround.mono _ _ _)
      | (with_reducible exact LeO.refl _)
      | (with_reducible exact LeO.none _)
      | (with_reducible refine LeO.ite ?_ ?_)
      | (with_reducible refine LeO.bind ?_ (fun _ => ?_))
      | exact ih0 _ _ _ _ _
      | exact impl_FoldAround.mono _ _ _
      | exact impl_FoldEnd.mono _ _ _
      | exact impl_VisibleLines.mono _ _ _
      | exact laws_alive.mono _
      | exact spec_DrawFoldAround.mono _ _
      | exact spec_FoldAround.mono _ _ _
      | exact LeO.none _
      | refine LeO.ite ?_ ?_
      | refine LeO.bind ?_ (fun _ => ?_)
theorem laws_FnFoldAround.mono : ∀ a0 k, LeO (laws_FnFoldAround.f k a0) (laws_FnFoldAround.f (k + 1) a0) := by
  intro a0 k
  have ih0 := laws_FnFoldAround.mono_l k
  unfold laws_FnFoldAround.f
  repeat' first
      | (with_reducible exact ih0 _ _ _ _ _)
      | (with_reducible exact impl_FoldAround.mono _ _ _)
      | (with_reducible exact impl_FoldEnd.mono _ _ _)
      | (with_reducible exact impl_VisibleLines.mono _ _ _)
      | (with_reducible exact laws_alive.mono _)
      | (with_reducible exact spec_DrawFoldAround.mono _ _)
      | (with_reducible exact spec_FoldAround.mono _ _ _)
      | (with_reducible exact LeO.refl _)
      | (with_reducible exact LeO.none _)
      | (with_reducible refine LeO.ite ?_ ?_)
      | (with_reducible refine LeO.bind ?_ (fun _ => ?_))
      | exact ih0 _ _ _ _ _
      | exact impl_FoldAround.mono _ _ _
      | exact impl_FoldEnd.mono _ _ _
      | exact impl_VisibleLines.mono _ _ _
      | exact laws_alive.mono _
      | exact spec_DrawFoldAround.mono _ _
      | exact spec_FoldAround.mono _ _ _
      | exact LeO.none _
      | refine LeO.ite ?_ ?_
      | refine LeO.bind ?_ (fun _ => ?_)
set_option maxHeartbeats 8000000 in
set_option maxRecDepth 100000 in
theorem laws_FnFoldAround.calls (k : Nat) (A0 : Option Addr) (c0 : Nat) (l0 : List Int) (r : Bool) (w : World) (hr0 : Kd.C (Kd.int .u8) w A0 l0.length l0) (hc0 : l0.length ≤ c0) (h : laws_FnFoldAround.f k l0 = some r) :
    Calls Tryd.prog 10 #[.slice A0 l0.length c0] w fun e w' => e = .returned (.bool r) ∧ Below w.heap.size w w' := by
  have HR0 := Aside0.mk hr0
  have HC0 := Aside0.mk hc0
  clear hr0 hc0
  have HB := Aside0.mk (Below.refl w.heap.size w)
  have H : (if (l0.length : Int) > 1048576 then (some true) else ((spec_DrawFoldAround.f k l0).bind fun bt358 => ((impl_FoldAround.f k bt358.1 bt358.2).bind fun t360 => ((spec_FoldAround.f k bt358.1 bt358.2).bind fun t361 => (if t360 = t361 then (if t360 < 0 then (if t360 = (-1) then ((laws_alive.f k).bind fun t362 => (some t362)) else (some false)) else ((impl_VisibleLines.f k bt358.1 (([t360] : List Int))).bind fun t366 => (laws_FnFoldAround.l0 k bt358.1 bt358.2 t360 t366 0))) else (some false)))))) = some r := h
  clear h
  by_cases c2 : (l0.length : Int) > 1048576
  · rw [if_pos c2] at H
    have c2b0 : decide (1048576 < (l0.length : Int)) = true := decide_eq_true c2
    have c2b1 : decide (1048576 < l0.length) = true := decide_eq_true (by omega)
    clear c2
    obtain rfl := Option.some.inj H
    go_enter Tryd.func10, Tryd.ntmps10
    go_wp2
    go_ret
    exact ⟨by first | rfl | (simp [errW_none, errW_some] <;> rfl) | (simp [*, errW_none, errW_some] <;> rfl), by repeat (first | (with_reducible first | exact HB.out | apply below_alloc | apply pw_below_drewN | apply below_drew1) | exact HB.out)⟩
  · rw [if_neg c2] at H
    have c2b0 : decide (1048576 < (l0.length : Int)) = false := decide_eq_false c2
    have c2b1 : decide (1048576 < l0.length) = false := decide_eq_false (by omega)
    clear c2
    replace H := Option.bind_eq_some_iff.mp H
    obtain ⟨⟨t358, t359⟩, A30, H⟩ := H
    replace H : ((impl_FoldAround.f k t358 t359).bind fun t360 => ((spec_FoldAround.f k t358 t359).bind fun t361 => (if t360 = t361 then (if t360 < 0 then (if t360 = (-1) then ((laws_alive.f k).bind fun t362 => (some t362)) else (some false)) else ((impl_VisibleLines.f k t358 (([t360] : List Int))).bind fun t366 => (laws_FnFoldAround.l0 k t358 t359 t360 t366 0))) else (some false)))) = some r := H
    have A3 := Aside0.mk A30
    clear A30
    replace H := Option.bind_eq_some_iff.mp H
    obtain ⟨t360, A40, H⟩ := H
    replace H : ((spec_FoldAround.f k t358 t359).bind fun t361 => (if t360 = t361 then (if t360 < 0 then (if t360 = (-1) then ((laws_alive.f k).bind fun t362 => (some t362)) else (some false)) else ((impl_VisibleLines.f k t358 (([t360] : List Int))).bind fun t366 => (laws_FnFoldAround.l0 k t358 t359 t360 t366 0))) else (some false))) = some r := H
    have A4 := Aside0.mk A40
    clear A40
    replace H := Option.bind_eq_some_iff.mp H
    obtain ⟨t361, A50, H⟩ := H
    replace H : (if t360 = t361 then (if t360 < 0 then (if t360 = (-1) then ((laws_alive.f k).bind fun t362 => (some t362)) else (some false)) else ((impl_VisibleLines.f k t358 (([t360] : List Int))).bind fun t366 => (laws_FnFoldAround.l0 k t358 t359 t360 t366 0))) else (some false)) = some r := H
    have A5 := Aside0.mk A50
    clear A50
    by_cases c6 : t360 = t361
    · rw [if_pos c6] at H
      have c6b0 : (t360 == t361) = true := beq_iff_eq.mpr c6
      have c6b1 : (t360 != t361) = false := bne_eq_false_iff_eq.mpr c6
      clear c6
      by_cases c7 : t360 < 0
      · rw [if_pos c7] at H
        have c7b0 : decide (t360 < 0) = true := decide_eq_true c7
        clear c7
        by_cases c8 : t360 = (-1)
        · rw [if_pos c8] at H
          have c8b0 : (t360 == (-1)) = true := beq_iff_eq.mpr c8
          have c8b1 : (t360 != (-1)) = false := bne_eq_false_iff_eq.mpr c8
          clear c8
          replace H := Option.bind_eq_some_iff.mp H
          obtain ⟨t362, A90, H⟩ := H
          replace H : (some t362) = some r := H
          have A9 := Aside0.mk A90
          clear A90
          obtain rfl := Option.some.inj H
          go_enter Tryd.func10, Tryd.ntmps10
          go_wp2_with (first | ((with_reducible refine gate_callee (f := 30) rfl ?_); refine goesL_ (some 13) rfl rfl Tryd.func30 (by kernel_rfl) rfl #[.slice A0 l0.length c0] rfl (by (try simp only [List.map_toArray, List.map_cons, List.map_nil]); first | done | rfl | (simp only [List.length_drop, List.length_take]; rfl)) ?_; (with_reducible refine (spec_DrawFoldAround.calls k _ _ l0 t358 t359 _ ?side1 ?side2 A3.out).mono ?_); (case side1 => repeat (first | exact HR0.out | (with_reducible refine Kd.C_alloc ?_ _) | (with_reducible refine Kd.C_drewN ?_ _) | (with_reducible refine Kd.C_drew ?_))); (case side2 => exact HC0.out); rintro e w10 ⟨rfl, hb⟩; refine ⟨_, rfl, ?_⟩; have n0_ := Aside0.mk (below_step (by repeat (first | (with_reducible first | exact HB.out | apply below_alloc | apply pw_below_drewN | apply below_drew1) | exact HB.out)) hb); clear HB; have HB := n0_; clear n0_; (try clear hb); (try clear hb2); (try clear hk); (try clear hi)) | ((with_reducible refine gate_callee (f := 17) rfl ?_); refine goesL_ (some 18) rfl rfl Tryd.func17 (by kernel_rfl) rfl #[.string t358, .int .i64 t359] rfl (by (try simp only [List.map_toArray, List.map_cons, List.map_nil]); first | done | rfl | (simp only [List.length_drop, List.length_take]; rfl)) ?_; (with_reducible refine (impl_FoldAround.calls k t358 t359 t360 _ A4.out).mono ?_); rintro e w11 ⟨rfl, hb⟩; refine ⟨_, rfl, ?_⟩; have n0_ := Aside0.mk (below_step (by repeat (first | (with_reducible first | exact HB.out | apply below_alloc | apply pw_below_drewN | apply below_drew1) | exact HB.out)) hb); clear HB; have HB := n0_; clear n0_; (try clear hb); (try clear hb2); (try clear hk); (try clear hi)) | ((with_reducible refine gate_callee (f := 16) rfl ?_); refine goesL_ (some 22) rfl rfl Tryd.func16 (by kernel_rfl) rfl #[.string t358, .int .i64 t359] rfl (by (try simp only [List.map_toArray, List.map_cons, List.map_nil]); first | done | rfl | (simp only [List.length_drop, List.length_take]; rfl)) ?_; (with_reducible refine (spec_FoldAround.calls k t358 t359 t361 _ A5.out).mono ?_); rintro e w' ⟨rfl, ⟨nd, rfl⟩⟩; refine ⟨_, rfl, ?_⟩) | (go_at_call 20; (with_reducible refine (laws_alive.calls k  t362 _ A9.out).mono ?_); rintro e w' ⟨rfl, ⟨nd, rfl⟩⟩))
          go_ret
          exact ⟨by first | rfl | (simp [errW_none, errW_some] <;> rfl) | (simp [*, errW_none, errW_some] <;> rfl), by repeat (first | (with_reducible first | exact HB.out | apply below_alloc | apply pw_below_drewN | apply below_drew1) | exact HB.out)⟩
        · rw [if_neg c8] at H
          have c8b0 : (t360 == (-1)) = false := beq_eq_false_iff_ne.mpr c8
          have c8b1 : (t360 != (-1)) = true := bne_iff_ne.mpr c8
          obtain rfl := Option.some.inj H
          go_enter Tryd.func10, Tryd.ntmps10
          go_wp2_with (first | ((with_reducible refine gate_callee (f := 30) rfl ?_); refine goesL_ (some 13) rfl rfl Tryd.func30 (by kernel_rfl) rfl #[.slice A0 l0.length c0] rfl (by (try simp only [List.map_toArray, List.map_cons, List.map_nil]); first | done | rfl | (simp only [List.length_drop, List.length_take]; rfl)) ?_; (with_reducible refine (spec_DrawFoldAround.calls k _ _ l0 t358 t359 _ ?side1 ?side2 A3.out).mono ?_); (case side1 => repeat (first | exact HR0.out | (with_reducible refine Kd.C_alloc ?_ _) | (with_reducible refine Kd.C_drewN ?_ _) | (with_reducible refine Kd.C_drew ?_))); (case side2 => exact HC0.out); rintro e w12 ⟨rfl, hb⟩; refine ⟨_, rfl, ?_⟩; have n0_ := Aside0.mk (below_step (by repeat (first | (with_reducible first | exact HB.out | apply below_alloc | apply pw_below_drewN | apply below_drew1) | exact HB.out)) hb); clear HB; have HB := n0_; clear n0_; (try clear hb); (try clear hb2); (try clear hk); (try clear hi)) | ((with_reducible refine gate_callee (f := 17) rfl ?_); refine goesL_ (some 18) rfl rfl Tryd.func17 (by kernel_rfl) rfl #[.string t358, .int .i64 t359] rfl (by (try simp only [List.map_toArray, List.map_cons, List.map_nil]); first | done | rfl | (simp only [List.length_drop, List.length_take]; rfl)) ?_; (with_reducible refine (impl_FoldAround.calls k t358 t359 t360 _ A4.out).mono ?_); rintro e w13 ⟨rfl, hb⟩; refine ⟨_, rfl, ?_⟩; have n0_ := Aside0.mk (below_step (by repeat (first | (with_reducible first | exact HB.out | apply below_alloc | apply pw_below_drewN | apply below_drew1) | exact HB.out)) hb); clear HB; have HB := n0_; clear n0_; (try clear hb); (try clear hb2); (try clear hk); (try clear hi)) | ((with_reducible refine gate_callee (f := 16) rfl ?_); refine goesL_ (some 22) rfl rfl Tryd.func16 (by kernel_rfl) rfl #[.string t358, .int .i64 t359] rfl (by (try simp only [List.map_toArray, List.map_cons, List.map_nil]); first | done | rfl | (simp only [List.length_drop, List.length_take]; rfl)) ?_; (with_reducible refine (spec_FoldAround.calls k t358 t359 t361 _ A5.out).mono ?_); rintro e w' ⟨rfl, ⟨nd, rfl⟩⟩; refine ⟨_, rfl, ?_⟩))
          go_ret
          exact ⟨by first | rfl | (simp [errW_none, errW_some] <;> rfl) | (simp [*, errW_none, errW_some] <;> rfl), by repeat (first | (with_reducible first | exact HB.out | apply below_alloc | apply pw_below_drewN | apply below_drew1) | exact HB.out)⟩
      · rw [if_neg c7] at H
        have c7b0 : decide (t360 < 0) = false := decide_eq_false c7
        clear c7
        obtain ⟨y363, hy363⟩ : ∃ y_ : List Int, y_ = (([t360] : List Int)) := ⟨_, rfl⟩
        replace H : ((impl_VisibleLines.f k t358 y363).bind fun t366 => (laws_FnFoldAround.l0 k t358 t359 t360 t366 0)) = some r := by first | (rw [hy363]; with_reducible exact H) | (have H2_ := (Option.bind_some _ _).symm.trans H; rw [hy363]; with_reducible exact H2_) | (have H2_ := (Option.bind_some _ _).symm.trans H; with_reducible exact H2_) | with_reducible exact H | (rw [hy363]; exact H) | exact H
        have Ny363 := Aside0.mk hy363
        clear hy363
        replace H := Option.bind_eq_some_iff.mp H
        obtain ⟨t366, A140, H⟩ := H
        replace H : (laws_FnFoldAround.l0 k t358 t359 t360 t366 0) = some r := H
        have A14 := Aside0.mk A140
        clear A140
        have H' := Aside0.mk H
        clear H
        go_enter Tryd.func10, Tryd.ntmps10
        go_wp2_with (first | ((with_reducible refine gate_callee (f := 30) rfl ?_); refine goesL_ (some 13) rfl rfl Tryd.func30 (by kernel_rfl) rfl #[.slice A0 l0.length c0] rfl (by (try simp only [List.map_toArray, List.map_cons, List.map_nil]); first | done | rfl | (simp only [List.length_drop, List.length_take]; rfl)) ?_; (with_reducible refine (spec_DrawFoldAround.calls k _ _ l0 t358 t359 _ ?side1 ?side2 A3.out).mono ?_); (case side1 => repeat (first | exact HR0.out | (with_reducible refine Kd.C_alloc ?_ _) | (with_reducible refine Kd.C_drewN ?_ _) | (with_reducible refine Kd.C_drew ?_))); (case side2 => exact HC0.out); rintro e w15 ⟨rfl, hb⟩; refine ⟨_, rfl, ?_⟩; have n0_ := Aside0.mk (below_step (by repeat (first | (with_reducible first | exact HB.out | apply below_alloc | apply pw_below_drewN | apply below_drew1) | exact HB.out)) hb); clear HB; have HB := n0_; clear n0_; (try clear hb); (try clear hb2); (try clear hk); (try clear hi)) | ((with_reducible refine gate_callee (f := 17) rfl ?_); refine goesL_ (some 18) rfl rfl Tryd.func17 (by kernel_rfl) rfl #[.string t358, .int .i64 t359] rfl (by (try simp only [List.map_toArray, List.map_cons, List.map_nil]); first | done | rfl | (simp only [List.length_drop, List.length_take]; rfl)) ?_; (with_reducible refine (impl_FoldAround.calls k t358 t359 t360 _ A4.out).mono ?_); rintro e w16 ⟨rfl, hb⟩; refine ⟨_, rfl, ?_⟩; have n0_ := Aside0.mk (below_step (by repeat (first | (with_reducible first | exact HB.out | apply below_alloc | apply pw_below_drewN | apply below_drew1) | exact HB.out)) hb); clear HB; have HB := n0_; clear n0_; (try clear hb); (try clear hb2); (try clear hk); (try clear hi)) | ((with_reducible refine gate_callee (f := 16) rfl ?_); refine goesL_ (some 22) rfl rfl Tryd.func16 (by kernel_rfl) rfl #[.string t358, .int .i64 t359] rfl (by (try simp only [List.map_toArray, List.map_cons, List.map_nil]); first | done | rfl | (simp only [List.length_drop, List.length_take]; rfl)) ?_; (with_reducible refine (spec_FoldAround.calls k t358 t359 t361 _ A5.out).mono ?_); rintro e w' ⟨rfl, ⟨nd, rfl⟩⟩; refine ⟨_, rfl, ?_⟩) | ((with_reducible refine gate_dst (N := 33) rfl ?_); refine Kd.R_lit (Kd.int .i64) _ 3 ?hg (N := 33) ?hd (xs := ([t360] : List Int)) (inner := [.int .i64 t360]) (ok := fun _ => True) (okp := fun _ => True) ?hr ?hp (fun _ hk => hk) trivial (Below.refl _ _) (Nat.le_refl _) (by simp) ?_; (case hd => rfl); (case hg => rfl); (case hr => first | (go_simp; done) | (go_simp; rfl)); (case hp => exact (Reps.one (show Kd.M (Kd.int .i64) _ _ _ t360 [.int .i64 t360] from rfl) (Reps.none _ _))); intro v364 w17 ho18 hb hg_ hnew_; clear hg_ hnew_; (first | rw [← Ny363.out] at ho18 | (simp only [Int.reduceToNat] at ho18; rw [← Ny363.out] at ho18)); have n0_ := Aside0.mk (Kd.R_lower ho18 (below_size (by repeat (first | (with_reducible first | exact HB.out | apply below_alloc | apply pw_below_drewN | apply below_drew1) | exact HB.out)))); have n1_ := Aside0.mk (below_step (by repeat (first | (with_reducible first | exact HB.out | apply below_alloc | apply pw_below_drewN | apply below_drew1) | exact HB.out)) hb); clear HB; have HO365 := n0_; have HB := n1_; clear n0_ n1_; clear hb ho18; obtain ⟨Ao19, co19, eo19⟩ := Kd.R_slice HO365.out; subst eo19) | ((with_reducible refine gate_callee (f := 24) rfl ?_); refine goesL_ (some 34) rfl rfl Tryd.func24 (by kernel_rfl) rfl #[.string t358, .slice Ao19 y363.length co19] rfl (by (try simp only [List.map_toArray, List.map_cons, List.map_nil]); first | done | rfl | (simp only [List.length_drop, List.length_take]; rfl)) ?_; (with_reducible refine (impl_VisibleLines.calls k t358 _ _ y363 t366 _ ?side1 ?side2 A14.out).mono ?_); (case side1 => repeat (first | exact (Kd.R_reads' HO365.out).2.2 | (with_reducible refine Kd.C_alloc ?_ _) | (with_reducible refine Kd.C_drewN ?_ _) | (with_reducible refine Kd.C_drew ?_))); (case side2 => exact (Kd.R_reads' HO365.out).2.1); rintro e w20 ⟨v367, rfl, ho0, hb⟩; refine ⟨_, rfl, ?_⟩; have n0_ := Aside0.mk (Kd.R_elder' (by (with_reducible repeat (first | apply Kd.R_alloc | apply Kd.R_drewN | apply Kd.R_drew)); exact HO365.out) (Kd.R_base ho0) hb); have n1_ := Aside0.mk (Kd.R_lower (Kd.R_new' ho0 (Kd.R_lt (by (with_reducible repeat (first | apply Kd.R_alloc | apply Kd.R_drewN | apply Kd.R_drew)); exact HO365.out))) (below_size (by repeat (first | (with_reducible first | exact HB.out | apply below_alloc | apply pw_below_drewN | apply below_drew1) | exact HB.out)))); have n2_ := Aside0.mk (below_step (by repeat (first | (with_reducible first | exact HB.out | apply below_alloc | apply pw_below_drewN | apply below_drew1) | exact HB.out)) hb); clear HO365; clear HB; have HO365 := n0_; have HO368 := n1_; have HB := n2_; clear n0_ n1_ n2_; (try clear hb); (try clear hb2); (try clear hk); (try clear hi); (try clear ho0)))
        go_loopg [7] k (fun kq v7 w' => ∃ (x7_1 : Int), v7 = .int .i64 x7_1 ∧ Aside0 (laws_FnFoldAround.l0 kq t358 t359 t360 t366 x7_1 = some r) ∧ Aside0 (kq ≤ k) ∧ Aside0 (Kd.R (Kd.int .i64) 3 w' w.heap.size (fun _ => True) v367 t366) ∧ Aside0 (Below w.heap.size w w'))
        case atStart => exact ⟨(0), (by first | rfl | (simp; done) | (simp [*]; done)), H', ⟨Nat.le_refl _⟩, ⟨by (with_reducible repeat (first | apply Kd.R_alloc | apply Kd.R_drewN | apply Kd.R_drew)); exact Kd.R_mono HO368.out (fun _ hk => trivial)⟩, ⟨by repeat (first | (with_reducible first | exact HB.out | apply below_alloc | apply pw_below_drewN | apply below_drew1) | exact HB.out)⟩⟩
        case round =>
          clear H'
          try clear c1
          try clear c2
          try clear c2b0
          try clear c2b1
          try clear p2
          try clear c3
          try clear c6
          try clear c6b0
          try clear c6b1
          try clear c7
          try clear c7b0
          try clear c8
          try clear c8b0
          try clear c8b1
          try clear c10
          try clear c16
          try clear c17
          obtain ⟨x7_1, rfl, HA, HK1, HO_6, HB⟩ := hrel
          cases gk with
          | zero => exact absurd HA.out (by simp [laws_FnFoldAround.l0])
          | succ k1 =>
            have H := HA.out
            clear HA
            simp only [laws_FnFoldAround.l0] at H
            by_cases c21 : x7_1 < (t366.length : Int)
            · rw [if_pos c21] at H
              have c21b0 : decide (x7_1 < (t366.length : Int)) = true := decide_eq_true c21
              clear c21
              by_cases c22 : 0 ≤ x7_1
              · rw [if_pos c22] at H
                have c22b0 : decide (0 ≤ x7_1) = true := decide_eq_true c22
                clear c22
                by_cases c23 : (rd t366 x7_1) = t359
                · rw [if_pos c23] at H
                  have c23b0 : ((rd t366 x7_1) == t359) = true := beq_iff_eq.mpr c23
                  have c23b1 : ((rd t366 x7_1) != t359) = false := bne_eq_false_iff_eq.mpr c23
                  clear c23
                  obtain rfl := Option.some.inj H
                  obtain ⟨Ao24, co24, eo24⟩ := Kd.R_slice HO_6.out
                  subst eo24
                  have p369 : 0 ≤ (x7_1 : Int) := of_decide_eq_true (by first | (with_reducible assumption) | assumption)
                  have q369 : x7_1 < (t366.length : Int) := of_decide_eq_true (by first | (with_reducible assumption) | assumption)
                  obtain ⟨ad369, e369, hx369_0⟩ := Kd.at_int (Kd.R_reads' HO_6.out).2.2 x7_1 p369 q369
                  cases e369
                  replace p369 := eq_true p369
                  replace q369 := eq_true q369
                  go_wp2
                  go_ret
                  exact ⟨by first | rfl | (simp [errW_none, errW_some] <;> rfl) | (simp [*, errW_none, errW_some] <;> rfl), by repeat (first | (with_reducible first | exact HB.out | apply below_alloc | apply pw_below_drewN | apply below_drew1) | exact HB.out)⟩
                · rw [if_neg c23] at H
                  have c23b0 : ((rd t366 x7_1) == t359) = false := beq_eq_false_iff_ne.mpr c23
                  have c23b1 : ((rd t366 x7_1) != t359) = true := bne_iff_ne.mpr c23
                  have H' := Aside0.mk H
                  clear H
                  obtain ⟨Ao25, co25, eo25⟩ := Kd.R_slice HO_6.out
                  subst eo25
                  have p369 : 0 ≤ (x7_1 : Int) := of_decide_eq_true (by first | (with_reducible assumption) | assumption)
                  have q369 : x7_1 < (t366.length : Int) := of_decide_eq_true (by first | (with_reducible assumption) | assumption)
                  obtain ⟨ad369, e369, hx369_0⟩ := Kd.at_int (Kd.R_reads' HO_6.out).2.2 x7_1 p369 q369
                  cases e369
                  replace p369 := eq_true p369
                  replace q369 := eq_true q369
                  go_wp2
                  go_roundg k1
                  case measure => have := HK1.out; omega
                  case rel => exact ⟨(wrap64 (x7_1 + 1)), (by first | rfl | (simp; done) | (simp [*]; done)), H', ⟨by have := HK1.out; omega⟩, ⟨by (with_reducible repeat (first | apply Kd.R_alloc | apply Kd.R_drewN | apply Kd.R_drew)); exact HO_6.out⟩, ⟨by repeat (first | (with_reducible first | exact HB.out | apply below_alloc | apply pw_below_drewN | apply below_drew1) | exact HB.out)⟩⟩
              · rw [if_neg c22] at H
                exact absurd H (by simp)
            · rw [if_neg c21] at H
              have c21b0 : decide (x7_1 < (t366.length : Int)) = false := decide_eq_false c21
              clear c21
              by_cases c26 : t360 < t359
              · rw [if_pos c26] at H
                have c26b0 : decide (t360 < t359) = true := decide_eq_true c26
                clear c26
                replace H := Option.bind_eq_some_iff.mp H
                obtain ⟨t370, A270, H⟩ := H
                replace H : (some (decide (t370 ≥ t359))) = some r := H
                have A27 := Aside0.mk A270
                clear A270
                obtain rfl := Option.some.inj H
                obtain ⟨Ao28, co28, eo28⟩ := Kd.R_slice HO_6.out
                subst eo28
                go_wp2_with (first | (go_at_call 15; (with_reducible refine (impl_FoldEnd.calls k1 t358 t360 t370 _ A27.out).mono ?_); rintro e w29 ⟨rfl, hb⟩; have n0_ := Aside0.mk (Kd.R_below (by (with_reducible repeat (first | apply Kd.R_alloc | apply Kd.R_drewN | apply Kd.R_drew)); exact HO_6.out) hb); have n1_ := Aside0.mk (below_step (by repeat (first | (with_reducible first | exact HB.out | apply below_alloc | apply pw_below_drewN | apply below_drew1) | exact HB.out)) hb); clear HO_6; clear HB; have HO_6 := n0_; have HB := n1_; clear n0_ n1_; (try clear hb); (try clear hb2); (try clear hk); (try clear hi)))
                go_ret
                exact ⟨by first | rfl | (simp [errW_none, errW_some] <;> rfl) | (simp [*, errW_none, errW_some] <;> rfl), by repeat (first | (with_reducible first | exact HB.out | apply below_alloc | apply pw_below_drewN | apply below_drew1) | exact HB.out)⟩
              · rw [if_neg c26] at H
                have c26b0 : decide (t360 < t359) = false := decide_eq_false c26
                clear c26
                obtain rfl := Option.some.inj H
                obtain ⟨Ao30, co30, eo30⟩ := Kd.R_slice HO_6.out
                subst eo30
                go_wp2
                go_ret
                exact ⟨by first | rfl | (simp [errW_none, errW_some] <;> rfl) | (simp [*, errW_none, errW_some] <;> rfl), by repeat (first | (with_reducible first | exact HB.out | apply below_alloc | apply pw_below_drewN | apply below_drew1) | exact HB.out)⟩
    · rw [if_neg c6] at H
      have c6b0 : (t360 == t361) = false := beq_eq_false_iff_ne.mpr c6
      have c6b1 : (t360 != t361) = true := bne_iff_ne.mpr c6
      obtain rfl := Option.some.inj H
      go_enter Tryd.func10, Tryd.ntmps10
      go_wp2_with (first | ((with_reducible refine gate_callee (f := 30) rfl ?_); refine goesL_ (some 13) rfl rfl Tryd.func30 (by kernel_rfl) rfl #[.slice A0 l0.length c0] rfl (by (try simp only [List.map_toArray, List.map_cons, List.map_nil]); first | done | rfl | (simp only [List.length_drop, List.length_take]; rfl)) ?_; (with_reducible refine (spec_DrawFoldAround.calls k _ _ l0 t358 t359 _ ?side1 ?side2 A3.out).mono ?_); (case side1 => repeat (first | exact HR0.out | (with_reducible refine Kd.C_alloc ?_ _) | (with_reducible refine Kd.C_drewN ?_ _) | (with_reducible refine Kd.C_drew ?_))); (case side2 => exact HC0.out); rintro e w31 ⟨rfl, hb⟩; refine ⟨_, rfl, ?_⟩; have n0_ := Aside0.mk (below_step (by repeat (first | (with_reducible first | exact HB.out | apply below_alloc | apply pw_below_drewN | apply below_drew1) | exact HB.out)) hb); clear HB; have HB := n0_; clear n0_; (try clear hb); (try clear hb2); (try clear hk); (try clear hi)) | ((with_reducible refine gate_callee (f := 17) rfl ?_); refine goesL_ (some 18) rfl rfl Tryd.func17 (by kernel_rfl) rfl #[.string t358, .int .i64 t359] rfl (by (try simp only [List.map_toArray, List.map_cons, List.map_nil]); first | done | rfl | (simp only [List.length_drop, List.length_take]; rfl)) ?_; (with_reducible refine (impl_FoldAround.calls k t358 t359 t360 _ A4.out).mono ?_); rintro e w32 ⟨rfl, hb⟩; refine ⟨_, rfl, ?_⟩; have n0_ := Aside0.mk (below_step (by repeat (first | (with_reducible first | exact HB.out | apply below_alloc | apply pw_below_drewN | apply below_drew1) | exact HB.out)) hb); clear HB; have HB := n0_; clear n0_; (try clear hb); (try clear hb2); (try clear hk); (try clear hi)) | ((with_reducible refine gate_callee (f := 16) rfl ?_); refine goesL_ (some 22) rfl rfl Tryd.func16 (by kernel_rfl) rfl #[.string t358, .int .i64 t359] rfl (by (try simp only [List.map_toArray, List.map_cons, List.map_nil]); first | done | rfl | (simp only [List.length_drop, List.length_take]; rfl)) ?_; (with_reducible refine (spec_FoldAround.calls k t358 t359 t361 _ A5.out).mono ?_); rintro e w' ⟨rfl, ⟨nd, rfl⟩⟩; refine ⟨_, rfl, ?_⟩))
      go_ret
      exact ⟨by first | rfl | (simp [errW_none, errW_some] <;> rfl) | (simp [*, errW_none, errW_some] <;> rfl), by repeat (first | (with_reducible first | exact HB.out | apply below_alloc | apply pw_below_drewN | apply below_drew1) | exact HB.out)⟩

/-- THE ONE PURE STATEMENT of laws_FnFoldAround: yours. -/
def laws_FnFoldAround.Pure : Prop := ∀ (l0 : List Int), l0.length ≤ maxLen → l0.length * 1 ≤ 140737488351232 → (∀ x ∈ l0, (Lit.int .u8 x).wf = true) → ∃ k, laws_FnFoldAround.f k l0 = some true
theorem laws_FnFoldAround.walk (P : laws_FnFoldAround.Pure) (a0 : Option Addr) (len0 cap0 : Nat) (z0 : List Int) (w : World) (w0 : (a0 = none ∧ len0 = 0 ∧ cap0 = 0 ∧ z0 = []) ∨ ∃ x, a0 = some x ∧ len0 ≤ cap0 ∧ cap0 ≤ maxLen ∧ z0.length = cap0 ∧ (∀ i, i < z0.length → w.cell? (x.add i) = some (.int .u8 (z0.getD i 0))) ∧ ∀ n ∈ z0, (Lit.int .u8 n).wf = true) (y0 : len0 * 1 ≤ 140737488351232) :
    Calls Tryd.prog 10 #[.slice a0 len0 cap0] w fun e w' => e = .returned (.bool true) ∧ Below w.heap.size w w' := by
  obtain ⟨l0, rfl, hr0, hm0, hw0, hc0⟩ := ReadsInt.ofRowC w0
  obtain ⟨k, h⟩ := P l0 hm0 y0 hw0
  refine (laws_FnFoldAround.calls k _ _ l0 true w (Kd.C_of_reads (d := (0 : Int)) (h1 := fun _ => rfl) hr0) hc0 h).mono ?_
  rintro e w' ⟨rfl, hd⟩
  exact ⟨rfl, hd⟩

end Go.Proofs.YtdpnfdoplahfgaaDoor.X
