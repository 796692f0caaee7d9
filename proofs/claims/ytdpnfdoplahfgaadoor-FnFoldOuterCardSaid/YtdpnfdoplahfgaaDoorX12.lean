-- written by a program of this session (wip/xprint.py) out of the translation
import Derived.Test.YtdpnfdoplahfgaaDoorX0
import Derived.Test.YtdpnfdoplahfgaaDoorX1
import Derived.Test.YtdpnfdoplahfgaaDoorX4
import Derived.Test.YtdpnfdoplahfgaaDoorX6
import Derived.Test.YtdpnfdoplahfgaaDoorX8
namespace Go.Proofs.YtdpnfdoplahfgaaDoor.X
open Go.RowKit Go.Proofs.YtdpnfdoplahfgaaDoorW.PrintWords Go.Proofs.YtdpnfdoplahfgaaDoorW.PrintLast Go.Proofs.YtdpnfdoplahfgaaDoorW.PrintMore
attribute [local go_sem] max2_int min2_int max_two min_two max_three min_three max_four min_four   -- for this text's walks alone
set_option linter.unusedVariables false
set_option linter.unusedSimpArgs false

/-! ### spec_DrawFoldEnd: function 28 -/
def spec_DrawFoldEnd.f (k : Nat) (l0 : List Int) : Option (ByteArray × Int) := (spec_l20Open.f l0).bind fun bt320 => ((spec_l20Deep.f k bt320.1 bt320.2 6).bind fun bt323 => ((spec_LineMany.f k bt323.1).bind fun t325 => ((spec_l20Rd_pick.f k bt320.1 bt323.2 (wrap64 ((mx 1 t325) + 2))).bind fun bt326 => (some (bt323.1, wrap64 (bt326.1 - 1))))))
theorem spec_DrawFoldEnd.mono : ∀ a0 k, LeO (spec_DrawFoldEnd.f k a0) (spec_DrawFoldEnd.f (k + 1) a0) := by
  intro a0 k
  unfold spec_DrawFoldEnd.f
  repeat' first
      | (with_reducible exact spec_LineMany.mono _ _)
      | (with_reducible exact spec_l20Deep.mono _ _ _ _)
      | (with_reducible exact spec_l20Rd_pick.mono _ _ _ _)
      | (with_reducible exact LeO.refl _)
      | (with_reducible exact LeO.none _)
      | (with_reducible refine LeO.ite ?_ ?_)
      | (with_reducible refine LeO.bind ?_ (fun _ => ?_))
      | exact spec_LineMany.mono _ _
      | exact spec_l20Deep.mono _ _ _ _
      | exact spec_l20Rd_pick.mono _ _ _ _
      | exact LeO.none _
      | refine LeO.ite ?_ ?_
      | refine LeO.bind ?_ (fun _ => ?_)
set_option maxHeartbeats 8000000 in
set_option maxRecDepth 100000 in
theorem spec_DrawFoldEnd.calls (k : Nat) (A0 : Option Addr) (c0 : Nat) (l0 : List Int) (r1 : ByteArray) (r2 : Int) (w : World) (hr0 : Kd.C (Kd.int .u8) w A0 l0.length l0) (hc0 : l0.length ≤ c0) (h : spec_DrawFoldEnd.f k l0 = some (r1, r2)) :
    Calls Tryd.prog 28 #[.slice A0 l0.length c0] w fun e w' => e = .returned (.tuple #[.string r1, .int .i64 r2]) ∧ Below w.heap.size w w' := by
  have HR0 := Aside0.mk hr0
  have HC0 := Aside0.mk hc0
  clear hr0 hc0
  have HB := Aside0.mk (Below.refl w.heap.size w)
  have H : ((spec_l20Open.f l0).bind fun bt320 => ((spec_l20Deep.f k bt320.1 bt320.2 6).bind fun bt323 => ((spec_LineMany.f k bt323.1).bind fun t325 => ((spec_l20Rd_pick.f k bt320.1 bt323.2 (wrap64 ((mx 1 t325) + 2))).bind fun bt326 => (some (bt323.1, wrap64 (bt326.1 - 1))))))) = some (r1, r2) := h
  clear h
  replace H := Option.bind_eq_some_iff.mp H
  obtain ⟨⟨t320, t321⟩, A20, H⟩ := H
  replace H : ((spec_l20Deep.f k t320 t321 6).bind fun bt323 => ((spec_LineMany.f k bt323.1).bind fun t325 => ((spec_l20Rd_pick.f k t320 bt323.2 (wrap64 ((mx 1 t325) + 2))).bind fun bt326 => (some (bt323.1, wrap64 (bt326.1 - 1)))))) = some (r1, r2) := H
  have A2 := Aside0.mk A20
  clear A20
  replace H := Option.bind_eq_some_iff.mp H
  obtain ⟨⟨t323, t324⟩, A30, H⟩ := H
  replace H : ((spec_LineMany.f k t323).bind fun t325 => ((spec_l20Rd_pick.f k t320 t324 (wrap64 ((mx 1 t325) + 2))).bind fun bt326 => (some (t323, wrap64 (bt326.1 - 1))))) = some (r1, r2) := H
  have A3 := Aside0.mk A30
  clear A30
  replace H := Option.bind_eq_some_iff.mp H
  obtain ⟨t325, A40, H⟩ := H
  replace H : ((spec_l20Rd_pick.f k t320 t324 (wrap64 ((mx 1 t325) + 2))).bind fun bt326 => (some (t323, wrap64 (bt326.1 - 1)))) = some (r1, r2) := H
  have A4 := Aside0.mk A40
  clear A40
  obtain ⟨ji5, hji5⟩ : ∃ j_ : Int, (mx 1 t325) = j_ := ⟨_, rfl⟩
  replace H : ((spec_l20Rd_pick.f k t320 t324 (wrap64 ((ji5) + 2))).bind fun bt326 => (some (t323, wrap64 (bt326.1 - 1)))) = some (r1, r2) := by first | (rw [hji5] at H; exact H) | (simp only [hji5] at H ⊢; exact H)
  (try rw [hji5] at A2)
  (try rw [hji5] at A3)
  (try rw [hji5] at A4)
  (try (have hji5l : 1 ≤ ji5 := by (rw [← hji5]; unfold mx; (repeat' split) <;> omega)))
  (try (have hji5m : 0 ≤ ji5 := by omega))
  have hji5_ : (if 1 < t325 then t325 else 1) = ji5 := hji5
  replace H := Option.bind_eq_some_iff.mp H
  obtain ⟨⟨t326, t327⟩, A60, H⟩ := H
  replace H : (some (t323, wrap64 (t326 - 1))) = some (r1, r2) := H
  have A6 := Aside0.mk A60
  clear A60
  simp only [Option.some.injEq, Prod.mk.injEq] at H
  obtain ⟨rfl, rfl⟩ := H
  go_enter Tryd.func28, Tryd.ntmps28
  go_wp2_with (first | ((with_reducible refine gate_callee (f := 42) rfl ?_); refine goesL_ (some 7) rfl rfl Tryd.func42 (by kernel_rfl) rfl #[.slice A0 l0.length c0] rfl (by (try simp only [List.map_toArray, List.map_cons, List.map_nil]); first | done | rfl | (simp only [List.length_drop, List.length_take]; rfl)) ?_; (with_reducible refine (spec_l20Open.calls _ _ l0 t320 t321 w _ ?side1 ?side2 ?side3 A2.out).mono ?_); (case side1 => repeat (first | (with_reducible first | exact HB.out | apply below_alloc | apply pw_below_drewN | apply below_drew1) | exact HB.out)); (case side2 => exact HR0.out); (case side3 => exact HC0.out); rintro e w7 ⟨g322, rfl, hi, hb, hb2⟩; refine ⟨_, rfl, ?_⟩; have n0_ := Aside0.mk (hb); have n1_ := Aside0.mk (hi); clear HB; have HB := n0_; have HI322 := n1_; clear n0_ n1_; (try clear hb); (try clear hb2); (try clear hk); (try clear hi)) | ((with_reducible refine gate_callee (f := 46) rfl ?_); refine goesL_ (some 9) rfl rfl Tryd.func46 (by kernel_rfl) rfl #[.pointer (some ⟨g322, 0, none⟩), .int .i64 6] rfl (by (try simp only [List.map_toArray, List.map_cons, List.map_nil]); first | done | rfl | (simp only [List.length_drop, List.length_take]; rfl)) ?_; (with_reducible refine (spec_l20Deep.calls k g322 t320 t321 6 t323 t324 w _ ?side1 ?side2 A3.out).mono ?_); (case side1 => repeat (first | (with_reducible first | exact HI322.out | apply IsS56.alloc | apply IsS56.drewN | apply IsS56.drew | apply IsS56.set_1) | exact HI322.out)); (case side2 => repeat (first | (with_reducible first | exact HB.out | apply below_alloc | apply pw_below_drewN | apply below_drew1 | refine below_set ?_ (IsS56.ge HI322.out)) | exact HB.out)); rintro e w8 ⟨rfl, hi, hb, hk⟩; refine ⟨_, rfl, ?_⟩; have n0_ := Aside0.mk (hb); have n1_ := Aside0.mk (hi); clear HB; clear HI322; have HB := n0_; have HI322 := n1_; clear n0_ n1_; (try clear hb); (try clear hb2); (try clear hk); (try clear hi)) | ((with_reducible refine gate_callee (f := 39) rfl ?_); refine goesL_ (some 13) rfl rfl Tryd.func39 (by kernel_rfl) rfl #[.string t323] rfl (by (try simp only [List.map_toArray, List.map_cons, List.map_nil]); first | done | rfl | (simp only [List.length_drop, List.length_take]; rfl)) ?_; (with_reducible refine (spec_LineMany.calls k t323 t325 _ A4.out).mono ?_); rintro e w' ⟨rfl, ⟨nd, rfl⟩⟩; refine ⟨_, rfl, ?_⟩) | ((with_reducible refine gate_callee (f := 47) rfl ?_); refine goesL_ (some 16) rfl rfl Tryd.func47 (by kernel_rfl) rfl #[.pointer (some ⟨g322, 0, none⟩), .int .i64 (wrap64 ((ji5) + 2))] rfl (by (try simp only [List.map_toArray, List.map_cons, List.map_nil]); first | done | (simp only [hji5]; rfl) | rfl | (simp only [List.length_drop, List.length_take]; rfl)) ?_; (with_reducible refine (spec_l20Rd_pick.calls k g322 t320 t324 (wrap64 ((ji5) + 2)) t326 t327 w _ ?side1 ?side2 A6.out).mono ?_); (case side1 => repeat (first | (with_reducible first | exact HI322.out | apply IsS56.alloc | apply IsS56.drewN | apply IsS56.drew | apply IsS56.set_1) | exact HI322.out)); (case side2 => repeat (first | (with_reducible first | exact HB.out | apply below_alloc | apply pw_below_drewN | apply below_drew1 | refine below_set ?_ (IsS56.ge HI322.out)) | exact HB.out)); rintro e w9 ⟨rfl, hi, hb, hk⟩; refine ⟨_, rfl, ?_⟩; have n0_ := Aside0.mk (hb); have n1_ := Aside0.mk (hi); clear HB; clear HI322; have HB := n0_; have HI322 := n1_; clear n0_ n1_; (try clear hb); (try clear hb2); (try clear hk); (try clear hi)))
  go_ret2
  exact ⟨by first | rfl | (simp [errW_none, errW_some] <;> rfl) | (simp only [← hji5]; first | rfl | (simp [errW_none, errW_some] <;> rfl)) | (simp [*, errW_none, errW_some] <;> rfl), by repeat (first | (with_reducible first | exact HB.out | apply below_alloc | apply pw_below_drewN | apply below_drew1 | refine below_set ?_ (IsS56.ge HI322.out)) | exact HB.out)⟩

end Go.Proofs.YtdpnfdoplahfgaaDoor.X
