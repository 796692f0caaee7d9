-- written by a program of this session (wip/xprint.py) out of the translation
import Derived.Test.YtpaijbpenjjmkaaX0
import Derived.Test.YtpaijbpenjjmkaaX1
import Derived.Test.YtpaijbpenjjmkaaX7
import Derived.Test.YtpaijbpenjjmkaaX8
import Derived.Test.YtpaijbpenjjmkaaX9
import Derived.Test.YtpaijbpenjjmkaaX10
import Derived.Test.YtpaijbpenjjmkaaX13
namespace Go.Proofs.Ytpaijbpenjjmkaa.X
open Go.RowKit Go.Proofs.YtpaijbpenjjmkaaW.PrintWords Go.Proofs.YtpaijbpenjjmkaaW.PrintLast Go.Proofs.YtpaijbpenjjmkaaW.PrintMore
attribute [local go_sem] max2_int min2_int max_two min_two max_three min_three max_four min_four   -- for this text's walks alone
set_option linter.unusedVariables false
set_option linter.unusedSimpArgs false

/-! ### spec_DrawCompleteAt: function 32 -/
def spec_DrawCompleteAt.f (k : Nat) (l0 : List Int) : Option (ByteArray × Int × Int) := (spec_l20Open.f l0).bind fun bt478 => ((spec_l20Spot.f k bt478.1 bt478.2).bind fun bt481 => ((spec_l20Rd_pick.f k bt478.1 bt481.2.2 4).bind fun bt484 => ((spec_l20Rd_pick.f k bt478.1 bt484.2 9).bind fun bt486 => (some (bt481.1, bt481.2.1, wrap64 (bt484.1 - (wrap64 (Int.tdiv bt486.1 8))))))))
theorem spec_DrawCompleteAt.mono : ∀ a0 k, LeO (spec_DrawCompleteAt.f k a0) (spec_DrawCompleteAt.f (k + 1) a0) := by
  intro a0 k
  unfold spec_DrawCompleteAt.f
  repeat' first
      | (with_reducible exact spec_l20Rd_pick.mono _ _ _ _)
      | (with_reducible exact spec_l20Spot.mono _ _ _)
      | (with_reducible exact LeO.refl _)
      | (with_reducible exact LeO.none _)
      | (with_reducible refine LeO.ite ?_ ?_)
      | (with_reducible refine LeO.bind ?_ (fun _ => ?_))
      | exact spec_l20Rd_pick.mono _ _ _ _
      | exact spec_l20Spot.mono _ _ _
      | exact LeO.none _
      | refine LeO.ite ?_ ?_
      | refine LeO.bind ?_ (fun _ => ?_)
set_option maxHeartbeats 8000000 in
set_option maxRecDepth 100000 in
theorem spec_DrawCompleteAt.calls (k : Nat) (A0 : Option Addr) (c0 : Nat) (l0 : List Int) (r1 : ByteArray) (r2 : Int) (r3 : Int) (w : World) (hr0 : Kd.C (Kd.int .u8) w A0 l0.length l0) (hc0 : l0.length ≤ c0) (h : spec_DrawCompleteAt.f k l0 = some (r1, r2, r3)) :
    Calls Try.prog 32 #[.slice A0 l0.length c0] w fun e w' => e = .returned (.tuple #[.string r1, .int .i64 r2, .int .i64 r3]) ∧ Below w.heap.size w w' := by
  have HR0 := Aside0.mk hr0
  have HC0 := Aside0.mk hc0
  clear hr0 hc0
  have HB := Aside0.mk (Below.refl w.heap.size w)
  have H : ((spec_l20Open.f l0).bind fun bt478 => ((spec_l20Spot.f k bt478.1 bt478.2).bind fun bt481 => ((spec_l20Rd_pick.f k bt478.1 bt481.2.2 4).bind fun bt484 => ((spec_l20Rd_pick.f k bt478.1 bt484.2 9).bind fun bt486 => (some (bt481.1, bt481.2.1, wrap64 (bt484.1 - (wrap64 (Int.tdiv bt486.1 8))))))))) = some (r1, r2, r3) := h
  clear h
  replace H := Option.bind_eq_some_iff.mp H
  obtain ⟨⟨t478, t479⟩, A20, H⟩ := H
  replace H : ((spec_l20Spot.f k t478 t479).bind fun bt481 => ((spec_l20Rd_pick.f k t478 bt481.2.2 4).bind fun bt484 => ((spec_l20Rd_pick.f k t478 bt484.2 9).bind fun bt486 => (some (bt481.1, bt481.2.1, wrap64 (bt484.1 - (wrap64 (Int.tdiv bt486.1 8)))))))) = some (r1, r2, r3) := H
  have A2 := Aside0.mk A20
  clear A20
  replace H := Option.bind_eq_some_iff.mp H
  obtain ⟨⟨t481, t482, t483⟩, A30, H⟩ := H
  replace H : ((spec_l20Rd_pick.f k t478 t483 4).bind fun bt484 => ((spec_l20Rd_pick.f k t478 bt484.2 9).bind fun bt486 => (some (t481, t482, wrap64 (bt484.1 - (wrap64 (Int.tdiv bt486.1 8))))))) = some (r1, r2, r3) := H
  have A3 := Aside0.mk A30
  clear A30
  replace H := Option.bind_eq_some_iff.mp H
  obtain ⟨⟨t484, t485⟩, A40, H⟩ := H
  replace H : ((spec_l20Rd_pick.f k t478 t485 9).bind fun bt486 => (some (t481, t482, wrap64 (t484 - (wrap64 (Int.tdiv bt486.1 8)))))) = some (r1, r2, r3) := H
  have A4 := Aside0.mk A40
  clear A40
  replace H := Option.bind_eq_some_iff.mp H
  obtain ⟨⟨t486, t487⟩, A50, H⟩ := H
  replace H : (some (t481, t482, wrap64 (t484 - (wrap64 (Int.tdiv t486 8))))) = some (r1, r2, r3) := H
  have A5 := Aside0.mk A50
  clear A50
  simp only [Option.some.injEq, Prod.mk.injEq] at H
  obtain ⟨rfl, rfl, rfl⟩ := H
  go_enter Try.func32, Try.ntmps32
  go_wp2_with (first | ((with_reducible refine gate_callee (f := 34) rfl ?_); refine goesL_ (some 9) rfl rfl Try.func34 (by kernel_rfl) rfl #[.slice A0 l0.length c0] rfl (by (try simp only [List.map_toArray, List.map_cons, List.map_nil]); first | done | rfl | (simp only [List.length_drop, List.length_take]; rfl)) ?_; (with_reducible refine (spec_l20Open.calls _ _ l0 t478 t479 w _ ?side1 ?side2 ?side3 A2.out).mono ?_); (case side1 => repeat (first | (with_reducible first | exact HB.out | apply below_alloc | apply pw_below_drewN | apply below_drew1) | exact HB.out)); (case side2 => exact HR0.out); (case side3 => exact HC0.out); rintro e w6 ⟨g480, rfl, hi, hb, hb2⟩; refine ⟨_, rfl, ?_⟩; have n0_ := Aside0.mk (hb); have n1_ := Aside0.mk (hi); clear HB; have HB := n0_; have HI480 := n1_; clear n0_ n1_; (try clear hb); (try clear hb2); (try clear hk); (try clear hi)) | ((with_reducible refine gate_callee (f := 33) rfl ?_); refine goesL_ (some 12) rfl rfl Try.func33 (by kernel_rfl) rfl #[.pointer (some ⟨g480, 0, none⟩)] rfl (by (try simp only [List.map_toArray, List.map_cons, List.map_nil]); first | done | rfl | (simp only [List.length_drop, List.length_take]; rfl)) ?_; (with_reducible refine (spec_l20Spot.calls k g480 t478 t479 t481 t482 t483 w _ ?side1 ?side2 A3.out).mono ?_); (case side1 => repeat (first | (with_reducible first | exact HI480.out | apply IsS68.alloc | apply IsS68.drewN | apply IsS68.drew | apply IsS68.set_1) | exact HI480.out)); (case side2 => repeat (first | (with_reducible first | exact HB.out | apply below_alloc | apply pw_below_drewN | apply below_drew1 | refine below_set ?_ (IsS68.ge HI480.out)) | exact HB.out)); rintro e w7 ⟨rfl, hi, hb, hk⟩; refine ⟨_, rfl, ?_⟩; have n0_ := Aside0.mk (hb); have n1_ := Aside0.mk (hi); clear HB; clear HI480; have HB := n0_; have HI480 := n1_; clear n0_ n1_; (try clear hb); (try clear hb2); (try clear hk); (try clear hi)) | ((with_reducible refine gate_callee (f := 57) rfl ?_); refine goesL_ (some 18) rfl rfl Try.func57 (by kernel_rfl) rfl #[.pointer (some ⟨g480, 0, none⟩), .int .i64 4] rfl (by (try simp only [List.map_toArray, List.map_cons, List.map_nil]); first | done | rfl | (simp only [List.length_drop, List.length_take]; rfl)) ?_; (with_reducible refine (spec_l20Rd_pick.calls k g480 t478 t483 4 t484 t485 w _ ?side1 ?side2 A4.out).mono ?_); (case side1 => repeat (first | (with_reducible first | exact HI480.out | apply IsS68.alloc | apply IsS68.drewN | apply IsS68.drew | apply IsS68.set_1) | exact HI480.out)); (case side2 => repeat (first | (with_reducible first | exact HB.out | apply below_alloc | apply pw_below_drewN | apply below_drew1 | refine below_set ?_ (IsS68.ge HI480.out)) | exact HB.out)); rintro e w8 ⟨rfl, hi, hb, hk⟩; refine ⟨_, rfl, ?_⟩; have n0_ := Aside0.mk (hb); have n1_ := Aside0.mk (hi); clear HB; clear HI480; have HB := n0_; have HI480 := n1_; clear n0_ n1_; (try clear hb); (try clear hb2); (try clear hk); (try clear hi)) | ((with_reducible refine gate_callee (f := 57) rfl ?_); refine goesL_ (some 20) rfl rfl Try.func57 (by kernel_rfl) rfl #[.pointer (some ⟨g480, 0, none⟩), .int .i64 9] rfl (by (try simp only [List.map_toArray, List.map_cons, List.map_nil]); first | done | rfl | (simp only [List.length_drop, List.length_take]; rfl)) ?_; (with_reducible refine (spec_l20Rd_pick.calls k g480 t478 t485 9 t486 t487 w _ ?side1 ?side2 A5.out).mono ?_); (case side1 => repeat (first | (with_reducible first | exact HI480.out | apply IsS68.alloc | apply IsS68.drewN | apply IsS68.drew | apply IsS68.set_1) | exact HI480.out)); (case side2 => repeat (first | (with_reducible first | exact HB.out | apply below_alloc | apply pw_below_drewN | apply below_drew1 | refine below_set ?_ (IsS68.ge HI480.out)) | exact HB.out)); rintro e w9 ⟨rfl, hi, hb, hk⟩; refine ⟨_, rfl, ?_⟩; have n0_ := Aside0.mk (hb); have n1_ := Aside0.mk (hi); clear HB; clear HI480; have HB := n0_; have HI480 := n1_; clear n0_ n1_; (try clear hb); (try clear hb2); (try clear hk); (try clear hi)))
  go_ret3
  exact ⟨by first | rfl | (simp [errW_none, errW_some] <;> rfl) | (simp [*, errW_none, errW_some] <;> rfl), by repeat (first | (with_reducible first | exact HB.out | apply below_alloc | apply pw_below_drewN | apply below_drew1 | refine below_set ?_ (IsS68.ge HI480.out)) | exact HB.out)⟩

/-! ### laws_FnCompleteAt: function 10 -/
mutual
def laws_FnCompleteAt.j0 : Nat → ByteArray → Int → Int → ByteArray → Bool → Bool → Option (Bool)
  | 0, _, _, _, _, _, _ => none
  | k + 1, x3, x4, x5, x6, x7, x42 => if x42 = true then (some false) else (if x7 = true then ((impl_Completions.f k x3 x4).bind fun t497 => (if x5 < 0 then (laws_FnCompleteAt.j1 k x3 x4 x5 x6 t497 true) else (laws_FnCompleteAt.j1 k x3 x4 x5 x6 t497 (decide (x5 ≥ (t497.length : Int)))))) else (if x6.toList = ([] : List UInt8) then ((laws_alive.f k).bind fun t495 => (some t495)) else (if x6.toList = x3.toList then ((laws_alive.f k).bind fun t496 => (some t496)) else (some false))))
def laws_FnCompleteAt.j1 : Nat → ByteArray → Int → Int → ByteArray → List ByteArray → Bool → Option (Bool)
  | 0, _, _, _, _, _, _ => none
  | k + 1, x3, x4, x5, x6, x10, x65 => if x65 = true then (some false) else ((impl_NameBefore.f k x3 x4).bind fun t500 => (if 0 ≤ x5 then (if x5 < (x10.length : Int) then (if (wrap64 ((wrap64 (x4 - (t500.size : Int))) + ((rdOf ByteArray.empty x10 x5).size : Int))) ≤ (x6.size : Int) then (if 0 ≤ (wrap64 ((wrap64 (x4 - (t500.size : Int))) + ((rdOf ByteArray.empty x10 x5).size : Int))) then (if 0 ≤ x4 then (if x4 ≤ (x3.size : Int) then (if (x6.extract ((wrap64 ((wrap64 (x4 - (t500.size : Int))) + ((rdOf ByteArray.empty x10 x5).size : Int))) : Int).toNat x6.size).toList = (x3.extract (x4 : Int).toNat x3.size).toList then ((impl_NameBefore.f k x6 (wrap64 ((wrap64 (x4 - (t500.size : Int))) + ((rdOf ByteArray.empty x10 x5).size : Int)))).bind fun t502 => (some (t502.toList == (rdOf ByteArray.empty x10 x5).toList))) else (some false)) else (none)) else (none)) else (none)) else (some false)) else (none)) else (none)))
end
def laws_FnCompleteAt.f (k : Nat) (l0 : List Int) : Option (Bool) := if (l0.length : Int) > 1048576 then (some true) else ((spec_DrawCompleteAt.f k l0).bind fun bt488 => ((impl_CompleteAt.f k bt488.1 bt488.2.1 bt488.2.2).bind fun bt491 => ((spec_CompleteAt.f k bt488.1 bt488.2.1 bt488.2.2).bind fun bt493 => (if bt491.1.toList = bt493.1.toList then (laws_FnCompleteAt.j0 k bt488.1 bt488.2.1 bt488.2.2 bt491.1 bt491.2 (bt491.2 != bt493.2)) else (laws_FnCompleteAt.j0 k bt488.1 bt488.2.1 bt488.2.2 bt491.1 bt491.2 true)))))
theorem laws_FnCompleteAt.mono_l : ∀ k, (∀ y0 y1 y2 y3 y4 y5, LeO (laws_FnCompleteAt.j0 k y0 y1 y2 y3 y4 y5) (laws_FnCompleteAt.j0 (k + 1) y0 y1 y2 y3 y4 y5)) ∧ (∀ y0 y1 y2 y3 y4 y5, LeO (laws_FnCompleteAt.j1 k y0 y1 y2 y3 y4 y5) (laws_FnCompleteAt.j1 (k + 1) y0 y1 y2 y3 y4 y5))
  | 0 => ⟨fun _ _ _ _ _ _ r h => by simp [laws_FnCompleteAt.j0] at h, fun _ _ _ _ _ _ r h => by simp [laws_FnCompleteAt.j1] at h⟩
  | k + 1 => by
    obtain ⟨ih0, ih1⟩ := laws_FnCompleteAt.mono_l k
    refine ⟨?_, ?_⟩
    · intro y0 y1 y2 y3 y4 y5
      unfold laws_FnCompleteAt.j0
      repeat' first
      | (with_reducible exact ih0 _ _ _ _ _ _)
      | (with_reducible exact ih1 _ _ _ _ _ _)
      | (with_reducible exact impl_CompleteAt.mono _ _ _ _)
      | (with_reducible exact impl_Completions.mono _ _ _)
      | (with_reducible exact impl_NameBefore.mono _ _ _)
      | (with_reducible exact laws_alive.mono _)
      | (with_reducible exact spec_CompleteAt.mono _ _ _ _)
      | (with_reducible exact spec_DrawCompleteAt.mono _ _)
      | (with_reducible exact LeO.refl _)
      | (with_reducible exact LeO.none _)
      | (with_reducible refine LeO.ite ?_ ?_)
      | (with_reducible refine LeO.bind ?_ (fun _ => ?_))
      | exact ih0 _ _ _ _ _ _
      | exact ih1 _ _ _ _ _ _
      | exact impl_CompleteAt.mono _ _ _ _
      | exact impl_Completions.mono _ _ _
      | exact impl_NameBefore.mono _ _ _
      | exact laws_alive.mono _
      | exact spec_CompleteAt.mono _ _ _ _
      | exact spec_DrawCompleteAt.mono _ _
      | exact LeO.none _
      | refine LeO.ite ?_ ?_
      | refine LeO.bind ?_ (fun _ => ?_)
    · intro y0 y1 y2 y3 y4 y5
      unfold laws_FnCompleteAt.j1
      repeat' first
      | (with_reducible exact ih0 _ _ _ _ _ _)
      | (with_reducible exact ih1 _ _ _ _ _ _)
      | (with_reducible exact impl_CompleteAt.mono _ _ _ _)
      | (with_reducible exact impl_Completions.mono _ _ _)
      | (with_reducible exact impl_NameBefore.mono _ _ _)
      | (with_reducible exact laws_alive.mono _)
      | (with_reducible exact spec_CompleteAt.mono _ _ _ _)
      | (with_reducible exact spec_DrawCompleteAt.mono _ _)
      | (with_reducible exact LeO.refl _)
      | (with_reducible exact LeO.none _)
      | (with_reducible refine LeO.ite ?_ ?_)
      | (with_reducible refine LeO.bind ?_ (fun _ => ?_))
      | exact ih0 _ _ _ _ _ _
      | exact ih1 _ _ _ _ _ _
      | exact impl_CompleteAt.mono _ _ _ _
      | exact impl_Completions.mono _ _ _
      | exact impl_NameBefore.mono _ _ _
      | exact laws_alive.mono _
      | exact spec_CompleteAt.mono _ _ _ _
      | exact spec_DrawCompleteAt.mono _ _
      | exact LeO.none _
      | refine LeO.ite ?_ ?_
      | refine LeO.bind ?_ (fun _ => ?_)
theorem laws_FnCompleteAt.mono : ∀ a0 k, LeO (laws_FnCompleteAt.f k a0) (laws_FnCompleteAt.f (k + 1) a0) := by
  intro a0 k
  obtain ⟨ih0, ih1⟩ := laws_FnCompleteAt.mono_l k
  unfold laws_FnCompleteAt.f
  repeat' first
      | (with_reducible exact ih0 _ _ _ _ _ _)
      | (with_reducible exact ih1 _ _ _ _ _ _)
      | (with_reducible exact impl_CompleteAt.mono _ _ _ _)
      | (with_reducible exact impl_Completions.mono _ _ _)
      | (with_reducible exact impl_NameBefore.mono _ _ _)
      | (with_reducible exact laws_alive.mono _)
      | (with_reducible exact spec_CompleteAt.mono _ _ _ _)
      | (with_reducible exact spec_DrawCompleteAt.mono _ _)
      | (with_reducible exact LeO.refl _)
      | (with_reducible exact LeO.none _)
      | (with_reducible refine LeO.ite ?_ ?_)
      | (with_reducible refine LeO.bind ?_ (fun _ => ?_))
      | exact ih0 _ _ _ _ _ _
      | exact ih1 _ _ _ _ _ _
      | exact impl_CompleteAt.mono _ _ _ _
      | exact impl_Completions.mono _ _ _
      | exact impl_NameBefore.mono _ _ _
      | exact laws_alive.mono _
      | exact spec_CompleteAt.mono _ _ _ _
      | exact spec_DrawCompleteAt.mono _ _
      | exact LeO.none _
      | refine LeO.ite ?_ ?_
      | refine LeO.bind ?_ (fun _ => ?_)
set_option maxHeartbeats 8000000 in
set_option maxRecDepth 100000 in
theorem laws_FnCompleteAt.calls (k : Nat) (A0 : Option Addr) (c0 : Nat) (l0 : List Int) (r : Bool) (w : World) (hr0 : Kd.C (Kd.int .u8) w A0 l0.length l0) (hc0 : l0.length ≤ c0) (h : laws_FnCompleteAt.f k l0 = some r) :
    Calls Try.prog 10 #[.slice A0 l0.length c0] w fun e w' => e = .returned (.bool r) ∧ Below w.heap.size w w' := by
  have HR0 := Aside0.mk hr0
  have HC0 := Aside0.mk hc0
  clear hr0 hc0
  have HB := Aside0.mk (Below.refl w.heap.size w)
  have H : (if (l0.length : Int) > 1048576 then (some true) else ((spec_DrawCompleteAt.f k l0).bind fun bt488 => ((impl_CompleteAt.f k bt488.1 bt488.2.1 bt488.2.2).bind fun bt491 => ((spec_CompleteAt.f k bt488.1 bt488.2.1 bt488.2.2).bind fun bt493 => (if bt491.1.toList = bt493.1.toList then (laws_FnCompleteAt.j0 k bt488.1 bt488.2.1 bt488.2.2 bt491.1 bt491.2 (bt491.2 != bt493.2)) else (laws_FnCompleteAt.j0 k bt488.1 bt488.2.1 bt488.2.2 bt491.1 bt491.2 true)))))) = some r := h
  clear h
  by_cases c2 : (l0.length : Int) > 1048576
  · rw [if_pos c2] at H
    have c2b0 : decide (1048576 < (l0.length : Int)) = true := decide_eq_true c2
    have c2b1 : decide (1048576 < l0.length) = true := decide_eq_true (by omega)
    clear c2
    obtain rfl := Option.some.inj H
    go_enter Try.func10, Try.ntmps10
    go_wp2
    repeat (go_quiet (fail); try go_wp2)
    go_ret
    exact ⟨by first | rfl | (simp [errW_none, errW_some] <;> rfl) | (simp [*, errW_none, errW_some] <;> rfl), by repeat (first | (with_reducible first | exact HB.out | apply below_alloc | apply pw_below_drewN | apply below_drew1) | exact HB.out)⟩
  · rw [if_neg c2] at H
    have c2b0 : decide (1048576 < (l0.length : Int)) = false := decide_eq_false c2
    have c2b1 : decide (1048576 < l0.length) = false := decide_eq_false (by omega)
    clear c2
    replace H := Option.bind_eq_some_iff.mp H
    obtain ⟨⟨t488, t489, t490⟩, A30, H⟩ := H
    replace H : ((impl_CompleteAt.f k t488 t489 t490).bind fun bt491 => ((spec_CompleteAt.f k t488 t489 t490).bind fun bt493 => (if bt491.1.toList = bt493.1.toList then (laws_FnCompleteAt.j0 k t488 t489 t490 bt491.1 bt491.2 (bt491.2 != bt493.2)) else (laws_FnCompleteAt.j0 k t488 t489 t490 bt491.1 bt491.2 true)))) = some r := H
    have A3 := Aside0.mk A30
    clear A30
    replace H := Option.bind_eq_some_iff.mp H
    obtain ⟨⟨t491, t492⟩, A40, H⟩ := H
    replace H : ((spec_CompleteAt.f k t488 t489 t490).bind fun bt493 => (if t491.toList = bt493.1.toList then (laws_FnCompleteAt.j0 k t488 t489 t490 t491 t492 (t492 != bt493.2)) else (laws_FnCompleteAt.j0 k t488 t489 t490 t491 t492 true))) = some r := H
    have A4 := Aside0.mk A40
    clear A40
    replace H := Option.bind_eq_some_iff.mp H
    obtain ⟨⟨t493, t494⟩, A50, H⟩ := H
    replace H : (if t491.toList = t493.toList then (laws_FnCompleteAt.j0 k t488 t489 t490 t491 t492 (t492 != t494)) else (laws_FnCompleteAt.j0 k t488 t489 t490 t491 t492 true)) = some r := H
    have A5 := Aside0.mk A50
    clear A50
    have HC6 := Aside0.mk H
    clear H
    go_enter Try.func10, Try.ntmps10
    go_upto_region 6 with (first | (go_at_call 32; (with_reducible refine (spec_DrawCompleteAt.calls k _ _ l0 t488 t489 t490 _ ?side1 ?side2 A3.out).mono ?_); (case side1 => repeat (first | exact HR0.out | (with_reducible refine Kd.C_alloc ?_ _) | (with_reducible refine Kd.C_drewN ?_ _) | (with_reducible refine Kd.C_drew ?_))); (case side2 => exact HC0.out); rintro e w7 ⟨rfl, hb⟩; have n0_ := Aside0.mk (below_step (by repeat (first | (with_reducible first | exact HB.out | apply below_alloc | apply pw_below_drewN | apply below_drew1) | exact HB.out)) hb); clear HB; have HB := n0_; clear n0_; (try clear hb); (try clear hb2); (try clear hk); (try clear hi)) | (go_at_call 24; (with_reducible refine (impl_CompleteAt.calls k t488 t489 t490 t491 t492 _ A4.out).mono ?_); rintro e w8 ⟨rfl, hb⟩; have n0_ := Aside0.mk (below_step (by repeat (first | (with_reducible first | exact HB.out | apply below_alloc | apply pw_below_drewN | apply below_drew1) | exact HB.out)) hb); clear HB; have HB := n0_; clear n0_; (try clear hb); (try clear hb2); (try clear hk); (try clear hi)) | (go_at_call 23; (with_reducible refine (spec_CompleteAt.calls k t488 t489 t490 t493 t494 _ A5.out).mono ?_); rintro e w9 ⟨rfl, hb⟩; have n0_ := Aside0.mk (below_step (by repeat (first | (with_reducible first | exact HB.out | apply below_alloc | apply pw_below_drewN | apply below_drew1) | exact HB.out)) hb); clear HB; have HB := n0_; clear n0_; (try clear hb); (try clear hb2); (try clear hk); (try clear hi)))
    repeat (first | go_quiet (first | (go_at_call 32; (with_reducible refine (spec_DrawCompleteAt.calls k _ _ l0 t488 t489 t490 _ ?side1 ?side2 A3.out).mono ?_); (case side1 => repeat (first | exact HR0.out | (with_reducible refine Kd.C_alloc ?_ _) | (with_reducible refine Kd.C_drewN ?_ _) | (with_reducible refine Kd.C_drew ?_))); (case side2 => exact HC0.out); rintro e w7 ⟨rfl, hb⟩; have n0_ := Aside0.mk (below_step (by repeat (first | (with_reducible first | exact HB.out | apply below_alloc | apply pw_below_drewN | apply below_drew1) | exact HB.out)) hb); clear HB; have HB := n0_; clear n0_; (try clear hb); (try clear hb2); (try clear hk); (try clear hi)) | (go_at_call 24; (with_reducible refine (impl_CompleteAt.calls k t488 t489 t490 t491 t492 _ A4.out).mono ?_); rintro e w8 ⟨rfl, hb⟩; have n0_ := Aside0.mk (below_step (by repeat (first | (with_reducible first | exact HB.out | apply below_alloc | apply pw_below_drewN | apply below_drew1) | exact HB.out)) hb); clear HB; have HB := n0_; clear n0_; (try clear hb); (try clear hb2); (try clear hk); (try clear hi)) | (go_at_call 23; (with_reducible refine (spec_CompleteAt.calls k t488 t489 t490 t493 t494 _ A5.out).mono ?_); rintro e w9 ⟨rfl, hb⟩; have n0_ := Aside0.mk (below_step (by repeat (first | (with_reducible first | exact HB.out | apply below_alloc | apply pw_below_drewN | apply below_drew1) | exact HB.out)) hb); clear HB; have HB := n0_; clear n0_; (try clear hb); (try clear hb2); (try clear hk); (try clear hi))); go_upto_region 6 with (first | (go_at_call 32; (with_reducible refine (spec_DrawCompleteAt.calls k _ _ l0 t488 t489 t490 _ ?side1 ?side2 A3.out).mono ?_); (case side1 => repeat (first | exact HR0.out | (with_reducible refine Kd.C_alloc ?_ _) | (with_reducible refine Kd.C_drewN ?_ _) | (with_reducible refine Kd.C_drew ?_))); (case side2 => exact HC0.out); rintro e w7 ⟨rfl, hb⟩; have n0_ := Aside0.mk (below_step (by repeat (first | (with_reducible first | exact HB.out | apply below_alloc | apply pw_below_drewN | apply below_drew1) | exact HB.out)) hb); clear HB; have HB := n0_; clear n0_; (try clear hb); (try clear hb2); (try clear hk); (try clear hi)) | (go_at_call 24; (with_reducible refine (impl_CompleteAt.calls k t488 t489 t490 t491 t492 _ A4.out).mono ?_); rintro e w8 ⟨rfl, hb⟩; have n0_ := Aside0.mk (below_step (by repeat (first | (with_reducible first | exact HB.out | apply below_alloc | apply pw_below_drewN | apply below_drew1) | exact HB.out)) hb); clear HB; have HB := n0_; clear n0_; (try clear hb); (try clear hb2); (try clear hk); (try clear hi)) | (go_at_call 23; (with_reducible refine (spec_CompleteAt.calls k t488 t489 t490 t493 t494 _ A5.out).mono ?_); rintro e w9 ⟨rfl, hb⟩; have n0_ := Aside0.mk (below_step (by repeat (first | (with_reducible first | exact HB.out | apply below_alloc | apply pw_below_drewN | apply below_drew1) | exact HB.out)) hb); clear HB; have HB := n0_; clear n0_; (try clear hb); (try clear hb2); (try clear hk); (try clear hi))) | ((try simp only [i64_w]); go_quiet (first | (go_at_call 32; (with_reducible refine (spec_DrawCompleteAt.calls k _ _ l0 t488 t489 t490 _ ?side1 ?side2 A3.out).mono ?_); (case side1 => repeat (first | exact HR0.out | (with_reducible refine Kd.C_alloc ?_ _) | (with_reducible refine Kd.C_drewN ?_ _) | (with_reducible refine Kd.C_drew ?_))); (case side2 => exact HC0.out); rintro e w7 ⟨rfl, hb⟩; have n0_ := Aside0.mk (below_step (by repeat (first | (with_reducible first | exact HB.out | apply below_alloc | apply pw_below_drewN | apply below_drew1) | exact HB.out)) hb); clear HB; have HB := n0_; clear n0_; (try clear hb); (try clear hb2); (try clear hk); (try clear hi)) | (go_at_call 24; (with_reducible refine (impl_CompleteAt.calls k t488 t489 t490 t491 t492 _ A4.out).mono ?_); rintro e w8 ⟨rfl, hb⟩; have n0_ := Aside0.mk (below_step (by repeat (first | (with_reducible first | exact HB.out | apply below_alloc | apply pw_below_drewN | apply below_drew1) | exact HB.out)) hb); clear HB; have HB := n0_; clear n0_; (try clear hb); (try clear hb2); (try clear hk); (try clear hi)) | (go_at_call 23; (with_reducible refine (spec_CompleteAt.calls k t488 t489 t490 t493 t494 _ A5.out).mono ?_); rintro e w9 ⟨rfl, hb⟩; have n0_ := Aside0.mk (below_step (by repeat (first | (with_reducible first | exact HB.out | apply below_alloc | apply pw_below_drewN | apply below_drew1) | exact HB.out)) hb); clear HB; have HB := n0_; clear n0_; (try clear hb); (try clear hb2); (try clear hk); (try clear hi))); go_upto_region 6 with (first | (go_at_call 32; (with_reducible refine (spec_DrawCompleteAt.calls k _ _ l0 t488 t489 t490 _ ?side1 ?side2 A3.out).mono ?_); (case side1 => repeat (first | exact HR0.out | (with_reducible refine Kd.C_alloc ?_ _) | (with_reducible refine Kd.C_drewN ?_ _) | (with_reducible refine Kd.C_drew ?_))); (case side2 => exact HC0.out); rintro e w7 ⟨rfl, hb⟩; have n0_ := Aside0.mk (below_step (by repeat (first | (with_reducible first | exact HB.out | apply below_alloc | apply pw_below_drewN | apply below_drew1) | exact HB.out)) hb); clear HB; have HB := n0_; clear n0_; (try clear hb); (try clear hb2); (try clear hk); (try clear hi)) | (go_at_call 24; (with_reducible refine (impl_CompleteAt.calls k t488 t489 t490 t491 t492 _ A4.out).mono ?_); rintro e w8 ⟨rfl, hb⟩; have n0_ := Aside0.mk (below_step (by repeat (first | (with_reducible first | exact HB.out | apply below_alloc | apply pw_below_drewN | apply below_drew1) | exact HB.out)) hb); clear HB; have HB := n0_; clear n0_; (try clear hb); (try clear hb2); (try clear hk); (try clear hi)) | (go_at_call 23; (with_reducible refine (spec_CompleteAt.calls k t488 t489 t490 t493 t494 _ A5.out).mono ?_); rintro e w9 ⟨rfl, hb⟩; have n0_ := Aside0.mk (below_step (by repeat (first | (with_reducible first | exact HB.out | apply below_alloc | apply pw_below_drewN | apply below_drew1) | exact HB.out)) hb); clear HB; have HB := n0_; clear n0_; (try clear hb); (try clear hb2); (try clear hk); (try clear hi)))))
    (try simp only [Act.put, List.setIfInBounds_toArray, List.set_cons_zero, List.set_cons_succ])
    go_cut [42] (fun v42 wc => ∃ (kq : Nat) (x42_5 : Bool), v42 = .bool x42_5 ∧ Aside0 (laws_FnCompleteAt.j0 kq t488 t489 t490 t491 t492 x42_5 = some r) ∧ Aside0 (kq ≤ k) ∧ Aside0 (Below w.heap.size w wc))
    case first =>
      have H := HC6.out
      clear HC6
      by_cases c10 : t491.toList = t493.toList
      · rw [if_pos c10] at H
        have c10b0 : (t491.toList == t493.toList) = true := beq_iff_eq.mpr c10
        have c10b1 : (t491.toList != t493.toList) = false := bne_eq_false_iff_eq.mpr c10
        clear c10
        (first | rw [c10b0] | (simp only [i64_w, i32_w]; rw [c10b0]) | skip)
        have H' := Aside0.mk H
        clear H
        go_wp2
        repeat (go_quiet (fail); try go_wp2)
        go_meet
        case rel => exact ⟨_, ((t492 != t494)), (by first | rfl | (simp; done) | (simp [*]; done)), H', ⟨by first | omega | exact Nat.le_refl _⟩, ⟨by repeat (first | (with_reducible first | exact HB.out | apply below_alloc | apply pw_below_drewN | apply below_drew1) | exact HB.out)⟩⟩
      · rw [if_neg c10] at H
        have c10b0 : (t491.toList == t493.toList) = false := beq_eq_false_iff_ne.mpr c10
        have c10b1 : (t491.toList != t493.toList) = true := bne_iff_ne.mpr c10
        (first | rw [c10b0] | (simp only [i64_w, i32_w]; rw [c10b0]) | skip)
        have H' := Aside0.mk H
        clear H
        go_wp2
        repeat (go_quiet (fail); try go_wp2)
        go_meet
        case rel => exact ⟨_, (true), (by first | rfl | (simp; done) | (simp [*]; done)), H', ⟨by first | omega | exact Nat.le_refl _⟩, ⟨by repeat (first | (with_reducible first | exact HB.out | apply below_alloc | apply pw_below_drewN | apply below_drew1) | exact HB.out)⟩⟩
    case rest =>
      clear HC6
      try clear c1
      try clear c2
      try clear c2b0
      try clear c2b1
      try clear p2
      try clear c10
      try clear c10b0
      try clear c10b1
      obtain ⟨kq, x42_5, rfl, HA, HJ5, HB⟩ := hcut
      cases kq with
      | zero => exact absurd HA.out (by simp [laws_FnCompleteAt.j0])
      | succ kj5 =>
        have H := HA.out
        clear HA
        simp only [laws_FnCompleteAt.j0] at H
        by_cases c11 : x42_5 = true
        · subst c11
          have H1 : (some false) = some r := by rw [if_pos rfl] at H; exact H
          clear H
          have H := H1
          clear H1
          obtain rfl := Option.some.inj H
          go_wp2
          repeat (go_quiet (fail); try go_wp2)
          go_ret
          exact ⟨by first | rfl | (simp [errW_none, errW_some] <;> rfl) | (simp [*, errW_none, errW_some] <;> rfl), by repeat (first | (with_reducible first | exact HB.out | apply below_alloc | apply pw_below_drewN | apply below_drew1) | exact HB.out)⟩
        · replace c11 := Bool.eq_false_iff.mpr c11
          subst c11
          have H1 : (if t492 = true then ((impl_Completions.f kj5 t488 t489).bind fun t497 => (if t490 < 0 then (laws_FnCompleteAt.j1 kj5 t488 t489 t490 t491 t497 true) else (laws_FnCompleteAt.j1 kj5 t488 t489 t490 t491 t497 (decide (t490 ≥ (t497.length : Int)))))) else (if t491.toList = ([] : List UInt8) then ((laws_alive.f kj5).bind fun t495 => (some t495)) else (if t491.toList = t488.toList then ((laws_alive.f kj5).bind fun t496 => (some t496)) else (some false)))) = some r := by rw [if_neg (show ¬ (false = true) by decide)] at H; exact H
          clear H
          have H := H1
          clear H1
          by_cases c12 : t492 = true
          · subst c12
            have H1 : ((impl_Completions.f kj5 t488 t489).bind fun t497 => (if t490 < 0 then (laws_FnCompleteAt.j1 kj5 t488 t489 t490 t491 t497 true) else (laws_FnCompleteAt.j1 kj5 t488 t489 t490 t491 t497 (decide (t490 ≥ (t497.length : Int)))))) = some r := by rw [if_pos rfl] at H; exact H
            clear H
            have H := H1
            clear H1
            replace H := Option.bind_eq_some_iff.mp H
            obtain ⟨t497, A130, H⟩ := H
            replace H : (if t490 < 0 then (laws_FnCompleteAt.j1 kj5 t488 t489 t490 t491 t497 true) else (laws_FnCompleteAt.j1 kj5 t488 t489 t490 t491 t497 (decide (t490 ≥ (t497.length : Int))))) = some r := H
            have A13 := Aside0.mk A130
            clear A130
            have HC14 := Aside0.mk H
            clear H
            go_upto_region 11 with (first | (go_at_call 22; (with_reducible refine (impl_Completions.calls kj5 t488 t489 t497 _ A13.out).mono ?_); rintro e w15 ⟨v498, rfl, ho0, hb⟩; have n0_ := Aside0.mk (Kd.R_lower ho0 (below_size (by repeat (first | (with_reducible first | exact HB.out | apply below_alloc | apply pw_below_drewN | apply below_drew1) | exact HB.out)))); have n1_ := Aside0.mk (below_step (by repeat (first | (with_reducible first | exact HB.out | apply below_alloc | apply pw_below_drewN | apply below_drew1) | exact HB.out)) hb); clear HB; have HO499 := n0_; have HB := n1_; clear n0_ n1_; (try clear hb); (try clear hb2); (try clear hk); (try clear hi); (try clear ho0)))
            repeat (first | go_quiet (first | (go_at_call 22; (with_reducible refine (impl_Completions.calls kj5 t488 t489 t497 _ A13.out).mono ?_); rintro e w15 ⟨v498, rfl, ho0, hb⟩; have n0_ := Aside0.mk (Kd.R_lower ho0 (below_size (by repeat (first | (with_reducible first | exact HB.out | apply below_alloc | apply pw_below_drewN | apply below_drew1) | exact HB.out)))); have n1_ := Aside0.mk (below_step (by repeat (first | (with_reducible first | exact HB.out | apply below_alloc | apply pw_below_drewN | apply below_drew1) | exact HB.out)) hb); clear HB; have HO499 := n0_; have HB := n1_; clear n0_ n1_; (try clear hb); (try clear hb2); (try clear hk); (try clear hi); (try clear ho0))); go_upto_region 11 with (first | (go_at_call 22; (with_reducible refine (impl_Completions.calls kj5 t488 t489 t497 _ A13.out).mono ?_); rintro e w15 ⟨v498, rfl, ho0, hb⟩; have n0_ := Aside0.mk (Kd.R_lower ho0 (below_size (by repeat (first | (with_reducible first | exact HB.out | apply below_alloc | apply pw_below_drewN | apply below_drew1) | exact HB.out)))); have n1_ := Aside0.mk (below_step (by repeat (first | (with_reducible first | exact HB.out | apply below_alloc | apply pw_below_drewN | apply below_drew1) | exact HB.out)) hb); clear HB; have HO499 := n0_; have HB := n1_; clear n0_ n1_; (try clear hb); (try clear hb2); (try clear hk); (try clear hi); (try clear ho0))) | ((try simp only [i64_w]); go_quiet (first | (go_at_call 22; (with_reducible refine (impl_Completions.calls kj5 t488 t489 t497 _ A13.out).mono ?_); rintro e w15 ⟨v498, rfl, ho0, hb⟩; have n0_ := Aside0.mk (Kd.R_lower ho0 (below_size (by repeat (first | (with_reducible first | exact HB.out | apply below_alloc | apply pw_below_drewN | apply below_drew1) | exact HB.out)))); have n1_ := Aside0.mk (below_step (by repeat (first | (with_reducible first | exact HB.out | apply below_alloc | apply pw_below_drewN | apply below_drew1) | exact HB.out)) hb); clear HB; have HO499 := n0_; have HB := n1_; clear n0_ n1_; (try clear hb); (try clear hb2); (try clear hk); (try clear hi); (try clear ho0))); go_upto_region 11 with (first | (go_at_call 22; (with_reducible refine (impl_Completions.calls kj5 t488 t489 t497 _ A13.out).mono ?_); rintro e w15 ⟨v498, rfl, ho0, hb⟩; have n0_ := Aside0.mk (Kd.R_lower ho0 (below_size (by repeat (first | (with_reducible first | exact HB.out | apply below_alloc | apply pw_below_drewN | apply below_drew1) | exact HB.out)))); have n1_ := Aside0.mk (below_step (by repeat (first | (with_reducible first | exact HB.out | apply below_alloc | apply pw_below_drewN | apply below_drew1) | exact HB.out)) hb); clear HB; have HO499 := n0_; have HB := n1_; clear n0_ n1_; (try clear hb); (try clear hb2); (try clear hk); (try clear hi); (try clear ho0)))))
            (try simp only [Act.put, List.setIfInBounds_toArray, List.set_cons_zero, List.set_cons_succ])
            go_cut [65] (fun v65 wc => ∃ (kq : Nat) (x65_13 : Bool), v65 = .bool x65_13 ∧ Aside0 (laws_FnCompleteAt.j1 kq t488 t489 t490 t491 t497 x65_13 = some r) ∧ Aside0 (kq ≤ kj5) ∧ Aside0 (Kd.R Kd.string 9 wc w.heap.size (fun _ => True) v498 t497) ∧ Aside0 (Below w.heap.size w wc))
            case first =>
              have H := HC14.out
              clear HC14
              by_cases c16 : t490 < 0
              · rw [if_pos c16] at H
                have c16b0 : decide (t490 < 0) = true := decide_eq_true c16
                clear c16
                (first | rw [c16b0] | (simp only [i64_w, i32_w]; rw [c16b0]) | skip)
                have H' := Aside0.mk H
                clear H
                go_wp2
                repeat (go_quiet (fail); try go_wp2)
                go_meet
                case rel => exact ⟨_, (true), (by first | rfl | (simp; done) | (simp [*]; done)), H', ⟨by have := HJ5.out; first | omega | exact Nat.le_refl _⟩, ⟨by (with_reducible repeat (first | apply Kd.R_alloc | apply Kd.R_drewN | apply Kd.R_drew)); exact HO499.out⟩, ⟨by repeat (first | (with_reducible first | exact HB.out | apply below_alloc | apply pw_below_drewN | apply below_drew1) | exact HB.out)⟩⟩
              · rw [if_neg c16] at H
                have c16b0 : decide (t490 < 0) = false := decide_eq_false c16
                clear c16
                (first | rw [c16b0] | (simp only [i64_w, i32_w]; rw [c16b0]) | skip)
                have H' := Aside0.mk H
                clear H
                obtain ⟨Ao17, co17, eo17⟩ := Kd.R_slice HO499.out
                subst eo17
                go_wp2
                repeat (go_quiet (fail); try go_wp2)
                go_meet
                case rel => exact ⟨_, (decide (t490 ≥ (t497.length : Int))), (by first | rfl | (simp; done) | (simp [*]; done)), H', ⟨by have := HJ5.out; first | omega | exact Nat.le_refl _⟩, ⟨by (with_reducible repeat (first | apply Kd.R_alloc | apply Kd.R_drewN | apply Kd.R_drew)); exact HO499.out⟩, ⟨by repeat (first | (with_reducible first | exact HB.out | apply below_alloc | apply pw_below_drewN | apply below_drew1) | exact HB.out)⟩⟩
            case rest =>
              clear HC14
              try clear c1
              try clear c2
              try clear c2b0
              try clear c2b1
              try clear p2
              try clear c10
              try clear c10b0
              try clear c10b1
              try clear c11
              try clear c12
              try clear c16
              try clear c16b0
              try clear p2
              obtain ⟨kq, x65_13, rfl, HA, HJ13, HO_10, HB⟩ := hcut
              cases kq with
              | zero => exact absurd HA.out (by simp [laws_FnCompleteAt.j1])
              | succ kj13 =>
                have H := HA.out
                clear HA
                simp only [laws_FnCompleteAt.j1] at H
                by_cases c18 : x65_13 = true
                · subst c18
                  have H1 : (some false) = some r := by rw [if_pos rfl] at H; exact H
                  clear H
                  have H := H1
                  clear H1
                  obtain rfl := Option.some.inj H
                  go_wp2
                  repeat (go_quiet (fail); try go_wp2)
                  go_ret
                  exact ⟨by first | rfl | (simp [errW_none, errW_some] <;> rfl) | (simp [*, errW_none, errW_some] <;> rfl), by repeat (first | (with_reducible first | exact HB.out | apply below_alloc | apply pw_below_drewN | apply below_drew1) | exact HB.out)⟩
                · replace c18 := Bool.eq_false_iff.mpr c18
                  subst c18
                  have H1 : ((impl_NameBefore.f kj13 t488 t489).bind fun t500 => (if 0 ≤ t490 then (if t490 < (t497.length : Int) then (if (wrap64 ((wrap64 (t489 - (t500.size : Int))) + ((rdOf ByteArray.empty t497 t490).size : Int))) ≤ (t491.size : Int) then (if 0 ≤ (wrap64 ((wrap64 (t489 - (t500.size : Int))) + ((rdOf ByteArray.empty t497 t490).size : Int))) then (if 0 ≤ t489 then (if t489 ≤ (t488.size : Int) then (if (t491.extract ((wrap64 ((wrap64 (t489 - (t500.size : Int))) + ((rdOf ByteArray.empty t497 t490).size : Int))) : Int).toNat t491.size).toList = (t488.extract (t489 : Int).toNat t488.size).toList then ((impl_NameBefore.f kj13 t491 (wrap64 ((wrap64 (t489 - (t500.size : Int))) + ((rdOf ByteArray.empty t497 t490).size : Int)))).bind fun t502 => (some (t502.toList == (rdOf ByteArray.empty t497 t490).toList))) else (some false)) else (none)) else (none)) else (none)) else (some false)) else (none)) else (none))) = some r := by rw [if_neg (show ¬ (false = true) by decide)] at H; exact H
                  clear H
                  have H := H1
                  clear H1
                  replace H := Option.bind_eq_some_iff.mp H
                  obtain ⟨t500, A190, H⟩ := H
                  replace H : (if 0 ≤ t490 then (if t490 < (t497.length : Int) then (if (wrap64 ((wrap64 (t489 - (t500.size : Int))) + ((rdOf ByteArray.empty t497 t490).size : Int))) ≤ (t491.size : Int) then (if 0 ≤ (wrap64 ((wrap64 (t489 - (t500.size : Int))) + ((rdOf ByteArray.empty t497 t490).size : Int))) then (if 0 ≤ t489 then (if t489 ≤ (t488.size : Int) then (if (t491.extract ((wrap64 ((wrap64 (t489 - (t500.size : Int))) + ((rdOf ByteArray.empty t497 t490).size : Int))) : Int).toNat t491.size).toList = (t488.extract (t489 : Int).toNat t488.size).toList then ((impl_NameBefore.f kj13 t491 (wrap64 ((wrap64 (t489 - (t500.size : Int))) + ((rdOf ByteArray.empty t497 t490).size : Int)))).bind fun t502 => (some (t502.toList == (rdOf ByteArray.empty t497 t490).toList))) else (some false)) else (none)) else (none)) else (none)) else (some false)) else (none)) else (none)) = some r := H
                  have A19 := Aside0.mk A190
                  clear A190
                  by_cases c20 : 0 ≤ t490
                  · rw [if_pos c20] at H
                    have c20b0 : decide (0 ≤ t490) = true := decide_eq_true c20
                    clear c20
                    by_cases c21 : t490 < (t497.length : Int)
                    · rw [if_pos c21] at H
                      have c21b0 : decide (t490 < (t497.length : Int)) = true := decide_eq_true c21
                      clear c21
                      by_cases c22 : (wrap64 ((wrap64 (t489 - (t500.size : Int))) + ((rdOf ByteArray.empty t497 t490).size : Int))) ≤ (t491.size : Int)
                      · rw [if_pos c22] at H
                        have c22b0 : decide ((wrap64 ((wrap64 (t489 - (t500.size : Int))) + ((rdOf ByteArray.empty t497 t490).size : Int))) ≤ (t491.size : Int)) = true := decide_eq_true c22
                        clear c22
                        obtain ⟨ji23, hji23⟩ : ∃ j_ : Int, (wrap64 ((wrap64 (t489 - (t500.size : Int))) + ((rdOf ByteArray.empty t497 t490).size : Int))) = j_ := ⟨_, rfl⟩
                        replace H : (if 0 ≤ (ji23) then (if 0 ≤ t489 then (if t489 ≤ (t488.size : Int) then (if (t491.extract ((ji23) : Int).toNat t491.size).toList = (t488.extract (t489 : Int).toNat t488.size).toList then ((impl_NameBefore.f kj13 t491 (ji23)).bind fun t502 => (some (t502.toList == (rdOf ByteArray.empty t497 t490).toList))) else (some false)) else (none)) else (none)) else (none)) = some r := by first | (rw [hji23] at H; exact H) | (simp only [hji23] at H ⊢; exact H)
                        (try rw [hji23] at c22b0)
                        (try rw [hji23] at A19)
                        have hji23w : (IntKind.i64.wrap ((wrap64 (t489 - (t500.size : Int))) + ((rdOf ByteArray.empty t497 t490).size : Int))) = ji23 := (i64_w _).trans hji23
                        by_cases c24 : 0 ≤ (ji23)
                        · rw [if_pos c24] at H
                          have c24b0 := eq_true c24
                          have c24b1 : decide (0 ≤ (ji23)) = true := decide_eq_true c24
                          clear c24
                          have c25b0 := eq_true (of_decide_eq_true (by first | (with_reducible assumption) | assumption) : (ji23) ≤ (t491.size : Int))
                          by_cases c26 : 0 ≤ t489
                          · rw [if_pos c26] at H
                            have c26b0 := eq_true c26
                            have c26b1 : decide (0 ≤ t489) = true := decide_eq_true c26
                            clear c26
                            by_cases c27 : t489 ≤ (t488.size : Int)
                            · rw [if_pos c27] at H
                              have c27b0 := eq_true c27
                              have c27b1 : decide (t489 ≤ (t488.size : Int)) = true := decide_eq_true c27
                              clear c27
                              by_cases c28 : (t491.extract ((ji23) : Int).toNat t491.size).toList = (t488.extract (t489 : Int).toNat t488.size).toList
                              · rw [if_pos c28] at H
                                have c28b0 : ((t491.extract ((ji23) : Int).toNat t491.size).toList == (t488.extract (t489 : Int).toNat t488.size).toList) = true := beq_iff_eq.mpr c28
                                have c28b1 : ((t491.extract ((ji23) : Int).toNat t491.size).toList != (t488.extract (t489 : Int).toNat t488.size).toList) = false := bne_eq_false_iff_eq.mpr c28
                                clear c28
                                replace H := Option.bind_eq_some_iff.mp H
                                obtain ⟨t502, A290, H⟩ := H
                                replace H : (some (t502.toList == (rdOf ByteArray.empty t497 t490).toList)) = some r := H
                                have A29 := Aside0.mk A290
                                clear A290
                                obtain rfl := Option.some.inj H
                                go_wp2_with (first | (go_at_call 12; (with_reducible refine (impl_NameBefore.calls kj13 t488 t489 t500 _ A19.out).mono ?_); rintro e w' ⟨rfl, ⟨nd, rfl⟩⟩; (try first | exact ⟨rfl, _, World.drewN_drewN _ _ _⟩ | exact ⟨rfl, _, Eq.trans (World.drewN_drewN _ _ _) (congrArg (World.drewN _) (Nat.add_assoc _ _ _))⟩); obtain ⟨Ao30, co30, eo30⟩ := Kd.R_slice HO_10.out; subst eo30; have p501 : 0 ≤ (t490 : Int) := of_decide_eq_true (by first | (with_reducible assumption) | assumption); have q501 : t490 < (t497.length : Int) := of_decide_eq_true (by first | (with_reducible assumption) | assumption); obtain ⟨ad501, e501, hx501_0⟩ := Kd.at_string (Kd.R_reads' HO_10.out).2.2 t490 p501 q501; cases e501; replace p501 := eq_true p501; replace q501 := eq_true q501) | (go_at_call 12; (with_reducible refine (impl_NameBefore.calls kj13 t491 ji23 t502 _ A29.out).mono ?_); rintro e w' ⟨rfl, ⟨nd, rfl⟩⟩; (try first | exact ⟨rfl, _, World.drewN_drewN _ _ _⟩ | exact ⟨rfl, _, Eq.trans (World.drewN_drewN _ _ _) (congrArg (World.drewN _) (Nat.add_assoc _ _ _))⟩); have p503 : 0 ≤ (t490 : Int) := of_decide_eq_true (by first | (with_reducible assumption) | assumption); have q503 : t490 < (t497.length : Int) := of_decide_eq_true (by first | (with_reducible assumption) | assumption); obtain ⟨ad503, e503, hx503_0⟩ := Kd.at_string (Kd.R_reads' HO_10.out).2.2 t490 p503 q503; obtain rfl : ad501 = ad503 := (by injection e503); replace p503 := eq_true p503; replace q503 := eq_true q503))
                                repeat (first | go_quiet (first | (go_at_call 12; (with_reducible refine (impl_NameBefore.calls kj13 t488 t489 t500 _ A19.out).mono ?_); rintro e w' ⟨rfl, ⟨nd, rfl⟩⟩; (try first | exact ⟨rfl, _, World.drewN_drewN _ _ _⟩ | exact ⟨rfl, _, Eq.trans (World.drewN_drewN _ _ _) (congrArg (World.drewN _) (Nat.add_assoc _ _ _))⟩); obtain ⟨Ao30, co30, eo30⟩ := Kd.R_slice HO_10.out; subst eo30; have p501 : 0 ≤ (t490 : Int) := of_decide_eq_true (by first | (with_reducible assumption) | assumption); have q501 : t490 < (t497.length : Int) := of_decide_eq_true (by first | (with_reducible assumption) | assumption); obtain ⟨ad501, e501, hx501_0⟩ := Kd.at_string (Kd.R_reads' HO_10.out).2.2 t490 p501 q501; cases e501; replace p501 := eq_true p501; replace q501 := eq_true q501) | (go_at_call 12; (with_reducible refine (impl_NameBefore.calls kj13 t491 ji23 t502 _ A29.out).mono ?_); rintro e w' ⟨rfl, ⟨nd, rfl⟩⟩; (try first | exact ⟨rfl, _, World.drewN_drewN _ _ _⟩ | exact ⟨rfl, _, Eq.trans (World.drewN_drewN _ _ _) (congrArg (World.drewN _) (Nat.add_assoc _ _ _))⟩); have p503 : 0 ≤ (t490 : Int) := of_decide_eq_true (by first | (with_reducible assumption) | assumption); have q503 : t490 < (t497.length : Int) := of_decide_eq_true (by first | (with_reducible assumption) | assumption); obtain ⟨ad503, e503, hx503_0⟩ := Kd.at_string (Kd.R_reads' HO_10.out).2.2 t490 p503 q503; obtain rfl : ad501 = ad503 := (by injection e503); replace p503 := eq_true p503; replace q503 := eq_true q503)); try go_wp2_with (first | (go_at_call 12; (with_reducible refine (impl_NameBefore.calls kj13 t488 t489 t500 _ A19.out).mono ?_); rintro e w' ⟨rfl, ⟨nd, rfl⟩⟩; (try first | exact ⟨rfl, _, World.drewN_drewN _ _ _⟩ | exact ⟨rfl, _, Eq.trans (World.drewN_drewN _ _ _) (congrArg (World.drewN _) (Nat.add_assoc _ _ _))⟩); obtain ⟨Ao30, co30, eo30⟩ := Kd.R_slice HO_10.out; subst eo30; have p501 : 0 ≤ (t490 : Int) := of_decide_eq_true (by first | (with_reducible assumption) | assumption); have q501 : t490 < (t497.length : Int) := of_decide_eq_true (by first | (with_reducible assumption) | assumption); obtain ⟨ad501, e501, hx501_0⟩ := Kd.at_string (Kd.R_reads' HO_10.out).2.2 t490 p501 q501; cases e501; replace p501 := eq_true p501; replace q501 := eq_true q501) | (go_at_call 12; (with_reducible refine (impl_NameBefore.calls kj13 t491 ji23 t502 _ A29.out).mono ?_); rintro e w' ⟨rfl, ⟨nd, rfl⟩⟩; (try first | exact ⟨rfl, _, World.drewN_drewN _ _ _⟩ | exact ⟨rfl, _, Eq.trans (World.drewN_drewN _ _ _) (congrArg (World.drewN _) (Nat.add_assoc _ _ _))⟩); have p503 : 0 ≤ (t490 : Int) := of_decide_eq_true (by first | (with_reducible assumption) | assumption); have q503 : t490 < (t497.length : Int) := of_decide_eq_true (by first | (with_reducible assumption) | assumption); obtain ⟨ad503, e503, hx503_0⟩ := Kd.at_string (Kd.R_reads' HO_10.out).2.2 t490 p503 q503; obtain rfl : ad501 = ad503 := (by injection e503); replace p503 := eq_true p503; replace q503 := eq_true q503)) | ((try simp only [i64_w]); (try simp only [hji23]); go_quiet (first | (go_at_call 12; (with_reducible refine (impl_NameBefore.calls kj13 t488 t489 t500 _ A19.out).mono ?_); rintro e w' ⟨rfl, ⟨nd, rfl⟩⟩; (try first | exact ⟨rfl, _, World.drewN_drewN _ _ _⟩ | exact ⟨rfl, _, Eq.trans (World.drewN_drewN _ _ _) (congrArg (World.drewN _) (Nat.add_assoc _ _ _))⟩); obtain ⟨Ao30, co30, eo30⟩ := Kd.R_slice HO_10.out; subst eo30; have p501 : 0 ≤ (t490 : Int) := of_decide_eq_true (by first | (with_reducible assumption) | assumption); have q501 : t490 < (t497.length : Int) := of_decide_eq_true (by first | (with_reducible assumption) | assumption); obtain ⟨ad501, e501, hx501_0⟩ := Kd.at_string (Kd.R_reads' HO_10.out).2.2 t490 p501 q501; cases e501; replace p501 := eq_true p501; replace q501 := eq_true q501) | (go_at_call 12; (with_reducible refine (impl_NameBefore.calls kj13 t491 ji23 t502 _ A29.out).mono ?_); rintro e w' ⟨rfl, ⟨nd, rfl⟩⟩; (try first | exact ⟨rfl, _, World.drewN_drewN _ _ _⟩ | exact ⟨rfl, _, Eq.trans (World.drewN_drewN _ _ _) (congrArg (World.drewN _) (Nat.add_assoc _ _ _))⟩); have p503 : 0 ≤ (t490 : Int) := of_decide_eq_true (by first | (with_reducible assumption) | assumption); have q503 : t490 < (t497.length : Int) := of_decide_eq_true (by first | (with_reducible assumption) | assumption); obtain ⟨ad503, e503, hx503_0⟩ := Kd.at_string (Kd.R_reads' HO_10.out).2.2 t490 p503 q503; obtain rfl : ad501 = ad503 := (by injection e503); replace p503 := eq_true p503; replace q503 := eq_true q503)); try go_wp2_with (first | (go_at_call 12; (with_reducible refine (impl_NameBefore.calls kj13 t488 t489 t500 _ A19.out).mono ?_); rintro e w' ⟨rfl, ⟨nd, rfl⟩⟩; (try first | exact ⟨rfl, _, World.drewN_drewN _ _ _⟩ | exact ⟨rfl, _, Eq.trans (World.drewN_drewN _ _ _) (congrArg (World.drewN _) (Nat.add_assoc _ _ _))⟩); obtain ⟨Ao30, co30, eo30⟩ := Kd.R_slice HO_10.out; subst eo30; have p501 : 0 ≤ (t490 : Int) := of_decide_eq_true (by first | (with_reducible assumption) | assumption); have q501 : t490 < (t497.length : Int) := of_decide_eq_true (by first | (with_reducible assumption) | assumption); obtain ⟨ad501, e501, hx501_0⟩ := Kd.at_string (Kd.R_reads' HO_10.out).2.2 t490 p501 q501; cases e501; replace p501 := eq_true p501; replace q501 := eq_true q501) | (go_at_call 12; (with_reducible refine (impl_NameBefore.calls kj13 t491 ji23 t502 _ A29.out).mono ?_); rintro e w' ⟨rfl, ⟨nd, rfl⟩⟩; (try first | exact ⟨rfl, _, World.drewN_drewN _ _ _⟩ | exact ⟨rfl, _, Eq.trans (World.drewN_drewN _ _ _) (congrArg (World.drewN _) (Nat.add_assoc _ _ _))⟩); have p503 : 0 ≤ (t490 : Int) := of_decide_eq_true (by first | (with_reducible assumption) | assumption); have q503 : t490 < (t497.length : Int) := of_decide_eq_true (by first | (with_reducible assumption) | assumption); obtain ⟨ad503, e503, hx503_0⟩ := Kd.at_string (Kd.R_reads' HO_10.out).2.2 t490 p503 q503; obtain rfl : ad501 = ad503 := (by injection e503); replace p503 := eq_true p503; replace q503 := eq_true q503))))
                                go_ret
                                exact ⟨by first | rfl | (simp [errW_none, errW_some] <;> rfl) | (simp only [← hji23]; first | rfl | (simp [errW_none, errW_some] <;> rfl)) | (simp [*, errW_none, errW_some] <;> rfl), by repeat (first | (with_reducible first | exact HB.out | apply below_alloc | apply pw_below_drewN | apply below_drew1) | exact HB.out)⟩
                              · rw [if_neg c28] at H
                                have c28b0 : ((t491.extract ((ji23) : Int).toNat t491.size).toList == (t488.extract (t489 : Int).toNat t488.size).toList) = false := beq_eq_false_iff_ne.mpr c28
                                have c28b1 : ((t491.extract ((ji23) : Int).toNat t491.size).toList != (t488.extract (t489 : Int).toNat t488.size).toList) = true := bne_iff_ne.mpr c28
                                obtain rfl := Option.some.inj H
                                go_wp2_with (first | (go_at_call 12; (with_reducible refine (impl_NameBefore.calls kj13 t488 t489 t500 _ A19.out).mono ?_); rintro e w' ⟨rfl, ⟨nd, rfl⟩⟩; (try first | exact ⟨rfl, _, World.drewN_drewN _ _ _⟩ | exact ⟨rfl, _, Eq.trans (World.drewN_drewN _ _ _) (congrArg (World.drewN _) (Nat.add_assoc _ _ _))⟩); obtain ⟨Ao31, co31, eo31⟩ := Kd.R_slice HO_10.out; subst eo31; have p501 : 0 ≤ (t490 : Int) := of_decide_eq_true (by first | (with_reducible assumption) | assumption); have q501 : t490 < (t497.length : Int) := of_decide_eq_true (by first | (with_reducible assumption) | assumption); obtain ⟨ad501, e501, hx501_0⟩ := Kd.at_string (Kd.R_reads' HO_10.out).2.2 t490 p501 q501; cases e501; replace p501 := eq_true p501; replace q501 := eq_true q501))
                                repeat (first | go_quiet (first | (go_at_call 12; (with_reducible refine (impl_NameBefore.calls kj13 t488 t489 t500 _ A19.out).mono ?_); rintro e w' ⟨rfl, ⟨nd, rfl⟩⟩; (try first | exact ⟨rfl, _, World.drewN_drewN _ _ _⟩ | exact ⟨rfl, _, Eq.trans (World.drewN_drewN _ _ _) (congrArg (World.drewN _) (Nat.add_assoc _ _ _))⟩); obtain ⟨Ao31, co31, eo31⟩ := Kd.R_slice HO_10.out; subst eo31; have p501 : 0 ≤ (t490 : Int) := of_decide_eq_true (by first | (with_reducible assumption) | assumption); have q501 : t490 < (t497.length : Int) := of_decide_eq_true (by first | (with_reducible assumption) | assumption); obtain ⟨ad501, e501, hx501_0⟩ := Kd.at_string (Kd.R_reads' HO_10.out).2.2 t490 p501 q501; cases e501; replace p501 := eq_true p501; replace q501 := eq_true q501)); try go_wp2_with (first | (go_at_call 12; (with_reducible refine (impl_NameBefore.calls kj13 t488 t489 t500 _ A19.out).mono ?_); rintro e w' ⟨rfl, ⟨nd, rfl⟩⟩; (try first | exact ⟨rfl, _, World.drewN_drewN _ _ _⟩ | exact ⟨rfl, _, Eq.trans (World.drewN_drewN _ _ _) (congrArg (World.drewN _) (Nat.add_assoc _ _ _))⟩); obtain ⟨Ao31, co31, eo31⟩ := Kd.R_slice HO_10.out; subst eo31; have p501 : 0 ≤ (t490 : Int) := of_decide_eq_true (by first | (with_reducible assumption) | assumption); have q501 : t490 < (t497.length : Int) := of_decide_eq_true (by first | (with_reducible assumption) | assumption); obtain ⟨ad501, e501, hx501_0⟩ := Kd.at_string (Kd.R_reads' HO_10.out).2.2 t490 p501 q501; cases e501; replace p501 := eq_true p501; replace q501 := eq_true q501)) | ((try simp only [i64_w]); (try simp only [hji23]); go_quiet (first | (go_at_call 12; (with_reducible refine (impl_NameBefore.calls kj13 t488 t489 t500 _ A19.out).mono ?_); rintro e w' ⟨rfl, ⟨nd, rfl⟩⟩; (try first | exact ⟨rfl, _, World.drewN_drewN _ _ _⟩ | exact ⟨rfl, _, Eq.trans (World.drewN_drewN _ _ _) (congrArg (World.drewN _) (Nat.add_assoc _ _ _))⟩); obtain ⟨Ao31, co31, eo31⟩ := Kd.R_slice HO_10.out; subst eo31; have p501 : 0 ≤ (t490 : Int) := of_decide_eq_true (by first | (with_reducible assumption) | assumption); have q501 : t490 < (t497.length : Int) := of_decide_eq_true (by first | (with_reducible assumption) | assumption); obtain ⟨ad501, e501, hx501_0⟩ := Kd.at_string (Kd.R_reads' HO_10.out).2.2 t490 p501 q501; cases e501; replace p501 := eq_true p501; replace q501 := eq_true q501)); try go_wp2_with (first | (go_at_call 12; (with_reducible refine (impl_NameBefore.calls kj13 t488 t489 t500 _ A19.out).mono ?_); rintro e w' ⟨rfl, ⟨nd, rfl⟩⟩; (try first | exact ⟨rfl, _, World.drewN_drewN _ _ _⟩ | exact ⟨rfl, _, Eq.trans (World.drewN_drewN _ _ _) (congrArg (World.drewN _) (Nat.add_assoc _ _ _))⟩); obtain ⟨Ao31, co31, eo31⟩ := Kd.R_slice HO_10.out; subst eo31; have p501 : 0 ≤ (t490 : Int) := of_decide_eq_true (by first | (with_reducible assumption) | assumption); have q501 : t490 < (t497.length : Int) := of_decide_eq_true (by first | (with_reducible assumption) | assumption); obtain ⟨ad501, e501, hx501_0⟩ := Kd.at_string (Kd.R_reads' HO_10.out).2.2 t490 p501 q501; cases e501; replace p501 := eq_true p501; replace q501 := eq_true q501))))
                                go_ret
                                exact ⟨by first | rfl | (simp [errW_none, errW_some] <;> rfl) | (simp only [← hji23]; first | rfl | (simp [errW_none, errW_some] <;> rfl)) | (simp [*, errW_none, errW_some] <;> rfl), by repeat (first | (with_reducible first | exact HB.out | apply below_alloc | apply pw_below_drewN | apply below_drew1) | exact HB.out)⟩
                            · rw [if_neg c27] at H
                              exact absurd H (by simp)
                          · rw [if_neg c26] at H
                            exact absurd H (by simp)
                        · rw [if_neg c24] at H
                          exact absurd H (by simp)
                      · rw [if_neg c22] at H
                        have c22b0 : decide ((wrap64 ((wrap64 (t489 - (t500.size : Int))) + ((rdOf ByteArray.empty t497 t490).size : Int))) ≤ (t491.size : Int)) = false := decide_eq_false c22
                        clear c22
                        obtain rfl := Option.some.inj H
                        go_wp2_with (first | (go_at_call 12; (with_reducible refine (impl_NameBefore.calls kj13 t488 t489 t500 _ A19.out).mono ?_); rintro e w' ⟨rfl, ⟨nd, rfl⟩⟩; (try first | exact ⟨rfl, _, World.drewN_drewN _ _ _⟩ | exact ⟨rfl, _, Eq.trans (World.drewN_drewN _ _ _) (congrArg (World.drewN _) (Nat.add_assoc _ _ _))⟩); obtain ⟨Ao32, co32, eo32⟩ := Kd.R_slice HO_10.out; subst eo32; have p501 : 0 ≤ (t490 : Int) := of_decide_eq_true (by first | (with_reducible assumption) | assumption); have q501 : t490 < (t497.length : Int) := of_decide_eq_true (by first | (with_reducible assumption) | assumption); obtain ⟨ad501, e501, hx501_0⟩ := Kd.at_string (Kd.R_reads' HO_10.out).2.2 t490 p501 q501; cases e501; replace p501 := eq_true p501; replace q501 := eq_true q501))
                        repeat (first | go_quiet (first | (go_at_call 12; (with_reducible refine (impl_NameBefore.calls kj13 t488 t489 t500 _ A19.out).mono ?_); rintro e w' ⟨rfl, ⟨nd, rfl⟩⟩; (try first | exact ⟨rfl, _, World.drewN_drewN _ _ _⟩ | exact ⟨rfl, _, Eq.trans (World.drewN_drewN _ _ _) (congrArg (World.drewN _) (Nat.add_assoc _ _ _))⟩); obtain ⟨Ao32, co32, eo32⟩ := Kd.R_slice HO_10.out; subst eo32; have p501 : 0 ≤ (t490 : Int) := of_decide_eq_true (by first | (with_reducible assumption) | assumption); have q501 : t490 < (t497.length : Int) := of_decide_eq_true (by first | (with_reducible assumption) | assumption); obtain ⟨ad501, e501, hx501_0⟩ := Kd.at_string (Kd.R_reads' HO_10.out).2.2 t490 p501 q501; cases e501; replace p501 := eq_true p501; replace q501 := eq_true q501)); try go_wp2_with (first | (go_at_call 12; (with_reducible refine (impl_NameBefore.calls kj13 t488 t489 t500 _ A19.out).mono ?_); rintro e w' ⟨rfl, ⟨nd, rfl⟩⟩; (try first | exact ⟨rfl, _, World.drewN_drewN _ _ _⟩ | exact ⟨rfl, _, Eq.trans (World.drewN_drewN _ _ _) (congrArg (World.drewN _) (Nat.add_assoc _ _ _))⟩); obtain ⟨Ao32, co32, eo32⟩ := Kd.R_slice HO_10.out; subst eo32; have p501 : 0 ≤ (t490 : Int) := of_decide_eq_true (by first | (with_reducible assumption) | assumption); have q501 : t490 < (t497.length : Int) := of_decide_eq_true (by first | (with_reducible assumption) | assumption); obtain ⟨ad501, e501, hx501_0⟩ := Kd.at_string (Kd.R_reads' HO_10.out).2.2 t490 p501 q501; cases e501; replace p501 := eq_true p501; replace q501 := eq_true q501)) | ((try simp only [i64_w]); go_quiet (first | (go_at_call 12; (with_reducible refine (impl_NameBefore.calls kj13 t488 t489 t500 _ A19.out).mono ?_); rintro e w' ⟨rfl, ⟨nd, rfl⟩⟩; (try first | exact ⟨rfl, _, World.drewN_drewN _ _ _⟩ | exact ⟨rfl, _, Eq.trans (World.drewN_drewN _ _ _) (congrArg (World.drewN _) (Nat.add_assoc _ _ _))⟩); obtain ⟨Ao32, co32, eo32⟩ := Kd.R_slice HO_10.out; subst eo32; have p501 : 0 ≤ (t490 : Int) := of_decide_eq_true (by first | (with_reducible assumption) | assumption); have q501 : t490 < (t497.length : Int) := of_decide_eq_true (by first | (with_reducible assumption) | assumption); obtain ⟨ad501, e501, hx501_0⟩ := Kd.at_string (Kd.R_reads' HO_10.out).2.2 t490 p501 q501; cases e501; replace p501 := eq_true p501; replace q501 := eq_true q501)); try go_wp2_with (first | (go_at_call 12; (with_reducible refine (impl_NameBefore.calls kj13 t488 t489 t500 _ A19.out).mono ?_); rintro e w' ⟨rfl, ⟨nd, rfl⟩⟩; (try first | exact ⟨rfl, _, World.drewN_drewN _ _ _⟩ | exact ⟨rfl, _, Eq.trans (World.drewN_drewN _ _ _) (congrArg (World.drewN _) (Nat.add_assoc _ _ _))⟩); obtain ⟨Ao32, co32, eo32⟩ := Kd.R_slice HO_10.out; subst eo32; have p501 : 0 ≤ (t490 : Int) := of_decide_eq_true (by first | (with_reducible assumption) | assumption); have q501 : t490 < (t497.length : Int) := of_decide_eq_true (by first | (with_reducible assumption) | assumption); obtain ⟨ad501, e501, hx501_0⟩ := Kd.at_string (Kd.R_reads' HO_10.out).2.2 t490 p501 q501; cases e501; replace p501 := eq_true p501; replace q501 := eq_true q501))))
                        go_ret
                        exact ⟨by first | rfl | (simp [errW_none, errW_some] <;> rfl) | (simp [*, errW_none, errW_some] <;> rfl), by repeat (first | (with_reducible first | exact HB.out | apply below_alloc | apply pw_below_drewN | apply below_drew1) | exact HB.out)⟩
                    · rw [if_neg c21] at H
                      exact absurd H (by simp)
                  · rw [if_neg c20] at H
                    exact absurd H (by simp)
          · replace c12 := Bool.eq_false_iff.mpr c12
            subst c12
            have H1 : (if t491.toList = ([] : List UInt8) then ((laws_alive.f kj5).bind fun t495 => (some t495)) else (if t491.toList = t488.toList then ((laws_alive.f kj5).bind fun t496 => (some t496)) else (some false))) = some r := by rw [if_neg (show ¬ (false = true) by decide)] at H; exact H
            clear H
            have H := H1
            clear H1
            by_cases c33 : t491.toList = ([] : List UInt8)
            · rw [if_pos c33] at H
              have c33b0 : (t491.toList == ([] : List UInt8)) = true := beq_iff_eq.mpr c33
              have c33b1 : (t491.toList != ([] : List UInt8)) = false := bne_eq_false_iff_eq.mpr c33
              clear c33
              replace H := Option.bind_eq_some_iff.mp H
              obtain ⟨t495, A340, H⟩ := H
              replace H : (some t495) = some r := H
              have A34 := Aside0.mk A340
              clear A340
              obtain rfl := Option.some.inj H
              go_wp2_with (first | (go_at_call 15; (with_reducible refine (laws_alive.calls kj5  t495 _ A34.out).mono ?_); rintro e w' ⟨rfl, ⟨nd, rfl⟩⟩; (try first | exact ⟨rfl, _, World.drewN_drewN _ _ _⟩ | exact ⟨rfl, _, Eq.trans (World.drewN_drewN _ _ _) (congrArg (World.drewN _) (Nat.add_assoc _ _ _))⟩)))
              repeat (first | go_quiet (first | (go_at_call 15; (with_reducible refine (laws_alive.calls kj5  t495 _ A34.out).mono ?_); rintro e w' ⟨rfl, ⟨nd, rfl⟩⟩; (try first | exact ⟨rfl, _, World.drewN_drewN _ _ _⟩ | exact ⟨rfl, _, Eq.trans (World.drewN_drewN _ _ _) (congrArg (World.drewN _) (Nat.add_assoc _ _ _))⟩))); try go_wp2_with (first | (go_at_call 15; (with_reducible refine (laws_alive.calls kj5  t495 _ A34.out).mono ?_); rintro e w' ⟨rfl, ⟨nd, rfl⟩⟩; (try first | exact ⟨rfl, _, World.drewN_drewN _ _ _⟩ | exact ⟨rfl, _, Eq.trans (World.drewN_drewN _ _ _) (congrArg (World.drewN _) (Nat.add_assoc _ _ _))⟩))) | ((try simp only [i64_w]); go_quiet (first | (go_at_call 15; (with_reducible refine (laws_alive.calls kj5  t495 _ A34.out).mono ?_); rintro e w' ⟨rfl, ⟨nd, rfl⟩⟩; (try first | exact ⟨rfl, _, World.drewN_drewN _ _ _⟩ | exact ⟨rfl, _, Eq.trans (World.drewN_drewN _ _ _) (congrArg (World.drewN _) (Nat.add_assoc _ _ _))⟩))); try go_wp2_with (first | (go_at_call 15; (with_reducible refine (laws_alive.calls kj5  t495 _ A34.out).mono ?_); rintro e w' ⟨rfl, ⟨nd, rfl⟩⟩; (try first | exact ⟨rfl, _, World.drewN_drewN _ _ _⟩ | exact ⟨rfl, _, Eq.trans (World.drewN_drewN _ _ _) (congrArg (World.drewN _) (Nat.add_assoc _ _ _))⟩)))))
              go_ret
              exact ⟨by first | rfl | (simp [errW_none, errW_some] <;> rfl) | (simp [*, errW_none, errW_some] <;> rfl), by repeat (first | (with_reducible first | exact HB.out | apply below_alloc | apply pw_below_drewN | apply below_drew1) | exact HB.out)⟩
            · rw [if_neg c33] at H
              have c33b0 : (t491.toList == ([] : List UInt8)) = false := beq_eq_false_iff_ne.mpr c33
              have c33b1 : (t491.toList != ([] : List UInt8)) = true := bne_iff_ne.mpr c33
              by_cases c35 : t491.toList = t488.toList
              · rw [if_pos c35] at H
                have c35b0 : (t491.toList == t488.toList) = true := beq_iff_eq.mpr c35
                have c35b1 : (t491.toList != t488.toList) = false := bne_eq_false_iff_eq.mpr c35
                clear c35
                replace H := Option.bind_eq_some_iff.mp H
                obtain ⟨t496, A360, H⟩ := H
                replace H : (some t496) = some r := H
                have A36 := Aside0.mk A360
                clear A360
                obtain rfl := Option.some.inj H
                go_wp2_with (first | (go_at_call 15; (with_reducible refine (laws_alive.calls kj5  t496 _ A36.out).mono ?_); rintro e w' ⟨rfl, ⟨nd, rfl⟩⟩; (try first | exact ⟨rfl, _, World.drewN_drewN _ _ _⟩ | exact ⟨rfl, _, Eq.trans (World.drewN_drewN _ _ _) (congrArg (World.drewN _) (Nat.add_assoc _ _ _))⟩)))
                repeat (first | go_quiet (first | (go_at_call 15; (with_reducible refine (laws_alive.calls kj5  t496 _ A36.out).mono ?_); rintro e w' ⟨rfl, ⟨nd, rfl⟩⟩; (try first | exact ⟨rfl, _, World.drewN_drewN _ _ _⟩ | exact ⟨rfl, _, Eq.trans (World.drewN_drewN _ _ _) (congrArg (World.drewN _) (Nat.add_assoc _ _ _))⟩))); try go_wp2_with (first | (go_at_call 15; (with_reducible refine (laws_alive.calls kj5  t496 _ A36.out).mono ?_); rintro e w' ⟨rfl, ⟨nd, rfl⟩⟩; (try first | exact ⟨rfl, _, World.drewN_drewN _ _ _⟩ | exact ⟨rfl, _, Eq.trans (World.drewN_drewN _ _ _) (congrArg (World.drewN _) (Nat.add_assoc _ _ _))⟩))) | ((try simp only [i64_w]); go_quiet (first | (go_at_call 15; (with_reducible refine (laws_alive.calls kj5  t496 _ A36.out).mono ?_); rintro e w' ⟨rfl, ⟨nd, rfl⟩⟩; (try first | exact ⟨rfl, _, World.drewN_drewN _ _ _⟩ | exact ⟨rfl, _, Eq.trans (World.drewN_drewN _ _ _) (congrArg (World.drewN _) (Nat.add_assoc _ _ _))⟩))); try go_wp2_with (first | (go_at_call 15; (with_reducible refine (laws_alive.calls kj5  t496 _ A36.out).mono ?_); rintro e w' ⟨rfl, ⟨nd, rfl⟩⟩; (try first | exact ⟨rfl, _, World.drewN_drewN _ _ _⟩ | exact ⟨rfl, _, Eq.trans (World.drewN_drewN _ _ _) (congrArg (World.drewN _) (Nat.add_assoc _ _ _))⟩)))))
                go_ret
                exact ⟨by first | rfl | (simp [errW_none, errW_some] <;> rfl) | (simp [*, errW_none, errW_some] <;> rfl), by repeat (first | (with_reducible first | exact HB.out | apply below_alloc | apply pw_below_drewN | apply below_drew1) | exact HB.out)⟩
              · rw [if_neg c35] at H
                have c35b0 : (t491.toList == t488.toList) = false := beq_eq_false_iff_ne.mpr c35
                have c35b1 : (t491.toList != t488.toList) = true := bne_iff_ne.mpr c35
                obtain rfl := Option.some.inj H
                go_wp2
                repeat (go_quiet (fail); try go_wp2)
                go_ret
                exact ⟨by first | rfl | (simp [errW_none, errW_some] <;> rfl) | (simp [*, errW_none, errW_some] <;> rfl), by repeat (first | (with_reducible first | exact HB.out | apply below_alloc | apply pw_below_drewN | apply below_drew1) | exact HB.out)⟩

/-- THE ONE PURE STATEMENT of laws_FnCompleteAt: yours. -/
def laws_FnCompleteAt.Pure : Prop := ∀ (l0 : List Int), l0.length ≤ maxLen → l0.length * 1 ≤ 140737488351232 → (∀ x ∈ l0, (Lit.int .u8 x).wf = true) → ∃ k, laws_FnCompleteAt.f k l0 = some true
theorem laws_FnCompleteAt.walk (P : laws_FnCompleteAt.Pure) (a0 : Option Addr) (len0 cap0 : Nat) (z0 : List Int) (w : World) (w0 : (a0 = none ∧ len0 = 0 ∧ cap0 = 0 ∧ z0 = []) ∨ ∃ x, a0 = some x ∧ len0 ≤ cap0 ∧ cap0 ≤ maxLen ∧ z0.length = cap0 ∧ (∀ i, i < z0.length → w.cell? (x.add i) = some (.int .u8 (z0.getD i 0))) ∧ ∀ n ∈ z0, (Lit.int .u8 n).wf = true) (y0 : len0 * 1 ≤ 140737488351232) :
    Calls Try.prog 10 #[.slice a0 len0 cap0] w fun e w' => e = .returned (.bool true) ∧ Below w.heap.size w w' := by
  obtain ⟨l0, rfl, hr0, hm0, hw0, hc0⟩ := ReadsInt.ofRowC w0
  obtain ⟨k, h⟩ := P l0 hm0 y0 hw0
  refine (laws_FnCompleteAt.calls k _ _ l0 true w (Kd.C_of_reads (d := (0 : Int)) (h1 := fun _ => rfl) hr0) hc0 h).mono ?_
  rintro e w' ⟨rfl, hd⟩
  exact ⟨rfl, hd⟩

end Go.Proofs.Ytpaijbpenjjmkaa.X
