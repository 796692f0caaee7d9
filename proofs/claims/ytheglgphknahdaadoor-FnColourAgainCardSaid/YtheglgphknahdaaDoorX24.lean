-- written by a program of this session (wip/xprint.py) out of the translation
import Derived.Test.YtheglgphknahdaaDoorX0
import Derived.Test.YtheglgphknahdaaDoorX1
import Derived.Test.YtheglgphknahdaaDoorX4
import Derived.Test.YtheglgphknahdaaDoorX5
import Derived.Test.YtheglgphknahdaaDoorX7
import Derived.Test.YtheglgphknahdaaDoorX8
import Derived.Test.YtheglgphknahdaaDoorX10
import Derived.Test.YtheglgphknahdaaDoorX15
import Derived.Test.YtheglgphknahdaaDoorX16
import Derived.Test.YtheglgphknahdaaDoorX23
namespace Go.Proofs.YtheglgphknahdaaDoor.X
open Go.RowKit Go.Proofs.YtheglgphknahdaaDoorW.PrintWords Go.Proofs.YtheglgphknahdaaDoorW.PrintLast Go.Proofs.YtheglgphknahdaaDoorW.PrintMore
attribute [local go_sem] max2_int min2_int max_two min_two max_three min_three max_four min_four   -- for this text's walks alone
set_option linter.unusedVariables false
set_option linter.unusedSimpArgs false

/-! ### spec_l20Both: function 52 -/
def spec_l20Both.f (k : Nat) (s0_0 : List Int) (s0_1 : Int) : Option (ByteArray × Int × Int × ByteArray × Int) := (spec_l20Text.f k s0_0 s0_1 16).bind fun bt524 => ((spec_l20Change.f k s0_0 bt524.2 bt524.1 9).bind fun bt526 => (some (bt524.1, bt526.1, bt526.2.1, bt526.2.2.1, bt526.2.2.2)))
theorem spec_l20Both.mono : ∀ a0 a1 k, LeO (spec_l20Both.f k a0 a1) (spec_l20Both.f (k + 1) a0 a1) := by
 intro a0 a1 k
 unfold spec_l20Both.f
 repeat' first
   | (with_reducible exact spec_l20Change.mono _ _ _ _ _)
   | (with_reducible exact spec_l20Text.mono _ _ _ _)
   | (with_reducible exact LeO.refl _)
   | (with_reducible exact LeO.none _)
   | (with_reducible refine LeO.ite ?_ ?_)
   | (with_reducible refine LeO.bind ?_ (fun _ => ?_))
   | exact spec_l20Change.mono _ _ _ _ _
   | exact spec_l20Text.mono _ _ _ _
   | exact LeO.none _
   | refine LeO.ite ?_ ?_
   | refine LeO.bind ?_ (fun _ => ?_)
set_option maxHeartbeats 8000000 in
set_option maxRecDepth 100000 in
theorem spec_l20Both.calls (k : Nat) (g : Nat) (s0_0 : List Int) (s0_1 : Int) (r1 : ByteArray) (r2 : Int) (r3 : Int) (r4 : ByteArray) (r5 : Int) (w0 w : World) (hI : IsS76 w0 w g s0_0 s0_1) (hB : Below w0.heap.size w0 w) (h : spec_l20Both.f k s0_0 s0_1 = some (r1, r2, r3, r4, r5)) :
  Calls Tryd.prog 52 #[.pointer (some ⟨g, 0, none⟩)] w fun e w' => e = .returned (.tuple #[.string r1, .agg #[.int .i64 r2, .int .i64 r3, .string r4]]) ∧ IsS76 w0 w' g s0_0 r5 ∧ Below w0.heap.size w0 w' ∧ KeepBut w w' g none := by
 have hu43 := Tryd.underlying43
 have HI0 := Aside0.mk hI
 have HK := Aside0.mk (KeepBut.refl w g none)
 have HL := Aside0.mk hB.size
 clear hI
 have HW0 := Aside0.mk hB.size
 have HB := Aside0.mk hB
 clear hB
 have H : ((spec_l20Text.f k s0_0 s0_1 16).bind fun bt524 => ((spec_l20Change.f k s0_0 bt524.2 bt524.1 9).bind fun bt526 => (some (bt524.1, bt526.1, bt526.2.1, bt526.2.2.1, bt526.2.2.2)))) = some (r1, r2, r3, r4, r5) := h
 clear h
 replace H := Option.bind_eq_some_iff.mp H
 obtain ⟨⟨t524, t525⟩, A20, H⟩ := H
 replace H : ((spec_l20Change.f k s0_0 t525 t524 9).bind fun bt526 => (some (t524, bt526.1, bt526.2.1, bt526.2.2.1, bt526.2.2.2))) = some (r1, r2, r3, r4, r5) := H
 have A2 := Aside0.mk A20
 clear A20
 replace H := Option.bind_eq_some_iff.mp H
 obtain ⟨⟨t526, t527, t528, t529⟩, A30, H⟩ := H
 replace H : (some (t524, t526, t527, t528, t529)) = some (r1, r2, r3, r4, r5) := H
 have A3 := Aside0.mk A30
 clear A30
 simp only [Option.some.injEq, Prod.mk.injEq] at H
 obtain ⟨rfl, rfl, rfl, rfl, rfl⟩ := H
 go_enter Tryd.func52, Tryd.ntmps52
 go_wp2_with (first | ((with_reducible refine gate_dst (N := 3) rfl ?_); refine box_event ?hg (N := 3) ?hd (cs := #[.int .i64 0, .int .i64 0, .string (⟨#[]⟩ : ByteArray)]) (t := 43) ?hr ?_; (case hd => rfl); (case hg => rfl); (case hr => first | (go_simp; done) | (go_simp; rfl) | (simp only [i64_w]; first | (go_simp; done) | (go_simp; rfl))); intro gb523 hg w4 hbox hb; have n0_ := Aside0.mk (IsS76.below (by repeat (first | (with_reducible first | exact HI0.out | apply IsS76.alloc | apply IsS76.drewN | apply IsS76.drew | apply IsS76.set_1) | exact HI0.out)) hb); have n1_ := Aside0.mk (KeepBut.trans (by repeat (first | (with_reducible first | exact HK.out | apply KeepBut.set_ | apply keep_drewN | apply keep_drew | apply keep_alloc) | exact HK.out)) (KeepBut.of_below hb g none) (.inl rfl)); have n2_ := Aside0.mk (below_step (by repeat (first | (with_reducible first | exact HB.out | apply below_alloc | apply pw_below_drewN | apply below_drew1 | refine below_set ?_ (IsS76.ge HI0.out)) | exact HB.out)) hb); have n3_ := Aside0.mk (hbox); have n4_ := Aside0.mk ((by rw [hg]; exact (keep_size (w := w) (g := g) (row := none) (by repeat (first | (with_reducible first | exact HK.out | apply KeepBut.set_ | apply keep_drewN | apply keep_drew | apply keep_alloc) | exact HK.out))) : w.heap.size ≤ gb523)); have n5_ := Aside0.mk ((Nat.le_trans HW0.out (by rw [hg]; exact (keep_size (w := w) (g := g) (row := none) (by repeat (first | (with_reducible first | exact HK.out | apply KeepBut.set_ | apply keep_drewN | apply keep_drew | apply keep_alloc) | exact HK.out))) : w.heap.size ≤ gb523) : w0.heap.size ≤ gb523)); have n6_ := Aside0.mk ((by rw [hg]; exact Nat.ne_of_lt (IsS76.lt (show IsS76 w0 _ g s0_0 s0_1 from by repeat (first | (with_reducible first | exact HI0.out | apply IsS76.alloc | apply IsS76.drewN | apply IsS76.drew | apply IsS76.set_1) | exact HI0.out))) : g ≠ gb523)); have n7_ := Aside0.mk ((by rw [hg]; exact Nat.ne_of_gt (IsS76.lt (show IsS76 w0 _ g s0_0 s0_1 from by repeat (first | (with_reducible first | exact HI0.out | apply IsS76.alloc | apply IsS76.drewN | apply IsS76.drew | apply IsS76.set_1) | exact HI0.out))) : gb523 ≠ g)); clear HI0; clear HK; clear HB; have HI0 := n0_; have HK := n1_; have HB := n2_; have BK523 := n3_; have GW523 := n4_; have GE523 := n5_; have NB0_523 := n6_; have NB523_0 := n7_; clear n0_ n1_ n2_ n3_ n4_ n5_ n6_ n7_; clear hb hbox hg) | ((with_reducible refine gate_callee (f := 41) rfl ?_); refine goesL_ (some 6) rfl rfl Tryd.func41 (by kernel_rfl) rfl #[.pointer (some ⟨g, 0, none⟩), .int .i64 16] rfl (by (try simp only [List.map_toArray, List.map_cons, List.map_nil]); first | done | rfl | (simp only [List.length_drop, List.length_take]; rfl)) ?_; (with_reducible refine (spec_l20Text.calls k g s0_0 s0_1 16 t524 t525 w0 _ ?side1 ?side2 A2.out).mono ?_); (case side1 => repeat (first | (with_reducible first | exact HI0.out | apply IsS76.alloc | apply IsS76.drewN | apply IsS76.drew | apply IsS76.set_1 | refine IsS76.far ?_ NB0_523.out _) | exact HI0.out)); (case side2 => repeat (first | (with_reducible first | exact HB.out | apply below_alloc | apply pw_below_drewN | apply below_drew1 | refine below_set ?_ (IsS76.ge HI0.out) | refine below_set ?_ GE523.out) | exact HB.out)); rintro e w5 ⟨rfl, hi, hb, hk⟩; refine ⟨_, rfl, ?_⟩; have n0_ := Aside0.mk (KeepBut.blk hk (g' := gb523) (o := .cells #[.int .i64 0, .int .i64 0, .string (⟨#[]⟩ : ByteArray)] 43 (0, 0)) (by (with_reducible repeat (first | refine blk_drewN ?_ _ | refine blk_drew ?_ | refine blk_alloc ?_ _)); exact BK523.out) NB523_0.out (by simp)); have n1_ := Aside0.mk (KeepBut.trans (by repeat (first | (with_reducible first | exact HK.out | apply KeepBut.set_ | apply keep_drewN | apply keep_drew | apply keep_alloc | refine keep_far ?_ GW523.out _) | exact HK.out)) hk (.inl rfl)); have n2_ := Aside0.mk (hb); have n3_ := Aside0.mk (hi); clear BK523; clear HK; clear HB; clear HI0; have BK523 := n0_; have HK := n1_; have HB := n2_; have HI0 := n3_; clear n0_ n1_ n2_ n3_; (try clear hb); (try clear hb2); (try clear hk); (try clear hi)) | ((with_reducible refine gate_callee (f := 71) rfl ?_); refine goesL_ (some 10) rfl rfl Tryd.func71 (by kernel_rfl) rfl #[.pointer (some ⟨g, 0, none⟩), .string t524, .int .i64 9] rfl (by (try simp only [List.map_toArray, List.map_cons, List.map_nil]); first | done | rfl | (simp only [List.length_drop, List.length_take]; rfl)) ?_; (with_reducible refine (spec_l20Change.calls k g s0_0 t525 t524 9 t526 t527 t528 t529 w0 _ ?side1 ?side2 A3.out).mono ?_); (case side1 => repeat (first | (with_reducible first | exact HI0.out | apply IsS76.alloc | apply IsS76.drewN | apply IsS76.drew | apply IsS76.set_1 | refine IsS76.far ?_ NB0_523.out _) | exact HI0.out)); (case side2 => repeat (first | (with_reducible first | exact HB.out | apply below_alloc | apply pw_below_drewN | apply below_drew1 | refine below_set ?_ (IsS76.ge HI0.out) | refine below_set ?_ GE523.out) | exact HB.out)); rintro e w6 ⟨rfl, hi, hb, hk⟩; refine ⟨_, rfl, ?_⟩; have n0_ := Aside0.mk (KeepBut.blk hk (g' := gb523) (o := .cells #[.int .i64 0, .int .i64 0, .string (⟨#[]⟩ : ByteArray)] 43 (0, 0)) (by (with_reducible repeat (first | refine blk_drewN ?_ _ | refine blk_drew ?_ | refine blk_alloc ?_ _)); exact BK523.out) NB523_0.out (by simp)); have n1_ := Aside0.mk (KeepBut.trans (by repeat (first | (with_reducible first | exact HK.out | apply KeepBut.set_ | apply keep_drewN | apply keep_drew | apply keep_alloc | refine keep_far ?_ GW523.out _) | exact HK.out)) hk (.inl rfl)); have n2_ := Aside0.mk (hb); have n3_ := Aside0.mk (hi); clear BK523; clear HK; clear HB; clear HI0; have BK523 := n0_; have HK := n1_; have HB := n2_; have HI0 := n3_; clear n0_ n1_ n2_ n3_; (try clear hb); (try clear hb2); (try clear hk); (try clear hi); have hnb7 := NB523_0.out; have hnc7 := NB0_523.out; have hcz8_0 : w6.cell? ⟨gb523, 0, none⟩ = some (.int .i64 0) := (blk_cell BK523.out 0).trans rfl; have hcz8_1 : w6.cell? ⟨gb523, 1, none⟩ = some (.int .i64 0) := (blk_cell BK523.out 1).trans rfl; have hcz8_2 : w6.cell? ⟨gb523, 2, none⟩ = some (.string (⟨#[]⟩ : ByteArray)) := (blk_cell BK523.out 2).trans rfl; have hfz8_0 := blk_frozen BK523.out 0; have hfz8_1 := blk_frozen BK523.out 1; have hfz8_2 := blk_frozen BK523.out 2))
 refine bodyPost_ret (results_tc rfl _ _ gb523 43 #[.int .i64 t526, .int .i64 t527, .string t528] (0, 0) _ rfl (by (with_reducible repeat (first | refine blk_drewN ?_ _ | refine blk_drew ?_ | refine blk_alloc ?_ _)); refine blk_put (cs := #[.int .i64 t526, .int .i64 t527, .string (⟨#[]⟩ : ByteArray)]) ?_ 2 _ rfl; (with_reducible repeat (first | refine blk_drewN ?_ _ | refine blk_drew ?_ | refine blk_alloc ?_ _)); refine blk_put (cs := #[.int .i64 t526, .int .i64 0, .string (⟨#[]⟩ : ByteArray)]) ?_ 1 _ rfl; (with_reducible repeat (first | refine blk_drewN ?_ _ | refine blk_drew ?_ | refine blk_alloc ?_ _)); refine blk_put (cs := #[.int .i64 0, .int .i64 0, .string (⟨#[]⟩ : ByteArray)]) ?_ 0 _ rfl; (with_reducible repeat (first | refine blk_drewN ?_ _ | refine blk_drew ?_ | refine blk_alloc ?_ _)); exact BK523.out) Tryd.underlying43 rfl (by kernel_rfl)) rfl ?_
 exact ⟨by first | rfl | (simp [errW_none, errW_some] <;> rfl) | (simp [*, errW_none, errW_some] <;> rfl), by repeat (first | (with_reducible first | exact HI0.out | apply IsS76.alloc | apply IsS76.drewN | apply IsS76.drew | apply IsS76.set_1 | refine IsS76.far ?_ NB0_523.out _) | exact HI0.out), by repeat (first | (with_reducible first | exact HB.out | apply below_alloc | apply pw_below_drewN | apply below_drew1 | refine below_set ?_ (IsS76.ge HI0.out) | refine below_set ?_ GE523.out) | exact HB.out), by repeat (first | (with_reducible first | exact HK.out | apply KeepBut.set_ | apply keep_drewN | apply keep_drew | apply keep_alloc | refine keep_far ?_ GW523.out _) | exact HK.out)⟩

/-! ### spec_DrawColourAgain: function 32 -/
def spec_DrawColourAgain.f (k : Nat) (l0 : List Int) : Option (ByteArray × Int × Int × ByteArray) := (spec_l20Open.f l0).bind fun bt531 => ((spec_l20Both.f k bt531.1 bt531.2).bind fun bt534 => (some (bt534.1, bt534.2.1, bt534.2.2.1, bt534.2.2.2.1)))
theorem spec_DrawColourAgain.mono : ∀ a0 k, LeO (spec_DrawColourAgain.f k a0) (spec_DrawColourAgain.f (k + 1) a0) := by
 intro a0 k
 unfold spec_DrawColourAgain.f
 repeat' first
   | (with_reducible exact spec_l20Both.mono _ _ _)
   | (with_reducible exact LeO.refl _)
   | (with_reducible exact LeO.none _)
   | (with_reducible refine LeO.ite ?_ ?_)
   | (with_reducible refine LeO.bind ?_ (fun _ => ?_))
   | exact spec_l20Both.mono _ _ _
   | exact LeO.none _
   | refine LeO.ite ?_ ?_
   | refine LeO.bind ?_ (fun _ => ?_)
set_option maxHeartbeats 8000000 in
set_option maxRecDepth 100000 in
theorem spec_DrawColourAgain.calls (k : Nat) (A0 : Option Addr) (c0 : Nat) (l0 : List Int) (r1 : ByteArray) (r2 : Int) (r3 : Int) (r4 : ByteArray) (w : World) (hr0 : Kd.C (Kd.int .u8) w A0 l0.length l0) (hc0 : l0.length ≤ c0) (h : spec_DrawColourAgain.f k l0 = some (r1, r2, r3, r4)) :
  Calls Tryd.prog 32 #[.slice A0 l0.length c0] w fun e w' => e = .returned (.tuple #[.string r1, .agg #[.int .i64 r2, .int .i64 r3, .string r4]]) ∧ Below w.heap.size w w' := by
 have hu43 := Tryd.underlying43
 have HR0 := Aside0.mk hr0
 have HC0 := Aside0.mk hc0
 clear hr0 hc0
 have HB := Aside0.mk (Below.refl w.heap.size w)
 have H : ((spec_l20Open.f l0).bind fun bt531 => ((spec_l20Both.f k bt531.1 bt531.2).bind fun bt534 => (some (bt534.1, bt534.2.1, bt534.2.2.1, bt534.2.2.2.1)))) = some (r1, r2, r3, r4) := h
 clear h
 replace H := Option.bind_eq_some_iff.mp H
 obtain ⟨⟨t531, t532⟩, A20, H⟩ := H
 replace H : ((spec_l20Both.f k t531 t532).bind fun bt534 => (some (bt534.1, bt534.2.1, bt534.2.2.1, bt534.2.2.2.1))) = some (r1, r2, r3, r4) := H
 have A2 := Aside0.mk A20
 clear A20
 replace H := Option.bind_eq_some_iff.mp H
 obtain ⟨⟨t534, t535, t536, t537, t538⟩, A30, H⟩ := H
 replace H : (some (t534, t535, t536, t537)) = some (r1, r2, r3, r4) := H
 have A3 := Aside0.mk A30
 clear A30
 simp only [Option.some.injEq, Prod.mk.injEq] at H
 obtain ⟨rfl, rfl, rfl, rfl⟩ := H
 go_enter Tryd.func32, Tryd.ntmps32
 go_wp2_with (first | ((with_reducible refine gate_dst (N := 3) rfl ?_); refine box_event ?hg (N := 3) ?hd (cs := #[.int .i64 0, .int .i64 0, .string (⟨#[]⟩ : ByteArray)]) (t := 43) ?hr ?_; (case hd => rfl); (case hg => rfl); (case hr => first | (go_simp; done) | (go_simp; rfl) | (simp only [i64_w]; first | (go_simp; done) | (go_simp; rfl))); intro gb530 hg w4 hbox hb; have n0_ := Aside0.mk (below_step (by repeat (first | (with_reducible first | exact HB.out | apply below_alloc | apply pw_below_drewN | apply below_drew1) | exact HB.out)) hb); have n1_ := Aside0.mk (hbox); have n2_ := Aside0.mk ((by rw [hg]; exact (below_size (by repeat (first | (with_reducible first | exact HB.out | apply below_alloc | apply pw_below_drewN | apply below_drew1) | exact HB.out))) : w.heap.size ≤ gb530)); have n3_ := Aside0.mk ((by rw [hg]; exact (below_size (by repeat (first | (with_reducible first | exact HB.out | apply below_alloc | apply pw_below_drewN | apply below_drew1) | exact HB.out))) : w.heap.size ≤ gb530)); clear HB; have HB := n0_; have BK530 := n1_; have GW530 := n2_; have GE530 := n3_; clear n0_ n1_ n2_ n3_; clear hb hbox hg) | ((with_reducible refine gate_callee (f := 42) rfl ?_); refine goesL_ (some 5) rfl rfl Tryd.func42 (by kernel_rfl) rfl #[.slice A0 l0.length c0] rfl (by (try simp only [List.map_toArray, List.map_cons, List.map_nil]); first | done | rfl | (simp only [List.length_drop, List.length_take]; rfl)) ?_; (with_reducible refine (spec_l20Open.calls _ _ l0 t531 t532 w _ ?side1 ?side2 ?side3 A2.out).mono ?_); (case side1 => repeat (first | (with_reducible first | exact HB.out | apply below_alloc | apply pw_below_drewN | apply below_drew1 | refine below_set ?_ GE530.out) | exact HB.out)); (case side2 => exact HR0.out); (case side3 => exact HC0.out); rintro e w5 ⟨g533, rfl, hi, hb, hb2⟩; refine ⟨_, rfl, ?_⟩; have n0_ := Aside0.mk (blk_below (g := gb530) (o := .cells #[.int .i64 0, .int .i64 0, .string (⟨#[]⟩ : ByteArray)] 43 (0, 0)) (by (with_reducible repeat (first | refine blk_drewN ?_ _ | refine blk_drew ?_ | refine blk_alloc ?_ _)); exact BK530.out) hb2); have n1_ := Aside0.mk (hb); have n2_ := Aside0.mk (hi); have n3_ := Aside0.mk (IsS76.ne_blk hi (blk_below (g := gb530) (o := .cells #[.int .i64 0, .int .i64 0, .string (⟨#[]⟩ : ByteArray)] 43 (0, 0)) (by (with_reducible repeat (first | refine blk_drewN ?_ _ | refine blk_drew ?_ | refine blk_alloc ?_ _)); exact BK530.out) hb2) (by decide)); have n4_ := Aside0.mk (Ne.symm (IsS76.ne_blk hi (blk_below (g := gb530) (o := .cells #[.int .i64 0, .int .i64 0, .string (⟨#[]⟩ : ByteArray)] 43 (0, 0)) (by (with_reducible repeat (first | refine blk_drewN ?_ _ | refine blk_drew ?_ | refine blk_alloc ?_ _)); exact BK530.out) hb2) (by decide))); clear BK530; clear HB; have BK530 := n0_; have HB := n1_; have HI533 := n2_; have NB533_530 := n3_; have NB530_533 := n4_; clear n0_ n1_ n2_ n3_ n4_; (try clear hb); (try clear hb2); (try clear hk); (try clear hi)) | ((with_reducible refine gate_callee (f := 52) rfl ?_); refine goesL_ (some 6) rfl rfl Tryd.func52 (by kernel_rfl) rfl #[.pointer (some ⟨g533, 0, none⟩)] rfl (by (try simp only [List.map_toArray, List.map_cons, List.map_nil]); first | done | rfl | (simp only [List.length_drop, List.length_take]; rfl)) ?_; (with_reducible refine (spec_l20Both.calls k g533 t531 t532 t534 t535 t536 t537 t538 w _ ?side1 ?side2 A3.out).mono ?_); (case side1 => repeat (first | (with_reducible first | exact HI533.out | apply IsS76.alloc | apply IsS76.drewN | apply IsS76.drew | apply IsS76.set_1 | refine IsS76.far ?_ NB533_530.out _) | exact HI533.out)); (case side2 => repeat (first | (with_reducible first | exact HB.out | apply below_alloc | apply pw_below_drewN | apply below_drew1 | refine below_set ?_ (IsS76.ge HI533.out) | refine below_set ?_ GE530.out) | exact HB.out)); rintro e w6 ⟨rfl, hi, hb, hk⟩; refine ⟨_, rfl, ?_⟩; have n0_ := Aside0.mk (KeepBut.blk hk (g' := gb530) (o := .cells #[.int .i64 0, .int .i64 0, .string (⟨#[]⟩ : ByteArray)] 43 (0, 0)) (by (with_reducible repeat (first | refine blk_drewN ?_ _ | refine blk_drew ?_ | refine blk_alloc ?_ _)); exact BK530.out) NB530_533.out (by simp)); have n1_ := Aside0.mk (hb); have n2_ := Aside0.mk (hi); clear BK530; clear HB; clear HI533; have BK530 := n0_; have HB := n1_; have HI533 := n2_; clear n0_ n1_ n2_; (try clear hb); (try clear hb2); (try clear hk); (try clear hi); have hnb7 := NB530_533.out; have hnc7 := NB533_530.out; have hcz8_0 : w6.cell? ⟨gb530, 0, none⟩ = some (.int .i64 0) := (blk_cell BK530.out 0).trans rfl; have hcz8_1 : w6.cell? ⟨gb530, 1, none⟩ = some (.int .i64 0) := (blk_cell BK530.out 1).trans rfl; have hcz8_2 : w6.cell? ⟨gb530, 2, none⟩ = some (.string (⟨#[]⟩ : ByteArray)) := (blk_cell BK530.out 2).trans rfl; have hfz8_0 := blk_frozen BK530.out 0; have hfz8_1 := blk_frozen BK530.out 1; have hfz8_2 := blk_frozen BK530.out 2))
 refine bodyPost_ret (results_tc rfl _ _ gb530 43 #[.int .i64 t535, .int .i64 t536, .string t537] (0, 0) _ rfl (by (with_reducible repeat (first | refine blk_drewN ?_ _ | refine blk_drew ?_ | refine blk_alloc ?_ _)); refine blk_put (cs := #[.int .i64 t535, .int .i64 t536, .string (⟨#[]⟩ : ByteArray)]) ?_ 2 _ rfl; (with_reducible repeat (first | refine blk_drewN ?_ _ | refine blk_drew ?_ | refine blk_alloc ?_ _)); refine blk_put (cs := #[.int .i64 t535, .int .i64 0, .string (⟨#[]⟩ : ByteArray)]) ?_ 1 _ rfl; (with_reducible repeat (first | refine blk_drewN ?_ _ | refine blk_drew ?_ | refine blk_alloc ?_ _)); refine blk_put (cs := #[.int .i64 0, .int .i64 0, .string (⟨#[]⟩ : ByteArray)]) ?_ 0 _ rfl; (with_reducible repeat (first | refine blk_drewN ?_ _ | refine blk_drew ?_ | refine blk_alloc ?_ _)); exact BK530.out) Tryd.underlying43 rfl (by kernel_rfl)) rfl ?_
 exact ⟨by first | rfl | (simp [errW_none, errW_some] <;> rfl) | (simp [*, errW_none, errW_some] <;> rfl), by repeat (first | (with_reducible first | exact HB.out | apply below_alloc | apply pw_below_drewN | apply below_drew1 | refine below_set ?_ (IsS76.ge HI533.out) | refine below_set ?_ GE530.out) | exact HB.out)⟩

/-! ### impl_ApplyChange: function 33 -/
def impl_ApplyChange.f (k : Nat) (a0 : ByteArray) (a1_0 : Int) (a1_1 : Int) (a1_2 : ByteArray) : Option (ByteArray × Bool) := (impl_TextValid.f k a0).bind fun t540 => (if t540 = true then ((impl_Change_apply.f k a1_0 a1_1 a1_2 a0).bind fun bt541 => (if bt541.2 = true then (some (bt541.1, true)) else (some (a0, false)))) else (some ((⟨#[]⟩ : ByteArray), false)))
theorem impl_ApplyChange.mono : ∀ a0 a1 a2 a3 k, LeO (impl_ApplyChange.f k a0 a1 a2 a3) (impl_ApplyChange.f (k + 1) a0 a1 a2 a3) := by
 intro a0 a1 a2 a3 k
 unfold impl_ApplyChange.f
 repeat' first
   | (with_reducible exact impl_Change_apply.mono _ _ _ _ _)
   | (with_reducible exact impl_TextValid.mono _ _)
   | (with_reducible exact LeO.refl _)
   | (with_reducible exact LeO.none _)
   | (with_reducible refine LeO.ite ?_ ?_)
   | (with_reducible refine LeO.bind ?_ (fun _ => ?_))
   | exact impl_Change_apply.mono _ _ _ _ _
   | exact impl_TextValid.mono _ _
   | exact LeO.none _
   | refine LeO.ite ?_ ?_
   | refine LeO.bind ?_ (fun _ => ?_)
set_option maxHeartbeats 8000000 in
set_option maxRecDepth 100000 in
theorem impl_ApplyChange.calls (k : Nat) (a0 : ByteArray) (a1_0 : Int) (a1_1 : Int) (a1_2 : ByteArray) (r1 : ByteArray) (r2 : Bool) (w : World) (h : impl_ApplyChange.f k a0 a1_0 a1_1 a1_2 = some (r1, r2)) :
  Calls Tryd.prog 33 #[.string a0, .agg #[.int .i64 a1_0, .int .i64 a1_1, .string a1_2]] w fun e w' => e = .returned (.tuple #[.string r1, .bool r2]) ∧ Below w.heap.size w w' := by
 have hu43 := Tryd.underlying43
 have HB := Aside0.mk (Below.refl w.heap.size w)
 have H : ((impl_TextValid.f k a0).bind fun t540 => (if t540 = true then ((impl_Change_apply.f k a1_0 a1_1 a1_2 a0).bind fun bt541 => (if bt541.2 = true then (some (bt541.1, true)) else (some (a0, false)))) else (some ((⟨#[]⟩ : ByteArray), false)))) = some (r1, r2) := h
 clear h
 replace H := Option.bind_eq_some_iff.mp H
 obtain ⟨t540, A30, H⟩ := H
 replace H : (if t540 = true then ((impl_Change_apply.f k a1_0 a1_1 a1_2 a0).bind fun bt541 => (if bt541.2 = true then (some (bt541.1, true)) else (some (a0, false)))) else (some ((⟨#[]⟩ : ByteArray), false))) = some (r1, r2) := H
 have A3 := Aside0.mk A30
 clear A30
 by_cases c4 : t540 = true
 ·subst c4
  have H1 : ((impl_Change_apply.f k a1_0 a1_1 a1_2 a0).bind fun bt541 => (if bt541.2 = true then (some (bt541.1, true)) else (some (a0, false)))) = some (r1, r2) := by rw [if_pos rfl] at H; exact H
  clear H
  have H := H1
  clear H1
  replace H := Option.bind_eq_some_iff.mp H
  obtain ⟨⟨t541, t542⟩, A50, H⟩ := H
  replace H : (if t542 = true then (some (t541, true)) else (some (a0, false))) = some (r1, r2) := H
  have A5 := Aside0.mk A50
  clear A50
  by_cases c6 : t542 = true
  ·subst c6
   have H1 : (some (t541, true)) = some (r1, r2) := by rw [if_pos rfl] at H; exact H
   clear H
   have H := H1
   clear H1
   simp only [Option.some.injEq, Prod.mk.injEq] at H
   obtain ⟨rfl, rfl⟩ := H
   go_enter Tryd.func33, Tryd.ntmps33
   go_wp2_with (first | ((with_reducible refine gate_dst (N := 3) rfl ?_); refine box_event ?hg (N := 3) ?hd (cs := #[.int .i64 a1_0, .int .i64 a1_1, .string a1_2]) (t := 43) ?hr ?_; (case hd => rfl); (case hg => rfl); (case hr => first | (go_simp; done) | (go_simp; rfl) | (simp only [i64_w]; first | (go_simp; done) | (go_simp; rfl))); intro gb539 hg w7 hbox hb; have n0_ := Aside0.mk (below_step (by repeat (first | (with_reducible first | exact HB.out | apply below_alloc | apply pw_below_drewN | apply below_drew1) | exact HB.out)) hb); have n1_ := Aside0.mk (hbox); have n2_ := Aside0.mk ((by rw [hg]; exact (below_size (by repeat (first | (with_reducible first | exact HB.out | apply below_alloc | apply pw_below_drewN | apply below_drew1) | exact HB.out))) : w.heap.size ≤ gb539)); have n3_ := Aside0.mk ((by rw [hg]; exact (below_size (by repeat (first | (with_reducible first | exact HB.out | apply below_alloc | apply pw_below_drewN | apply below_drew1) | exact HB.out))) : w.heap.size ≤ gb539)); clear HB; have HB := n0_; have BK539 := n1_; have GW539 := n2_; have GE539 := n3_; clear n0_ n1_ n2_ n3_; clear hb hbox hg) | ((with_reducible refine gate_callee (f := 37) rfl ?_); refine goesL_ (some 9) rfl rfl Tryd.func37 (by kernel_rfl) rfl #[.string a0] rfl (by (try simp only [List.map_toArray, List.map_cons, List.map_nil]); first | done | rfl | (simp only [List.length_drop, List.length_take]; rfl)) ?_; (with_reducible refine (impl_TextValid.calls k a0 true _ A3.out).mono ?_); rintro e w' ⟨rfl, ⟨nd, rfl⟩⟩; refine ⟨_, rfl, ?_⟩; have hcz8_0 : w7.cell? ⟨gb539, 0, none⟩ = some (.int .i64 a1_0) := (blk_cell BK539.out 0).trans rfl; have hcz8_1 : w7.cell? ⟨gb539, 1, none⟩ = some (.int .i64 a1_1) := (blk_cell BK539.out 1).trans rfl; have hcz8_2 : w7.cell? ⟨gb539, 2, none⟩ = some (.string a1_2) := (blk_cell BK539.out 2).trans rfl; have hfz8_0 := blk_frozen BK539.out 0; have hfz8_1 := blk_frozen BK539.out 1; have hfz8_2 := blk_frozen BK539.out 2) | ((with_reducible refine gate_callee (f := 49) rfl ?_); refine goesL_ (some 14) rfl rfl Tryd.func49 (by kernel_rfl) rfl #[.agg #[.int .i64 a1_0, .int .i64 a1_1, .string a1_2], .string a0] rfl (by (try simp only [List.map_toArray, List.map_cons, List.map_nil]); first | done | rfl | (simp only [List.length_drop, List.length_take]; rfl)) ?_; (with_reducible refine (impl_Change_apply.calls k a1_0 a1_1 a1_2 a0 t541 true _ A5.out).mono ?_); rintro e w9 ⟨rfl, hb⟩; refine ⟨_, rfl, ?_⟩; have n0_ := Aside0.mk (blk_below (g := gb539) (o := .cells #[.int .i64 a1_0, .int .i64 a1_1, .string a1_2] 43 (0, 0)) (by (with_reducible repeat (first | refine blk_drewN ?_ _ | refine blk_drew ?_ | refine blk_alloc ?_ _)); exact BK539.out) hb); have n1_ := Aside0.mk (below_step (by repeat (first | (with_reducible first | exact HB.out | apply below_alloc | apply pw_below_drewN | apply below_drew1 | refine below_set ?_ GE539.out) | exact HB.out)) hb); clear BK539; clear HB; have BK539 := n0_; have HB := n1_; clear n0_ n1_; (try clear hb); (try clear hb2); (try clear hk); (try clear hi)))
   go_ret2
   exact ⟨by first | rfl | (simp [errW_none, errW_some] <;> rfl) | (simp [*, errW_none, errW_some] <;> rfl), by repeat (first | (with_reducible first | exact HB.out | apply below_alloc | apply pw_below_drewN | apply below_drew1 | refine below_set ?_ GE539.out) | exact HB.out)⟩
  ·replace c6 := Bool.eq_false_iff.mpr c6
   subst c6
   have H1 : (some (a0, false)) = some (r1, r2) := by rw [if_neg (show ¬ (false = true) by decide)] at H; exact H
   clear H
   have H := H1
   clear H1
   simp only [Option.some.injEq, Prod.mk.injEq] at H
   obtain ⟨rfl, rfl⟩ := H
   go_enter Tryd.func33, Tryd.ntmps33
   go_wp2_with (first | ((with_reducible refine gate_dst (N := 3) rfl ?_); refine box_event ?hg (N := 3) ?hd (cs := #[.int .i64 a1_0, .int .i64 a1_1, .string a1_2]) (t := 43) ?hr ?_; (case hd => rfl); (case hg => rfl); (case hr => first | (go_simp; done) | (go_simp; rfl) | (simp only [i64_w]; first | (go_simp; done) | (go_simp; rfl))); intro gb539 hg w10 hbox hb; have n0_ := Aside0.mk (below_step (by repeat (first | (with_reducible first | exact HB.out | apply below_alloc | apply pw_below_drewN | apply below_drew1) | exact HB.out)) hb); have n1_ := Aside0.mk (hbox); have n2_ := Aside0.mk ((by rw [hg]; exact (below_size (by repeat (first | (with_reducible first | exact HB.out | apply below_alloc | apply pw_below_drewN | apply below_drew1) | exact HB.out))) : w.heap.size ≤ gb539)); have n3_ := Aside0.mk ((by rw [hg]; exact (below_size (by repeat (first | (with_reducible first | exact HB.out | apply below_alloc | apply pw_below_drewN | apply below_drew1) | exact HB.out))) : w.heap.size ≤ gb539)); clear HB; have HB := n0_; have BK539 := n1_; have GW539 := n2_; have GE539 := n3_; clear n0_ n1_ n2_ n3_; clear hb hbox hg) | ((with_reducible refine gate_callee (f := 37) rfl ?_); refine goesL_ (some 9) rfl rfl Tryd.func37 (by kernel_rfl) rfl #[.string a0] rfl (by (try simp only [List.map_toArray, List.map_cons, List.map_nil]); first | done | rfl | (simp only [List.length_drop, List.length_take]; rfl)) ?_; (with_reducible refine (impl_TextValid.calls k a0 true _ A3.out).mono ?_); rintro e w' ⟨rfl, ⟨nd, rfl⟩⟩; refine ⟨_, rfl, ?_⟩; have hcz11_0 : w10.cell? ⟨gb539, 0, none⟩ = some (.int .i64 a1_0) := (blk_cell BK539.out 0).trans rfl; have hcz11_1 : w10.cell? ⟨gb539, 1, none⟩ = some (.int .i64 a1_1) := (blk_cell BK539.out 1).trans rfl; have hcz11_2 : w10.cell? ⟨gb539, 2, none⟩ = some (.string a1_2) := (blk_cell BK539.out 2).trans rfl; have hfz11_0 := blk_frozen BK539.out 0; have hfz11_1 := blk_frozen BK539.out 1; have hfz11_2 := blk_frozen BK539.out 2) | ((with_reducible refine gate_callee (f := 49) rfl ?_); refine goesL_ (some 14) rfl rfl Tryd.func49 (by kernel_rfl) rfl #[.agg #[.int .i64 a1_0, .int .i64 a1_1, .string a1_2], .string a0] rfl (by (try simp only [List.map_toArray, List.map_cons, List.map_nil]); first | done | rfl | (simp only [List.length_drop, List.length_take]; rfl)) ?_; (with_reducible refine (impl_Change_apply.calls k a1_0 a1_1 a1_2 a0 t541 false _ A5.out).mono ?_); rintro e w12 ⟨rfl, hb⟩; refine ⟨_, rfl, ?_⟩; have n0_ := Aside0.mk (blk_below (g := gb539) (o := .cells #[.int .i64 a1_0, .int .i64 a1_1, .string a1_2] 43 (0, 0)) (by (with_reducible repeat (first | refine blk_drewN ?_ _ | refine blk_drew ?_ | refine blk_alloc ?_ _)); exact BK539.out) hb); have n1_ := Aside0.mk (below_step (by repeat (first | (with_reducible first | exact HB.out | apply below_alloc | apply pw_below_drewN | apply below_drew1 | refine below_set ?_ GE539.out) | exact HB.out)) hb); clear BK539; clear HB; have BK539 := n0_; have HB := n1_; clear n0_ n1_; (try clear hb); (try clear hb2); (try clear hk); (try clear hi)))
   go_ret2
   exact ⟨by first | rfl | (simp [errW_none, errW_some] <;> rfl) | (simp [*, errW_none, errW_some] <;> rfl), by repeat (first | (with_reducible first | exact HB.out | apply below_alloc | apply pw_below_drewN | apply below_drew1 | refine below_set ?_ GE539.out) | exact HB.out)⟩
 ·replace c4 := Bool.eq_false_iff.mpr c4
  subst c4
  have H1 : (some ((⟨#[]⟩ : ByteArray), false)) = some (r1, r2) := by rw [if_neg (show ¬ (false = true) by decide)] at H; exact H
  clear H
  have H := H1
  clear H1
  simp only [Option.some.injEq, Prod.mk.injEq] at H
  obtain ⟨rfl, rfl⟩ := H
  go_enter Tryd.func33, Tryd.ntmps33
  go_wp2_with (first | ((with_reducible refine gate_dst (N := 3) rfl ?_); refine box_event ?hg (N := 3) ?hd (cs := #[.int .i64 a1_0, .int .i64 a1_1, .string a1_2]) (t := 43) ?hr ?_; (case hd => rfl); (case hg => rfl); (case hr => first | (go_simp; done) | (go_simp; rfl) | (simp only [i64_w]; first | (go_simp; done) | (go_simp; rfl))); intro gb539 hg w13 hbox hb; have n0_ := Aside0.mk (below_step (by repeat (first | (with_reducible first | exact HB.out | apply below_alloc | apply pw_below_drewN | apply below_drew1) | exact HB.out)) hb); have n1_ := Aside0.mk (hbox); have n2_ := Aside0.mk ((by rw [hg]; exact (below_size (by repeat (first | (with_reducible first | exact HB.out | apply below_alloc | apply pw_below_drewN | apply below_drew1) | exact HB.out))) : w.heap.size ≤ gb539)); have n3_ := Aside0.mk ((by rw [hg]; exact (below_size (by repeat (first | (with_reducible first | exact HB.out | apply below_alloc | apply pw_below_drewN | apply below_drew1) | exact HB.out))) : w.heap.size ≤ gb539)); clear HB; have HB := n0_; have BK539 := n1_; have GW539 := n2_; have GE539 := n3_; clear n0_ n1_ n2_ n3_; clear hb hbox hg) | ((with_reducible refine gate_callee (f := 37) rfl ?_); refine goesL_ (some 9) rfl rfl Tryd.func37 (by kernel_rfl) rfl #[.string a0] rfl (by (try simp only [List.map_toArray, List.map_cons, List.map_nil]); first | done | rfl | (simp only [List.length_drop, List.length_take]; rfl)) ?_; (with_reducible refine (impl_TextValid.calls k a0 false _ A3.out).mono ?_); rintro e w' ⟨rfl, ⟨nd, rfl⟩⟩; refine ⟨_, rfl, ?_⟩))
  go_ret2
  exact ⟨by first | rfl | (simp [errW_none, errW_some] <;> rfl) | (simp [*, errW_none, errW_some] <;> rfl), by repeat (first | (with_reducible first | exact HB.out | apply below_alloc | apply pw_below_drewN | apply below_drew1 | refine below_set ?_ GE539.out) | exact HB.out)⟩

/-! ### laws_FnColourAgain: function 9 -/
def laws_FnColourAgain.j0 : Nat → ByteArray → List Int → Int → Bool → Int → Int → ByteArray → Option (Bool)
 | 0, _, _, _, _, _, _, _ => none
 | k + 1, x3, x5, x6, x39, x548000, x548001, x548002 => if x39 = true then (some false) else (if x6 < 0 then (if x6 = (-1) then (if (x5.length : Int) = 0 then ((laws_alive.f k).bind fun t557 => (some t557)) else (some false)) else (some false)) else ((impl_ApplyChange.f k x3 x548000 x548001 x548002).bind fun bt558 => (if bt558.2 = true then ((impl_ColourStates.f k bt558.1).bind fun t560 => ((laws_sameInts.f k x5 t560).bind fun t563 => (if t563 = true then ((impl_LineMany.f k x548002).bind fun t564 => (if x6 ≥ t564 then ((impl_LineMany.f k bt558.1).bind fun t565 => (some (decide (x6 ≤ t565)))) else (some false))) else (some false)))) else (some false))))
def laws_FnColourAgain.f (k : Nat) (l0 : List Int) : Option (Bool) := if (l0.length : Int) > 1048576 then (some true) else ((spec_DrawColourAgain.f k l0).bind fun bt543 => ((impl_ColourAgain.f k bt543.1 bt543.2.1 bt543.2.2.1 bt543.2.2.2).bind fun bt548 => ((spec_ColourAgain.f k bt543.1 bt543.2.1 bt543.2.2.1 bt543.2.2.2).bind fun bt552 => ((laws_sameInts.f k bt548.1 bt552.1).bind fun t556 => (if t556 = true then (laws_FnColourAgain.j0 k bt543.1 bt548.1 bt548.2 (bt548.2 != bt552.2) bt543.2.1 bt543.2.2.1 bt543.2.2.2) else (laws_FnColourAgain.j0 k bt543.1 bt548.1 bt548.2 true bt543.2.1 bt543.2.2.1 bt543.2.2.2))))))
theorem laws_FnColourAgain.mono_l : ∀ k, (∀ y0 y1 y2 y3 y4 y5 y6, LeO (laws_FnColourAgain.j0 k y0 y1 y2 y3 y4 y5 y6) (laws_FnColourAgain.j0 (k + 1) y0 y1 y2 y3 y4 y5 y6))
 | 0 => fun _ _ _ _ _ _ _ r h => by simp [laws_FnColourAgain.j0] at h
 | k + 1 => by
  have ih0 := laws_FnColourAgain.mono_l k
  ·intro y0 y1 y2 y3 y4 y5 y6
   unfold laws_FnColourAgain.j0
   repeat' first
   | (with_reducible exact ih0 _ _ _ _ _ _ _)
   | (with_reducible exact impl_ApplyChange.mono _ _ _ _ _)
   | (with_reducible exact impl_ColourAgain.mono _ _ _ _ _)
   | (with_reducible exact impl_ColourStates.mono _ _)
   | (with_reducible exact impl_LineMany.mono _ _)
   | (with_reducible exact laws_alive.mono _)
   | (with_reducible exact laws_sameInts.mono _ _ _)
   | (with_reducible exact spec_ColourAgain.mono _ _ _ _ _)
   | (with_reducible exact spec_DrawColourAgain.mono _ _)
   | (with_reducible exact LeO.refl _)
   | (with_reducible exact LeO.none _)
   | (with_reducible refine LeO.ite ?_ ?_)
   | (with_reducible refine LeO.bind ?_ (fun _ => ?_))
   | exact ih0 _ _ _ _ _ _ _
   | exact impl_ApplyChange.mono _ _ _ _ _
   | exact impl_ColourAgain.mono _ _ _ _ _
   | exact impl_ColourStates.mono _ _
   | exact impl_LineMany.mono _ _
   | exact laws_alive.mono _
   | exact laws_sameInts.mono _ _ _
   | exact spec_ColourAgain.mono _ _ _ _ _
   | exact spec_DrawColourAgain.mono _ _
   | exact LeO.none _
   | refine LeO.ite ?_ ?_
   | refine LeO.bind ?_ (fun _ => ?_)
theorem laws_FnColourAgain.mono : ∀ a0 k, LeO (laws_FnColourAgain.f k a0) (laws_FnColourAgain.f (k + 1) a0) := by
 intro a0 k
 have ih0 := laws_FnColourAgain.mono_l k
 unfold laws_FnColourAgain.f
 repeat' first
   | (with_reducible exact ih0 _ _ _ _ _ _ _)
   | (with_reducible exact impl_ApplyChange.mono _ _ _ _ _)
   | (with_reducible exact impl_ColourAgain.mono _ _ _ _ _)
   | (with_reducible exact impl_ColourStates.mono _ _)
   | (with_reducible exact impl_LineMany.mono _ _)
   | (with_reducible exact laws_alive.mono _)
   | (with_reducible exact laws_sameInts.mono _ _ _)
   | (with_reducible exact spec_ColourAgain.mono _ _ _ _ _)
   | (with_reducible exact spec_DrawColourAgain.mono _ _)
   | (with_reducible exact LeO.refl _)
   | (with_reducible exact LeO.none _)
   | (with_reducible refine LeO.ite ?_ ?_)
   | (with_reducible refine LeO.bind ?_ (fun _ => ?_))
   | exact ih0 _ _ _ _ _ _ _
   | exact impl_ApplyChange.mono _ _ _ _ _
   | exact impl_ColourAgain.mono _ _ _ _ _
   | exact impl_ColourStates.mono _ _
   | exact impl_LineMany.mono _ _
   | exact laws_alive.mono _
   | exact laws_sameInts.mono _ _ _
   | exact spec_ColourAgain.mono _ _ _ _ _
   | exact spec_DrawColourAgain.mono _ _
   | exact LeO.none _
   | refine LeO.ite ?_ ?_
   | refine LeO.bind ?_ (fun _ => ?_)
set_option maxHeartbeats 8000000 in
set_option maxRecDepth 100000 in
theorem laws_FnColourAgain.calls (k : Nat) (A0 : Option Addr) (c0 : Nat) (l0 : List Int) (r : Bool) (w : World) (hr0 : Kd.C (Kd.int .u8) w A0 l0.length l0) (hc0 : l0.length ≤ c0) (h : laws_FnColourAgain.f k l0 = some r) :
  Calls Tryd.prog 9 #[.slice A0 l0.length c0] w fun e w' => e = .returned (.bool r) ∧ Below w.heap.size w w' := by
 have hu43 := Tryd.underlying43
 have HR0 := Aside0.mk hr0
 have HC0 := Aside0.mk hc0
 clear hr0 hc0
 have HB := Aside0.mk (Below.refl w.heap.size w)
 have H : (if (l0.length : Int) > 1048576 then (some true) else ((spec_DrawColourAgain.f k l0).bind fun bt543 => ((impl_ColourAgain.f k bt543.1 bt543.2.1 bt543.2.2.1 bt543.2.2.2).bind fun bt548 => ((spec_ColourAgain.f k bt543.1 bt543.2.1 bt543.2.2.1 bt543.2.2.2).bind fun bt552 => ((laws_sameInts.f k bt548.1 bt552.1).bind fun t556 => (if t556 = true then (laws_FnColourAgain.j0 k bt543.1 bt548.1 bt548.2 (bt548.2 != bt552.2) bt543.2.1 bt543.2.2.1 bt543.2.2.2) else (laws_FnColourAgain.j0 k bt543.1 bt548.1 bt548.2 true bt543.2.1 bt543.2.2.1 bt543.2.2.2))))))) = some r := h
 clear h
 by_cases c2 : (l0.length : Int) > 1048576
 ·rw [if_pos c2] at H
  have c2b0 : decide (1048576 < (l0.length : Int)) = true := decide_eq_true c2
  have c2b1 : decide (1048576 < l0.length) = true := decide_eq_true (by omega)
  clear c2
  obtain rfl := Option.some.inj H
  go_enter Tryd.func9, Tryd.ntmps9
  go_wp2
  go_ret
  exact ⟨by first | rfl | (simp [errW_none, errW_some] <;> rfl) | (simp [*, errW_none, errW_some] <;> rfl), by repeat (first | (with_reducible first | exact HB.out | apply below_alloc | apply pw_below_drewN | apply below_drew1) | exact HB.out)⟩
 ·rw [if_neg c2] at H
  have c2b0 : decide (1048576 < (l0.length : Int)) = false := decide_eq_false c2
  have c2b1 : decide (1048576 < l0.length) = false := decide_eq_false (by omega)
  clear c2
  replace H := Option.bind_eq_some_iff.mp H
  obtain ⟨⟨t543, t544, t545, t546⟩, A30, H⟩ := H
  replace H : ((impl_ColourAgain.f k t543 t544 t545 t546).bind fun bt548 => ((spec_ColourAgain.f k t543 t544 t545 t546).bind fun bt552 => ((laws_sameInts.f k bt548.1 bt552.1).bind fun t556 => (if t556 = true then (laws_FnColourAgain.j0 k t543 bt548.1 bt548.2 (bt548.2 != bt552.2) t544 t545 t546) else (laws_FnColourAgain.j0 k t543 bt548.1 bt548.2 true t544 t545 t546))))) = some r := H
  have A3 := Aside0.mk A30
  clear A30
  replace H := Option.bind_eq_some_iff.mp H
  obtain ⟨⟨t548, t551⟩, A40, H⟩ := H
  replace H : ((spec_ColourAgain.f k t543 t544 t545 t546).bind fun bt552 => ((laws_sameInts.f k t548 bt552.1).bind fun t556 => (if t556 = true then (laws_FnColourAgain.j0 k t543 t548 t551 (t551 != bt552.2) t544 t545 t546) else (laws_FnColourAgain.j0 k t543 t548 t551 true t544 t545 t546)))) = some r := H
  have A4 := Aside0.mk A40
  clear A40
  replace H := Option.bind_eq_some_iff.mp H
  obtain ⟨⟨t552, t555⟩, A50, H⟩ := H
  replace H : ((laws_sameInts.f k t548 t552).bind fun t556 => (if t556 = true then (laws_FnColourAgain.j0 k t543 t548 t551 (t551 != t555) t544 t545 t546) else (laws_FnColourAgain.j0 k t543 t548 t551 true t544 t545 t546))) = some r := H
  have A5 := Aside0.mk A50
  clear A50
  have HC6 := Aside0.mk H
  clear H
  go_enter Tryd.func9, Tryd.ntmps9
  go_upto_region 6 with (first | ((with_reducible refine gate_callee (f := 32) rfl ?_); refine goesL_ (some 16) rfl rfl Tryd.func32 (by kernel_rfl) rfl #[.slice A0 l0.length c0] rfl (by (try simp only [List.map_toArray, List.map_cons, List.map_nil]); first | done | rfl | (simp only [List.length_drop, List.length_take]; rfl)) ?_; (with_reducible refine (spec_DrawColourAgain.calls k _ _ l0 t543 t544 t545 t546 _ ?side1 ?side2 A3.out).mono ?_); (case side1 => repeat (first | exact HR0.out | (with_reducible refine Kd.C_alloc ?_ _) | (with_reducible refine Kd.C_drewN ?_ _) | (with_reducible refine Kd.C_drew ?_))); (case side2 => exact HC0.out); rintro e w7 ⟨rfl, hb⟩; refine ⟨_, rfl, ?_⟩; have n0_ := Aside0.mk (below_step (by repeat (first | (with_reducible first | exact HB.out | apply below_alloc | apply pw_below_drewN | apply below_drew1) | exact HB.out)) hb); clear HB; have HB := n0_; clear n0_; (try clear hb); (try clear hb2); (try clear hk); (try clear hi)) | ((with_reducible refine gate_dst (N := 4) rfl ?_); (try (refine gate_guard (by rfl) ?_; dsimp only)); refine box_event ?hg (N := 4) ?hd (cs := #[.int .i64 0, .int .i64 0, .string (⟨#[]⟩ : ByteArray)]) (t := 43) ?hr ?_; (case hd => rfl); (case hg => rfl); (case hr => first | (go_simp; done) | (go_simp; rfl) | (simp only [i64_w]; first | (go_simp; done) | (go_simp; rfl))); intro gb547 hg w8 hbox hb; have n0_ := Aside0.mk (below_step (by repeat (first | (with_reducible first | exact HB.out | apply below_alloc | apply pw_below_drewN | apply below_drew1) | exact HB.out)) hb); have n1_ := Aside0.mk (hbox); have n2_ := Aside0.mk ((by rw [hg]; exact (below_size (by repeat (first | (with_reducible first | exact HB.out | apply below_alloc | apply pw_below_drewN | apply below_drew1) | exact HB.out))) : w.heap.size ≤ gb547)); have n3_ := Aside0.mk ((by rw [hg]; exact (below_size (by repeat (first | (with_reducible first | exact HB.out | apply below_alloc | apply pw_below_drewN | apply below_drew1) | exact HB.out))) : w.heap.size ≤ gb547)); clear HB; have HB := n0_; have BK547 := n1_; have GW547 := n2_; have GE547 := n3_; clear n0_ n1_ n2_ n3_; clear hb hbox hg; have hcz9_0 : w8.cell? ⟨gb547, 0, none⟩ = some (.int .i64 0) := (blk_cell BK547.out 0).trans rfl; have hcz9_1 : w8.cell? ⟨gb547, 1, none⟩ = some (.int .i64 0) := (blk_cell BK547.out 1).trans rfl; have hcz9_2 : w8.cell? ⟨gb547, 2, none⟩ = some (.string (⟨#[]⟩ : ByteArray)) := (blk_cell BK547.out 2).trans rfl; have hfz9_0 := blk_frozen BK547.out 0; have hfz9_1 := blk_frozen BK547.out 1; have hfz9_2 := blk_frozen BK547.out 2) | ((with_reducible refine gate_callee (f := 31) rfl ?_); refine goesL_ (some 22) rfl rfl Tryd.func31 (by kernel_rfl) rfl #[.string t543, .agg #[.int .i64 t544, .int .i64 t545, .string t546]] rfl (by (try simp only [List.map_toArray, List.map_cons, List.map_nil]); first | done | rfl | (simp only [List.length_drop, List.length_take]; rfl)) ?_; (with_reducible refine (impl_ColourAgain.calls k t543 t544 t545 t546 t548 t551 _ A4.out).mono ?_); rintro e w10 ⟨v549, rfl, ho0, hb⟩; refine ⟨_, rfl, ?_⟩; have n0_ := Aside0.mk (Kd.R_lower ho0 (below_size (by repeat (first | (with_reducible first | exact HB.out | apply below_alloc | apply pw_below_drewN | apply below_drew1 | refine below_set ?_ GE547.out) | exact HB.out)))); have n1_ := Aside0.mk (blk_below (g := gb547) (o := .cells #[.int .i64 t544, .int .i64 t545, .string t546] 43 (0, 0)) (by (with_reducible repeat (first | refine blk_drewN ?_ _ | refine blk_drew ?_ | refine blk_alloc ?_ _)); refine blk_put (cs := #[.int .i64 t544, .int .i64 t545, .string (⟨#[]⟩ : ByteArray)]) ?_ 2 _ rfl; (with_reducible repeat (first | refine blk_drewN ?_ _ | refine blk_drew ?_ | refine blk_alloc ?_ _)); refine blk_put (cs := #[.int .i64 t544, .int .i64 0, .string (⟨#[]⟩ : ByteArray)]) ?_ 1 _ rfl; (with_reducible repeat (first | refine blk_drewN ?_ _ | refine blk_drew ?_ | refine blk_alloc ?_ _)); refine blk_put (cs := #[.int .i64 0, .int .i64 0, .string (⟨#[]⟩ : ByteArray)]) ?_ 0 _ rfl; (with_reducible repeat (first | refine blk_drewN ?_ _ | refine blk_drew ?_ | refine blk_alloc ?_ _)); exact BK547.out) hb); have n2_ := Aside0.mk (below_step (by repeat (first | (with_reducible first | exact HB.out | apply below_alloc | apply pw_below_drewN | apply below_drew1 | refine below_set ?_ GE547.out) | exact HB.out)) hb); clear BK547; clear HB; have HO550 := n0_; have BK547 := n1_; have HB := n2_; clear n0_ n1_ n2_; (try clear hb); (try clear hb2); (try clear hk); (try clear hi); (try clear ho0); have hcz11_0 : w10.cell? ⟨gb547, 0, none⟩ = some (.int .i64 t544) := (blk_cell BK547.out 0).trans rfl; have hcz11_1 : w10.cell? ⟨gb547, 1, none⟩ = some (.int .i64 t545) := (blk_cell BK547.out 1).trans rfl; have hcz11_2 : w10.cell? ⟨gb547, 2, none⟩ = some (.string t546) := (blk_cell BK547.out 2).trans rfl; have hfz11_0 := blk_frozen BK547.out 0; have hfz11_1 := blk_frozen BK547.out 1; have hfz11_2 := blk_frozen BK547.out 2) | ((with_reducible refine gate_callee (f := 29) rfl ?_); refine goesL_ (some 28) rfl rfl Tryd.func29 (by kernel_rfl) rfl #[.string t543, .agg #[.int .i64 t544, .int .i64 t545, .string t546]] rfl (by (try simp only [List.map_toArray, List.map_cons, List.map_nil]); first | done | rfl | (simp only [List.length_drop, List.length_take]; rfl)) ?_; (with_reducible refine (spec_ColourAgain.calls k t543 t544 t545 t546 t552 t555 _ A5.out).mono ?_); rintro e w12 ⟨v553, rfl, ho0, hb⟩; refine ⟨_, rfl, ?_⟩; have n0_ := Aside0.mk (Kd.R_elder' (by (with_reducible repeat (first | apply Kd.R_alloc | apply Kd.R_drewN | apply Kd.R_drew)); exact HO550.out) (Kd.R_base ho0) hb); have n1_ := Aside0.mk (Kd.R_lower (Kd.R_new' ho0 (Kd.R_lt (by (with_reducible repeat (first | apply Kd.R_alloc | apply Kd.R_drewN | apply Kd.R_drew)); exact HO550.out))) (below_size (by repeat (first | (with_reducible first | exact HB.out | apply below_alloc | apply pw_below_drewN | apply below_drew1 | refine below_set ?_ GE547.out) | exact HB.out)))); have n2_ := Aside0.mk (blk_below (g := gb547) (o := .cells #[.int .i64 t544, .int .i64 t545, .string t546] 43 (0, 0)) (by (with_reducible repeat (first | refine blk_drewN ?_ _ | refine blk_drew ?_ | refine blk_alloc ?_ _)); exact BK547.out) hb); have n3_ := Aside0.mk (below_step (by repeat (first | (with_reducible first | exact HB.out | apply below_alloc | apply pw_below_drewN | apply below_drew1 | refine below_set ?_ GE547.out) | exact HB.out)) hb); clear HO550; clear BK547; clear HB; have HO550 := n0_; have HO554 := n1_; have BK547 := n2_; have HB := n3_; clear n0_ n1_ n2_ n3_; (try clear hb); (try clear hb2); (try clear hk); (try clear hi); (try clear ho0)))
  (try simp only [Act.put, List.setIfInBounds_toArray, List.set_cons_zero, List.set_cons_succ])
  go_cut [39] (fun v39 wc => ∃ (kq : Nat) (x39_5 : Bool), v39 = .bool x39_5 ∧ Aside0 (laws_FnColourAgain.j0 kq t543 t548 t551 x39_5 t544 t545 t546 = some r) ∧ Aside0 (kq ≤ k) ∧ Aside0 (Kd.R (Kd.int .i64) 3 wc w.heap.size (fun _ => True) v549 t548) ∧ Aside0 (wc.heap[gb547]? = some (.cells #[.int .i64 t544, .int .i64 t545, .string t546] 43 (0, 0))) ∧ Aside0 (Below w.heap.size w wc))
  case first =>
   have H := HC6.out
   clear HC6
   replace H := Option.bind_eq_some_iff.mp H
   obtain ⟨t556, A130, H⟩ := H
   replace H : (if t556 = true then (laws_FnColourAgain.j0 k t543 t548 t551 (t551 != t555) t544 t545 t546) else (laws_FnColourAgain.j0 k t543 t548 t551 true t544 t545 t546)) = some r := H
   have A13 := Aside0.mk A130
   clear A130
   by_cases c14 : t556 = true
   ·subst c14
    have H1 : (laws_FnColourAgain.j0 k t543 t548 t551 (t551 != t555) t544 t545 t546) = some r := by rw [if_pos rfl] at H; exact H
    clear H
    have H := H1
    clear H1
    have H' := Aside0.mk H
    clear H
    obtain ⟨Ao15, co15, eo15⟩ := Kd.R_slice HO550.out
    subst eo15
    obtain ⟨Ao16, co16, eo16⟩ := Kd.R_slice HO554.out
    subst eo16
    go_wp2_with (first | ((with_reducible refine gate_callee (f := 21) rfl ?_); refine goesL_ (some 33) rfl rfl Tryd.func21 (by kernel_rfl) rfl #[.slice Ao15 t548.length co15, .slice Ao16 t552.length co16] rfl (by (try simp only [List.map_toArray, List.map_cons, List.map_nil]); first | done | rfl | (simp only [List.length_drop, List.length_take]; rfl)) ?_; (with_reducible refine (laws_sameInts.calls k _ _ t548 _ _ t552 true _ ?side1 ?side2 ?side3 ?side4 A13.out).mono ?_); (case side1 => repeat (first | exact (Kd.R_reads' HO550.out).2.2 | (with_reducible refine Kd.C_alloc ?_ _) | (with_reducible refine Kd.C_drewN ?_ _) | (with_reducible refine Kd.C_drew ?_))); (case side2 => exact (Kd.R_reads' HO550.out).2.1); (case side3 => repeat (first | exact (Kd.R_reads' HO554.out).2.2 | (with_reducible refine Kd.C_alloc ?_ _) | (with_reducible refine Kd.C_drewN ?_ _) | (with_reducible refine Kd.C_drew ?_))); (case side4 => exact (Kd.R_reads' HO554.out).2.1); rintro e w' ⟨rfl, ⟨nd, rfl⟩⟩; refine ⟨_, rfl, ?_⟩))
    go_meet
    case rel => exact ⟨_, ((t551 != t555)), (by first | rfl | (simp; done) | (simp [*]; done)), H', ⟨by first | omega | exact Nat.le_refl _⟩, ⟨by (with_reducible repeat (first | apply Kd.R_alloc | apply Kd.R_drewN | apply Kd.R_drew)); exact Kd.R_mono HO550.out (fun _ hk => trivial)⟩, ⟨by (with_reducible repeat (first | refine blk_drewN ?_ _ | refine blk_drew ?_ | refine blk_alloc ?_ _)); exact BK547.out⟩, ⟨by repeat (first | (with_reducible first | exact HB.out | apply below_alloc | apply pw_below_drewN | apply below_drew1 | refine below_set ?_ GE547.out) | exact HB.out)⟩⟩
   ·replace c14 := Bool.eq_false_iff.mpr c14
    subst c14
    have H1 : (laws_FnColourAgain.j0 k t543 t548 t551 true t544 t545 t546) = some r := by rw [if_neg (show ¬ (false = true) by decide)] at H; exact H
    clear H
    have H := H1
    clear H1
    have H' := Aside0.mk H
    clear H
    obtain ⟨Ao17, co17, eo17⟩ := Kd.R_slice HO550.out
    subst eo17
    obtain ⟨Ao18, co18, eo18⟩ := Kd.R_slice HO554.out
    subst eo18
    go_wp2_with (first | ((with_reducible refine gate_callee (f := 21) rfl ?_); refine goesL_ (some 33) rfl rfl Tryd.func21 (by kernel_rfl) rfl #[.slice Ao17 t548.length co17, .slice Ao18 t552.length co18] rfl (by (try simp only [List.map_toArray, List.map_cons, List.map_nil]); first | done | rfl | (simp only [List.length_drop, List.length_take]; rfl)) ?_; (with_reducible refine (laws_sameInts.calls k _ _ t548 _ _ t552 false _ ?side1 ?side2 ?side3 ?side4 A13.out).mono ?_); (case side1 => repeat (first | exact (Kd.R_reads' HO550.out).2.2 | (with_reducible refine Kd.C_alloc ?_ _) | (with_reducible refine Kd.C_drewN ?_ _) | (with_reducible refine Kd.C_drew ?_))); (case side2 => exact (Kd.R_reads' HO550.out).2.1); (case side3 => repeat (first | exact (Kd.R_reads' HO554.out).2.2 | (with_reducible refine Kd.C_alloc ?_ _) | (with_reducible refine Kd.C_drewN ?_ _) | (with_reducible refine Kd.C_drew ?_))); (case side4 => exact (Kd.R_reads' HO554.out).2.1); rintro e w' ⟨rfl, ⟨nd, rfl⟩⟩; refine ⟨_, rfl, ?_⟩))
    go_meet
    case rel => exact ⟨_, (true), (by first | rfl | (simp; done) | (simp [*]; done)), H', ⟨by first | omega | exact Nat.le_refl _⟩, ⟨by (with_reducible repeat (first | apply Kd.R_alloc | apply Kd.R_drewN | apply Kd.R_drew)); exact Kd.R_mono HO550.out (fun _ hk => trivial)⟩, ⟨by (with_reducible repeat (first | refine blk_drewN ?_ _ | refine blk_drew ?_ | refine blk_alloc ?_ _)); exact BK547.out⟩, ⟨by repeat (first | (with_reducible first | exact HB.out | apply below_alloc | apply pw_below_drewN | apply below_drew1 | refine below_set ?_ GE547.out) | exact HB.out)⟩⟩
  case rest =>
   clear HC6
   try clear c1
   try clear c2
   try clear c2b0
   try clear c2b1
   try clear p2
   try clear c3
   try clear c9
   try clear c14
   try clear hcz11_0
   try clear hcz11_1
   try clear hcz11_2
   try clear hcz9_0
   try clear hcz9_1
   try clear hcz9_2
   try clear hfz11_0
   try clear hfz11_1
   try clear hfz11_2
   try clear hfz9_0
   try clear hfz9_1
   try clear hfz9_2
   obtain ⟨kq, x39_5, rfl, HA, HJ5, HO_5, BK547, HB⟩ := hcut
   cases kq with
   | zero => exact absurd HA.out (by simp [laws_FnColourAgain.j0])
   | succ kj5 =>
    have H := HA.out
    clear HA
    simp only [laws_FnColourAgain.j0] at H
    by_cases c19 : x39_5 = true
    ·subst c19
     have H1 : (some false) = some r := by rw [if_pos rfl] at H; exact H
     clear H
     have H := H1
     clear H1
     obtain rfl := Option.some.inj H
     go_wp2
     go_ret
     exact ⟨by first | rfl | (simp [errW_none, errW_some] <;> rfl) | (simp [*, errW_none, errW_some] <;> rfl), by repeat (first | (with_reducible first | exact HB.out | apply below_alloc | apply pw_below_drewN | apply below_drew1 | refine below_set ?_ GE547.out) | exact HB.out)⟩
    ·replace c19 := Bool.eq_false_iff.mpr c19
     subst c19
     have H1 : (if t551 < 0 then (if t551 = (-1) then (if (t548.length : Int) = 0 then ((laws_alive.f kj5).bind fun t557 => (some t557)) else (some false)) else (some false)) else ((impl_ApplyChange.f kj5 t543 t544 t545 t546).bind fun bt558 => (if bt558.2 = true then ((impl_ColourStates.f kj5 bt558.1).bind fun t560 => ((laws_sameInts.f kj5 t548 t560).bind fun t563 => (if t563 = true then ((impl_LineMany.f kj5 t546).bind fun t564 => (if t551 ≥ t564 then ((impl_LineMany.f kj5 bt558.1).bind fun t565 => (some (decide (t551 ≤ t565)))) else (some false))) else (some false)))) else (some false)))) = some r := by rw [if_neg (show ¬ (false = true) by decide)] at H; exact H
     clear H
     have H := H1
     clear H1
     by_cases c20 : t551 < 0
     ·rw [if_pos c20] at H
      have c20b0 : decide (t551 < 0) = true := decide_eq_true c20
      clear c20
      by_cases c21 : t551 = (-1)
      ·rw [if_pos c21] at H
       have c21b0 : (t551 == (-1)) = true := beq_iff_eq.mpr c21
       have c21b1 : (t551 != (-1)) = false := bne_eq_false_iff_eq.mpr c21
       clear c21
       by_cases c22 : (t548.length : Int) = 0
       ·rw [if_pos c22] at H
        have c22b0 : ((t548.length : Int) == 0) = true := beq_iff_eq.mpr c22
        have c22b1 : ((t548.length : Int) != 0) = false := bne_eq_false_iff_eq.mpr c22
        clear c22
        replace H := Option.bind_eq_some_iff.mp H
        obtain ⟨t557, A230, H⟩ := H
        replace H : (some t557) = some r := H
        have A23 := Aside0.mk A230
        clear A230
        obtain rfl := Option.some.inj H
        obtain ⟨Ao24, co24, eo24⟩ := Kd.R_slice HO_5.out
        subst eo24
        go_wp2_with (first | (go_at_call 22; (with_reducible refine (laws_alive.calls kj5  t557 _ A23.out).mono ?_); rintro e w' ⟨rfl, ⟨nd, rfl⟩⟩))
        go_ret
        exact ⟨by first | rfl | (simp [errW_none, errW_some] <;> rfl) | (simp [*, errW_none, errW_some] <;> rfl), by repeat (first | (with_reducible first | exact HB.out | apply below_alloc | apply pw_below_drewN | apply below_drew1 | refine below_set ?_ GE547.out) | exact HB.out)⟩
       ·rw [if_neg c22] at H
        have c22b0 : ((t548.length : Int) == 0) = false := beq_eq_false_iff_ne.mpr c22
        have c22b1 : ((t548.length : Int) != 0) = true := bne_iff_ne.mpr c22
        have c22b2 : ¬ (t548 = []) := fun h_ => c22 (by rw [h_]; rfl)
        obtain rfl := Option.some.inj H
        obtain ⟨Ao25, co25, eo25⟩ := Kd.R_slice HO_5.out
        subst eo25
        go_wp2
        go_ret
        exact ⟨by first | rfl | (simp [errW_none, errW_some] <;> rfl) | (simp [*, errW_none, errW_some] <;> rfl), by repeat (first | (with_reducible first | exact HB.out | apply below_alloc | apply pw_below_drewN | apply below_drew1 | refine below_set ?_ GE547.out) | exact HB.out)⟩
      ·rw [if_neg c21] at H
       have c21b0 : (t551 == (-1)) = false := beq_eq_false_iff_ne.mpr c21
       have c21b1 : (t551 != (-1)) = true := bne_iff_ne.mpr c21
       obtain rfl := Option.some.inj H
       go_wp2
       go_ret
       exact ⟨by first | rfl | (simp [errW_none, errW_some] <;> rfl) | (simp [*, errW_none, errW_some] <;> rfl), by repeat (first | (with_reducible first | exact HB.out | apply below_alloc | apply pw_below_drewN | apply below_drew1 | refine below_set ?_ GE547.out) | exact HB.out)⟩
     ·rw [if_neg c20] at H
      have c20b0 : decide (t551 < 0) = false := decide_eq_false c20
      clear c20
      replace H := Option.bind_eq_some_iff.mp H
      obtain ⟨⟨t558, t559⟩, A260, H⟩ := H
      replace H : (if t559 = true then ((impl_ColourStates.f kj5 t558).bind fun t560 => ((laws_sameInts.f kj5 t548 t560).bind fun t563 => (if t563 = true then ((impl_LineMany.f kj5 t546).bind fun t564 => (if t551 ≥ t564 then ((impl_LineMany.f kj5 t558).bind fun t565 => (some (decide (t551 ≤ t565)))) else (some false))) else (some false)))) else (some false)) = some r := H
      have A26 := Aside0.mk A260
      clear A260
      by_cases c27 : t559 = true
      ·subst c27
       have H1 : ((impl_ColourStates.f kj5 t558).bind fun t560 => ((laws_sameInts.f kj5 t548 t560).bind fun t563 => (if t563 = true then ((impl_LineMany.f kj5 t546).bind fun t564 => (if t551 ≥ t564 then ((impl_LineMany.f kj5 t558).bind fun t565 => (some (decide (t551 ≤ t565)))) else (some false))) else (some false)))) = some r := by rw [if_pos rfl] at H; exact H
       clear H
       have H := H1
       clear H1
       replace H := Option.bind_eq_some_iff.mp H
       obtain ⟨t560, A280, H⟩ := H
       replace H : ((laws_sameInts.f kj5 t548 t560).bind fun t563 => (if t563 = true then ((impl_LineMany.f kj5 t546).bind fun t564 => (if t551 ≥ t564 then ((impl_LineMany.f kj5 t558).bind fun t565 => (some (decide (t551 ≤ t565)))) else (some false))) else (some false))) = some r := H
       have A28 := Aside0.mk A280
       clear A280
       replace H := Option.bind_eq_some_iff.mp H
       obtain ⟨t563, A290, H⟩ := H
       replace H : (if t563 = true then ((impl_LineMany.f kj5 t546).bind fun t564 => (if t551 ≥ t564 then ((impl_LineMany.f kj5 t558).bind fun t565 => (some (decide (t551 ≤ t565)))) else (some false))) else (some false)) = some r := H
       have A29 := Aside0.mk A290
       clear A290
       by_cases c30 : t563 = true
       ·subst c30
        have H1 : ((impl_LineMany.f kj5 t546).bind fun t564 => (if t551 ≥ t564 then ((impl_LineMany.f kj5 t558).bind fun t565 => (some (decide (t551 ≤ t565)))) else (some false))) = some r := by rw [if_pos rfl] at H; exact H
        clear H
        have H := H1
        clear H1
        replace H := Option.bind_eq_some_iff.mp H
        obtain ⟨t564, A310, H⟩ := H
        replace H : (if t551 ≥ t564 then ((impl_LineMany.f kj5 t558).bind fun t565 => (some (decide (t551 ≤ t565)))) else (some false)) = some r := H
        have A31 := Aside0.mk A310
        clear A310
        by_cases c32 : t551 ≥ t564
        ·rw [if_pos c32] at H
         have c32b0 : decide (t564 ≤ t551) = true := decide_eq_true c32
         clear c32
         replace H := Option.bind_eq_some_iff.mp H
         obtain ⟨t565, A330, H⟩ := H
         replace H : (some (decide (t551 ≤ t565))) = some r := H
         have A33 := Aside0.mk A330
         clear A330
         obtain rfl := Option.some.inj H
         have hcz34_0 : wc.cell? ⟨gb547, 0, none⟩ = some (.int .i64 t544) := (blk_cell BK547.out 0).trans rfl
         have hcz34_1 : wc.cell? ⟨gb547, 1, none⟩ = some (.int .i64 t545) := (blk_cell BK547.out 1).trans rfl
         have hcz34_2 : wc.cell? ⟨gb547, 2, none⟩ = some (.string t546) := (blk_cell BK547.out 2).trans rfl
         have hfz34_0 := blk_frozen BK547.out 0
         have hfz34_1 := blk_frozen BK547.out 1
         have hfz34_2 := blk_frozen BK547.out 2
         go_wp2_with (first | ((with_reducible refine gate_callee (f := 33) rfl ?_); refine goesL_ (some 55) rfl rfl Tryd.func33 (by kernel_rfl) rfl #[.string t543, .agg #[.int .i64 t544, .int .i64 t545, .string t546]] rfl (by (try simp only [List.map_toArray, List.map_cons, List.map_nil]); first | done | rfl | (simp only [List.length_drop, List.length_take]; rfl)) ?_; (with_reducible refine (impl_ApplyChange.calls kj5 t543 t544 t545 t546 t558 true _ A26.out).mono ?_); rintro e w35 ⟨rfl, hb⟩; refine ⟨_, rfl, ?_⟩; have n0_ := Aside0.mk (Kd.R_below (by (with_reducible repeat (first | apply Kd.R_alloc | apply Kd.R_drewN | apply Kd.R_drew)); exact HO_5.out) hb); have n1_ := Aside0.mk (blk_below (g := gb547) (o := .cells #[.int .i64 t544, .int .i64 t545, .string t546] 43 (0, 0)) (by (with_reducible repeat (first | refine blk_drewN ?_ _ | refine blk_drew ?_ | refine blk_alloc ?_ _)); exact BK547.out) hb); have n2_ := Aside0.mk (below_step (by repeat (first | (with_reducible first | exact HB.out | apply below_alloc | apply pw_below_drewN | apply below_drew1 | refine below_set ?_ GE547.out) | exact HB.out)) hb); clear HO_5; clear BK547; clear HB; have HO_5 := n0_; have BK547 := n1_; have HB := n2_; clear n0_ n1_ n2_; (try clear hb); (try clear hb2); (try clear hk); (try clear hi)) | (go_at_call 11; (with_reducible refine (impl_ColourStates.calls kj5 t558 t560 _ A28.out).mono ?_); rintro e w36 ⟨v561, rfl, ho0, hb⟩; have n0_ := Aside0.mk (Kd.R_elder' (by (with_reducible repeat (first | apply Kd.R_alloc | apply Kd.R_drewN | apply Kd.R_drew)); exact HO_5.out) (Kd.R_base ho0) hb); have n1_ := Aside0.mk (Kd.R_lower (Kd.R_new' ho0 (Kd.R_lt (by (with_reducible repeat (first | apply Kd.R_alloc | apply Kd.R_drewN | apply Kd.R_drew)); exact HO_5.out))) (below_size (by repeat (first | (with_reducible first | exact HB.out | apply below_alloc | apply pw_below_drewN | apply below_drew1 | refine below_set ?_ GE547.out) | exact HB.out)))); have n2_ := Aside0.mk (blk_below (g := gb547) (o := .cells #[.int .i64 t544, .int .i64 t545, .string t546] 43 (0, 0)) (by (with_reducible repeat (first | refine blk_drewN ?_ _ | refine blk_drew ?_ | refine blk_alloc ?_ _)); exact BK547.out) hb); have n3_ := Aside0.mk (below_step (by repeat (first | (with_reducible first | exact HB.out | apply below_alloc | apply pw_below_drewN | apply below_drew1 | refine below_set ?_ GE547.out) | exact HB.out)) hb); clear HO_5; clear BK547; clear HB; have HO_5 := n0_; have HO562 := n1_; have BK547 := n2_; have HB := n3_; clear n0_ n1_ n2_ n3_; (try clear hb); (try clear hb2); (try clear hk); (try clear hi); (try clear ho0); obtain ⟨Ao37, co37, eo37⟩ := Kd.R_slice HO_5.out; subst eo37; obtain ⟨Ao38, co38, eo38⟩ := Kd.R_slice HO562.out; subst eo38) | (go_at_call 21; (with_reducible refine (laws_sameInts.calls kj5 _ _ t548 _ _ t560 true _ ?side1 ?side2 ?side3 ?side4 A29.out).mono ?_); (case side1 => repeat (first | exact (Kd.R_reads' HO_5.out).2.2 | (with_reducible refine Kd.C_alloc ?_ _) | (with_reducible refine Kd.C_drewN ?_ _) | (with_reducible refine Kd.C_drew ?_))); (case side2 => exact (Kd.R_reads' HO_5.out).2.1); (case side3 => repeat (first | exact (Kd.R_reads' HO562.out).2.2 | (with_reducible refine Kd.C_alloc ?_ _) | (with_reducible refine Kd.C_drewN ?_ _) | (with_reducible refine Kd.C_drew ?_))); (case side4 => exact (Kd.R_reads' HO562.out).2.1); rintro e w' ⟨rfl, ⟨nd, rfl⟩⟩; have hcz39_0 : w36.cell? ⟨gb547, 0, none⟩ = some (.int .i64 t544) := (blk_cell BK547.out 0).trans rfl; have hcz39_1 : w36.cell? ⟨gb547, 1, none⟩ = some (.int .i64 t545) := (blk_cell BK547.out 1).trans rfl; have hcz39_2 : w36.cell? ⟨gb547, 2, none⟩ = some (.string t546) := (blk_cell BK547.out 2).trans rfl; have hfz39_0 := blk_frozen BK547.out 0; have hfz39_1 := blk_frozen BK547.out 1; have hfz39_2 := blk_frozen BK547.out 2) | (go_at_call 34; (with_reducible refine (impl_LineMany.calls kj5 t546 t564 _ A31.out).mono ?_); rintro e w' ⟨rfl, ⟨nd, rfl⟩⟩) | (go_at_call 34; (with_reducible refine (impl_LineMany.calls kj5 t558 t565 _ A33.out).mono ?_); rintro e w' ⟨rfl, ⟨nd, rfl⟩⟩))
         go_ret
         exact ⟨by first | rfl | (simp [errW_none, errW_some] <;> rfl) | (simp [*, errW_none, errW_some] <;> rfl), by repeat (first | (with_reducible first | exact HB.out | apply below_alloc | apply pw_below_drewN | apply below_drew1 | refine below_set ?_ GE547.out) | exact HB.out)⟩
        ·rw [if_neg c32] at H
         have c32b0 : decide (t564 ≤ t551) = false := decide_eq_false c32
         clear c32
         obtain rfl := Option.some.inj H
         have hcz40_0 : wc.cell? ⟨gb547, 0, none⟩ = some (.int .i64 t544) := (blk_cell BK547.out 0).trans rfl
         have hcz40_1 : wc.cell? ⟨gb547, 1, none⟩ = some (.int .i64 t545) := (blk_cell BK547.out 1).trans rfl
         have hcz40_2 : wc.cell? ⟨gb547, 2, none⟩ = some (.string t546) := (blk_cell BK547.out 2).trans rfl
         have hfz40_0 := blk_frozen BK547.out 0
         have hfz40_1 := blk_frozen BK547.out 1
         have hfz40_2 := blk_frozen BK547.out 2
         go_wp2_with (first | ((with_reducible refine gate_callee (f := 33) rfl ?_); refine goesL_ (some 55) rfl rfl Tryd.func33 (by kernel_rfl) rfl #[.string t543, .agg #[.int .i64 t544, .int .i64 t545, .string t546]] rfl (by (try simp only [List.map_toArray, List.map_cons, List.map_nil]); first | done | rfl | (simp only [List.length_drop, List.length_take]; rfl)) ?_; (with_reducible refine (impl_ApplyChange.calls kj5 t543 t544 t545 t546 t558 true _ A26.out).mono ?_); rintro e w41 ⟨rfl, hb⟩; refine ⟨_, rfl, ?_⟩; have n0_ := Aside0.mk (Kd.R_below (by (with_reducible repeat (first | apply Kd.R_alloc | apply Kd.R_drewN | apply Kd.R_drew)); exact HO_5.out) hb); have n1_ := Aside0.mk (blk_below (g := gb547) (o := .cells #[.int .i64 t544, .int .i64 t545, .string t546] 43 (0, 0)) (by (with_reducible repeat (first | refine blk_drewN ?_ _ | refine blk_drew ?_ | refine blk_alloc ?_ _)); exact BK547.out) hb); have n2_ := Aside0.mk (below_step (by repeat (first | (with_reducible first | exact HB.out | apply below_alloc | apply pw_below_drewN | apply below_drew1 | refine below_set ?_ GE547.out) | exact HB.out)) hb); clear HO_5; clear BK547; clear HB; have HO_5 := n0_; have BK547 := n1_; have HB := n2_; clear n0_ n1_ n2_; (try clear hb); (try clear hb2); (try clear hk); (try clear hi)) | (go_at_call 11; (with_reducible refine (impl_ColourStates.calls kj5 t558 t560 _ A28.out).mono ?_); rintro e w42 ⟨v561, rfl, ho0, hb⟩; have n0_ := Aside0.mk (Kd.R_elder' (by (with_reducible repeat (first | apply Kd.R_alloc | apply Kd.R_drewN | apply Kd.R_drew)); exact HO_5.out) (Kd.R_base ho0) hb); have n1_ := Aside0.mk (Kd.R_lower (Kd.R_new' ho0 (Kd.R_lt (by (with_reducible repeat (first | apply Kd.R_alloc | apply Kd.R_drewN | apply Kd.R_drew)); exact HO_5.out))) (below_size (by repeat (first | (with_reducible first | exact HB.out | apply below_alloc | apply pw_below_drewN | apply below_drew1 | refine below_set ?_ GE547.out) | exact HB.out)))); have n2_ := Aside0.mk (blk_below (g := gb547) (o := .cells #[.int .i64 t544, .int .i64 t545, .string t546] 43 (0, 0)) (by (with_reducible repeat (first | refine blk_drewN ?_ _ | refine blk_drew ?_ | refine blk_alloc ?_ _)); exact BK547.out) hb); have n3_ := Aside0.mk (below_step (by repeat (first | (with_reducible first | exact HB.out | apply below_alloc | apply pw_below_drewN | apply below_drew1 | refine below_set ?_ GE547.out) | exact HB.out)) hb); clear HO_5; clear BK547; clear HB; have HO_5 := n0_; have HO562 := n1_; have BK547 := n2_; have HB := n3_; clear n0_ n1_ n2_ n3_; (try clear hb); (try clear hb2); (try clear hk); (try clear hi); (try clear ho0); obtain ⟨Ao43, co43, eo43⟩ := Kd.R_slice HO_5.out; subst eo43; obtain ⟨Ao44, co44, eo44⟩ := Kd.R_slice HO562.out; subst eo44) | (go_at_call 21; (with_reducible refine (laws_sameInts.calls kj5 _ _ t548 _ _ t560 true _ ?side1 ?side2 ?side3 ?side4 A29.out).mono ?_); (case side1 => repeat (first | exact (Kd.R_reads' HO_5.out).2.2 | (with_reducible refine Kd.C_alloc ?_ _) | (with_reducible refine Kd.C_drewN ?_ _) | (with_reducible refine Kd.C_drew ?_))); (case side2 => exact (Kd.R_reads' HO_5.out).2.1); (case side3 => repeat (first | exact (Kd.R_reads' HO562.out).2.2 | (with_reducible refine Kd.C_alloc ?_ _) | (with_reducible refine Kd.C_drewN ?_ _) | (with_reducible refine Kd.C_drew ?_))); (case side4 => exact (Kd.R_reads' HO562.out).2.1); rintro e w' ⟨rfl, ⟨nd, rfl⟩⟩; have hcz45_0 : w42.cell? ⟨gb547, 0, none⟩ = some (.int .i64 t544) := (blk_cell BK547.out 0).trans rfl; have hcz45_1 : w42.cell? ⟨gb547, 1, none⟩ = some (.int .i64 t545) := (blk_cell BK547.out 1).trans rfl; have hcz45_2 : w42.cell? ⟨gb547, 2, none⟩ = some (.string t546) := (blk_cell BK547.out 2).trans rfl; have hfz45_0 := blk_frozen BK547.out 0; have hfz45_1 := blk_frozen BK547.out 1; have hfz45_2 := blk_frozen BK547.out 2) | (go_at_call 34; (with_reducible refine (impl_LineMany.calls kj5 t546 t564 _ A31.out).mono ?_); rintro e w' ⟨rfl, ⟨nd, rfl⟩⟩))
         go_ret
         exact ⟨by first | rfl | (simp [errW_none, errW_some] <;> rfl) | (simp [*, errW_none, errW_some] <;> rfl), by repeat (first | (with_reducible first | exact HB.out | apply below_alloc | apply pw_below_drewN | apply below_drew1 | refine below_set ?_ GE547.out) | exact HB.out)⟩
       ·replace c30 := Bool.eq_false_iff.mpr c30
        subst c30
        have H1 : (some false) = some r := by rw [if_neg (show ¬ (false = true) by decide)] at H; exact H
        clear H
        have H := H1
        clear H1
        obtain rfl := Option.some.inj H
        have hcz46_0 : wc.cell? ⟨gb547, 0, none⟩ = some (.int .i64 t544) := (blk_cell BK547.out 0).trans rfl
        have hcz46_1 : wc.cell? ⟨gb547, 1, none⟩ = some (.int .i64 t545) := (blk_cell BK547.out 1).trans rfl
        have hcz46_2 : wc.cell? ⟨gb547, 2, none⟩ = some (.string t546) := (blk_cell BK547.out 2).trans rfl
        have hfz46_0 := blk_frozen BK547.out 0
        have hfz46_1 := blk_frozen BK547.out 1
        have hfz46_2 := blk_frozen BK547.out 2
        go_wp2_with (first | ((with_reducible refine gate_callee (f := 33) rfl ?_); refine goesL_ (some 55) rfl rfl Tryd.func33 (by kernel_rfl) rfl #[.string t543, .agg #[.int .i64 t544, .int .i64 t545, .string t546]] rfl (by (try simp only [List.map_toArray, List.map_cons, List.map_nil]); first | done | rfl | (simp only [List.length_drop, List.length_take]; rfl)) ?_; (with_reducible refine (impl_ApplyChange.calls kj5 t543 t544 t545 t546 t558 true _ A26.out).mono ?_); rintro e w47 ⟨rfl, hb⟩; refine ⟨_, rfl, ?_⟩; have n0_ := Aside0.mk (Kd.R_below (by (with_reducible repeat (first | apply Kd.R_alloc | apply Kd.R_drewN | apply Kd.R_drew)); exact HO_5.out) hb); have n1_ := Aside0.mk (blk_below (g := gb547) (o := .cells #[.int .i64 t544, .int .i64 t545, .string t546] 43 (0, 0)) (by (with_reducible repeat (first | refine blk_drewN ?_ _ | refine blk_drew ?_ | refine blk_alloc ?_ _)); exact BK547.out) hb); have n2_ := Aside0.mk (below_step (by repeat (first | (with_reducible first | exact HB.out | apply below_alloc | apply pw_below_drewN | apply below_drew1 | refine below_set ?_ GE547.out) | exact HB.out)) hb); clear HO_5; clear BK547; clear HB; have HO_5 := n0_; have BK547 := n1_; have HB := n2_; clear n0_ n1_ n2_; (try clear hb); (try clear hb2); (try clear hk); (try clear hi)) | (go_at_call 11; (with_reducible refine (impl_ColourStates.calls kj5 t558 t560 _ A28.out).mono ?_); rintro e w48 ⟨v561, rfl, ho0, hb⟩; have n0_ := Aside0.mk (Kd.R_elder' (by (with_reducible repeat (first | apply Kd.R_alloc | apply Kd.R_drewN | apply Kd.R_drew)); exact HO_5.out) (Kd.R_base ho0) hb); have n1_ := Aside0.mk (Kd.R_lower (Kd.R_new' ho0 (Kd.R_lt (by (with_reducible repeat (first | apply Kd.R_alloc | apply Kd.R_drewN | apply Kd.R_drew)); exact HO_5.out))) (below_size (by repeat (first | (with_reducible first | exact HB.out | apply below_alloc | apply pw_below_drewN | apply below_drew1 | refine below_set ?_ GE547.out) | exact HB.out)))); have n2_ := Aside0.mk (blk_below (g := gb547) (o := .cells #[.int .i64 t544, .int .i64 t545, .string t546] 43 (0, 0)) (by (with_reducible repeat (first | refine blk_drewN ?_ _ | refine blk_drew ?_ | refine blk_alloc ?_ _)); exact BK547.out) hb); have n3_ := Aside0.mk (below_step (by repeat (first | (with_reducible first | exact HB.out | apply below_alloc | apply pw_below_drewN | apply below_drew1 | refine below_set ?_ GE547.out) | exact HB.out)) hb); clear HO_5; clear BK547; clear HB; have HO_5 := n0_; have HO562 := n1_; have BK547 := n2_; have HB := n3_; clear n0_ n1_ n2_ n3_; (try clear hb); (try clear hb2); (try clear hk); (try clear hi); (try clear ho0); obtain ⟨Ao49, co49, eo49⟩ := Kd.R_slice HO_5.out; subst eo49; obtain ⟨Ao50, co50, eo50⟩ := Kd.R_slice HO562.out; subst eo50) | (go_at_call 21; (with_reducible refine (laws_sameInts.calls kj5 _ _ t548 _ _ t560 false _ ?side1 ?side2 ?side3 ?side4 A29.out).mono ?_); (case side1 => repeat (first | exact (Kd.R_reads' HO_5.out).2.2 | (with_reducible refine Kd.C_alloc ?_ _) | (with_reducible refine Kd.C_drewN ?_ _) | (with_reducible refine Kd.C_drew ?_))); (case side2 => exact (Kd.R_reads' HO_5.out).2.1); (case side3 => repeat (first | exact (Kd.R_reads' HO562.out).2.2 | (with_reducible refine Kd.C_alloc ?_ _) | (with_reducible refine Kd.C_drewN ?_ _) | (with_reducible refine Kd.C_drew ?_))); (case side4 => exact (Kd.R_reads' HO562.out).2.1); rintro e w' ⟨rfl, ⟨nd, rfl⟩⟩))
        go_ret
        exact ⟨by first | rfl | (simp [errW_none, errW_some] <;> rfl) | (simp [*, errW_none, errW_some] <;> rfl), by repeat (first | (with_reducible first | exact HB.out | apply below_alloc | apply pw_below_drewN | apply below_drew1 | refine below_set ?_ GE547.out) | exact HB.out)⟩
      ·replace c27 := Bool.eq_false_iff.mpr c27
       subst c27
       have H1 : (some false) = some r := by rw [if_neg (show ¬ (false = true) by decide)] at H; exact H
       clear H
       have H := H1
       clear H1
       obtain rfl := Option.some.inj H
       have hcz51_0 : wc.cell? ⟨gb547, 0, none⟩ = some (.int .i64 t544) := (blk_cell BK547.out 0).trans rfl
       have hcz51_1 : wc.cell? ⟨gb547, 1, none⟩ = some (.int .i64 t545) := (blk_cell BK547.out 1).trans rfl
       have hcz51_2 : wc.cell? ⟨gb547, 2, none⟩ = some (.string t546) := (blk_cell BK547.out 2).trans rfl
       have hfz51_0 := blk_frozen BK547.out 0
       have hfz51_1 := blk_frozen BK547.out 1
       have hfz51_2 := blk_frozen BK547.out 2
       go_wp2_with (first | ((with_reducible refine gate_callee (f := 33) rfl ?_); refine goesL_ (some 55) rfl rfl Tryd.func33 (by kernel_rfl) rfl #[.string t543, .agg #[.int .i64 t544, .int .i64 t545, .string t546]] rfl (by (try simp only [List.map_toArray, List.map_cons, List.map_nil]); first | done | rfl | (simp only [List.length_drop, List.length_take]; rfl)) ?_; (with_reducible refine (impl_ApplyChange.calls kj5 t543 t544 t545 t546 t558 false _ A26.out).mono ?_); rintro e w52 ⟨rfl, hb⟩; refine ⟨_, rfl, ?_⟩; have n0_ := Aside0.mk (Kd.R_below (by (with_reducible repeat (first | apply Kd.R_alloc | apply Kd.R_drewN | apply Kd.R_drew)); exact HO_5.out) hb); have n1_ := Aside0.mk (blk_below (g := gb547) (o := .cells #[.int .i64 t544, .int .i64 t545, .string t546] 43 (0, 0)) (by (with_reducible repeat (first | refine blk_drewN ?_ _ | refine blk_drew ?_ | refine blk_alloc ?_ _)); exact BK547.out) hb); have n2_ := Aside0.mk (below_step (by repeat (first | (with_reducible first | exact HB.out | apply below_alloc | apply pw_below_drewN | apply below_drew1 | refine below_set ?_ GE547.out) | exact HB.out)) hb); clear HO_5; clear BK547; clear HB; have HO_5 := n0_; have BK547 := n1_; have HB := n2_; clear n0_ n1_ n2_; (try clear hb); (try clear hb2); (try clear hk); (try clear hi)))
       go_ret
       exact ⟨by first | rfl | (simp [errW_none, errW_some] <;> rfl) | (simp [*, errW_none, errW_some] <;> rfl), by repeat (first | (with_reducible first | exact HB.out | apply below_alloc | apply pw_below_drewN | apply below_drew1 | refine below_set ?_ GE547.out) | exact HB.out)⟩

/-- THE ONE PURE STATEMENT of laws_FnColourAgain: yours. -/
def laws_FnColourAgain.Pure : Prop := ∀ (l0 : List Int), l0.length ≤ maxLen → l0.length * 1 ≤ 140737488351232 → (∀ x ∈ l0, (Lit.int .u8 x).wf = true) → ∃ k, laws_FnColourAgain.f k l0 = some true
theorem laws_FnColourAgain.walk (P : laws_FnColourAgain.Pure) (a0 : Option Addr) (len0 cap0 : Nat) (z0 : List Int) (w : World) (w0 : (a0 = none ∧ len0 = 0 ∧ cap0 = 0 ∧ z0 = []) ∨ ∃ x, a0 = some x ∧ len0 ≤ cap0 ∧ cap0 ≤ maxLen ∧ z0.length = cap0 ∧ (∀ i, i < z0.length → w.cell? (x.add i) = some (.int .u8 (z0.getD i 0))) ∧ ∀ n ∈ z0, (Lit.int .u8 n).wf = true) (y0 : len0 * 1 ≤ 140737488351232) :
  Calls Tryd.prog 9 #[.slice a0 len0 cap0] w fun e w' => e = .returned (.bool true) ∧ Below w.heap.size w w' := by
 obtain ⟨l0, rfl, hr0, hm0, hw0, hc0⟩ := ReadsInt.ofRowC w0
 obtain ⟨k, h⟩ := P l0 hm0 y0 hw0
 refine (laws_FnColourAgain.calls k _ _ l0 true w (Kd.C_of_reads (d := (0 : Int)) (h1 := fun _ => rfl) hr0) hc0 h).mono ?_
 rintro e w' ⟨rfl, hd⟩
 exact ⟨rfl, hd⟩

end Go.Proofs.YtheglgphknahdaaDoor.X
