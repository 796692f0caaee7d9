-- written by a program of this session (wip/xprint.py) out of the translation
import Derived.Test.YtheglgphknahdaaDoorX0
import Derived.Test.YtheglgphknahdaaDoorX3
import Derived.Test.YtheglgphknahdaaDoorX4
import Derived.Test.YtheglgphknahdaaDoorX6
import Derived.Test.YtheglgphknahdaaDoorX7
import Derived.Test.YtheglgphknahdaaDoorX9
namespace Go.Proofs.YtheglgphknahdaaDoor.X
open Go.RowKit Go.Proofs.YtheglgphknahdaaDoorW.PrintWords Go.Proofs.YtheglgphknahdaaDoorW.PrintLast Go.Proofs.YtheglgphknahdaaDoorW.PrintMore
attribute [local go_sem] max2_int min2_int max_two min_two max_three min_three max_four min_four   -- for this text's walks alone
set_option linter.unusedVariables false
set_option linter.unusedSimpArgs false

/-! ### spec_ChangeFits: function 66 -/
def spec_ChangeFits.f (k : Nat) (a0 : ByteArray) (a1_0 : Int) (a1_1 : Int) (a1_2 : ByteArray) : Option (Bool) := (spec_TextValid.f k a0).bind fun t342 => (if t342 = true then ((spec_l1In.f a1_0 0 (a0.size : Int)).bind fun t343 => (if t343 = true then ((spec_l1In.f a1_1 0 (wrap64 ((a0.size : Int) - a1_0))).bind fun t344 => (if t344 = true then ((spec_l1Plain.f k a1_2).bind fun t345 => (if t345 = true then (some (decide ((wrap64 ((wrap64 ((a0.size : Int) - a1_1)) + (a1_2.size : Int))) ≤ 120))) else (some false))) else (some false))) else (some false))) else (some false))
theorem spec_ChangeFits.mono : ∀ a0 a1 a2 a3 k, LeO (spec_ChangeFits.f k a0 a1 a2 a3) (spec_ChangeFits.f (k + 1) a0 a1 a2 a3) := by
 intro a0 a1 a2 a3 k
 unfold spec_ChangeFits.f
 repeat' first
   | (with_reducible exact spec_TextValid.mono _ _)
   | (with_reducible exact spec_l1Plain.mono _ _)
   | (with_reducible exact LeO.refl _)
   | (with_reducible exact LeO.none _)
   | (with_reducible refine LeO.ite ?_ ?_)
   | (with_reducible refine LeO.bind ?_ (fun _ => ?_))
   | exact spec_TextValid.mono _ _
   | exact spec_l1Plain.mono _ _
   | exact LeO.none _
   | refine LeO.ite ?_ ?_
   | refine LeO.bind ?_ (fun _ => ?_)
set_option maxHeartbeats 8000000 in
set_option maxRecDepth 100000 in
theorem spec_ChangeFits.calls (k : Nat) (a0 : ByteArray) (a1_0 : Int) (a1_1 : Int) (a1_2 : ByteArray) (r : Bool) (w : World) (h : spec_ChangeFits.f k a0 a1_0 a1_1 a1_2 = some r) :
  Calls Tryd.prog 66 #[.string a0, .agg #[.int .i64 a1_0, .int .i64 a1_1, .string a1_2]] w fun e w' => e = .returned (.bool r) ∧ Below w.heap.size w w' := by
 have hu43 := Tryd.underlying43
 have HB := Aside0.mk (Below.refl w.heap.size w)
 have H : ((spec_TextValid.f k a0).bind fun t342 => (if t342 = true then ((spec_l1In.f a1_0 0 (a0.size : Int)).bind fun t343 => (if t343 = true then ((spec_l1In.f a1_1 0 (wrap64 ((a0.size : Int) - a1_0))).bind fun t344 => (if t344 = true then ((spec_l1Plain.f k a1_2).bind fun t345 => (if t345 = true then (some (decide ((wrap64 ((wrap64 ((a0.size : Int) - a1_1)) + (a1_2.size : Int))) ≤ 120))) else (some false))) else (some false))) else (some false))) else (some false))) = some r := h
 clear h
 replace H := Option.bind_eq_some_iff.mp H
 obtain ⟨t342, A30, H⟩ := H
 replace H : (if t342 = true then ((spec_l1In.f a1_0 0 (a0.size : Int)).bind fun t343 => (if t343 = true then ((spec_l1In.f a1_1 0 (wrap64 ((a0.size : Int) - a1_0))).bind fun t344 => (if t344 = true then ((spec_l1Plain.f k a1_2).bind fun t345 => (if t345 = true then (some (decide ((wrap64 ((wrap64 ((a0.size : Int) - a1_1)) + (a1_2.size : Int))) ≤ 120))) else (some false))) else (some false))) else (some false))) else (some false)) = some r := H
 have A3 := Aside0.mk A30
 clear A30
 by_cases c4 : t342 = true
 ·subst c4
  have H1 : ((spec_l1In.f a1_0 0 (a0.size : Int)).bind fun t343 => (if t343 = true then ((spec_l1In.f a1_1 0 (wrap64 ((a0.size : Int) - a1_0))).bind fun t344 => (if t344 = true then ((spec_l1Plain.f k a1_2).bind fun t345 => (if t345 = true then (some (decide ((wrap64 ((wrap64 ((a0.size : Int) - a1_1)) + (a1_2.size : Int))) ≤ 120))) else (some false))) else (some false))) else (some false))) = some r := by rw [if_pos rfl] at H; exact H
  clear H
  have H := H1
  clear H1
  replace H := Option.bind_eq_some_iff.mp H
  obtain ⟨t343, A50, H⟩ := H
  replace H : (if t343 = true then ((spec_l1In.f a1_1 0 (wrap64 ((a0.size : Int) - a1_0))).bind fun t344 => (if t344 = true then ((spec_l1Plain.f k a1_2).bind fun t345 => (if t345 = true then (some (decide ((wrap64 ((wrap64 ((a0.size : Int) - a1_1)) + (a1_2.size : Int))) ≤ 120))) else (some false))) else (some false))) else (some false)) = some r := H
  have A5 := Aside0.mk A50
  clear A50
  by_cases c6 : t343 = true
  ·subst c6
   have H1 : ((spec_l1In.f a1_1 0 (wrap64 ((a0.size : Int) - a1_0))).bind fun t344 => (if t344 = true then ((spec_l1Plain.f k a1_2).bind fun t345 => (if t345 = true then (some (decide ((wrap64 ((wrap64 ((a0.size : Int) - a1_1)) + (a1_2.size : Int))) ≤ 120))) else (some false))) else (some false))) = some r := by rw [if_pos rfl] at H; exact H
   clear H
   have H := H1
   clear H1
   replace H := Option.bind_eq_some_iff.mp H
   obtain ⟨t344, A70, H⟩ := H
   replace H : (if t344 = true then ((spec_l1Plain.f k a1_2).bind fun t345 => (if t345 = true then (some (decide ((wrap64 ((wrap64 ((a0.size : Int) - a1_1)) + (a1_2.size : Int))) ≤ 120))) else (some false))) else (some false)) = some r := H
   have A7 := Aside0.mk A70
   clear A70
   by_cases c8 : t344 = true
   ·subst c8
    have H1 : ((spec_l1Plain.f k a1_2).bind fun t345 => (if t345 = true then (some (decide ((wrap64 ((wrap64 ((a0.size : Int) - a1_1)) + (a1_2.size : Int))) ≤ 120))) else (some false))) = some r := by rw [if_pos rfl] at H; exact H
    clear H
    have H := H1
    clear H1
    replace H := Option.bind_eq_some_iff.mp H
    obtain ⟨t345, A90, H⟩ := H
    replace H : (if t345 = true then (some (decide ((wrap64 ((wrap64 ((a0.size : Int) - a1_1)) + (a1_2.size : Int))) ≤ 120))) else (some false)) = some r := H
    have A9 := Aside0.mk A90
    clear A90
    by_cases c10 : t345 = true
    ·subst c10
     have H1 : (some (decide ((wrap64 ((wrap64 ((a0.size : Int) - a1_1)) + (a1_2.size : Int))) ≤ 120))) = some r := by rw [if_pos rfl] at H; exact H
     clear H
     have H := H1
     clear H1
     obtain rfl := Option.some.inj H
     go_enter Tryd.func66, Tryd.ntmps66
     go_wp2_with (first | ((with_reducible refine gate_dst (N := 3) rfl ?_); (try (refine gate_guard (by rfl) ?_; dsimp only)); refine box_event ?hg (N := 3) ?hd (cs := #[.int .i64 a1_0, .int .i64 a1_1, .string a1_2]) (t := 43) ?hr ?_; (case hd => rfl); (case hg => rfl); (case hr => first | (go_simp; done) | (go_simp; rfl) | (simp only [i64_w]; first | (go_simp; done) | (go_simp; rfl))); intro gb341 hg w11 hbox hb; have n0_ := Aside0.mk (below_step (by repeat (first | (with_reducible first | exact HB.out | apply below_alloc | apply pw_below_drewN | apply below_drew1) | exact HB.out)) hb); have n1_ := Aside0.mk (hbox); have n2_ := Aside0.mk ((by rw [hg]; exact (below_size (by repeat (first | (with_reducible first | exact HB.out | apply below_alloc | apply pw_below_drewN | apply below_drew1) | exact HB.out))) : w.heap.size ≤ gb341)); have n3_ := Aside0.mk ((by rw [hg]; exact (below_size (by repeat (first | (with_reducible first | exact HB.out | apply below_alloc | apply pw_below_drewN | apply below_drew1) | exact HB.out))) : w.heap.size ≤ gb341)); clear HB; have HB := n0_; have BK341 := n1_; have GW341 := n2_; have GE341 := n3_; clear n0_ n1_ n2_ n3_; clear hb hbox hg) | ((with_reducible refine gate_callee (f := 23) rfl ?_); refine goesL_ (some 6) rfl rfl Tryd.func23 (by kernel_rfl) rfl #[.string a0] rfl (by (try simp only [List.map_toArray, List.map_cons, List.map_nil]); first | done | rfl | (simp only [List.length_drop, List.length_take]; rfl)) ?_; (with_reducible refine (spec_TextValid.calls k a0 true _ A3.out).mono ?_); rintro e w' ⟨rfl, ⟨nd, rfl⟩⟩; refine ⟨_, rfl, ?_⟩; have hcz12_0 : w11.cell? ⟨gb341, 0, none⟩ = some (.int .i64 a1_0) := (blk_cell BK341.out 0).trans rfl; have hcz12_1 : w11.cell? ⟨gb341, 1, none⟩ = some (.int .i64 a1_1) := (blk_cell BK341.out 1).trans rfl; have hcz12_2 : w11.cell? ⟨gb341, 2, none⟩ = some (.string a1_2) := (blk_cell BK341.out 2).trans rfl; have hfz12_0 := blk_frozen BK341.out 0; have hfz12_1 := blk_frozen BK341.out 1; have hfz12_2 := blk_frozen BK341.out 2) | (go_at_call 64; (with_reducible refine (spec_l1In.calls a1_0 0 (a0.size : Int) true _ A5.out).mono ?_); rintro e w' ⟨rfl, ⟨nd, rfl⟩⟩) | (go_at_call 64; (with_reducible refine (spec_l1In.calls a1_1 0 (wrap64 ((a0.size : Int) - a1_0)) true _ A7.out).mono ?_); rintro e w' ⟨rfl, ⟨nd, rfl⟩⟩) | (go_at_call 43; (with_reducible refine (spec_l1Plain.calls k a1_2 true _ A9.out).mono ?_); rintro e w' ⟨rfl, ⟨nd, rfl⟩⟩))
     go_ret
     exact ⟨by first | rfl | (simp [errW_none, errW_some] <;> rfl) | (simp [*, errW_none, errW_some] <;> rfl), by repeat (first | (with_reducible first | exact HB.out | apply below_alloc | apply pw_below_drewN | apply below_drew1 | refine below_set ?_ GE341.out) | exact HB.out)⟩
    ·replace c10 := Bool.eq_false_iff.mpr c10
     subst c10
     have H1 : (some false) = some r := by rw [if_neg (show ¬ (false = true) by decide)] at H; exact H
     clear H
     have H := H1
     clear H1
     obtain rfl := Option.some.inj H
     go_enter Tryd.func66, Tryd.ntmps66
     go_wp2_with (first | ((with_reducible refine gate_dst (N := 3) rfl ?_); (try (refine gate_guard (by rfl) ?_; dsimp only)); refine box_event ?hg (N := 3) ?hd (cs := #[.int .i64 a1_0, .int .i64 a1_1, .string a1_2]) (t := 43) ?hr ?_; (case hd => rfl); (case hg => rfl); (case hr => first | (go_simp; done) | (go_simp; rfl) | (simp only [i64_w]; first | (go_simp; done) | (go_simp; rfl))); intro gb341 hg w13 hbox hb; have n0_ := Aside0.mk (below_step (by repeat (first | (with_reducible first | exact HB.out | apply below_alloc | apply pw_below_drewN | apply below_drew1) | exact HB.out)) hb); have n1_ := Aside0.mk (hbox); have n2_ := Aside0.mk ((by rw [hg]; exact (below_size (by repeat (first | (with_reducible first | exact HB.out | apply below_alloc | apply pw_below_drewN | apply below_drew1) | exact HB.out))) : w.heap.size ≤ gb341)); have n3_ := Aside0.mk ((by rw [hg]; exact (below_size (by repeat (first | (with_reducible first | exact HB.out | apply below_alloc | apply pw_below_drewN | apply below_drew1) | exact HB.out))) : w.heap.size ≤ gb341)); clear HB; have HB := n0_; have BK341 := n1_; have GW341 := n2_; have GE341 := n3_; clear n0_ n1_ n2_ n3_; clear hb hbox hg) | ((with_reducible refine gate_callee (f := 23) rfl ?_); refine goesL_ (some 6) rfl rfl Tryd.func23 (by kernel_rfl) rfl #[.string a0] rfl (by (try simp only [List.map_toArray, List.map_cons, List.map_nil]); first | done | rfl | (simp only [List.length_drop, List.length_take]; rfl)) ?_; (with_reducible refine (spec_TextValid.calls k a0 true _ A3.out).mono ?_); rintro e w' ⟨rfl, ⟨nd, rfl⟩⟩; refine ⟨_, rfl, ?_⟩; have hcz14_0 : w13.cell? ⟨gb341, 0, none⟩ = some (.int .i64 a1_0) := (blk_cell BK341.out 0).trans rfl; have hcz14_1 : w13.cell? ⟨gb341, 1, none⟩ = some (.int .i64 a1_1) := (blk_cell BK341.out 1).trans rfl; have hcz14_2 : w13.cell? ⟨gb341, 2, none⟩ = some (.string a1_2) := (blk_cell BK341.out 2).trans rfl; have hfz14_0 := blk_frozen BK341.out 0; have hfz14_1 := blk_frozen BK341.out 1; have hfz14_2 := blk_frozen BK341.out 2) | (go_at_call 64; (with_reducible refine (spec_l1In.calls a1_0 0 (a0.size : Int) true _ A5.out).mono ?_); rintro e w' ⟨rfl, ⟨nd, rfl⟩⟩) | (go_at_call 64; (with_reducible refine (spec_l1In.calls a1_1 0 (wrap64 ((a0.size : Int) - a1_0)) true _ A7.out).mono ?_); rintro e w' ⟨rfl, ⟨nd, rfl⟩⟩) | (go_at_call 43; (with_reducible refine (spec_l1Plain.calls k a1_2 false _ A9.out).mono ?_); rintro e w' ⟨rfl, ⟨nd, rfl⟩⟩))
     go_ret
     exact ⟨by first | rfl | (simp [errW_none, errW_some] <;> rfl) | (simp [*, errW_none, errW_some] <;> rfl), by repeat (first | (with_reducible first | exact HB.out | apply below_alloc | apply pw_below_drewN | apply below_drew1 | refine below_set ?_ GE341.out) | exact HB.out)⟩
   ·replace c8 := Bool.eq_false_iff.mpr c8
    subst c8
    have H1 : (some false) = some r := by rw [if_neg (show ¬ (false = true) by decide)] at H; exact H
    clear H
    have H := H1
    clear H1
    obtain rfl := Option.some.inj H
    go_enter Tryd.func66, Tryd.ntmps66
    go_wp2_with (first | ((with_reducible refine gate_dst (N := 3) rfl ?_); (try (refine gate_guard (by rfl) ?_; dsimp only)); refine box_event ?hg (N := 3) ?hd (cs := #[.int .i64 a1_0, .int .i64 a1_1, .string a1_2]) (t := 43) ?hr ?_; (case hd => rfl); (case hg => rfl); (case hr => first | (go_simp; done) | (go_simp; rfl) | (simp only [i64_w]; first | (go_simp; done) | (go_simp; rfl))); intro gb341 hg w15 hbox hb; have n0_ := Aside0.mk (below_step (by repeat (first | (with_reducible first | exact HB.out | apply below_alloc | apply pw_below_drewN | apply below_drew1) | exact HB.out)) hb); have n1_ := Aside0.mk (hbox); have n2_ := Aside0.mk ((by rw [hg]; exact (below_size (by repeat (first | (with_reducible first | exact HB.out | apply below_alloc | apply pw_below_drewN | apply below_drew1) | exact HB.out))) : w.heap.size ≤ gb341)); have n3_ := Aside0.mk ((by rw [hg]; exact (below_size (by repeat (first | (with_reducible first | exact HB.out | apply below_alloc | apply pw_below_drewN | apply below_drew1) | exact HB.out))) : w.heap.size ≤ gb341)); clear HB; have HB := n0_; have BK341 := n1_; have GW341 := n2_; have GE341 := n3_; clear n0_ n1_ n2_ n3_; clear hb hbox hg) | ((with_reducible refine gate_callee (f := 23) rfl ?_); refine goesL_ (some 6) rfl rfl Tryd.func23 (by kernel_rfl) rfl #[.string a0] rfl (by (try simp only [List.map_toArray, List.map_cons, List.map_nil]); first | done | rfl | (simp only [List.length_drop, List.length_take]; rfl)) ?_; (with_reducible refine (spec_TextValid.calls k a0 true _ A3.out).mono ?_); rintro e w' ⟨rfl, ⟨nd, rfl⟩⟩; refine ⟨_, rfl, ?_⟩; have hcz16_0 : w15.cell? ⟨gb341, 0, none⟩ = some (.int .i64 a1_0) := (blk_cell BK341.out 0).trans rfl; have hcz16_1 : w15.cell? ⟨gb341, 1, none⟩ = some (.int .i64 a1_1) := (blk_cell BK341.out 1).trans rfl; have hcz16_2 : w15.cell? ⟨gb341, 2, none⟩ = some (.string a1_2) := (blk_cell BK341.out 2).trans rfl; have hfz16_0 := blk_frozen BK341.out 0; have hfz16_1 := blk_frozen BK341.out 1; have hfz16_2 := blk_frozen BK341.out 2) | (go_at_call 64; (with_reducible refine (spec_l1In.calls a1_0 0 (a0.size : Int) true _ A5.out).mono ?_); rintro e w' ⟨rfl, ⟨nd, rfl⟩⟩) | (go_at_call 64; (with_reducible refine (spec_l1In.calls a1_1 0 (wrap64 ((a0.size : Int) - a1_0)) false _ A7.out).mono ?_); rintro e w' ⟨rfl, ⟨nd, rfl⟩⟩))
    go_ret
    exact ⟨by first | rfl | (simp [errW_none, errW_some] <;> rfl) | (simp [*, errW_none, errW_some] <;> rfl), by repeat (first | (with_reducible first | exact HB.out | apply below_alloc | apply pw_below_drewN | apply below_drew1 | refine below_set ?_ GE341.out) | exact HB.out)⟩
  ·replace c6 := Bool.eq_false_iff.mpr c6
   subst c6
   have H1 : (some false) = some r := by rw [if_neg (show ¬ (false = true) by decide)] at H; exact H
   clear H
   have H := H1
   clear H1
   obtain rfl := Option.some.inj H
   go_enter Tryd.func66, Tryd.ntmps66
   go_wp2_with (first | ((with_reducible refine gate_dst (N := 3) rfl ?_); (try (refine gate_guard (by rfl) ?_; dsimp only)); refine box_event ?hg (N := 3) ?hd (cs := #[.int .i64 a1_0, .int .i64 a1_1, .string a1_2]) (t := 43) ?hr ?_; (case hd => rfl); (case hg => rfl); (case hr => first | (go_simp; done) | (go_simp; rfl) | (simp only [i64_w]; first | (go_simp; done) | (go_simp; rfl))); intro gb341 hg w17 hbox hb; have n0_ := Aside0.mk (below_step (by repeat (first | (with_reducible first | exact HB.out | apply below_alloc | apply pw_below_drewN | apply below_drew1) | exact HB.out)) hb); have n1_ := Aside0.mk (hbox); have n2_ := Aside0.mk ((by rw [hg]; exact (below_size (by repeat (first | (with_reducible first | exact HB.out | apply below_alloc | apply pw_below_drewN | apply below_drew1) | exact HB.out))) : w.heap.size ≤ gb341)); have n3_ := Aside0.mk ((by rw [hg]; exact (below_size (by repeat (first | (with_reducible first | exact HB.out | apply below_alloc | apply pw_below_drewN | apply below_drew1) | exact HB.out))) : w.heap.size ≤ gb341)); clear HB; have HB := n0_; have BK341 := n1_; have GW341 := n2_; have GE341 := n3_; clear n0_ n1_ n2_ n3_; clear hb hbox hg) | ((with_reducible refine gate_callee (f := 23) rfl ?_); refine goesL_ (some 6) rfl rfl Tryd.func23 (by kernel_rfl) rfl #[.string a0] rfl (by (try simp only [List.map_toArray, List.map_cons, List.map_nil]); first | done | rfl | (simp only [List.length_drop, List.length_take]; rfl)) ?_; (with_reducible refine (spec_TextValid.calls k a0 true _ A3.out).mono ?_); rintro e w' ⟨rfl, ⟨nd, rfl⟩⟩; refine ⟨_, rfl, ?_⟩; have hcz18_0 : w17.cell? ⟨gb341, 0, none⟩ = some (.int .i64 a1_0) := (blk_cell BK341.out 0).trans rfl; have hcz18_1 : w17.cell? ⟨gb341, 1, none⟩ = some (.int .i64 a1_1) := (blk_cell BK341.out 1).trans rfl; have hcz18_2 : w17.cell? ⟨gb341, 2, none⟩ = some (.string a1_2) := (blk_cell BK341.out 2).trans rfl; have hfz18_0 := blk_frozen BK341.out 0; have hfz18_1 := blk_frozen BK341.out 1; have hfz18_2 := blk_frozen BK341.out 2) | (go_at_call 64; (with_reducible refine (spec_l1In.calls a1_0 0 (a0.size : Int) false _ A5.out).mono ?_); rintro e w' ⟨rfl, ⟨nd, rfl⟩⟩))
   go_ret
   exact ⟨by first | rfl | (simp [errW_none, errW_some] <;> rfl) | (simp [*, errW_none, errW_some] <;> rfl), by repeat (first | (with_reducible first | exact HB.out | apply below_alloc | apply pw_below_drewN | apply below_drew1 | refine below_set ?_ GE341.out) | exact HB.out)⟩
 ·replace c4 := Bool.eq_false_iff.mpr c4
  subst c4
  have H1 : (some false) = some r := by rw [if_neg (show ¬ (false = true) by decide)] at H; exact H
  clear H
  have H := H1
  clear H1
  obtain rfl := Option.some.inj H
  go_enter Tryd.func66, Tryd.ntmps66
  go_wp2_with (first | ((with_reducible refine gate_dst (N := 3) rfl ?_); (try (refine gate_guard (by rfl) ?_; dsimp only)); refine box_event ?hg (N := 3) ?hd (cs := #[.int .i64 a1_0, .int .i64 a1_1, .string a1_2]) (t := 43) ?hr ?_; (case hd => rfl); (case hg => rfl); (case hr => first | (go_simp; done) | (go_simp; rfl) | (simp only [i64_w]; first | (go_simp; done) | (go_simp; rfl))); intro gb341 hg w19 hbox hb; have n0_ := Aside0.mk (below_step (by repeat (first | (with_reducible first | exact HB.out | apply below_alloc | apply pw_below_drewN | apply below_drew1) | exact HB.out)) hb); have n1_ := Aside0.mk (hbox); have n2_ := Aside0.mk ((by rw [hg]; exact (below_size (by repeat (first | (with_reducible first | exact HB.out | apply below_alloc | apply pw_below_drewN | apply below_drew1) | exact HB.out))) : w.heap.size ≤ gb341)); have n3_ := Aside0.mk ((by rw [hg]; exact (below_size (by repeat (first | (with_reducible first | exact HB.out | apply below_alloc | apply pw_below_drewN | apply below_drew1) | exact HB.out))) : w.heap.size ≤ gb341)); clear HB; have HB := n0_; have BK341 := n1_; have GW341 := n2_; have GE341 := n3_; clear n0_ n1_ n2_ n3_; clear hb hbox hg) | ((with_reducible refine gate_callee (f := 23) rfl ?_); refine goesL_ (some 6) rfl rfl Tryd.func23 (by kernel_rfl) rfl #[.string a0] rfl (by (try simp only [List.map_toArray, List.map_cons, List.map_nil]); first | done | rfl | (simp only [List.length_drop, List.length_take]; rfl)) ?_; (with_reducible refine (spec_TextValid.calls k a0 false _ A3.out).mono ?_); rintro e w' ⟨rfl, ⟨nd, rfl⟩⟩; refine ⟨_, rfl, ?_⟩))
  go_ret
  exact ⟨by first | rfl | (simp [errW_none, errW_some] <;> rfl) | (simp [*, errW_none, errW_some] <;> rfl), by repeat (first | (with_reducible first | exact HB.out | apply below_alloc | apply pw_below_drewN | apply below_drew1 | refine below_set ?_ GE341.out) | exact HB.out)⟩

/-! ### spec_ApplyChange: function 46 -/
def spec_ApplyChange.f (k : Nat) (a0 : ByteArray) (a1_0 : Int) (a1_1 : Int) (a1_2 : ByteArray) : Option (ByteArray × Bool) := (spec_TextValid.f k a0).bind fun t347 => (if t347 = true then ((spec_ChangeFits.f k a0 a1_0 a1_1 a1_2).bind fun t348 => (if t348 = true then (if 0 ≤ a1_0 then (if a1_0 ≤ (a0.size : Int) then (if (a0.extract 0 (a1_0 : Int).toNat).size + a1_2.size ≤ 9223372036854775807 then (if 0 ≤ (wrap64 (a1_0 + a1_1)) then (if (wrap64 (a1_0 + a1_1)) ≤ (a0.size : Int) then (if ((a0.extract 0 (a1_0 : Int).toNat) ++ a1_2).size + (a0.extract ((wrap64 (a1_0 + a1_1)) : Int).toNat a0.size).size ≤ 9223372036854775807 then (some (((a0.extract 0 (a1_0 : Int).toNat) ++ a1_2) ++ (a0.extract ((wrap64 (a1_0 + a1_1)) : Int).toNat a0.size), true)) else (none)) else (none)) else (none)) else (none)) else (none)) else (none)) else (some (a0, false)))) else (some ((⟨#[]⟩ : ByteArray), false)))
theorem spec_ApplyChange.mono : ∀ a0 a1 a2 a3 k, LeO (spec_ApplyChange.f k a0 a1 a2 a3) (spec_ApplyChange.f (k + 1) a0 a1 a2 a3) := by
 intro a0 a1 a2 a3 k
 unfold spec_ApplyChange.f
 repeat' first
   | (with_reducible exact spec_ChangeFits.mono _ _ _ _ _)
   | (with_reducible exact spec_TextValid.mono _ _)
   | (with_reducible exact LeO.refl _)
   | (with_reducible exact LeO.none _)
   | (with_reducible refine LeO.ite ?_ ?_)
   | (with_reducible refine LeO.bind ?_ (fun _ => ?_))
   | exact spec_ChangeFits.mono _ _ _ _ _
   | exact spec_TextValid.mono _ _
   | exact LeO.none _
   | refine LeO.ite ?_ ?_
   | refine LeO.bind ?_ (fun _ => ?_)
set_option maxHeartbeats 8000000 in
set_option maxRecDepth 100000 in
theorem spec_ApplyChange.calls (k : Nat) (a0 : ByteArray) (a1_0 : Int) (a1_1 : Int) (a1_2 : ByteArray) (r1 : ByteArray) (r2 : Bool) (w : World) (h : spec_ApplyChange.f k a0 a1_0 a1_1 a1_2 = some (r1, r2)) :
  Calls Tryd.prog 46 #[.string a0, .agg #[.int .i64 a1_0, .int .i64 a1_1, .string a1_2]] w fun e w' => e = .returned (.tuple #[.string r1, .bool r2]) ∧ Below w.heap.size w w' := by
 have hu43 := Tryd.underlying43
 have HB := Aside0.mk (Below.refl w.heap.size w)
 have H : ((spec_TextValid.f k a0).bind fun t347 => (if t347 = true then ((spec_ChangeFits.f k a0 a1_0 a1_1 a1_2).bind fun t348 => (if t348 = true then (if 0 ≤ a1_0 then (if a1_0 ≤ (a0.size : Int) then (if (a0.extract 0 (a1_0 : Int).toNat).size + a1_2.size ≤ 9223372036854775807 then (if 0 ≤ (wrap64 (a1_0 + a1_1)) then (if (wrap64 (a1_0 + a1_1)) ≤ (a0.size : Int) then (if ((a0.extract 0 (a1_0 : Int).toNat) ++ a1_2).size + (a0.extract ((wrap64 (a1_0 + a1_1)) : Int).toNat a0.size).size ≤ 9223372036854775807 then (some (((a0.extract 0 (a1_0 : Int).toNat) ++ a1_2) ++ (a0.extract ((wrap64 (a1_0 + a1_1)) : Int).toNat a0.size), true)) else (none)) else (none)) else (none)) else (none)) else (none)) else (none)) else (some (a0, false)))) else (some ((⟨#[]⟩ : ByteArray), false)))) = some (r1, r2) := h
 clear h
 replace H := Option.bind_eq_some_iff.mp H
 obtain ⟨t347, A30, H⟩ := H
 replace H : (if t347 = true then ((spec_ChangeFits.f k a0 a1_0 a1_1 a1_2).bind fun t348 => (if t348 = true then (if 0 ≤ a1_0 then (if a1_0 ≤ (a0.size : Int) then (if (a0.extract 0 (a1_0 : Int).toNat).size + a1_2.size ≤ 9223372036854775807 then (if 0 ≤ (wrap64 (a1_0 + a1_1)) then (if (wrap64 (a1_0 + a1_1)) ≤ (a0.size : Int) then (if ((a0.extract 0 (a1_0 : Int).toNat) ++ a1_2).size + (a0.extract ((wrap64 (a1_0 + a1_1)) : Int).toNat a0.size).size ≤ 9223372036854775807 then (some (((a0.extract 0 (a1_0 : Int).toNat) ++ a1_2) ++ (a0.extract ((wrap64 (a1_0 + a1_1)) : Int).toNat a0.size), true)) else (none)) else (none)) else (none)) else (none)) else (none)) else (none)) else (some (a0, false)))) else (some ((⟨#[]⟩ : ByteArray), false))) = some (r1, r2) := H
 have A3 := Aside0.mk A30
 clear A30
 by_cases c4 : t347 = true
 ·subst c4
  have H1 : ((spec_ChangeFits.f k a0 a1_0 a1_1 a1_2).bind fun t348 => (if t348 = true then (if 0 ≤ a1_0 then (if a1_0 ≤ (a0.size : Int) then (if (a0.extract 0 (a1_0 : Int).toNat).size + a1_2.size ≤ 9223372036854775807 then (if 0 ≤ (wrap64 (a1_0 + a1_1)) then (if (wrap64 (a1_0 + a1_1)) ≤ (a0.size : Int) then (if ((a0.extract 0 (a1_0 : Int).toNat) ++ a1_2).size + (a0.extract ((wrap64 (a1_0 + a1_1)) : Int).toNat a0.size).size ≤ 9223372036854775807 then (some (((a0.extract 0 (a1_0 : Int).toNat) ++ a1_2) ++ (a0.extract ((wrap64 (a1_0 + a1_1)) : Int).toNat a0.size), true)) else (none)) else (none)) else (none)) else (none)) else (none)) else (none)) else (some (a0, false)))) = some (r1, r2) := by rw [if_pos rfl] at H; exact H
  clear H
  have H := H1
  clear H1
  replace H := Option.bind_eq_some_iff.mp H
  obtain ⟨t348, A50, H⟩ := H
  replace H : (if t348 = true then (if 0 ≤ a1_0 then (if a1_0 ≤ (a0.size : Int) then (if (a0.extract 0 (a1_0 : Int).toNat).size + a1_2.size ≤ 9223372036854775807 then (if 0 ≤ (wrap64 (a1_0 + a1_1)) then (if (wrap64 (a1_0 + a1_1)) ≤ (a0.size : Int) then (if ((a0.extract 0 (a1_0 : Int).toNat) ++ a1_2).size + (a0.extract ((wrap64 (a1_0 + a1_1)) : Int).toNat a0.size).size ≤ 9223372036854775807 then (some (((a0.extract 0 (a1_0 : Int).toNat) ++ a1_2) ++ (a0.extract ((wrap64 (a1_0 + a1_1)) : Int).toNat a0.size), true)) else (none)) else (none)) else (none)) else (none)) else (none)) else (none)) else (some (a0, false))) = some (r1, r2) := H
  have A5 := Aside0.mk A50
  clear A50
  by_cases c6 : t348 = true
  ·subst c6
   have H1 : (if 0 ≤ a1_0 then (if a1_0 ≤ (a0.size : Int) then (if (a0.extract 0 (a1_0 : Int).toNat).size + a1_2.size ≤ 9223372036854775807 then (if 0 ≤ (wrap64 (a1_0 + a1_1)) then (if (wrap64 (a1_0 + a1_1)) ≤ (a0.size : Int) then (if ((a0.extract 0 (a1_0 : Int).toNat) ++ a1_2).size + (a0.extract ((wrap64 (a1_0 + a1_1)) : Int).toNat a0.size).size ≤ 9223372036854775807 then (some (((a0.extract 0 (a1_0 : Int).toNat) ++ a1_2) ++ (a0.extract ((wrap64 (a1_0 + a1_1)) : Int).toNat a0.size), true)) else (none)) else (none)) else (none)) else (none)) else (none)) else (none)) = some (r1, r2) := by rw [if_pos rfl] at H; exact H
   clear H
   have H := H1
   clear H1
   by_cases c7 : 0 ≤ a1_0
   ·rw [if_pos c7] at H
    have c7b0 := eq_true c7
    have c7b1 : decide (0 ≤ a1_0) = true := decide_eq_true c7
    clear c7
    by_cases c8 : a1_0 ≤ (a0.size : Int)
    ·rw [if_pos c8] at H
     have c8b0 := eq_true c8
     have c8b1 : decide (a1_0 ≤ (a0.size : Int)) = true := decide_eq_true c8
     clear c8
     by_cases c9 : (a0.extract 0 (a1_0 : Int).toNat).size + a1_2.size ≤ 9223372036854775807
     ·rw [if_pos c9] at H
      have c9b0 := eq_true c9
      have c9b1 : decide ((a0.extract 0 (a1_0 : Int).toNat).size + a1_2.size ≤ 9223372036854775807) = true := decide_eq_true c9
      try have c9b2 : (9223372036854775807 < (a0.extract 0 (a1_0 : Int).toNat).size + a1_2.size) = False := eq_false (Nat.not_lt.2 c9)
      obtain ⟨ji10, hji10⟩ : ∃ j_ : Int, (wrap64 (a1_0 + a1_1)) = j_ := ⟨_, rfl⟩
      replace H : (if 0 ≤ (ji10) then (if (ji10) ≤ (a0.size : Int) then (if ((a0.extract 0 (a1_0 : Int).toNat) ++ a1_2).size + (a0.extract ((ji10) : Int).toNat a0.size).size ≤ 9223372036854775807 then (some (((a0.extract 0 (a1_0 : Int).toNat) ++ a1_2) ++ (a0.extract ((ji10) : Int).toNat a0.size), true)) else (none)) else (none)) else (none)) = some (r1, r2) := by first | (rw [hji10] at H; exact H) | (simp only [hji10] at H ⊢; exact H)
      (try rw [hji10] at A3)
      (try rw [hji10] at A5)
      have hji10w : (IntKind.i64.wrap (a1_0 + a1_1)) = ji10 := (i64_w _).trans hji10
      by_cases c11 : 0 ≤ (ji10)
      ·rw [if_pos c11] at H
       have c11b0 := eq_true c11
       have c11b1 : decide (0 ≤ (ji10)) = true := decide_eq_true c11
       clear c11
       by_cases c12 : (ji10) ≤ (a0.size : Int)
       ·rw [if_pos c12] at H
        have c12b0 := eq_true c12
        have c12b1 : decide ((ji10) ≤ (a0.size : Int)) = true := decide_eq_true c12
        clear c12
        by_cases c13 : ((a0.extract 0 (a1_0 : Int).toNat) ++ a1_2).size + (a0.extract ((ji10) : Int).toNat a0.size).size ≤ 9223372036854775807
        ·rw [if_pos c13] at H
         have c13b0 := eq_true c13
         have c13b1 : decide (((a0.extract 0 (a1_0 : Int).toNat) ++ a1_2).size + (a0.extract ((ji10) : Int).toNat a0.size).size ≤ 9223372036854775807) = true := decide_eq_true c13
         try have c13b3 : (9223372036854775807 < (a0.extract 0 (a1_0 : Int).toNat).size + a1_2.size + (a0.extract ((ji10) : Int).toNat a0.size).size) = False := eq_false (by have h_ := c13; first | omega | (simp at h_ ⊢; omega) | (simp at h_ ⊢; exact h_))
         try have c13b2 : (9223372036854775807 < ((a0.extract 0 (a1_0 : Int).toNat) ++ a1_2).size + (a0.extract ((ji10) : Int).toNat a0.size).size) = False := eq_false (Nat.not_lt.2 c13)
         simp only [Option.some.injEq, Prod.mk.injEq] at H
         obtain ⟨rfl, rfl⟩ := H
         go_enter Tryd.func46, Tryd.ntmps46
         go_wp2_with (first | ((with_reducible refine gate_dst (N := 3) rfl ?_); refine box_event ?hg (N := 3) ?hd (cs := #[.int .i64 a1_0, .int .i64 a1_1, .string a1_2]) (t := 43) ?hr ?_; (case hd => rfl); (case hg => rfl); (case hr => first | (go_simp; done) | (go_simp; rfl) | (simp only [i64_w]; first | (go_simp; done) | (go_simp; rfl))); intro gb346 hg w14 hbox hb; have n0_ := Aside0.mk (below_step (by repeat (first | (with_reducible first | exact HB.out | apply below_alloc | apply pw_below_drewN | apply below_drew1) | exact HB.out)) hb); have n1_ := Aside0.mk (hbox); have n2_ := Aside0.mk ((by rw [hg]; exact (below_size (by repeat (first | (with_reducible first | exact HB.out | apply below_alloc | apply pw_below_drewN | apply below_drew1) | exact HB.out))) : w.heap.size ≤ gb346)); have n3_ := Aside0.mk ((by rw [hg]; exact (below_size (by repeat (first | (with_reducible first | exact HB.out | apply below_alloc | apply pw_below_drewN | apply below_drew1) | exact HB.out))) : w.heap.size ≤ gb346)); clear HB; have HB := n0_; have BK346 := n1_; have GW346 := n2_; have GE346 := n3_; clear n0_ n1_ n2_ n3_; clear hb hbox hg) | (go_at_call 23; (with_reducible refine (spec_TextValid.calls k a0 true _ A3.out).mono ?_); rintro e w' ⟨rfl, ⟨nd, rfl⟩⟩; (try first | exact ⟨rfl, _, World.drewN_drewN _ _ _⟩ | exact ⟨rfl, _, Eq.trans (World.drewN_drewN _ _ _) (congrArg (World.drewN _) (Nat.add_assoc _ _ _))⟩); have hcz15_0 : w14.cell? ⟨gb346, 0, none⟩ = some (.int .i64 a1_0) := (blk_cell BK346.out 0).trans rfl; have hcz15_1 : w14.cell? ⟨gb346, 1, none⟩ = some (.int .i64 a1_1) := (blk_cell BK346.out 1).trans rfl; have hcz15_2 : w14.cell? ⟨gb346, 2, none⟩ = some (.string a1_2) := (blk_cell BK346.out 2).trans rfl; have hfz15_0 := blk_frozen BK346.out 0; have hfz15_1 := blk_frozen BK346.out 1; have hfz15_2 := blk_frozen BK346.out 2) | (go_at_call 66; (with_reducible refine (spec_ChangeFits.calls k a0 a1_0 a1_1 a1_2 true _ A5.out).mono ?_); rintro e w16 ⟨rfl, hb⟩; have n0_ := Aside0.mk (blk_below (g := gb346) (o := .cells #[.int .i64 a1_0, .int .i64 a1_1, .string a1_2] 43 (0, 0)) (by (with_reducible repeat (first | refine blk_drewN ?_ _ | refine blk_drew ?_ | refine blk_alloc ?_ _)); exact BK346.out) hb); have n1_ := Aside0.mk (below_step (by repeat (first | (with_reducible first | exact HB.out | apply below_alloc | apply pw_below_drewN | apply below_drew1 | refine below_set ?_ GE346.out) | exact HB.out)) hb); clear BK346; clear HB; have BK346 := n0_; have HB := n1_; clear n0_ n1_; (try clear hb); (try clear hb2); (try clear hk); (try clear hi); have hcz17_0 : w16.cell? ⟨gb346, 0, none⟩ = some (.int .i64 a1_0) := (blk_cell BK346.out 0).trans rfl; have hcz17_1 : w16.cell? ⟨gb346, 1, none⟩ = some (.int .i64 a1_1) := (blk_cell BK346.out 1).trans rfl; have hcz17_2 : w16.cell? ⟨gb346, 2, none⟩ = some (.string a1_2) := (blk_cell BK346.out 2).trans rfl; have hfz17_0 := blk_frozen BK346.out 0; have hfz17_1 := blk_frozen BK346.out 1; have hfz17_2 := blk_frozen BK346.out 2))
         repeat (first | go_quiet (first | ((with_reducible refine gate_dst (N := 3) rfl ?_); refine box_event ?hg (N := 3) ?hd (cs := #[.int .i64 a1_0, .int .i64 a1_1, .string a1_2]) (t := 43) ?hr ?_; (case hd => rfl); (case hg => rfl); (case hr => first | (go_simp; done) | (go_simp; rfl) | (simp only [i64_w]; first | (go_simp; done) | (go_simp; rfl))); intro gb346 hg w14 hbox hb; have n0_ := Aside0.mk (below_step (by repeat (first | (with_reducible first | exact HB.out | apply below_alloc | apply pw_below_drewN | apply below_drew1) | exact HB.out)) hb); have n1_ := Aside0.mk (hbox); have n2_ := Aside0.mk ((by rw [hg]; exact (below_size (by repeat (first | (with_reducible first | exact HB.out | apply below_alloc | apply pw_below_drewN | apply below_drew1) | exact HB.out))) : w.heap.size ≤ gb346)); have n3_ := Aside0.mk ((by rw [hg]; exact (below_size (by repeat (first | (with_reducible first | exact HB.out | apply below_alloc | apply pw_below_drewN | apply below_drew1) | exact HB.out))) : w.heap.size ≤ gb346)); clear HB; have HB := n0_; have BK346 := n1_; have GW346 := n2_; have GE346 := n3_; clear n0_ n1_ n2_ n3_; clear hb hbox hg) | (go_at_call 23; (with_reducible refine (spec_TextValid.calls k a0 true _ A3.out).mono ?_); rintro e w' ⟨rfl, ⟨nd, rfl⟩⟩; (try first | exact ⟨rfl, _, World.drewN_drewN _ _ _⟩ | exact ⟨rfl, _, Eq.trans (World.drewN_drewN _ _ _) (congrArg (World.drewN _) (Nat.add_assoc _ _ _))⟩); have hcz15_0 : w14.cell? ⟨gb346, 0, none⟩ = some (.int .i64 a1_0) := (blk_cell BK346.out 0).trans rfl; have hcz15_1 : w14.cell? ⟨gb346, 1, none⟩ = some (.int .i64 a1_1) := (blk_cell BK346.out 1).trans rfl; have hcz15_2 : w14.cell? ⟨gb346, 2, none⟩ = some (.string a1_2) := (blk_cell BK346.out 2).trans rfl; have hfz15_0 := blk_frozen BK346.out 0; have hfz15_1 := blk_frozen BK346.out 1; have hfz15_2 := blk_frozen BK346.out 2) | (go_at_call 66; (with_reducible refine (spec_ChangeFits.calls k a0 a1_0 a1_1 a1_2 true _ A5.out).mono ?_); rintro e w16 ⟨rfl, hb⟩; have n0_ := Aside0.mk (blk_below (g := gb346) (o := .cells #[.int .i64 a1_0, .int .i64 a1_1, .string a1_2] 43 (0, 0)) (by (with_reducible repeat (first | refine blk_drewN ?_ _ | refine blk_drew ?_ | refine blk_alloc ?_ _)); exact BK346.out) hb); have n1_ := Aside0.mk (below_step (by repeat (first | (with_reducible first | exact HB.out | apply below_alloc | apply pw_below_drewN | apply below_drew1 | refine below_set ?_ GE346.out) | exact HB.out)) hb); clear BK346; clear HB; have BK346 := n0_; have HB := n1_; clear n0_ n1_; (try clear hb); (try clear hb2); (try clear hk); (try clear hi); have hcz17_0 : w16.cell? ⟨gb346, 0, none⟩ = some (.int .i64 a1_0) := (blk_cell BK346.out 0).trans rfl; have hcz17_1 : w16.cell? ⟨gb346, 1, none⟩ = some (.int .i64 a1_1) := (blk_cell BK346.out 1).trans rfl; have hcz17_2 : w16.cell? ⟨gb346, 2, none⟩ = some (.string a1_2) := (blk_cell BK346.out 2).trans rfl; have hfz17_0 := blk_frozen BK346.out 0; have hfz17_1 := blk_frozen BK346.out 1; have hfz17_2 := blk_frozen BK346.out 2)); try go_wp2_with (first | ((with_reducible refine gate_dst (N := 3) rfl ?_); refine box_event ?hg (N := 3) ?hd (cs := #[.int .i64 a1_0, .int .i64 a1_1, .string a1_2]) (t := 43) ?hr ?_; (case hd => rfl); (case hg => rfl); (case hr => first | (go_simp; done) | (go_simp; rfl) | (simp only [i64_w]; first | (go_simp; done) | (go_simp; rfl))); intro gb346 hg w14 hbox hb; have n0_ := Aside0.mk (below_step (by repeat (first | (with_reducible first | exact HB.out | apply below_alloc | apply pw_below_drewN | apply below_drew1) | exact HB.out)) hb); have n1_ := Aside0.mk (hbox); have n2_ := Aside0.mk ((by rw [hg]; exact (below_size (by repeat (first | (with_reducible first | exact HB.out | apply below_alloc | apply pw_below_drewN | apply below_drew1) | exact HB.out))) : w.heap.size ≤ gb346)); have n3_ := Aside0.mk ((by rw [hg]; exact (below_size (by repeat (first | (with_reducible first | exact HB.out | apply below_alloc | apply pw_below_drewN | apply below_drew1) | exact HB.out))) : w.heap.size ≤ gb346)); clear HB; have HB := n0_; have BK346 := n1_; have GW346 := n2_; have GE346 := n3_; clear n0_ n1_ n2_ n3_; clear hb hbox hg) | (go_at_call 23; (with_reducible refine (spec_TextValid.calls k a0 true _ A3.out).mono ?_); rintro e w' ⟨rfl, ⟨nd, rfl⟩⟩; (try first | exact ⟨rfl, _, World.drewN_drewN _ _ _⟩ | exact ⟨rfl, _, Eq.trans (World.drewN_drewN _ _ _) (congrArg (World.drewN _) (Nat.add_assoc _ _ _))⟩); have hcz15_0 : w14.cell? ⟨gb346, 0, none⟩ = some (.int .i64 a1_0) := (blk_cell BK346.out 0).trans rfl; have hcz15_1 : w14.cell? ⟨gb346, 1, none⟩ = some (.int .i64 a1_1) := (blk_cell BK346.out 1).trans rfl; have hcz15_2 : w14.cell? ⟨gb346, 2, none⟩ = some (.string a1_2) := (blk_cell BK346.out 2).trans rfl; have hfz15_0 := blk_frozen BK346.out 0; have hfz15_1 := blk_frozen BK346.out 1; have hfz15_2 := blk_frozen BK346.out 2) | (go_at_call 66; (with_reducible refine (spec_ChangeFits.calls k a0 a1_0 a1_1 a1_2 true _ A5.out).mono ?_); rintro e w16 ⟨rfl, hb⟩; have n0_ := Aside0.mk (blk_below (g := gb346) (o := .cells #[.int .i64 a1_0, .int .i64 a1_1, .string a1_2] 43 (0, 0)) (by (with_reducible repeat (first | refine blk_drewN ?_ _ | refine blk_drew ?_ | refine blk_alloc ?_ _)); exact BK346.out) hb); have n1_ := Aside0.mk (below_step (by repeat (first | (with_reducible first | exact HB.out | apply below_alloc | apply pw_below_drewN | apply below_drew1 | refine below_set ?_ GE346.out) | exact HB.out)) hb); clear BK346; clear HB; have BK346 := n0_; have HB := n1_; clear n0_ n1_; (try clear hb); (try clear hb2); (try clear hk); (try clear hi); have hcz17_0 : w16.cell? ⟨gb346, 0, none⟩ = some (.int .i64 a1_0) := (blk_cell BK346.out 0).trans rfl; have hcz17_1 : w16.cell? ⟨gb346, 1, none⟩ = some (.int .i64 a1_1) := (blk_cell BK346.out 1).trans rfl; have hcz17_2 : w16.cell? ⟨gb346, 2, none⟩ = some (.string a1_2) := (blk_cell BK346.out 2).trans rfl; have hfz17_0 := blk_frozen BK346.out 0; have hfz17_1 := blk_frozen BK346.out 1; have hfz17_2 := blk_frozen BK346.out 2)) | ((try simp only [i64_w]); (try simp only [hji10]); go_quiet (first | ((with_reducible refine gate_dst (N := 3) rfl ?_); refine box_event ?hg (N := 3) ?hd (cs := #[.int .i64 a1_0, .int .i64 a1_1, .string a1_2]) (t := 43) ?hr ?_; (case hd => rfl); (case hg => rfl); (case hr => first | (go_simp; done) | (go_simp; rfl) | (simp only [i64_w]; first | (go_simp; done) | (go_simp; rfl))); intro gb346 hg w14 hbox hb; have n0_ := Aside0.mk (below_step (by repeat (first | (with_reducible first | exact HB.out | apply below_alloc | apply pw_below_drewN | apply below_drew1) | exact HB.out)) hb); have n1_ := Aside0.mk (hbox); have n2_ := Aside0.mk ((by rw [hg]; exact (below_size (by repeat (first | (with_reducible first | exact HB.out | apply below_alloc | apply pw_below_drewN | apply below_drew1) | exact HB.out))) : w.heap.size ≤ gb346)); have n3_ := Aside0.mk ((by rw [hg]; exact (below_size (by repeat (first | (with_reducible first | exact HB.out | apply below_alloc | apply pw_below_drewN | apply below_drew1) | exact HB.out))) : w.heap.size ≤ gb346)); clear HB; have HB := n0_; have BK346 := n1_; have GW346 := n2_; have GE346 := n3_; clear n0_ n1_ n2_ n3_; clear hb hbox hg) | (go_at_call 23; (with_reducible refine (spec_TextValid.calls k a0 true _ A3.out).mono ?_); rintro e w' ⟨rfl, ⟨nd, rfl⟩⟩; (try first | exact ⟨rfl, _, World.drewN_drewN _ _ _⟩ | exact ⟨rfl, _, Eq.trans (World.drewN_drewN _ _ _) (congrArg (World.drewN _) (Nat.add_assoc _ _ _))⟩); have hcz15_0 : w14.cell? ⟨gb346, 0, none⟩ = some (.int .i64 a1_0) := (blk_cell BK346.out 0).trans rfl; have hcz15_1 : w14.cell? ⟨gb346, 1, none⟩ = some (.int .i64 a1_1) := (blk_cell BK346.out 1).trans rfl; have hcz15_2 : w14.cell? ⟨gb346, 2, none⟩ = some (.string a1_2) := (blk_cell BK346.out 2).trans rfl; have hfz15_0 := blk_frozen BK346.out 0; have hfz15_1 := blk_frozen BK346.out 1; have hfz15_2 := blk_frozen BK346.out 2) | (go_at_call 66; (with_reducible refine (spec_ChangeFits.calls k a0 a1_0 a1_1 a1_2 true _ A5.out).mono ?_); rintro e w16 ⟨rfl, hb⟩; have n0_ := Aside0.mk (blk_below (g := gb346) (o := .cells #[.int .i64 a1_0, .int .i64 a1_1, .string a1_2] 43 (0, 0)) (by (with_reducible repeat (first | refine blk_drewN ?_ _ | refine blk_drew ?_ | refine blk_alloc ?_ _)); exact BK346.out) hb); have n1_ := Aside0.mk (below_step (by repeat (first | (with_reducible first | exact HB.out | apply below_alloc | apply pw_below_drewN | apply below_drew1 | refine below_set ?_ GE346.out) | exact HB.out)) hb); clear BK346; clear HB; have BK346 := n0_; have HB := n1_; clear n0_ n1_; (try clear hb); (try clear hb2); (try clear hk); (try clear hi); have hcz17_0 : w16.cell? ⟨gb346, 0, none⟩ = some (.int .i64 a1_0) := (blk_cell BK346.out 0).trans rfl; have hcz17_1 : w16.cell? ⟨gb346, 1, none⟩ = some (.int .i64 a1_1) := (blk_cell BK346.out 1).trans rfl; have hcz17_2 : w16.cell? ⟨gb346, 2, none⟩ = some (.string a1_2) := (blk_cell BK346.out 2).trans rfl; have hfz17_0 := blk_frozen BK346.out 0; have hfz17_1 := blk_frozen BK346.out 1; have hfz17_2 := blk_frozen BK346.out 2)); try go_wp2_with (first | ((with_reducible refine gate_dst (N := 3) rfl ?_); refine box_event ?hg (N := 3) ?hd (cs := #[.int .i64 a1_0, .int .i64 a1_1, .string a1_2]) (t := 43) ?hr ?_; (case hd => rfl); (case hg => rfl); (case hr => first | (go_simp; done) | (go_simp; rfl) | (simp only [i64_w]; first | (go_simp; done) | (go_simp; rfl))); intro gb346 hg w14 hbox hb; have n0_ := Aside0.mk (below_step (by repeat (first | (with_reducible first | exact HB.out | apply below_alloc | apply pw_below_drewN | apply below_drew1) | exact HB.out)) hb); have n1_ := Aside0.mk (hbox); have n2_ := Aside0.mk ((by rw [hg]; exact (below_size (by repeat (first | (with_reducible first | exact HB.out | apply below_alloc | apply pw_below_drewN | apply below_drew1) | exact HB.out))) : w.heap.size ≤ gb346)); have n3_ := Aside0.mk ((by rw [hg]; exact (below_size (by repeat (first | (with_reducible first | exact HB.out | apply below_alloc | apply pw_below_drewN | apply below_drew1) | exact HB.out))) : w.heap.size ≤ gb346)); clear HB; have HB := n0_; have BK346 := n1_; have GW346 := n2_; have GE346 := n3_; clear n0_ n1_ n2_ n3_; clear hb hbox hg) | (go_at_call 23; (with_reducible refine (spec_TextValid.calls k a0 true _ A3.out).mono ?_); rintro e w' ⟨rfl, ⟨nd, rfl⟩⟩; (try first | exact ⟨rfl, _, World.drewN_drewN _ _ _⟩ | exact ⟨rfl, _, Eq.trans (World.drewN_drewN _ _ _) (congrArg (World.drewN _) (Nat.add_assoc _ _ _))⟩); have hcz15_0 : w14.cell? ⟨gb346, 0, none⟩ = some (.int .i64 a1_0) := (blk_cell BK346.out 0).trans rfl; have hcz15_1 : w14.cell? ⟨gb346, 1, none⟩ = some (.int .i64 a1_1) := (blk_cell BK346.out 1).trans rfl; have hcz15_2 : w14.cell? ⟨gb346, 2, none⟩ = some (.string a1_2) := (blk_cell BK346.out 2).trans rfl; have hfz15_0 := blk_frozen BK346.out 0; have hfz15_1 := blk_frozen BK346.out 1; have hfz15_2 := blk_frozen BK346.out 2) | (go_at_call 66; (with_reducible refine (spec_ChangeFits.calls k a0 a1_0 a1_1 a1_2 true _ A5.out).mono ?_); rintro e w16 ⟨rfl, hb⟩; have n0_ := Aside0.mk (blk_below (g := gb346) (o := .cells #[.int .i64 a1_0, .int .i64 a1_1, .string a1_2] 43 (0, 0)) (by (with_reducible repeat (first | refine blk_drewN ?_ _ | refine blk_drew ?_ | refine blk_alloc ?_ _)); exact BK346.out) hb); have n1_ := Aside0.mk (below_step (by repeat (first | (with_reducible first | exact HB.out | apply below_alloc | apply pw_below_drewN | apply below_drew1 | refine below_set ?_ GE346.out) | exact HB.out)) hb); clear BK346; clear HB; have BK346 := n0_; have HB := n1_; clear n0_ n1_; (try clear hb); (try clear hb2); (try clear hk); (try clear hi); have hcz17_0 : w16.cell? ⟨gb346, 0, none⟩ = some (.int .i64 a1_0) := (blk_cell BK346.out 0).trans rfl; have hcz17_1 : w16.cell? ⟨gb346, 1, none⟩ = some (.int .i64 a1_1) := (blk_cell BK346.out 1).trans rfl; have hcz17_2 : w16.cell? ⟨gb346, 2, none⟩ = some (.string a1_2) := (blk_cell BK346.out 2).trans rfl; have hfz17_0 := blk_frozen BK346.out 0; have hfz17_1 := blk_frozen BK346.out 1; have hfz17_2 := blk_frozen BK346.out 2))))
         go_ret2
         exact ⟨by first | rfl | (simp [errW_none, errW_some] <;> rfl) | (simp only [← hji10]; first | rfl | (simp [errW_none, errW_some] <;> rfl)) | (simp [*, errW_none, errW_some] <;> rfl), by repeat (first | (with_reducible first | exact HB.out | apply below_alloc | apply pw_below_drewN | apply below_drew1 | refine below_set ?_ GE346.out) | exact HB.out)⟩
        ·rw [if_neg c13] at H
         exact absurd H (by simp)
       ·rw [if_neg c12] at H
        exact absurd H (by simp)
      ·rw [if_neg c11] at H
       exact absurd H (by simp)
     ·rw [if_neg c9] at H
      exact absurd H (by simp)
    ·rw [if_neg c8] at H
     exact absurd H (by simp)
   ·rw [if_neg c7] at H
    exact absurd H (by simp)
  ·replace c6 := Bool.eq_false_iff.mpr c6
   subst c6
   have H1 : (some (a0, false)) = some (r1, r2) := by rw [if_neg (show ¬ (false = true) by decide)] at H; exact H
   clear H
   have H := H1
   clear H1
   simp only [Option.some.injEq, Prod.mk.injEq] at H
   obtain ⟨rfl, rfl⟩ := H
   go_enter Tryd.func46, Tryd.ntmps46
   go_wp2_with (first | ((with_reducible refine gate_dst (N := 3) rfl ?_); refine box_event ?hg (N := 3) ?hd (cs := #[.int .i64 a1_0, .int .i64 a1_1, .string a1_2]) (t := 43) ?hr ?_; (case hd => rfl); (case hg => rfl); (case hr => first | (go_simp; done) | (go_simp; rfl) | (simp only [i64_w]; first | (go_simp; done) | (go_simp; rfl))); intro gb346 hg w18 hbox hb; have n0_ := Aside0.mk (below_step (by repeat (first | (with_reducible first | exact HB.out | apply below_alloc | apply pw_below_drewN | apply below_drew1) | exact HB.out)) hb); have n1_ := Aside0.mk (hbox); have n2_ := Aside0.mk ((by rw [hg]; exact (below_size (by repeat (first | (with_reducible first | exact HB.out | apply below_alloc | apply pw_below_drewN | apply below_drew1) | exact HB.out))) : w.heap.size ≤ gb346)); have n3_ := Aside0.mk ((by rw [hg]; exact (below_size (by repeat (first | (with_reducible first | exact HB.out | apply below_alloc | apply pw_below_drewN | apply below_drew1) | exact HB.out))) : w.heap.size ≤ gb346)); clear HB; have HB := n0_; have BK346 := n1_; have GW346 := n2_; have GE346 := n3_; clear n0_ n1_ n2_ n3_; clear hb hbox hg) | (go_at_call 23; (with_reducible refine (spec_TextValid.calls k a0 true _ A3.out).mono ?_); rintro e w' ⟨rfl, ⟨nd, rfl⟩⟩; (try first | exact ⟨rfl, _, World.drewN_drewN _ _ _⟩ | exact ⟨rfl, _, Eq.trans (World.drewN_drewN _ _ _) (congrArg (World.drewN _) (Nat.add_assoc _ _ _))⟩); have hcz19_0 : w18.cell? ⟨gb346, 0, none⟩ = some (.int .i64 a1_0) := (blk_cell BK346.out 0).trans rfl; have hcz19_1 : w18.cell? ⟨gb346, 1, none⟩ = some (.int .i64 a1_1) := (blk_cell BK346.out 1).trans rfl; have hcz19_2 : w18.cell? ⟨gb346, 2, none⟩ = some (.string a1_2) := (blk_cell BK346.out 2).trans rfl; have hfz19_0 := blk_frozen BK346.out 0; have hfz19_1 := blk_frozen BK346.out 1; have hfz19_2 := blk_frozen BK346.out 2) | (go_at_call 66; (with_reducible refine (spec_ChangeFits.calls k a0 a1_0 a1_1 a1_2 false _ A5.out).mono ?_); rintro e w20 ⟨rfl, hb⟩; have n0_ := Aside0.mk (blk_below (g := gb346) (o := .cells #[.int .i64 a1_0, .int .i64 a1_1, .string a1_2] 43 (0, 0)) (by (with_reducible repeat (first | refine blk_drewN ?_ _ | refine blk_drew ?_ | refine blk_alloc ?_ _)); exact BK346.out) hb); have n1_ := Aside0.mk (below_step (by repeat (first | (with_reducible first | exact HB.out | apply below_alloc | apply pw_below_drewN | apply below_drew1 | refine below_set ?_ GE346.out) | exact HB.out)) hb); clear BK346; clear HB; have BK346 := n0_; have HB := n1_; clear n0_ n1_; (try clear hb); (try clear hb2); (try clear hk); (try clear hi)))
   repeat (first | go_quiet (first | ((with_reducible refine gate_dst (N := 3) rfl ?_); refine box_event ?hg (N := 3) ?hd (cs := #[.int .i64 a1_0, .int .i64 a1_1, .string a1_2]) (t := 43) ?hr ?_; (case hd => rfl); (case hg => rfl); (case hr => first | (go_simp; done) | (go_simp; rfl) | (simp only [i64_w]; first | (go_simp; done) | (go_simp; rfl))); intro gb346 hg w18 hbox hb; have n0_ := Aside0.mk (below_step (by repeat (first | (with_reducible first | exact HB.out | apply below_alloc | apply pw_below_drewN | apply below_drew1) | exact HB.out)) hb); have n1_ := Aside0.mk (hbox); have n2_ := Aside0.mk ((by rw [hg]; exact (below_size (by repeat (first | (with_reducible first | exact HB.out | apply below_alloc | apply pw_below_drewN | apply below_drew1) | exact HB.out))) : w.heap.size ≤ gb346)); have n3_ := Aside0.mk ((by rw [hg]; exact (below_size (by repeat (first | (with_reducible first | exact HB.out | apply below_alloc | apply pw_below_drewN | apply below_drew1) | exact HB.out))) : w.heap.size ≤ gb346)); clear HB; have HB := n0_; have BK346 := n1_; have GW346 := n2_; have GE346 := n3_; clear n0_ n1_ n2_ n3_; clear hb hbox hg) | (go_at_call 23; (with_reducible refine (spec_TextValid.calls k a0 true _ A3.out).mono ?_); rintro e w' ⟨rfl, ⟨nd, rfl⟩⟩; (try first | exact ⟨rfl, _, World.drewN_drewN _ _ _⟩ | exact ⟨rfl, _, Eq.trans (World.drewN_drewN _ _ _) (congrArg (World.drewN _) (Nat.add_assoc _ _ _))⟩); have hcz19_0 : w18.cell? ⟨gb346, 0, none⟩ = some (.int .i64 a1_0) := (blk_cell BK346.out 0).trans rfl; have hcz19_1 : w18.cell? ⟨gb346, 1, none⟩ = some (.int .i64 a1_1) := (blk_cell BK346.out 1).trans rfl; have hcz19_2 : w18.cell? ⟨gb346, 2, none⟩ = some (.string a1_2) := (blk_cell BK346.out 2).trans rfl; have hfz19_0 := blk_frozen BK346.out 0; have hfz19_1 := blk_frozen BK346.out 1; have hfz19_2 := blk_frozen BK346.out 2) | (go_at_call 66; (with_reducible refine (spec_ChangeFits.calls k a0 a1_0 a1_1 a1_2 false _ A5.out).mono ?_); rintro e w20 ⟨rfl, hb⟩; have n0_ := Aside0.mk (blk_below (g := gb346) (o := .cells #[.int .i64 a1_0, .int .i64 a1_1, .string a1_2] 43 (0, 0)) (by (with_reducible repeat (first | refine blk_drewN ?_ _ | refine blk_drew ?_ | refine blk_alloc ?_ _)); exact BK346.out) hb); have n1_ := Aside0.mk (below_step (by repeat (first | (with_reducible first | exact HB.out | apply below_alloc | apply pw_below_drewN | apply below_drew1 | refine below_set ?_ GE346.out) | exact HB.out)) hb); clear BK346; clear HB; have BK346 := n0_; have HB := n1_; clear n0_ n1_; (try clear hb); (try clear hb2); (try clear hk); (try clear hi))); try go_wp2_with (first | ((with_reducible refine gate_dst (N := 3) rfl ?_); refine box_event ?hg (N := 3) ?hd (cs := #[.int .i64 a1_0, .int .i64 a1_1, .string a1_2]) (t := 43) ?hr ?_; (case hd => rfl); (case hg => rfl); (case hr => first | (go_simp; done) | (go_simp; rfl) | (simp only [i64_w]; first | (go_simp; done) | (go_simp; rfl))); intro gb346 hg w18 hbox hb; have n0_ := Aside0.mk (below_step (by repeat (first | (with_reducible first | exact HB.out | apply below_alloc | apply pw_below_drewN | apply below_drew1) | exact HB.out)) hb); have n1_ := Aside0.mk (hbox); have n2_ := Aside0.mk ((by rw [hg]; exact (below_size (by repeat (first | (with_reducible first | exact HB.out | apply below_alloc | apply pw_below_drewN | apply below_drew1) | exact HB.out))) : w.heap.size ≤ gb346)); have n3_ := Aside0.mk ((by rw [hg]; exact (below_size (by repeat (first | (with_reducible first | exact HB.out | apply below_alloc | apply pw_below_drewN | apply below_drew1) | exact HB.out))) : w.heap.size ≤ gb346)); clear HB; have HB := n0_; have BK346 := n1_; have GW346 := n2_; have GE346 := n3_; clear n0_ n1_ n2_ n3_; clear hb hbox hg) | (go_at_call 23; (with_reducible refine (spec_TextValid.calls k a0 true _ A3.out).mono ?_); rintro e w' ⟨rfl, ⟨nd, rfl⟩⟩; (try first | exact ⟨rfl, _, World.drewN_drewN _ _ _⟩ | exact ⟨rfl, _, Eq.trans (World.drewN_drewN _ _ _) (congrArg (World.drewN _) (Nat.add_assoc _ _ _))⟩); have hcz19_0 : w18.cell? ⟨gb346, 0, none⟩ = some (.int .i64 a1_0) := (blk_cell BK346.out 0).trans rfl; have hcz19_1 : w18.cell? ⟨gb346, 1, none⟩ = some (.int .i64 a1_1) := (blk_cell BK346.out 1).trans rfl; have hcz19_2 : w18.cell? ⟨gb346, 2, none⟩ = some (.string a1_2) := (blk_cell BK346.out 2).trans rfl; have hfz19_0 := blk_frozen BK346.out 0; have hfz19_1 := blk_frozen BK346.out 1; have hfz19_2 := blk_frozen BK346.out 2) | (go_at_call 66; (with_reducible refine (spec_ChangeFits.calls k a0 a1_0 a1_1 a1_2 false _ A5.out).mono ?_); rintro e w20 ⟨rfl, hb⟩; have n0_ := Aside0.mk (blk_below (g := gb346) (o := .cells #[.int .i64 a1_0, .int .i64 a1_1, .string a1_2] 43 (0, 0)) (by (with_reducible repeat (first | refine blk_drewN ?_ _ | refine blk_drew ?_ | refine blk_alloc ?_ _)); exact BK346.out) hb); have n1_ := Aside0.mk (below_step (by repeat (first | (with_reducible first | exact HB.out | apply below_alloc | apply pw_below_drewN | apply below_drew1 | refine below_set ?_ GE346.out) | exact HB.out)) hb); clear BK346; clear HB; have BK346 := n0_; have HB := n1_; clear n0_ n1_; (try clear hb); (try clear hb2); (try clear hk); (try clear hi))) | ((try simp only [i64_w]); go_quiet (first | ((with_reducible refine gate_dst (N := 3) rfl ?_); refine box_event ?hg (N := 3) ?hd (cs := #[.int .i64 a1_0, .int .i64 a1_1, .string a1_2]) (t := 43) ?hr ?_; (case hd => rfl); (case hg => rfl); (case hr => first | (go_simp; done) | (go_simp; rfl) | (simp only [i64_w]; first | (go_simp; done) | (go_simp; rfl))); intro gb346 hg w18 hbox hb; have n0_ := Aside0.mk (below_step (by repeat (first | (with_reducible first | exact HB.out | apply below_alloc | apply pw_below_drewN | apply below_drew1) | exact HB.out)) hb); have n1_ := Aside0.mk (hbox); have n2_ := Aside0.mk ((by rw [hg]; exact (below_size (by repeat (first | (with_reducible first | exact HB.out | apply below_alloc | apply pw_below_drewN | apply below_drew1) | exact HB.out))) : w.heap.size ≤ gb346)); have n3_ := Aside0.mk ((by rw [hg]; exact (below_size (by repeat (first | (with_reducible first | exact HB.out | apply below_alloc | apply pw_below_drewN | apply below_drew1) | exact HB.out))) : w.heap.size ≤ gb346)); clear HB; have HB := n0_; have BK346 := n1_; have GW346 := n2_; have GE346 := n3_; clear n0_ n1_ n2_ n3_; clear hb hbox hg) | (go_at_call 23; (with_reducible refine (spec_TextValid.calls k a0 true _ A3.out).mono ?_); rintro e w' ⟨rfl, ⟨nd, rfl⟩⟩; (try first | exact ⟨rfl, _, World.drewN_drewN _ _ _⟩ | exact ⟨rfl, _, Eq.trans (World.drewN_drewN _ _ _) (congrArg (World.drewN _) (Nat.add_assoc _ _ _))⟩); have hcz19_0 : w18.cell? ⟨gb346, 0, none⟩ = some (.int .i64 a1_0) := (blk_cell BK346.out 0).trans rfl; have hcz19_1 : w18.cell? ⟨gb346, 1, none⟩ = some (.int .i64 a1_1) := (blk_cell BK346.out 1).trans rfl; have hcz19_2 : w18.cell? ⟨gb346, 2, none⟩ = some (.string a1_2) := (blk_cell BK346.out 2).trans rfl; have hfz19_0 := blk_frozen BK346.out 0; have hfz19_1 := blk_frozen BK346.out 1; have hfz19_2 := blk_frozen BK346.out 2) | (go_at_call 66; (with_reducible refine (spec_ChangeFits.calls k a0 a1_0 a1_1 a1_2 false _ A5.out).mono ?_); rintro e w20 ⟨rfl, hb⟩; have n0_ := Aside0.mk (blk_below (g := gb346) (o := .cells #[.int .i64 a1_0, .int .i64 a1_1, .string a1_2] 43 (0, 0)) (by (with_reducible repeat (first | refine blk_drewN ?_ _ | refine blk_drew ?_ | refine blk_alloc ?_ _)); exact BK346.out) hb); have n1_ := Aside0.mk (below_step (by repeat (first | (with_reducible first | exact HB.out | apply below_alloc | apply pw_below_drewN | apply below_drew1 | refine below_set ?_ GE346.out) | exact HB.out)) hb); clear BK346; clear HB; have BK346 := n0_; have HB := n1_; clear n0_ n1_; (try clear hb); (try clear hb2); (try clear hk); (try clear hi))); try go_wp2_with (first | ((with_reducible refine gate_dst (N := 3) rfl ?_); refine box_event ?hg (N := 3) ?hd (cs := #[.int .i64 a1_0, .int .i64 a1_1, .string a1_2]) (t := 43) ?hr ?_; (case hd => rfl); (case hg => rfl); (case hr => first | (go_simp; done) | (go_simp; rfl) | (simp only [i64_w]; first | (go_simp; done) | (go_simp; rfl))); intro gb346 hg w18 hbox hb; have n0_ := Aside0.mk (below_step (by repeat (first | (with_reducible first | exact HB.out | apply below_alloc | apply pw_below_drewN | apply below_drew1) | exact HB.out)) hb); have n1_ := Aside0.mk (hbox); have n2_ := Aside0.mk ((by rw [hg]; exact (below_size (by repeat (first | (with_reducible first | exact HB.out | apply below_alloc | apply pw_below_drewN | apply below_drew1) | exact HB.out))) : w.heap.size ≤ gb346)); have n3_ := Aside0.mk ((by rw [hg]; exact (below_size (by repeat (first | (with_reducible first | exact HB.out | apply below_alloc | apply pw_below_drewN | apply below_drew1) | exact HB.out))) : w.heap.size ≤ gb346)); clear HB; have HB := n0_; have BK346 := n1_; have GW346 := n2_; have GE346 := n3_; clear n0_ n1_ n2_ n3_; clear hb hbox hg) | (go_at_call 23; (with_reducible refine (spec_TextValid.calls k a0 true _ A3.out).mono ?_); rintro e w' ⟨rfl, ⟨nd, rfl⟩⟩; (try first | exact ⟨rfl, _, World.drewN_drewN _ _ _⟩ | exact ⟨rfl, _, Eq.trans (World.drewN_drewN _ _ _) (congrArg (World.drewN _) (Nat.add_assoc _ _ _))⟩); have hcz19_0 : w18.cell? ⟨gb346, 0, none⟩ = some (.int .i64 a1_0) := (blk_cell BK346.out 0).trans rfl; have hcz19_1 : w18.cell? ⟨gb346, 1, none⟩ = some (.int .i64 a1_1) := (blk_cell BK346.out 1).trans rfl; have hcz19_2 : w18.cell? ⟨gb346, 2, none⟩ = some (.string a1_2) := (blk_cell BK346.out 2).trans rfl; have hfz19_0 := blk_frozen BK346.out 0; have hfz19_1 := blk_frozen BK346.out 1; have hfz19_2 := blk_frozen BK346.out 2) | (go_at_call 66; (with_reducible refine (spec_ChangeFits.calls k a0 a1_0 a1_1 a1_2 false _ A5.out).mono ?_); rintro e w20 ⟨rfl, hb⟩; have n0_ := Aside0.mk (blk_below (g := gb346) (o := .cells #[.int .i64 a1_0, .int .i64 a1_1, .string a1_2] 43 (0, 0)) (by (with_reducible repeat (first | refine blk_drewN ?_ _ | refine blk_drew ?_ | refine blk_alloc ?_ _)); exact BK346.out) hb); have n1_ := Aside0.mk (below_step (by repeat (first | (with_reducible first | exact HB.out | apply below_alloc | apply pw_below_drewN | apply below_drew1 | refine below_set ?_ GE346.out) | exact HB.out)) hb); clear BK346; clear HB; have BK346 := n0_; have HB := n1_; clear n0_ n1_; (try clear hb); (try clear hb2); (try clear hk); (try clear hi)))))
   go_ret2
   exact ⟨by first | rfl | (simp [errW_none, errW_some] <;> rfl) | (simp [*, errW_none, errW_some] <;> rfl), by repeat (first | (with_reducible first | exact HB.out | apply below_alloc | apply pw_below_drewN | apply below_drew1 | refine below_set ?_ GE346.out) | exact HB.out)⟩
 ·replace c4 := Bool.eq_false_iff.mpr c4
  subst c4
  have H1 : (some ((⟨#[]⟩ : ByteArray), false)) = some (r1, r2) := by rw [if_neg (show ¬ (false = true) by decide)] at H; exact H
  clear H
  have H := H1
  clear H1
  simp only [Option.some.injEq, Prod.mk.injEq] at H
  obtain ⟨rfl, rfl⟩ := H
  go_enter Tryd.func46, Tryd.ntmps46
  go_wp2_with (first | ((with_reducible refine gate_dst (N := 3) rfl ?_); refine box_event ?hg (N := 3) ?hd (cs := #[.int .i64 a1_0, .int .i64 a1_1, .string a1_2]) (t := 43) ?hr ?_; (case hd => rfl); (case hg => rfl); (case hr => first | (go_simp; done) | (go_simp; rfl) | (simp only [i64_w]; first | (go_simp; done) | (go_simp; rfl))); intro gb346 hg w21 hbox hb; have n0_ := Aside0.mk (below_step (by repeat (first | (with_reducible first | exact HB.out | apply below_alloc | apply pw_below_drewN | apply below_drew1) | exact HB.out)) hb); have n1_ := Aside0.mk (hbox); have n2_ := Aside0.mk ((by rw [hg]; exact (below_size (by repeat (first | (with_reducible first | exact HB.out | apply below_alloc | apply pw_below_drewN | apply below_drew1) | exact HB.out))) : w.heap.size ≤ gb346)); have n3_ := Aside0.mk ((by rw [hg]; exact (below_size (by repeat (first | (with_reducible first | exact HB.out | apply below_alloc | apply pw_below_drewN | apply below_drew1) | exact HB.out))) : w.heap.size ≤ gb346)); clear HB; have HB := n0_; have BK346 := n1_; have GW346 := n2_; have GE346 := n3_; clear n0_ n1_ n2_ n3_; clear hb hbox hg) | (go_at_call 23; (with_reducible refine (spec_TextValid.calls k a0 false _ A3.out).mono ?_); rintro e w' ⟨rfl, ⟨nd, rfl⟩⟩; (try first | exact ⟨rfl, _, World.drewN_drewN _ _ _⟩ | exact ⟨rfl, _, Eq.trans (World.drewN_drewN _ _ _) (congrArg (World.drewN _) (Nat.add_assoc _ _ _))⟩)))
  repeat (first | go_quiet (first | ((with_reducible refine gate_dst (N := 3) rfl ?_); refine box_event ?hg (N := 3) ?hd (cs := #[.int .i64 a1_0, .int .i64 a1_1, .string a1_2]) (t := 43) ?hr ?_; (case hd => rfl); (case hg => rfl); (case hr => first | (go_simp; done) | (go_simp; rfl) | (simp only [i64_w]; first | (go_simp; done) | (go_simp; rfl))); intro gb346 hg w21 hbox hb; have n0_ := Aside0.mk (below_step (by repeat (first | (with_reducible first | exact HB.out | apply below_alloc | apply pw_below_drewN | apply below_drew1) | exact HB.out)) hb); have n1_ := Aside0.mk (hbox); have n2_ := Aside0.mk ((by rw [hg]; exact (below_size (by repeat (first | (with_reducible first | exact HB.out | apply below_alloc | apply pw_below_drewN | apply below_drew1) | exact HB.out))) : w.heap.size ≤ gb346)); have n3_ := Aside0.mk ((by rw [hg]; exact (below_size (by repeat (first | (with_reducible first | exact HB.out | apply below_alloc | apply pw_below_drewN | apply below_drew1) | exact HB.out))) : w.heap.size ≤ gb346)); clear HB; have HB := n0_; have BK346 := n1_; have GW346 := n2_; have GE346 := n3_; clear n0_ n1_ n2_ n3_; clear hb hbox hg) | (go_at_call 23; (with_reducible refine (spec_TextValid.calls k a0 false _ A3.out).mono ?_); rintro e w' ⟨rfl, ⟨nd, rfl⟩⟩; (try first | exact ⟨rfl, _, World.drewN_drewN _ _ _⟩ | exact ⟨rfl, _, Eq.trans (World.drewN_drewN _ _ _) (congrArg (World.drewN _) (Nat.add_assoc _ _ _))⟩))); try go_wp2_with (first | ((with_reducible refine gate_dst (N := 3) rfl ?_); refine box_event ?hg (N := 3) ?hd (cs := #[.int .i64 a1_0, .int .i64 a1_1, .string a1_2]) (t := 43) ?hr ?_; (case hd => rfl); (case hg => rfl); (case hr => first | (go_simp; done) | (go_simp; rfl) | (simp only [i64_w]; first | (go_simp; done) | (go_simp; rfl))); intro gb346 hg w21 hbox hb; have n0_ := Aside0.mk (below_step (by repeat (first | (with_reducible first | exact HB.out | apply below_alloc | apply pw_below_drewN | apply below_drew1) | exact HB.out)) hb); have n1_ := Aside0.mk (hbox); have n2_ := Aside0.mk ((by rw [hg]; exact (below_size (by repeat (first | (with_reducible first | exact HB.out | apply below_alloc | apply pw_below_drewN | apply below_drew1) | exact HB.out))) : w.heap.size ≤ gb346)); have n3_ := Aside0.mk ((by rw [hg]; exact (below_size (by repeat (first | (with_reducible first | exact HB.out | apply below_alloc | apply pw_below_drewN | apply below_drew1) | exact HB.out))) : w.heap.size ≤ gb346)); clear HB; have HB := n0_; have BK346 := n1_; have GW346 := n2_; have GE346 := n3_; clear n0_ n1_ n2_ n3_; clear hb hbox hg) | (go_at_call 23; (with_reducible refine (spec_TextValid.calls k a0 false _ A3.out).mono ?_); rintro e w' ⟨rfl, ⟨nd, rfl⟩⟩; (try first | exact ⟨rfl, _, World.drewN_drewN _ _ _⟩ | exact ⟨rfl, _, Eq.trans (World.drewN_drewN _ _ _) (congrArg (World.drewN _) (Nat.add_assoc _ _ _))⟩))) | ((try simp only [i64_w]); go_quiet (first | ((with_reducible refine gate_dst (N := 3) rfl ?_); refine box_event ?hg (N := 3) ?hd (cs := #[.int .i64 a1_0, .int .i64 a1_1, .string a1_2]) (t := 43) ?hr ?_; (case hd => rfl); (case hg => rfl); (case hr => first | (go_simp; done) | (go_simp; rfl) | (simp only [i64_w]; first | (go_simp; done) | (go_simp; rfl))); intro gb346 hg w21 hbox hb; have n0_ := Aside0.mk (below_step (by repeat (first | (with_reducible first | exact HB.out | apply below_alloc | apply pw_below_drewN | apply below_drew1) | exact HB.out)) hb); have n1_ := Aside0.mk (hbox); have n2_ := Aside0.mk ((by rw [hg]; exact (below_size (by repeat (first | (with_reducible first | exact HB.out | apply below_alloc | apply pw_below_drewN | apply below_drew1) | exact HB.out))) : w.heap.size ≤ gb346)); have n3_ := Aside0.mk ((by rw [hg]; exact (below_size (by repeat (first | (with_reducible first | exact HB.out | apply below_alloc | apply pw_below_drewN | apply below_drew1) | exact HB.out))) : w.heap.size ≤ gb346)); clear HB; have HB := n0_; have BK346 := n1_; have GW346 := n2_; have GE346 := n3_; clear n0_ n1_ n2_ n3_; clear hb hbox hg) | (go_at_call 23; (with_reducible refine (spec_TextValid.calls k a0 false _ A3.out).mono ?_); rintro e w' ⟨rfl, ⟨nd, rfl⟩⟩; (try first | exact ⟨rfl, _, World.drewN_drewN _ _ _⟩ | exact ⟨rfl, _, Eq.trans (World.drewN_drewN _ _ _) (congrArg (World.drewN _) (Nat.add_assoc _ _ _))⟩))); try go_wp2_with (first | ((with_reducible refine gate_dst (N := 3) rfl ?_); refine box_event ?hg (N := 3) ?hd (cs := #[.int .i64 a1_0, .int .i64 a1_1, .string a1_2]) (t := 43) ?hr ?_; (case hd => rfl); (case hg => rfl); (case hr => first | (go_simp; done) | (go_simp; rfl) | (simp only [i64_w]; first | (go_simp; done) | (go_simp; rfl))); intro gb346 hg w21 hbox hb; have n0_ := Aside0.mk (below_step (by repeat (first | (with_reducible first | exact HB.out | apply below_alloc | apply pw_below_drewN | apply below_drew1) | exact HB.out)) hb); have n1_ := Aside0.mk (hbox); have n2_ := Aside0.mk ((by rw [hg]; exact (below_size (by repeat (first | (with_reducible first | exact HB.out | apply below_alloc | apply pw_below_drewN | apply below_drew1) | exact HB.out))) : w.heap.size ≤ gb346)); have n3_ := Aside0.mk ((by rw [hg]; exact (below_size (by repeat (first | (with_reducible first | exact HB.out | apply below_alloc | apply pw_below_drewN | apply below_drew1) | exact HB.out))) : w.heap.size ≤ gb346)); clear HB; have HB := n0_; have BK346 := n1_; have GW346 := n2_; have GE346 := n3_; clear n0_ n1_ n2_ n3_; clear hb hbox hg) | (go_at_call 23; (with_reducible refine (spec_TextValid.calls k a0 false _ A3.out).mono ?_); rintro e w' ⟨rfl, ⟨nd, rfl⟩⟩; (try first | exact ⟨rfl, _, World.drewN_drewN _ _ _⟩ | exact ⟨rfl, _, Eq.trans (World.drewN_drewN _ _ _) (congrArg (World.drewN _) (Nat.add_assoc _ _ _))⟩)))))
  go_ret2
  exact ⟨by first | rfl | (simp [errW_none, errW_some] <;> rfl) | (simp [*, errW_none, errW_some] <;> rfl), by repeat (first | (with_reducible first | exact HB.out | apply below_alloc | apply pw_below_drewN | apply below_drew1 | refine below_set ?_ GE346.out) | exact HB.out)⟩

/-! ### spec_LineOf: function 48 -/
def spec_LineOf.f (k : Nat) (a0 : ByteArray) (a1 : Int) : Option (Int) := (spec_TextValid.f k a0).bind fun t349 => (if t349 = true then ((spec_l1In.f a1 0 (a0.size : Int)).bind fun t350 => (if t350 = true then (if 0 ≤ a1 then (if a1 ≤ (a0.size : Int) then ((spec_LineMany.f k (a0.extract 0 (a1 : Int).toNat)).bind fun t351 => (some (wrap64 (t351 - 1)))) else (none)) else (none)) else (some (-1)))) else (some (-1)))
theorem spec_LineOf.mono : ∀ a0 a1 k, LeO (spec_LineOf.f k a0 a1) (spec_LineOf.f (k + 1) a0 a1) := by
 intro a0 a1 k
 unfold spec_LineOf.f
 repeat' first
   | (with_reducible exact spec_LineMany.mono _ _)
   | (with_reducible exact spec_TextValid.mono _ _)
   | (with_reducible exact LeO.refl _)
   | (with_reducible exact LeO.none _)
   | (with_reducible refine LeO.ite ?_ ?_)
   | (with_reducible refine LeO.bind ?_ (fun _ => ?_))
   | exact spec_LineMany.mono _ _
   | exact spec_TextValid.mono _ _
   | exact LeO.none _
   | refine LeO.ite ?_ ?_
   | refine LeO.bind ?_ (fun _ => ?_)
set_option maxHeartbeats 8000000 in
set_option maxRecDepth 100000 in
theorem spec_LineOf.calls (k : Nat) (a0 : ByteArray) (a1 : Int) (r : Int) (w : World) (h : spec_LineOf.f k a0 a1 = some r) :
  Calls Tryd.prog 48 #[.string a0, .int .i64 a1] w fun e w' => e = .returned (.int .i64 r) ∧ Drawn0 w w' := by
 have H : ((spec_TextValid.f k a0).bind fun t349 => (if t349 = true then ((spec_l1In.f a1 0 (a0.size : Int)).bind fun t350 => (if t350 = true then (if 0 ≤ a1 then (if a1 ≤ (a0.size : Int) then ((spec_LineMany.f k (a0.extract 0 (a1 : Int).toNat)).bind fun t351 => (some (wrap64 (t351 - 1)))) else (none)) else (none)) else (some (-1)))) else (some (-1)))) = some r := h
 clear h
 replace H := Option.bind_eq_some_iff.mp H
 obtain ⟨t349, A30, H⟩ := H
 replace H : (if t349 = true then ((spec_l1In.f a1 0 (a0.size : Int)).bind fun t350 => (if t350 = true then (if 0 ≤ a1 then (if a1 ≤ (a0.size : Int) then ((spec_LineMany.f k (a0.extract 0 (a1 : Int).toNat)).bind fun t351 => (some (wrap64 (t351 - 1)))) else (none)) else (none)) else (some (-1)))) else (some (-1))) = some r := H
 have A3 := Aside0.mk A30
 clear A30
 by_cases c4 : t349 = true
 ·subst c4
  have H1 : ((spec_l1In.f a1 0 (a0.size : Int)).bind fun t350 => (if t350 = true then (if 0 ≤ a1 then (if a1 ≤ (a0.size : Int) then ((spec_LineMany.f k (a0.extract 0 (a1 : Int).toNat)).bind fun t351 => (some (wrap64 (t351 - 1)))) else (none)) else (none)) else (some (-1)))) = some r := by rw [if_pos rfl] at H; exact H
  clear H
  have H := H1
  clear H1
  replace H := Option.bind_eq_some_iff.mp H
  obtain ⟨t350, A50, H⟩ := H
  replace H : (if t350 = true then (if 0 ≤ a1 then (if a1 ≤ (a0.size : Int) then ((spec_LineMany.f k (a0.extract 0 (a1 : Int).toNat)).bind fun t351 => (some (wrap64 (t351 - 1)))) else (none)) else (none)) else (some (-1))) = some r := H
  have A5 := Aside0.mk A50
  clear A50
  by_cases c6 : t350 = true
  ·subst c6
   have H1 : (if 0 ≤ a1 then (if a1 ≤ (a0.size : Int) then ((spec_LineMany.f k (a0.extract 0 (a1 : Int).toNat)).bind fun t351 => (some (wrap64 (t351 - 1)))) else (none)) else (none)) = some r := by rw [if_pos rfl] at H; exact H
   clear H
   have H := H1
   clear H1
   by_cases c7 : 0 ≤ a1
   ·rw [if_pos c7] at H
    have c7b0 := eq_true c7
    have c7b1 : decide (0 ≤ a1) = true := decide_eq_true c7
    clear c7
    by_cases c8 : a1 ≤ (a0.size : Int)
    ·rw [if_pos c8] at H
     have c8b0 := eq_true c8
     have c8b1 : decide (a1 ≤ (a0.size : Int)) = true := decide_eq_true c8
     clear c8
     replace H := Option.bind_eq_some_iff.mp H
     obtain ⟨t351, A90, H⟩ := H
     replace H : (some (wrap64 (t351 - 1))) = some r := H
     have A9 := Aside0.mk A90
     clear A90
     obtain rfl := Option.some.inj H
     go_enter Tryd.func48, Tryd.ntmps48
     go_wp2_with (first | ((with_reducible refine gate_callee (f := 23) rfl ?_); refine goesL_ (some 6) rfl rfl Tryd.func23 (by kernel_rfl) rfl #[.string a0] rfl (by (try simp only [List.map_toArray, List.map_cons, List.map_nil]); first | done | rfl | (simp only [List.length_drop, List.length_take]; rfl)) ?_; (with_reducible refine (spec_TextValid.calls k a0 true _ A3.out).mono ?_); rintro e w' ⟨rfl, ⟨nd, rfl⟩⟩; refine ⟨_, rfl, ?_⟩) | (go_at_call 64; (with_reducible refine (spec_l1In.calls a1 0 (a0.size : Int) true _ A5.out).mono ?_); rintro e w' ⟨rfl, ⟨nd, rfl⟩⟩) | ((with_reducible refine gate_callee (f := 47) rfl ?_); refine goesL_ (some 18) rfl rfl Tryd.func47 (by kernel_rfl) rfl #[.string (a0.extract 0 (a1 : Int).toNat)] rfl (by (try simp only [List.map_toArray, List.map_cons, List.map_nil]); first | done | rfl | (simp only [List.length_drop, List.length_take]; rfl)) ?_; (with_reducible refine (spec_LineMany.calls k (a0.extract 0 (a1 : Int).toNat) t351 _ A9.out).mono ?_); rintro e w' ⟨rfl, ⟨nd, rfl⟩⟩; refine ⟨_, rfl, ?_⟩))
     go_ret
     exact ⟨by first | rfl | (simp; done) | (simp [*]; done), by repeat (first | exact Drawn0.refl _ | apply Drawn0.step)⟩
    ·rw [if_neg c8] at H
     exact absurd H (by simp)
   ·rw [if_neg c7] at H
    exact absurd H (by simp)
  ·replace c6 := Bool.eq_false_iff.mpr c6
   subst c6
   have H1 : (some (-1)) = some r := by rw [if_neg (show ¬ (false = true) by decide)] at H; exact H
   clear H
   have H := H1
   clear H1
   obtain rfl := Option.some.inj H
   go_enter Tryd.func48, Tryd.ntmps48
   go_wp2_with (first | ((with_reducible refine gate_callee (f := 23) rfl ?_); refine goesL_ (some 6) rfl rfl Tryd.func23 (by kernel_rfl) rfl #[.string a0] rfl (by (try simp only [List.map_toArray, List.map_cons, List.map_nil]); first | done | rfl | (simp only [List.length_drop, List.length_take]; rfl)) ?_; (with_reducible refine (spec_TextValid.calls k a0 true _ A3.out).mono ?_); rintro e w' ⟨rfl, ⟨nd, rfl⟩⟩; refine ⟨_, rfl, ?_⟩) | (go_at_call 64; (with_reducible refine (spec_l1In.calls a1 0 (a0.size : Int) false _ A5.out).mono ?_); rintro e w' ⟨rfl, ⟨nd, rfl⟩⟩))
   go_ret
   exact ⟨by first | rfl | (simp; done) | (simp [*]; done), by repeat (first | exact Drawn0.refl _ | apply Drawn0.step)⟩
 ·replace c4 := Bool.eq_false_iff.mpr c4
  subst c4
  have H1 : (some (-1)) = some r := by rw [if_neg (show ¬ (false = true) by decide)] at H; exact H
  clear H
  have H := H1
  clear H1
  obtain rfl := Option.some.inj H
  go_enter Tryd.func48, Tryd.ntmps48
  go_wp2_with (first | ((with_reducible refine gate_callee (f := 23) rfl ?_); refine goesL_ (some 6) rfl rfl Tryd.func23 (by kernel_rfl) rfl #[.string a0] rfl (by (try simp only [List.map_toArray, List.map_cons, List.map_nil]); first | done | rfl | (simp only [List.length_drop, List.length_take]; rfl)) ?_; (with_reducible refine (spec_TextValid.calls k a0 false _ A3.out).mono ?_); rintro e w' ⟨rfl, ⟨nd, rfl⟩⟩; refine ⟨_, rfl, ?_⟩))
  go_ret
  exact ⟨by first | rfl | (simp; done) | (simp [*]; done), by repeat (first | exact Drawn0.refl _ | apply Drawn0.step)⟩

/-! ### spec_ColourAgain: function 29 -/
def spec_ColourAgain.l0 : Nat → List Int → List ByteArray → Int → Int → List Int → Int → Int → Int → Option (List Int × Int)
 | 0, _, _, _, _, _, _, _, _ => none
 | k + 1, x8, x9, x10, x12, x13, x14, x15, x16 => if x16 < (x9.length : Int) then (if 0 ≤ x16 then ((spec_l17Line.f k x14 (rdOf ByteArray.empty x9 x16)).bind fun bt379 => (if x13.length < 17592186044416 then ((some (x13 ++ [bt379.1] : List Int)).bind fun y381 => (if x16 ≥ x12 then (if 0 ≤ (wrap64 ((wrap64 (x16 + 1)) - x10)) then (if (wrap64 ((wrap64 (x16 + 1)) - x10)) < (x8.length : Int) then (if bt379.1 = (rd x8 (wrap64 ((wrap64 (x16 + 1)) - x10))) then (if 0 ≤ (wrap64 ((wrap64 (x16 + 2)) - x10)) then (if (wrap64 ((wrap64 (x16 + 2)) - x10)) ≤ (x8.length : Int) then ((some (x8.drop ((wrap64 ((wrap64 (x16 + 2)) - x10)) : Int).toNat : List Int)).bind fun y385 => (if y381.length + y385.length < 17592186044416 then (some ((y381 ++ y385), wrap64 (x15 + 1))) else (none))) else (none)) else (none)) else (spec_ColourAgain.l0 k x8 x9 x10 x12 y381 bt379.1 (wrap64 (x15 + 1)) (wrap64 (x16 + 1)))) else (none)) else (none)) else (spec_ColourAgain.l0 k x8 x9 x10 x12 y381 bt379.1 (wrap64 (x15 + 1)) (wrap64 (x16 + 1))))) else (none))) else (none)) else (some (x13, x15))
def spec_ColourAgain.f (k : Nat) (a0 : ByteArray) (a1_0 : Int) (a1_1 : Int) (a1_2 : ByteArray) : Option (List Int × Int) := (spec_ApplyChange.f k a0 a1_0 a1_1 a1_2).bind fun bt353 => (if bt353.2 = true then ((spec_ColourStates.f k a0).bind fun t358 => ((spec_LinesOf.f k bt353.1).bind fun t361 => ((spec_LineMany.f k a0).bind fun t364 => ((spec_LineOf.f k bt353.1 a1_0).bind fun t365 => ((spec_LineOf.f k bt353.1 (wrap64 (a1_0 + (a1_2.size : Int)))).bind fun t366 => ((some (([] : List Int) : List Int)).bind fun y367 => (if 0 ≤ (wrap64 (t365 + 1)) then (if (wrap64 (t365 + 1)) ≤ (t358.length : Int) then ((some (t358.take ((wrap64 (t365 + 1)) : Int).toNat : List Int)).bind fun y370 => (if y367.length + y370.length < 17592186044416 then (if 0 ≤ t365 then (if t365 < (t358.length : Int) then (spec_ColourAgain.l0 k t358 t361 (wrap64 ((t361.length : Int) - t364)) t366 (y367 ++ y370) (rd t358 t365) 0 t365) else (none)) else (none)) else (none))) else (none)) else (none)))))))) else (some ((([] : List Int)), (-1))))
theorem spec_ColourAgain.mono_l : ∀ k, (∀ y0 y1 y2 y3 y4 y5 y6 y7, LeO (spec_ColourAgain.l0 k y0 y1 y2 y3 y4 y5 y6 y7) (spec_ColourAgain.l0 (k + 1) y0 y1 y2 y3 y4 y5 y6 y7))
 | 0 => fun _ _ _ _ _ _ _ _ r h => by simp [spec_ColourAgain.l0] at h
 | k + 1 => by
  have ih0 := spec_ColourAgain.mono_l k
  ·intro y0 y1 y2 y3 y4 y5 y6 y7
   unfold spec_ColourAgain.l0
   repeat' first
   | (with_reducible exact ih0 _ _ _ _ _ _ _ _)
   | (with_reducible exact spec_ApplyChange.mono _ _ _ _ _)
   | (with_reducible exact spec_ColourStates.mono _ _)
   | (with_reducible exact spec_LineMany.mono _ _)
   | (with_reducible exact spec_LineOf.mono _ _ _)
   | (with_reducible exact spec_LinesOf.mono _ _)
   | (with_reducible exact spec_l17Line.mono _ _ _)
   | (with_reducible exact LeO.refl _)
   | (with_reducible exact LeO.none _)
   | (with_reducible refine LeO.ite ?_ ?_)
   | (with_reducible refine LeO.bind ?_ (fun _ => ?_))
   | exact ih0 _ _ _ _ _ _ _ _
   | exact spec_ApplyChange.mono _ _ _ _ _
   | exact spec_ColourStates.mono _ _
   | exact spec_LineMany.mono _ _
   | exact spec_LineOf.mono _ _ _
   | exact spec_LinesOf.mono _ _
   | exact spec_l17Line.mono _ _ _
   | exact LeO.none _
   | refine LeO.ite ?_ ?_
   | refine LeO.bind ?_ (fun _ => ?_)
theorem spec_ColourAgain.mono : ∀ a0 a1 a2 a3 k, LeO (spec_ColourAgain.f k a0 a1 a2 a3) (spec_ColourAgain.f (k + 1) a0 a1 a2 a3) := by
 intro a0 a1 a2 a3 k
 have ih0 := spec_ColourAgain.mono_l k
 unfold spec_ColourAgain.f
 repeat' first
   | (with_reducible exact ih0 _ _ _ _ _ _ _ _)
   | (with_reducible exact spec_ApplyChange.mono _ _ _ _ _)
   | (with_reducible exact spec_ColourStates.mono _ _)
   | (with_reducible exact spec_LineMany.mono _ _)
   | (with_reducible exact spec_LineOf.mono _ _ _)
   | (with_reducible exact spec_LinesOf.mono _ _)
   | (with_reducible exact spec_l17Line.mono _ _ _)
   | (with_reducible exact LeO.refl _)
   | (with_reducible exact LeO.none _)
   | (with_reducible refine LeO.ite ?_ ?_)
   | (with_reducible refine LeO.bind ?_ (fun _ => ?_))
   | exact ih0 _ _ _ _ _ _ _ _
   | exact spec_ApplyChange.mono _ _ _ _ _
   | exact spec_ColourStates.mono _ _
   | exact spec_LineMany.mono _ _
   | exact spec_LineOf.mono _ _ _
   | exact spec_LinesOf.mono _ _
   | exact spec_l17Line.mono _ _ _
   | exact LeO.none _
   | refine LeO.ite ?_ ?_
   | refine LeO.bind ?_ (fun _ => ?_)
set_option maxHeartbeats 8000000 in
set_option maxRecDepth 100000 in
theorem spec_ColourAgain.calls (k : Nat) (a0 : ByteArray) (a1_0 : Int) (a1_1 : Int) (a1_2 : ByteArray) (r1 : List Int) (r2 : Int) (w : World) (h : spec_ColourAgain.f k a0 a1_0 a1_1 a1_2 = some (r1, r2)) :
  Calls Tryd.prog 29 #[.string a0, .agg #[.int .i64 a1_0, .int .i64 a1_1, .string a1_2]] w fun e w' => ∃ v0_ : Value, e = .returned (.tuple #[v0_, .int .i64 r2]) ∧ Kd.R (Kd.int .i64) 3 w' w.heap.size (fun _ => True) v0_ r1 ∧ Below w.heap.size w w' := by
 have hu43 := Tryd.underlying43
 have HB := Aside0.mk (Below.refl w.heap.size w)
 have H : ((spec_ApplyChange.f k a0 a1_0 a1_1 a1_2).bind fun bt353 => (if bt353.2 = true then ((spec_ColourStates.f k a0).bind fun t358 => ((spec_LinesOf.f k bt353.1).bind fun t361 => ((spec_LineMany.f k a0).bind fun t364 => ((spec_LineOf.f k bt353.1 a1_0).bind fun t365 => ((spec_LineOf.f k bt353.1 (wrap64 (a1_0 + (a1_2.size : Int)))).bind fun t366 => ((some (([] : List Int) : List Int)).bind fun y367 => (if 0 ≤ (wrap64 (t365 + 1)) then (if (wrap64 (t365 + 1)) ≤ (t358.length : Int) then ((some (t358.take ((wrap64 (t365 + 1)) : Int).toNat : List Int)).bind fun y370 => (if y367.length + y370.length < 17592186044416 then (if 0 ≤ t365 then (if t365 < (t358.length : Int) then (spec_ColourAgain.l0 k t358 t361 (wrap64 ((t361.length : Int) - t364)) t366 (y367 ++ y370) (rd t358 t365) 0 t365) else (none)) else (none)) else (none))) else (none)) else (none)))))))) else (some ((([] : List Int)), (-1))))) = some (r1, r2) := h
 clear h
 replace H := Option.bind_eq_some_iff.mp H
 obtain ⟨⟨t353, t354⟩, A30, H⟩ := H
 replace H : (if t354 = true then ((spec_ColourStates.f k a0).bind fun t358 => ((spec_LinesOf.f k t353).bind fun t361 => ((spec_LineMany.f k a0).bind fun t364 => ((spec_LineOf.f k t353 a1_0).bind fun t365 => ((spec_LineOf.f k t353 (wrap64 (a1_0 + (a1_2.size : Int)))).bind fun t366 => ((some (([] : List Int) : List Int)).bind fun y367 => (if 0 ≤ (wrap64 (t365 + 1)) then (if (wrap64 (t365 + 1)) ≤ (t358.length : Int) then ((some (t358.take ((wrap64 (t365 + 1)) : Int).toNat : List Int)).bind fun y370 => (if y367.length + y370.length < 17592186044416 then (if 0 ≤ t365 then (if t365 < (t358.length : Int) then (spec_ColourAgain.l0 k t358 t361 (wrap64 ((t361.length : Int) - t364)) t366 (y367 ++ y370) (rd t358 t365) 0 t365) else (none)) else (none)) else (none))) else (none)) else (none)))))))) else (some ((([] : List Int)), (-1)))) = some (r1, r2) := H
 have A3 := Aside0.mk A30
 clear A30
 by_cases c4 : t354 = true
 ·subst c4
  have H1 : ((spec_ColourStates.f k a0).bind fun t358 => ((spec_LinesOf.f k t353).bind fun t361 => ((spec_LineMany.f k a0).bind fun t364 => ((spec_LineOf.f k t353 a1_0).bind fun t365 => ((spec_LineOf.f k t353 (wrap64 (a1_0 + (a1_2.size : Int)))).bind fun t366 => ((some (([] : List Int) : List Int)).bind fun y367 => (if 0 ≤ (wrap64 (t365 + 1)) then (if (wrap64 (t365 + 1)) ≤ (t358.length : Int) then ((some (t358.take ((wrap64 (t365 + 1)) : Int).toNat : List Int)).bind fun y370 => (if y367.length + y370.length < 17592186044416 then (if 0 ≤ t365 then (if t365 < (t358.length : Int) then (spec_ColourAgain.l0 k t358 t361 (wrap64 ((t361.length : Int) - t364)) t366 (y367 ++ y370) (rd t358 t365) 0 t365) else (none)) else (none)) else (none))) else (none)) else (none)))))))) = some (r1, r2) := by rw [if_pos rfl] at H; exact H
  clear H
  have H := H1
  clear H1
  replace H := Option.bind_eq_some_iff.mp H
  obtain ⟨t358, A50, H⟩ := H
  replace H : ((spec_LinesOf.f k t353).bind fun t361 => ((spec_LineMany.f k a0).bind fun t364 => ((spec_LineOf.f k t353 a1_0).bind fun t365 => ((spec_LineOf.f k t353 (wrap64 (a1_0 + (a1_2.size : Int)))).bind fun t366 => ((some (([] : List Int) : List Int)).bind fun y367 => (if 0 ≤ (wrap64 (t365 + 1)) then (if (wrap64 (t365 + 1)) ≤ (t358.length : Int) then ((some (t358.take ((wrap64 (t365 + 1)) : Int).toNat : List Int)).bind fun y370 => (if y367.length + y370.length < 17592186044416 then (if 0 ≤ t365 then (if t365 < (t358.length : Int) then (spec_ColourAgain.l0 k t358 t361 (wrap64 ((t361.length : Int) - t364)) t366 (y367 ++ y370) (rd t358 t365) 0 t365) else (none)) else (none)) else (none))) else (none)) else (none))))))) = some (r1, r2) := H
  have A5 := Aside0.mk A50
  clear A50
  replace H := Option.bind_eq_some_iff.mp H
  obtain ⟨t361, A60, H⟩ := H
  replace H : ((spec_LineMany.f k a0).bind fun t364 => ((spec_LineOf.f k t353 a1_0).bind fun t365 => ((spec_LineOf.f k t353 (wrap64 (a1_0 + (a1_2.size : Int)))).bind fun t366 => ((some (([] : List Int) : List Int)).bind fun y367 => (if 0 ≤ (wrap64 (t365 + 1)) then (if (wrap64 (t365 + 1)) ≤ (t358.length : Int) then ((some (t358.take ((wrap64 (t365 + 1)) : Int).toNat : List Int)).bind fun y370 => (if y367.length + y370.length < 17592186044416 then (if 0 ≤ t365 then (if t365 < (t358.length : Int) then (spec_ColourAgain.l0 k t358 t361 (wrap64 ((t361.length : Int) - t364)) t366 (y367 ++ y370) (rd t358 t365) 0 t365) else (none)) else (none)) else (none))) else (none)) else (none)))))) = some (r1, r2) := H
  have A6 := Aside0.mk A60
  clear A60
  replace H := Option.bind_eq_some_iff.mp H
  obtain ⟨t364, A70, H⟩ := H
  replace H : ((spec_LineOf.f k t353 a1_0).bind fun t365 => ((spec_LineOf.f k t353 (wrap64 (a1_0 + (a1_2.size : Int)))).bind fun t366 => ((some (([] : List Int) : List Int)).bind fun y367 => (if 0 ≤ (wrap64 (t365 + 1)) then (if (wrap64 (t365 + 1)) ≤ (t358.length : Int) then ((some (t358.take ((wrap64 (t365 + 1)) : Int).toNat : List Int)).bind fun y370 => (if y367.length + y370.length < 17592186044416 then (if 0 ≤ t365 then (if t365 < (t358.length : Int) then (spec_ColourAgain.l0 k t358 t361 (wrap64 ((t361.length : Int) - t364)) t366 (y367 ++ y370) (rd t358 t365) 0 t365) else (none)) else (none)) else (none))) else (none)) else (none))))) = some (r1, r2) := H
  have A7 := Aside0.mk A70
  clear A70
  replace H := Option.bind_eq_some_iff.mp H
  obtain ⟨t365, A80, H⟩ := H
  replace H : ((spec_LineOf.f k t353 (wrap64 (a1_0 + (a1_2.size : Int)))).bind fun t366 => ((some (([] : List Int) : List Int)).bind fun y367 => (if 0 ≤ (wrap64 (t365 + 1)) then (if (wrap64 (t365 + 1)) ≤ (t358.length : Int) then ((some (t358.take ((wrap64 (t365 + 1)) : Int).toNat : List Int)).bind fun y370 => (if y367.length + y370.length < 17592186044416 then (if 0 ≤ t365 then (if t365 < (t358.length : Int) then (spec_ColourAgain.l0 k t358 t361 (wrap64 ((t361.length : Int) - t364)) t366 (y367 ++ y370) (rd t358 t365) 0 t365) else (none)) else (none)) else (none))) else (none)) else (none)))) = some (r1, r2) := H
  have A8 := Aside0.mk A80
  clear A80
  replace H := Option.bind_eq_some_iff.mp H
  obtain ⟨t366, A90, H⟩ := H
  replace H : ((some (([] : List Int) : List Int)).bind fun y367 => (if 0 ≤ (wrap64 (t365 + 1)) then (if (wrap64 (t365 + 1)) ≤ (t358.length : Int) then ((some (t358.take ((wrap64 (t365 + 1)) : Int).toNat : List Int)).bind fun y370 => (if y367.length + y370.length < 17592186044416 then (if 0 ≤ t365 then (if t365 < (t358.length : Int) then (spec_ColourAgain.l0 k t358 t361 (wrap64 ((t361.length : Int) - t364)) t366 (y367 ++ y370) (rd t358 t365) 0 t365) else (none)) else (none)) else (none))) else (none)) else (none))) = some (r1, r2) := H
  have A9 := Aside0.mk A90
  clear A90
  obtain ⟨y367, hy367⟩ : ∃ y_ : List Int, y_ = (([] : List Int)) := ⟨_, rfl⟩
  replace H : (if 0 ≤ (wrap64 (t365 + 1)) then (if (wrap64 (t365 + 1)) ≤ (t358.length : Int) then ((some (t358.take ((wrap64 (t365 + 1)) : Int).toNat : List Int)).bind fun y370 => (if y367.length + y370.length < 17592186044416 then (if 0 ≤ t365 then (if t365 < (t358.length : Int) then (spec_ColourAgain.l0 k t358 t361 (wrap64 ((t361.length : Int) - t364)) t366 (y367 ++ y370) (rd t358 t365) 0 t365) else (none)) else (none)) else (none))) else (none)) else (none)) = some (r1, r2) := by first | (rw [hy367]; with_reducible exact H) | (have H2_ := (Option.bind_some _ _).symm.trans H; rw [hy367]; with_reducible exact H2_) | (have H2_ := (Option.bind_some _ _).symm.trans H; with_reducible exact H2_) | with_reducible exact H | (rw [hy367]; exact H) | exact H
  have Ny367 := Aside0.mk hy367
  clear hy367
  obtain ⟨ji10, hji10⟩ : ∃ j_ : Int, (wrap64 (t365 + 1)) = j_ := ⟨_, rfl⟩
  replace H : (if 0 ≤ (ji10) then (if (ji10) ≤ (t358.length : Int) then ((some (t358.take ((ji10) : Int).toNat : List Int)).bind fun y370 => (if y367.length + y370.length < 17592186044416 then (if 0 ≤ t365 then (if t365 < (t358.length : Int) then (spec_ColourAgain.l0 k t358 t361 (wrap64 ((t361.length : Int) - t364)) t366 (y367 ++ y370) (rd t358 t365) 0 t365) else (none)) else (none)) else (none))) else (none)) else (none)) = some (r1, r2) := by first | (rw [hji10] at H; exact H) | (simp only [hji10] at H ⊢; exact H)
  (try rw [hji10] at A3)
  (try rw [hji10] at A5)
  (try rw [hji10] at A6)
  (try rw [hji10] at A7)
  (try rw [hji10] at A8)
  (try rw [hji10] at A9)
  have hji10w : (IntKind.i64.wrap (t365 + 1)) = ji10 := (i64_w _).trans hji10
  by_cases c11 : 0 ≤ (ji10)
  ·rw [if_pos c11] at H
   have c11b0 := eq_true c11
   have c11b1 : decide (0 ≤ (ji10)) = true := decide_eq_true c11
   clear c11
   by_cases c12 : (ji10) ≤ (t358.length : Int)
   ·rw [if_pos c12] at H
    have c12b0 := eq_true c12
    have c12b1 : decide ((ji10) ≤ (t358.length : Int)) = true := decide_eq_true c12
    clear c12
    obtain ⟨y370, hy370⟩ : ∃ y_ : List Int, y_ = (t358.take ((ji10) : Int).toNat) := ⟨_, rfl⟩
    replace H : (if y367.length + y370.length < 17592186044416 then (if 0 ≤ t365 then (if t365 < (t358.length : Int) then (spec_ColourAgain.l0 k t358 t361 (wrap64 ((t361.length : Int) - t364)) t366 (y367 ++ y370) (rd t358 t365) 0 t365) else (none)) else (none)) else (none)) = some (r1, r2) := by first | (rw [hy370]; with_reducible exact H) | (have H2_ := (Option.bind_some _ _).symm.trans H; rw [hy370]; with_reducible exact H2_) | (have H2_ := (Option.bind_some _ _).symm.trans H; with_reducible exact H2_) | with_reducible exact H | (rw [hy370]; exact H) | exact H
    have Ny370 := Aside0.mk hy370
    clear hy370
    by_cases c13 : y367.length + y370.length < 17592186044416
    ·rw [if_pos c13] at H
     have LMc13 := Aside0.mk c13
     clear c13
     obtain ⟨y374, hy374⟩ : ∃ y_ : List Int, y_ = (y367 ++ y370) := ⟨_, rfl⟩
     replace H : (if 0 ≤ t365 then (if t365 < (t358.length : Int) then (spec_ColourAgain.l0 k t358 t361 (wrap64 ((t361.length : Int) - t364)) t366 y374 (rd t358 t365) 0 t365) else (none)) else (none)) = some (r1, r2) := by first | (rw [hy374]; with_reducible exact H) | (have H2_ := (Option.bind_some _ _).symm.trans H; rw [hy374]; with_reducible exact H2_) | (have H2_ := (Option.bind_some _ _).symm.trans H; with_reducible exact H2_) | with_reducible exact H | (rw [hy374]; exact H) | exact H
     have Ny374 := Aside0.mk hy374
     clear hy374
     by_cases c14 : 0 ≤ t365
     ·rw [if_pos c14] at H
      have c14b0 : decide (0 ≤ t365) = true := decide_eq_true c14
      clear c14
      by_cases c15 : t365 < (t358.length : Int)
      ·rw [if_pos c15] at H
       have c15b0 : decide (t365 < (t358.length : Int)) = true := decide_eq_true c15
       clear c15
       have H' := Aside0.mk H
       clear H
       go_enter Tryd.func29, Tryd.ntmps29
       go_wp2_with (first | ((with_reducible refine gate_dst (N := 3) rfl ?_); refine box_event ?hg (N := 3) ?hd (cs := #[.int .i64 a1_0, .int .i64 a1_1, .string a1_2]) (t := 43) ?hr ?_; (case hd => rfl); (case hg => rfl); (case hr => first | (go_simp; done) | (go_simp; rfl) | (simp only [i64_w]; first | (go_simp; done) | (go_simp; rfl))); intro gb352 hg w16 hbox hb; have n0_ := Aside0.mk (below_step (by repeat (first | (with_reducible first | exact HB.out | apply below_alloc | apply pw_below_drewN | apply below_drew1) | exact HB.out)) hb); have n1_ := Aside0.mk (hbox); have n2_ := Aside0.mk ((by rw [hg]; exact (below_size (by repeat (first | (with_reducible first | exact HB.out | apply below_alloc | apply pw_below_drewN | apply below_drew1) | exact HB.out))) : w.heap.size ≤ gb352)); have n3_ := Aside0.mk ((by rw [hg]; exact (below_size (by repeat (first | (with_reducible first | exact HB.out | apply below_alloc | apply pw_below_drewN | apply below_drew1) | exact HB.out))) : w.heap.size ≤ gb352)); clear HB; have HB := n0_; have BK352 := n1_; have GW352 := n2_; have GE352 := n3_; clear n0_ n1_ n2_ n3_; clear hb hbox hg; have hcz17_0 : w16.cell? ⟨gb352, 0, none⟩ = some (.int .i64 a1_0) := (blk_cell BK352.out 0).trans rfl; have hcz17_1 : w16.cell? ⟨gb352, 1, none⟩ = some (.int .i64 a1_1) := (blk_cell BK352.out 1).trans rfl; have hcz17_2 : w16.cell? ⟨gb352, 2, none⟩ = some (.string a1_2) := (blk_cell BK352.out 2).trans rfl; have hfz17_0 := blk_frozen BK352.out 0; have hfz17_1 := blk_frozen BK352.out 1; have hfz17_2 := blk_frozen BK352.out 2) | ((with_reducible refine gate_callee (f := 46) rfl ?_); refine goesL_ (some 20) rfl rfl Tryd.func46 (by kernel_rfl) rfl #[.string a0, .agg #[.int .i64 a1_0, .int .i64 a1_1, .string a1_2]] rfl (by (try simp only [List.map_toArray, List.map_cons, List.map_nil]); first | done | rfl | (simp only [List.length_drop, List.length_take]; rfl)) ?_; (with_reducible refine (spec_ApplyChange.calls k a0 a1_0 a1_1 a1_2 t353 true _ A3.out).mono ?_); rintro e w18 ⟨rfl, hb⟩; refine ⟨_, rfl, ?_⟩; have n0_ := Aside0.mk (blk_below (g := gb352) (o := .cells #[.int .i64 a1_0, .int .i64 a1_1, .string a1_2] 43 (0, 0)) (by (with_reducible repeat (first | refine blk_drewN ?_ _ | refine blk_drew ?_ | refine blk_alloc ?_ _)); exact BK352.out) hb); have n1_ := Aside0.mk (below_step (by repeat (first | (with_reducible first | exact HB.out | apply below_alloc | apply pw_below_drewN | apply below_drew1 | refine below_set ?_ GE352.out) | exact HB.out)) hb); clear BK352; clear HB; have BK352 := n0_; have HB := n1_; clear n0_ n1_; (try clear hb); (try clear hb2); (try clear hk); (try clear hi)) | ((with_reducible refine gate_callee (f := 10) rfl ?_); refine goesL_ (some 27) rfl rfl Tryd.func10 (by kernel_rfl) rfl #[.string a0] rfl (by (try simp only [List.map_toArray, List.map_cons, List.map_nil]); first | done | rfl | (simp only [List.length_drop, List.length_take]; rfl)) ?_; (with_reducible refine (spec_ColourStates.calls k a0 t358 _ A5.out).mono ?_); rintro e w19 ⟨v359, rfl, ho0, hb⟩; refine ⟨_, rfl, ?_⟩; have n0_ := Aside0.mk (Kd.R_lower ho0 (below_size (by repeat (first | (with_reducible first | exact HB.out | apply below_alloc | apply pw_below_drewN | apply below_drew1 | refine below_set ?_ GE352.out) | exact HB.out)))); have n1_ := Aside0.mk (blk_below (g := gb352) (o := .cells #[.int .i64 a1_0, .int .i64 a1_1, .string a1_2] 43 (0, 0)) (by (with_reducible repeat (first | refine blk_drewN ?_ _ | refine blk_drew ?_ | refine blk_alloc ?_ _)); exact BK352.out) hb); have n2_ := Aside0.mk (below_step (by repeat (first | (with_reducible first | exact HB.out | apply below_alloc | apply pw_below_drewN | apply below_drew1 | refine below_set ?_ GE352.out) | exact HB.out)) hb); clear BK352; clear HB; have HO360 := n0_; have BK352 := n1_; have HB := n2_; clear n0_ n1_ n2_; (try clear hb); (try clear hb2); (try clear hk); (try clear hi); (try clear ho0)) | ((with_reducible refine gate_callee (f := 35) rfl ?_); refine goesL_ (some 29) rfl rfl Tryd.func35 (by kernel_rfl) rfl #[.string t353] rfl (by (try simp only [List.map_toArray, List.map_cons, List.map_nil]); first | done | rfl | (simp only [List.length_drop, List.length_take]; rfl)) ?_; (with_reducible refine (spec_LinesOf.calls k t353 t361 _ A6.out).mono ?_); rintro e w20 ⟨v362, rfl, ho0, hb⟩; refine ⟨_, rfl, ?_⟩; have n0_ := Aside0.mk (Kd.R_below (by (with_reducible repeat (first | apply Kd.R_alloc | apply Kd.R_drewN | apply Kd.R_drew)); exact HO360.out) hb); have n1_ := Aside0.mk (Kd.R_lower ho0 (below_size (by repeat (first | (with_reducible first | exact HB.out | apply below_alloc | apply pw_below_drewN | apply below_drew1 | refine below_set ?_ GE352.out) | exact HB.out)))); have n2_ := Aside0.mk (blk_below (g := gb352) (o := .cells #[.int .i64 a1_0, .int .i64 a1_1, .string a1_2] 43 (0, 0)) (by (with_reducible repeat (first | refine blk_drewN ?_ _ | refine blk_drew ?_ | refine blk_alloc ?_ _)); exact BK352.out) hb); have n3_ := Aside0.mk (below_step (by repeat (first | (with_reducible first | exact HB.out | apply below_alloc | apply pw_below_drewN | apply below_drew1 | refine below_set ?_ GE352.out) | exact HB.out)) hb); clear HO360; clear BK352; clear HB; have HO360 := n0_; have HO363 := n1_; have BK352 := n2_; have HB := n3_; clear n0_ n1_ n2_ n3_; (try clear hb); (try clear hb2); (try clear hk); (try clear hi); (try clear ho0); obtain ⟨Ao21, co21, eo21⟩ := Kd.R_slice HO363.out; subst eo21) | ((with_reducible refine gate_callee (f := 47) rfl ?_); refine goesL_ (some 33) rfl rfl Tryd.func47 (by kernel_rfl) rfl #[.string a0] rfl (by (try simp only [List.map_toArray, List.map_cons, List.map_nil]); first | done | rfl | (simp only [List.length_drop, List.length_take]; rfl)) ?_; (with_reducible refine (spec_LineMany.calls k a0 t364 _ A7.out).mono ?_); rintro e w' ⟨rfl, ⟨nd, rfl⟩⟩; refine ⟨_, rfl, ?_⟩; have hcz22_0 : w20.cell? ⟨gb352, 0, none⟩ = some (.int .i64 a1_0) := (blk_cell BK352.out 0).trans rfl; have hcz22_1 : w20.cell? ⟨gb352, 1, none⟩ = some (.int .i64 a1_1) := (blk_cell BK352.out 1).trans rfl; have hcz22_2 : w20.cell? ⟨gb352, 2, none⟩ = some (.string a1_2) := (blk_cell BK352.out 2).trans rfl; have hfz22_0 := blk_frozen BK352.out 0; have hfz22_1 := blk_frozen BK352.out 1; have hfz22_2 := blk_frozen BK352.out 2) | ((with_reducible refine gate_callee (f := 48) rfl ?_); refine goesL_ (some 38) rfl rfl Tryd.func48 (by kernel_rfl) rfl #[.string t353, .int .i64 a1_0] rfl (by (try simp only [List.map_toArray, List.map_cons, List.map_nil]); first | done | rfl | (simp only [List.length_drop, List.length_take]; rfl)) ?_; (with_reducible refine (spec_LineOf.calls k t353 a1_0 t365 _ A8.out).mono ?_); rintro e w' ⟨rfl, ⟨nd, rfl⟩⟩; refine ⟨_, rfl, ?_⟩) | ((with_reducible refine gate_callee (f := 48) rfl ?_); refine goesL_ (some 46) rfl rfl Tryd.func48 (by kernel_rfl) rfl #[.string t353, .int .i64 (wrap64 (a1_0 + (a1_2.size : Int)))] rfl (by (try simp only [List.map_toArray, List.map_cons, List.map_nil]); first | done | rfl | (simp only [List.length_drop, List.length_take]; rfl)) ?_; (with_reducible refine (spec_LineOf.calls k t353 (wrap64 (a1_0 + (a1_2.size : Int))) t366 _ A9.out).mono ?_); rintro e w' ⟨rfl, ⟨nd, rfl⟩⟩; refine ⟨_, rfl, ?_⟩) | ((with_reducible refine gate_dst (N := 47) rfl ?_); refine Kd.R_lit (Kd.int .i64) _ 3 ?hg (N := 47) ?hd (xs := ([] : List Int)) (inner := []) (ok := fun _ => True) (okp := fun _ => True) ?hr ?hp (fun _ hk => hk) trivial (Below.refl _ _) (Nat.le_refl _) (by simp) ?_; (case hd => rfl); (case hg => rfl); (case hr => first | (go_simp; done) | (go_simp; rfl) | (simp only [i64_w]; first | (go_simp; done) | (go_simp; rfl))); (case hp => exact (Reps.none _ _)); intro v368 w23 ho24 hb hg_ hnew_; clear hg_ hnew_; (first | rw [← Ny367.out] at ho24 | (simp only [Int.reduceToNat] at ho24; rw [← Ny367.out] at ho24)); have n0_ := Aside0.mk (Kd.R_elder' (by (with_reducible repeat (first | apply Kd.R_alloc | apply Kd.R_drewN | apply Kd.R_drew)); exact HO360.out) (Kd.R_base ho24) hb); have n1_ := Aside0.mk (Kd.R_below (by (with_reducible repeat (first | apply Kd.R_alloc | apply Kd.R_drewN | apply Kd.R_drew)); exact HO363.out) hb); have n2_ := Aside0.mk (Kd.R_lower (Kd.R_new' ho24 (Kd.R_lt (by (with_reducible repeat (first | apply Kd.R_alloc | apply Kd.R_drewN | apply Kd.R_drew)); exact HO360.out))) (below_size (by repeat (first | (with_reducible first | exact HB.out | apply below_alloc | apply pw_below_drewN | apply below_drew1 | refine below_set ?_ GE352.out) | exact HB.out)))); have n3_ := Aside0.mk (blk_below (g := gb352) (o := .cells #[.int .i64 a1_0, .int .i64 a1_1, .string a1_2] 43 (0, 0)) (by (with_reducible repeat (first | refine blk_drewN ?_ _ | refine blk_drew ?_ | refine blk_alloc ?_ _)); exact BK352.out) hb); have n4_ := Aside0.mk (below_step (by repeat (first | (with_reducible first | exact HB.out | apply below_alloc | apply pw_below_drewN | apply below_drew1 | refine below_set ?_ GE352.out) | exact HB.out)) hb); clear HO360; clear HO363; clear BK352; clear HB; have HO360 := n0_; have HO363 := n1_; have HO369 := n2_; have BK352 := n3_; have HB := n4_; clear n0_ n1_ n2_ n3_ n4_; clear hb ho24; obtain ⟨Ao26, co26, eo26⟩ := Kd.R_slice HO360.out; subst eo26; have q25 : ((ji10) : Int) ≤ ((t358.length : Int) : Int) := of_decide_eq_true (by first | (with_reducible assumption) | assumption); obtain ⟨i025, hi025, _, hsz25, _⟩ := info_parts info3; have hroom25 : t358.length ≤ co26 := (Kd.R_reads' HO360.out).2.1; have hC25 : Kd.C (Kd.int .i64) _ Ao26 t358.length t358 := (Kd.R_reads' HO360.out).2.2; have hcut25 := cut_to (P := Tryd.prog) 22 3 .i64 Tryd.underlying22 hi025 Ao26 t358.length co26 (ji10) (of_decide_eq_true (by first | (with_reducible assumption) | assumption)) q25 hroom25; have hr25 := Kd.C_take (m := ((ji10) : Int).toNat) hC25 (by omega); have hy25 : y370.length = ((ji10) : Int).toNat := (by rw [Ny370.out, List.length_take]; omega); rw [← Ny370.out] at hr25; rw [← hy25] at hcut25; have HR373 := Aside0.mk hr25; have HC373 := Aside0.mk (show y370.length ≤ co26 from by omega); clear hr25 hC25 hroom25 hi025 hsz25; have KY25 := Aside0.mk hy25; clear hy25; have KL25 := Aside0.mk (show ((ji10) : Int).toNat ≤ t358.length from by omega); replace q25 := eq_true q25) | ((with_reducible refine gate_builtin (b := .append) (xs := #[.tmp 47, .tmp 51]) rfl ?_); at_builtin; refine Kd.R_append_rows (Kd.int .i64) (w0 := w) w.heap.size rfl (.tmp 47) (.tmp 51) 22 3 (.int .i64 0) 8 rfl Tryd.underlying22 info3 rfl (by decide) (by omega) v368 y367 y370 _ _ _ (fun k_ => some k_ ≠ (.slice Ao26 t358.length co26 : Value).ownBlock) (fun _ => False) rfl rfl ?aO ?aR (fun _ _ h => h) (fun _ h => h.elim) ?aF ?aB ?aS ?aL ?_; (case aR => repeat (first | exact (by repeat (first | (with_reducible exact HR373.out) | (with_reducible refine Kd.C_alloc ?_ _) | (with_reducible refine Kd.C_drewN ?_ _) | (with_reducible refine Kd.C_drew ?_) | exact HR373.out)) | (with_reducible refine Kd.C_alloc ?_ _) | (with_reducible refine Kd.C_drewN ?_ _) | (with_reducible refine Kd.C_drew ?_))); (case aB => exact (by repeat (first | (with_reducible first | exact HB.out | apply below_alloc | apply pw_below_drewN | apply below_drew1 | refine below_set ?_ GE352.out) | exact HB.out))); (case aF => exact (fun k_ hk => Kd.fresh' (Kd.R_lt (by (with_reducible repeat (first | apply Kd.R_alloc | apply Kd.R_drewN | apply Kd.R_drew)); exact HO360.out)) k_ hk)); (case aO => exact (by (with_reducible repeat (first | apply Kd.R_alloc | apply Kd.R_drewN | apply Kd.R_drew)); exact Kd.R_mono HO369.out (fun _ hk => hk.2))); (case aS => exact (below_size (by repeat (first | (with_reducible first | exact HB.out | apply below_alloc | apply pw_below_drewN | apply below_drew1 | refine below_set ?_ GE352.out) | exact HB.out)))); (case aL => have := LMc13.out; omega); intro v375 w27 ho hb hg hat; rw [← Ny374.out] at ho; have n0_ := Aside0.mk (blk_grown (g := gb352) (o := .cells #[.int .i64 a1_0, .int .i64 a1_1, .string a1_2] 43 (0, 0)) (by (with_reducible repeat (first | refine blk_drewN ?_ _ | refine blk_drew ?_ | refine blk_alloc ?_ _)); exact BK352.out) hg (Kd.R_ne HO369.out BK352.out (by decide))); have n1_ := Aside0.mk (Kd.R_after (ok := (fun _ => True)) (by (with_reducible repeat (first | apply Kd.R_alloc | apply Kd.R_drewN | apply Kd.R_drew)); exact HO360.out) hg hat); have n2_ := Aside0.mk (Kd.R_over' (by (with_reducible repeat (first | apply Kd.R_alloc | apply Kd.R_drewN | apply Kd.R_drew)); exact HO363.out) (Kd.R_typed (by (with_reducible repeat (first | apply Kd.R_alloc | apply Kd.R_drewN | apply Kd.R_drew)); exact HO369.out)) (by decide) hg); have n3_ := Aside0.mk (hb); have n4_ := Aside0.mk ((show Kd.C (Kd.int .i64) w27 Ao26 y370.length y370 from by rw [Ny370.out]; exact Kd.C_take (m := ((ji10) : Int).toNat) ((Kd.R_reads' (Kd.R_after (ok := (fun _ => True)) (by (with_reducible repeat (first | apply Kd.R_alloc | apply Kd.R_drewN | apply Kd.R_drew)); exact HO360.out) hg hat)).2.2) KL25.out)); have n5_ := Aside0.mk (ho); clear BK352; clear HO360; clear HO363; clear HB; clear HR373; clear HO369; have BK352 := n0_; have HO360 := n1_; have HO363 := n2_; have HB := n3_; have HR373 := n4_; have HO376 := n5_; clear n0_ n1_ n2_ n3_ n4_ n5_; clear ho hb hg hat; have p377 : 0 ≤ (t365 : Int) := of_decide_eq_true (by first | (with_reducible assumption) | assumption); have q377 : t365 < (t358.length : Int) := of_decide_eq_true (by first | (with_reducible assumption) | assumption); obtain ⟨ad377, e377, hx377_0⟩ := Kd.at_int (Kd.R_reads' HO360.out).2.2 t365 p377 q377; cases e377; replace p377 := eq_true p377; replace q377 := eq_true q377))
       go_loopg [13, 14, 15, 16] k (fun kq v13 v14 v15 v16 w' => ∃ (x13_1 : List Int) (x14_1 : Int) (x15_1 : Int) (x16_1 : Int), v14 = .int .i64 x14_1 ∧ v15 = .int .i64 x15_1 ∧ v16 = .int .i64 x16_1 ∧ Aside0 (spec_ColourAgain.l0 kq t358 t361 (wrap64 ((t361.length : Int) - t364)) t366 x13_1 x14_1 x15_1 x16_1 = some (r1, r2)) ∧ Aside0 (kq ≤ k) ∧ Aside0 (Kd.R (Kd.int .i64) 3 w' w.heap.size (fun k_ => some k_ ≠ (v13 : Value).ownBlock) (.slice (some ad377) t358.length co26) t358) ∧ Aside0 (Kd.R Kd.string 9 w' w.heap.size (fun _ => True) (.slice Ao21 t361.length co21) t361) ∧ Aside0 (Kd.R (Kd.int .i64) 3 w' w.heap.size (fun k_ => some k_ ≠ ((.slice (some ad377) t358.length co26) : Value).ownBlock) v13 x13_1) ∧ Aside0 (w'.heap[gb352]? = some (.cells #[.int .i64 a1_0, .int .i64 a1_1, .string a1_2] 43 (0, 0))) ∧ Aside0 (Below w.heap.size w w'))
       case atStart => exact ⟨(y374), (rd t358 t365), (0), (t365), (by first | rfl | (simp; done) | (simp [*]; done)), (by first | rfl | (simp; done) | (simp [*]; done)), (by first | rfl | (simp; done) | (simp [*]; done)), H', ⟨Nat.le_refl _⟩, ⟨by (with_reducible repeat (first | apply Kd.R_alloc | apply Kd.R_drewN | apply Kd.R_drew)); exact Kd.R_mono HO360.out (fun _ hk => hk.2)⟩, ⟨by (with_reducible repeat (first | apply Kd.R_alloc | apply Kd.R_drewN | apply Kd.R_drew)); exact HO363.out⟩, ⟨by (with_reducible repeat (first | apply Kd.R_alloc | apply Kd.R_drewN | apply Kd.R_drew)); exact HO376.out⟩, ⟨by (with_reducible repeat (first | refine blk_drewN ?_ _ | refine blk_drew ?_ | refine blk_alloc ?_ _)); exact BK352.out⟩, ⟨by repeat (first | (with_reducible first | exact HB.out | apply below_alloc | apply pw_below_drewN | apply below_drew1 | refine below_set ?_ GE352.out) | exact HB.out)⟩⟩
       case round =>
        clear H'
        try clear c1
        try clear c2
        try clear p2
        try clear q2
        try clear c3
        try clear p3
        try clear q3
        try clear hx3
        try clear c4
        try clear p6
        try clear c10
        try clear c11
        try clear c11b0
        try clear c11b1
        try clear c12
        try clear c12b0
        try clear c12b1
        try clear c13
        try clear c14
        try clear c14b0
        try clear c15
        try clear c15b0
        try clear q25
        try clear hcz17_0
        try clear hcz17_1
        try clear hcz17_2
        try clear hcz22_0
        try clear hcz22_1
        try clear hcz22_2
        try clear hfz17_0
        try clear hfz17_1
        try clear hfz17_2
        try clear hfz22_0
        try clear hfz22_1
        try clear hfz22_2
        try clear hx377_0
        try clear p377
        try clear q25
        try clear q377
        obtain ⟨x13_1, x14_1, x15_1, x16_1, rfl, rfl, rfl, HA, HK1, HO_8, HO_9, HO_13, BK352, HB⟩ := hrel
        cases gk with
        | zero => exact absurd HA.out (by simp [spec_ColourAgain.l0])
        | succ k1 =>
         have H := HA.out
         clear HA
         simp only [spec_ColourAgain.l0] at H
         by_cases c28 : x16_1 < (t361.length : Int)
         ·rw [if_pos c28] at H
          have c28b0 : decide (x16_1 < (t361.length : Int)) = true := decide_eq_true c28
          clear c28
          by_cases c29 : 0 ≤ x16_1
          ·rw [if_pos c29] at H
           have c29b0 : decide (0 ≤ x16_1) = true := decide_eq_true c29
           clear c29
           replace H := Option.bind_eq_some_iff.mp H
           obtain ⟨⟨t379, t380⟩, A300, H⟩ := H
           replace H : (if x13_1.length < 17592186044416 then ((some (x13_1 ++ [t379] : List Int)).bind fun y381 => (if x16_1 ≥ t366 then (if 0 ≤ (wrap64 ((wrap64 (x16_1 + 1)) - (wrap64 ((t361.length : Int) - t364)))) then (if (wrap64 ((wrap64 (x16_1 + 1)) - (wrap64 ((t361.length : Int) - t364)))) < (t358.length : Int) then (if t379 = (rd t358 (wrap64 ((wrap64 (x16_1 + 1)) - (wrap64 ((t361.length : Int) - t364))))) then (if 0 ≤ (wrap64 ((wrap64 (x16_1 + 2)) - (wrap64 ((t361.length : Int) - t364)))) then (if (wrap64 ((wrap64 (x16_1 + 2)) - (wrap64 ((t361.length : Int) - t364)))) ≤ (t358.length : Int) then ((some (t358.drop ((wrap64 ((wrap64 (x16_1 + 2)) - (wrap64 ((t361.length : Int) - t364)))) : Int).toNat : List Int)).bind fun y385 => (if y381.length + y385.length < 17592186044416 then (some ((y381 ++ y385), wrap64 (x15_1 + 1))) else (none))) else (none)) else (none)) else (spec_ColourAgain.l0 k1 t358 t361 (wrap64 ((t361.length : Int) - t364)) t366 y381 t379 (wrap64 (x15_1 + 1)) (wrap64 (x16_1 + 1)))) else (none)) else (none)) else (spec_ColourAgain.l0 k1 t358 t361 (wrap64 ((t361.length : Int) - t364)) t366 y381 t379 (wrap64 (x15_1 + 1)) (wrap64 (x16_1 + 1))))) else (none)) = some (r1, r2) := H
           have A30 := Aside0.mk A300
           clear A300
           by_cases c31 : x13_1.length < 17592186044416
           ·rw [if_pos c31] at H
            have LMc31 := Aside0.mk c31
            clear c31
            obtain ⟨y381, hy381⟩ : ∃ y_ : List Int, y_ = (x13_1 ++ [t379]) := ⟨_, rfl⟩
            replace H : (if x16_1 ≥ t366 then (if 0 ≤ (wrap64 ((wrap64 (x16_1 + 1)) - (wrap64 ((t361.length : Int) - t364)))) then (if (wrap64 ((wrap64 (x16_1 + 1)) - (wrap64 ((t361.length : Int) - t364)))) < (t358.length : Int) then (if t379 = (rd t358 (wrap64 ((wrap64 (x16_1 + 1)) - (wrap64 ((t361.length : Int) - t364))))) then (if 0 ≤ (wrap64 ((wrap64 (x16_1 + 2)) - (wrap64 ((t361.length : Int) - t364)))) then (if (wrap64 ((wrap64 (x16_1 + 2)) - (wrap64 ((t361.length : Int) - t364)))) ≤ (t358.length : Int) then ((some (t358.drop ((wrap64 ((wrap64 (x16_1 + 2)) - (wrap64 ((t361.length : Int) - t364)))) : Int).toNat : List Int)).bind fun y385 => (if y381.length + y385.length < 17592186044416 then (some ((y381 ++ y385), wrap64 (x15_1 + 1))) else (none))) else (none)) else (none)) else (spec_ColourAgain.l0 k1 t358 t361 (wrap64 ((t361.length : Int) - t364)) t366 y381 t379 (wrap64 (x15_1 + 1)) (wrap64 (x16_1 + 1)))) else (none)) else (none)) else (spec_ColourAgain.l0 k1 t358 t361 (wrap64 ((t361.length : Int) - t364)) t366 y381 t379 (wrap64 (x15_1 + 1)) (wrap64 (x16_1 + 1)))) = some (r1, r2) := by first | (rw [hy381]; with_reducible exact H) | (have H2_ := (Option.bind_some _ _).symm.trans H; rw [hy381]; with_reducible exact H2_) | (have H2_ := (Option.bind_some _ _).symm.trans H; with_reducible exact H2_) | with_reducible exact H | (rw [hy381]; exact H) | exact H
            have Ny381 := Aside0.mk hy381
            clear hy381
            by_cases c32 : x16_1 ≥ t366
            ·rw [if_pos c32] at H
             have c32b0 : decide (t366 ≤ x16_1) = true := decide_eq_true c32
             clear c32
             obtain ⟨ji33, hji33⟩ : ∃ j_ : Int, (wrap64 ((wrap64 (x16_1 + 1)) - (wrap64 ((t361.length : Int) - t364)))) = j_ := ⟨_, rfl⟩
             replace H : (if 0 ≤ (ji33) then (if (ji33) < (t358.length : Int) then (if t379 = (rd t358 (ji33)) then (if 0 ≤ (wrap64 ((wrap64 (x16_1 + 2)) - (wrap64 ((t361.length : Int) - t364)))) then (if (wrap64 ((wrap64 (x16_1 + 2)) - (wrap64 ((t361.length : Int) - t364)))) ≤ (t358.length : Int) then ((some (t358.drop ((wrap64 ((wrap64 (x16_1 + 2)) - (wrap64 ((t361.length : Int) - t364)))) : Int).toNat : List Int)).bind fun y385 => (if y381.length + y385.length < 17592186044416 then (some ((y381 ++ y385), wrap64 (x15_1 + 1))) else (none))) else (none)) else (none)) else (spec_ColourAgain.l0 k1 t358 t361 (wrap64 ((t361.length : Int) - t364)) t366 y381 t379 (wrap64 (x15_1 + 1)) (wrap64 (x16_1 + 1)))) else (none)) else (none)) = some (r1, r2) := by first | (rw [hji33] at H; exact H) | (simp only [hji33] at H ⊢; exact H)
             (try rw [hji33] at A30)
             have hji33w : (IntKind.i64.wrap ((wrap64 (x16_1 + 1)) - (wrap64 ((t361.length : Int) - t364)))) = ji33 := (i64_w _).trans hji33
             by_cases c34 : 0 ≤ (ji33)
             ·rw [if_pos c34] at H
              have c34b0 : decide (0 ≤ (ji33)) = true := decide_eq_true c34
              clear c34
              by_cases c35 : (ji33) < (t358.length : Int)
              ·rw [if_pos c35] at H
               have c35b0 : decide ((ji33) < (t358.length : Int)) = true := decide_eq_true c35
               clear c35
               by_cases c36 : t379 = (rd t358 (ji33))
               ·rw [if_pos c36] at H
                have c36b0 : (t379 == (rd t358 (ji33))) = true := beq_iff_eq.mpr c36
                have c36b1 : (t379 != (rd t358 (ji33))) = false := bne_eq_false_iff_eq.mpr c36
                clear c36
                obtain ⟨ji37, hji37⟩ : ∃ j_ : Int, (wrap64 ((wrap64 (x16_1 + 2)) - (wrap64 ((t361.length : Int) - t364)))) = j_ := ⟨_, rfl⟩
                replace H : (if 0 ≤ (ji37) then (if (ji37) ≤ (t358.length : Int) then ((some (t358.drop ((ji37) : Int).toNat : List Int)).bind fun y385 => (if y381.length + y385.length < 17592186044416 then (some ((y381 ++ y385), wrap64 (x15_1 + 1))) else (none))) else (none)) else (none)) = some (r1, r2) := by first | (rw [hji37] at H; exact H) | (simp only [hji37] at H ⊢; exact H)
                (try rw [hji37] at A30)
                have hji37w : (IntKind.i64.wrap ((wrap64 (x16_1 + 2)) - (wrap64 ((t361.length : Int) - t364)))) = ji37 := (i64_w _).trans hji37
                by_cases c38 : 0 ≤ (ji37)
                ·rw [if_pos c38] at H
                 have c38b0 := eq_true c38
                 have c38b1 : decide (0 ≤ (ji37)) = true := decide_eq_true c38
                 clear c38
                 by_cases c39 : (ji37) ≤ (t358.length : Int)
                 ·rw [if_pos c39] at H
                  have c39b0 := eq_true c39
                  have c39b1 : decide ((ji37) ≤ (t358.length : Int)) = true := decide_eq_true c39
                  clear c39
                  obtain ⟨y385, hy385⟩ : ∃ y_ : List Int, y_ = (t358.drop ((ji37) : Int).toNat) := ⟨_, rfl⟩
                  replace H : (if y381.length + y385.length < 17592186044416 then (some ((y381 ++ y385), wrap64 (x15_1 + 1))) else (none)) = some (r1, r2) := by first | (rw [hy385]; with_reducible exact H) | (have H2_ := (Option.bind_some _ _).symm.trans H; rw [hy385]; with_reducible exact H2_) | (have H2_ := (Option.bind_some _ _).symm.trans H; with_reducible exact H2_) | with_reducible exact H | (rw [hy385]; exact H) | exact H
                  have Ny385 := Aside0.mk hy385
                  clear hy385
                  by_cases c40 : y381.length + y385.length < 17592186044416
                  ·rw [if_pos c40] at H
                   have LMc40 := Aside0.mk c40
                   clear c40
                   obtain ⟨y389, hy389⟩ : ∃ y_ : List Int, y_ = (y381 ++ y385) := ⟨_, rfl⟩
                   replace H : (some (y389, wrap64 (x15_1 + 1))) = some (r1, r2) := by first | (rw [hy389]; with_reducible exact H) | (have H2_ := (Option.bind_some _ _).symm.trans H; rw [hy389]; with_reducible exact H2_) | (have H2_ := (Option.bind_some _ _).symm.trans H; with_reducible exact H2_) | with_reducible exact H | (rw [hy389]; exact H) | exact H
                   have Ny389 := Aside0.mk hy389
                   clear hy389
                   simp only [Option.some.injEq, Prod.mk.injEq] at H
                   obtain ⟨rfl, rfl⟩ := H
                   have p378 : 0 ≤ (x16_1 : Int) := of_decide_eq_true (by first | (with_reducible assumption) | assumption)
                   have q378 : x16_1 < (t361.length : Int) := of_decide_eq_true (by first | (with_reducible assumption) | assumption)
                   obtain ⟨ad378, e378, hx378_0⟩ := Kd.at_string (Kd.R_reads' HO_9.out).2.2 x16_1 p378 q378
                   cases e378
                   replace p378 := eq_true p378
                   replace q378 := eq_true q378
                   go_wp2_with (first | ((with_reducible refine gate_callee (f := 36) rfl ?_); refine goesL_ (some 70) rfl rfl Tryd.func36 (by kernel_rfl) rfl #[.int .i64 x14_1, .string (rdOf ByteArray.empty t361 x16_1)] rfl (by (try simp only [List.map_toArray, List.map_cons, List.map_nil]); first | done | rfl | (simp only [List.length_drop, List.length_take]; rfl)) ?_; (with_reducible refine (spec_l17Line.calls k1 x14_1 (rdOf ByteArray.empty t361 x16_1) t379 t380 _ A30.out).mono ?_); rintro e w' ⟨rfl, ⟨nd, rfl⟩⟩; refine ⟨_, rfl, ?_⟩) | ((with_reducible refine gate_builtin (b := .append) (xs := #[.tmp 75, .tmp 77]) rfl ?_); at_builtin; refine Kd.R_append (Kd.int .i64) (w0 := w) w.heap.size rfl (.tmp 75) (.tmp 77) 22 3 (.int .i64 0) 8 rfl Tryd.underlying22 info3 rfl (by decide) (by omega) u13 x13_1 t379 [.int .i64 t379] (fun k_ => some k_ ≠ (.slice (some ad377) t358.length co26 : Value).ownBlock) (fun _ => False) rfl rfl ?aP (fun _ hk => hk.elim) ?aF ?aO ?aB ?aS ?aL ?_; (case aP => exact rfl); (case aB => exact (by repeat (first | (with_reducible first | exact HB.out | apply below_alloc | apply pw_below_drewN | apply below_drew1 | refine below_set ?_ GE352.out) | exact HB.out))); (case aF => exact (fun k_ hk => Kd.fresh' (Kd.R_lt (by (with_reducible repeat (first | apply Kd.R_alloc | apply Kd.R_drewN | apply Kd.R_drew)); exact HO_8.out)) k_ hk)); (case aO => exact (by (with_reducible repeat (first | apply Kd.R_alloc | apply Kd.R_drewN | apply Kd.R_drew)); exact HO_13.out)); (case aS => exact (below_size (by repeat (first | (with_reducible first | exact HB.out | apply below_alloc | apply pw_below_drewN | apply below_drew1 | refine below_set ?_ GE352.out) | exact HB.out)))); (case aL => have := LMc31.out; omega); intro v382 w41 ho hb hg hat; rw [← Ny381.out] at ho; have n0_ := Aside0.mk (Kd.R_after (ok := (fun _ => True)) (by (with_reducible repeat (first | apply Kd.R_alloc | apply Kd.R_drewN | apply Kd.R_drew)); exact Kd.R_mono HO_8.out (fun _ hk => ⟨trivial, hk⟩)) hg hat); have n1_ := Aside0.mk (Kd.R_over' (by (with_reducible repeat (first | apply Kd.R_alloc | apply Kd.R_drewN | apply Kd.R_drew)); exact HO_9.out) (Kd.R_typed (by (with_reducible repeat (first | apply Kd.R_alloc | apply Kd.R_drewN | apply Kd.R_drew)); exact HO_13.out)) (by decide) hg); have n2_ := Aside0.mk (blk_grown (g := gb352) (o := .cells #[.int .i64 a1_0, .int .i64 a1_1, .string a1_2] 43 (0, 0)) (by (with_reducible repeat (first | refine blk_drewN ?_ _ | refine blk_drew ?_ | refine blk_alloc ?_ _)); exact BK352.out) hg (Kd.R_ne HO_13.out BK352.out (by decide))); have n3_ := Aside0.mk (hb); have n4_ := Aside0.mk (ho); clear HO_8; clear HO_9; clear BK352; clear HB; clear HO_13; have HO_8 := n0_; have HO_9 := n1_; have BK352 := n2_; have HB := n3_; have HO383 := n4_; clear n0_ n1_ n2_ n3_ n4_; clear ho hb hg hat; have p384 : 0 ≤ ((ji33) : Int) := of_decide_eq_true (by first | (with_reducible assumption) | assumption); have q384 : (ji33) < (t358.length : Int) := of_decide_eq_true (by first | (with_reducible assumption) | assumption); obtain ⟨ad384, e384, hx384_0⟩ := Kd.at_int (Kd.R_reads' HO_8.out).2.2 (ji33) p384 q384; obtain rfl : ad377 = ad384 := (by injection e384); replace p384 := eq_true p384; replace q384 := eq_true q384; have q42 : ((ji37) : Int) ≤ ((t358.length : Int) : Int) := of_decide_eq_true (by first | (with_reducible assumption) | assumption); obtain ⟨i042, hi042, _, hsz42, _⟩ := info_parts info3; have hroom42 : t358.length ≤ co26 := (Kd.R_reads' HO_8.out).2.1; have hC42 : Kd.C (Kd.int .i64) _ (some ad377) t358.length t358 := (Kd.R_reads' HO_8.out).2.2; have q042 : (0 : Int) ≤ ((ji37) : Int) := of_decide_eq_true (by first | (with_reducible assumption) | assumption); have hcut42 := cut_from (P := Tryd.prog) 22 3 .i64 Tryd.underlying22 hi042 1 hsz42 (some ad377) t358.length co26 (ji37) q042 q42; have hr42 := Kd.C_drop (m := ((ji37) : Int).toNat) (c := co26) hC42 (by omega) hroom42; obtain ⟨A42, hA42⟩ : ∃ A1, A1 = (if co26 = ((ji37) : Int).toNat then (some ad377) else ((some ad377) : Option Addr).map (·.add (((ji37) : Int).toNat * 1))) := ⟨_, rfl⟩; obtain ⟨c42, hc42⟩ : ∃ c1, c1 = co26 - ((ji37) : Int).toNat := ⟨_, rfl⟩; have hy42 : y385.length = t358.length - ((ji37) : Int).toNat := (by rw [Ny385.out, List.length_drop] <;> omega); rw [show (t358).drop ((ji37) : Int).toNat = y385 from Ny385.out.symm] at hr42; replace hr42 : Kd.C (Kd.int .i64) _ A42 y385.length y385 := (by rw [hA42]; exact hr42); rw [← hy42, ← hA42, ← hc42] at hcut42; have HR388 := Aside0.mk hr42; have HC388 := Aside0.mk (show y385.length ≤ c42 from by rw [hy42, hc42]; exact Nat.sub_le_sub_right hroom42 _); clear hr42 hC42 hroom42 hi042 hsz42 hc42; have KY42 := Aside0.mk hy42; have KA42 := Aside0.mk hA42; clear hy42 hA42; have KL42 := Aside0.mk (show ((ji37) : Int).toNat ≤ t358.length from by omega); replace q42 := eq_true q42) | ((with_reducible refine gate_builtin (b := .append) (xs := #[.tmp 93, .tmp 99]) rfl ?_); at_builtin; refine Kd.R_append_rows (Kd.int .i64) (w0 := w) w.heap.size rfl (.tmp 93) (.tmp 99) 22 3 (.int .i64 0) 8 rfl Tryd.underlying22 info3 rfl (by decide) (by omega) v382 y381 y385 _ _ _ (fun k_ => some k_ ≠ (.slice (some ad377) t358.length co26 : Value).ownBlock) (fun _ => False) rfl rfl ?aO ?aR (fun _ _ h => h) (fun _ h => h.elim) ?aF ?aB ?aS ?aL ?_; (case aR => repeat (first | exact (by repeat (first | (with_reducible exact HR388.out) | (with_reducible refine Kd.C_alloc ?_ _) | (with_reducible refine Kd.C_drewN ?_ _) | (with_reducible refine Kd.C_drew ?_) | exact HR388.out)) | (with_reducible refine Kd.C_alloc ?_ _) | (with_reducible refine Kd.C_drewN ?_ _) | (with_reducible refine Kd.C_drew ?_))); (case aB => exact (by repeat (first | (with_reducible first | exact HB.out | apply below_alloc | apply pw_below_drewN | apply below_drew1 | refine below_set ?_ GE352.out) | exact HB.out))); (case aF => exact (fun k_ hk => Kd.fresh' (Kd.R_lt (by (with_reducible repeat (first | apply Kd.R_alloc | apply Kd.R_drewN | apply Kd.R_drew)); exact HO_8.out)) k_ hk)); (case aO => exact (by (with_reducible repeat (first | apply Kd.R_alloc | apply Kd.R_drewN | apply Kd.R_drew)); exact HO383.out)); (case aS => exact (below_size (by repeat (first | (with_reducible first | exact HB.out | apply below_alloc | apply pw_below_drewN | apply below_drew1 | refine below_set ?_ GE352.out) | exact HB.out)))); (case aL => have := LMc40.out; omega); intro v390 w43 ho hb hg hat; rw [← Ny389.out] at ho; have n0_ := Aside0.mk (Kd.R_after (ok := (fun _ => True)) (by (with_reducible repeat (first | apply Kd.R_alloc | apply Kd.R_drewN | apply Kd.R_drew)); exact HO_8.out) hg hat); have n1_ := Aside0.mk (Kd.R_over' (by (with_reducible repeat (first | apply Kd.R_alloc | apply Kd.R_drewN | apply Kd.R_drew)); exact HO_9.out) (Kd.R_typed (by (with_reducible repeat (first | apply Kd.R_alloc | apply Kd.R_drewN | apply Kd.R_drew)); exact HO383.out)) (by decide) hg); have n2_ := Aside0.mk (blk_grown (g := gb352) (o := .cells #[.int .i64 a1_0, .int .i64 a1_1, .string a1_2] 43 (0, 0)) (by (with_reducible repeat (first | refine blk_drewN ?_ _ | refine blk_drew ?_ | refine blk_alloc ?_ _)); exact BK352.out) hg (Kd.R_ne HO383.out BK352.out (by decide))); have n3_ := Aside0.mk (hb); have n4_ := Aside0.mk ((show Kd.C (Kd.int .i64) w43 A42 y385.length y385 from by rw [Ny385.out, KA42.out]; exact Kd.C_drop (m := ((ji37) : Int).toNat) (c := co26) ((Kd.R_reads' (Kd.R_after (ok := (fun _ => True)) (by (with_reducible repeat (first | apply Kd.R_alloc | apply Kd.R_drewN | apply Kd.R_drew)); exact HO_8.out) hg hat)).2.2) KL42.out ((Kd.R_reads' (Kd.R_after (ok := (fun _ => True)) (by (with_reducible repeat (first | apply Kd.R_alloc | apply Kd.R_drewN | apply Kd.R_drew)); exact HO_8.out) hg hat)).2.1))); have n5_ := Aside0.mk (ho); clear HO_8; clear HO_9; clear BK352; clear HB; clear HR388; clear HO383; have HO_8 := n0_; have HO_9 := n1_; have BK352 := n2_; have HB := n3_; have HR388 := n4_; have HO391 := n5_; clear n0_ n1_ n2_ n3_ n4_ n5_; clear ho hb hg hat))
                   go_ret2
                   exact ⟨_, by first | rfl | (simp [errW_none, errW_some] <;> rfl) | (simp only [← hji10, ← hji33, ← hji37]; first | rfl | (simp [errW_none, errW_some] <;> rfl)) | (simp [*, errW_none, errW_some] <;> rfl), by (with_reducible repeat (first | apply Kd.R_alloc | apply Kd.R_drewN | apply Kd.R_drew)); exact Kd.R_mono HO391.out (fun _ hk => trivial), by repeat (first | (with_reducible first | exact HB.out | apply below_alloc | apply pw_below_drewN | apply below_drew1 | refine below_set ?_ GE352.out) | exact HB.out)⟩
                  ·rw [if_neg c40] at H
                   exact absurd H (by simp)
                 ·rw [if_neg c39] at H
                  exact absurd H (by simp)
                ·rw [if_neg c38] at H
                 exact absurd H (by simp)
               ·rw [if_neg c36] at H
                have c36b0 : (t379 == (rd t358 (ji33))) = false := beq_eq_false_iff_ne.mpr c36
                have c36b1 : (t379 != (rd t358 (ji33))) = true := bne_iff_ne.mpr c36
                have H' := Aside0.mk H
                clear H
                have p378 : 0 ≤ (x16_1 : Int) := of_decide_eq_true (by first | (with_reducible assumption) | assumption)
                have q378 : x16_1 < (t361.length : Int) := of_decide_eq_true (by first | (with_reducible assumption) | assumption)
                obtain ⟨ad378, e378, hx378_0⟩ := Kd.at_string (Kd.R_reads' HO_9.out).2.2 x16_1 p378 q378
                cases e378
                replace p378 := eq_true p378
                replace q378 := eq_true q378
                go_wp2_with (first | ((with_reducible refine gate_callee (f := 36) rfl ?_); refine goesL_ (some 70) rfl rfl Tryd.func36 (by kernel_rfl) rfl #[.int .i64 x14_1, .string (rdOf ByteArray.empty t361 x16_1)] rfl (by (try simp only [List.map_toArray, List.map_cons, List.map_nil]); first | done | rfl | (simp only [List.length_drop, List.length_take]; rfl)) ?_; (with_reducible refine (spec_l17Line.calls k1 x14_1 (rdOf ByteArray.empty t361 x16_1) t379 t380 _ A30.out).mono ?_); rintro e w' ⟨rfl, ⟨nd, rfl⟩⟩; refine ⟨_, rfl, ?_⟩) | ((with_reducible refine gate_builtin (b := .append) (xs := #[.tmp 75, .tmp 77]) rfl ?_); at_builtin; refine Kd.R_append (Kd.int .i64) (w0 := w) w.heap.size rfl (.tmp 75) (.tmp 77) 22 3 (.int .i64 0) 8 rfl Tryd.underlying22 info3 rfl (by decide) (by omega) u13 x13_1 t379 [.int .i64 t379] (fun k_ => some k_ ≠ (.slice (some ad377) t358.length co26 : Value).ownBlock) (fun _ => False) rfl rfl ?aP (fun _ hk => hk.elim) ?aF ?aO ?aB ?aS ?aL ?_; (case aP => exact rfl); (case aB => exact (by repeat (first | (with_reducible first | exact HB.out | apply below_alloc | apply pw_below_drewN | apply below_drew1 | refine below_set ?_ GE352.out) | exact HB.out))); (case aF => exact (fun k_ hk => Kd.fresh' (Kd.R_lt (by (with_reducible repeat (first | apply Kd.R_alloc | apply Kd.R_drewN | apply Kd.R_drew)); exact HO_8.out)) k_ hk)); (case aO => exact (by (with_reducible repeat (first | apply Kd.R_alloc | apply Kd.R_drewN | apply Kd.R_drew)); exact HO_13.out)); (case aS => exact (below_size (by repeat (first | (with_reducible first | exact HB.out | apply below_alloc | apply pw_below_drewN | apply below_drew1 | refine below_set ?_ GE352.out) | exact HB.out)))); (case aL => have := LMc31.out; omega); intro v382 w44 ho hb hg hat; rw [← Ny381.out] at ho; have n0_ := Aside0.mk (Kd.R_after (ok := (fun _ => True)) (by (with_reducible repeat (first | apply Kd.R_alloc | apply Kd.R_drewN | apply Kd.R_drew)); exact Kd.R_mono HO_8.out (fun _ hk => ⟨trivial, hk⟩)) hg hat); have n1_ := Aside0.mk (Kd.R_over' (by (with_reducible repeat (first | apply Kd.R_alloc | apply Kd.R_drewN | apply Kd.R_drew)); exact HO_9.out) (Kd.R_typed (by (with_reducible repeat (first | apply Kd.R_alloc | apply Kd.R_drewN | apply Kd.R_drew)); exact HO_13.out)) (by decide) hg); have n2_ := Aside0.mk (blk_grown (g := gb352) (o := .cells #[.int .i64 a1_0, .int .i64 a1_1, .string a1_2] 43 (0, 0)) (by (with_reducible repeat (first | refine blk_drewN ?_ _ | refine blk_drew ?_ | refine blk_alloc ?_ _)); exact BK352.out) hg (Kd.R_ne HO_13.out BK352.out (by decide))); have n3_ := Aside0.mk (hb); have n4_ := Aside0.mk (ho); clear HO_8; clear HO_9; clear BK352; clear HB; clear HO_13; have HO_8 := n0_; have HO_9 := n1_; have BK352 := n2_; have HB := n3_; have HO383 := n4_; clear n0_ n1_ n2_ n3_ n4_; clear ho hb hg hat; have p384 : 0 ≤ ((ji33) : Int) := of_decide_eq_true (by first | (with_reducible assumption) | assumption); have q384 : (ji33) < (t358.length : Int) := of_decide_eq_true (by first | (with_reducible assumption) | assumption); obtain ⟨ad384, e384, hx384_0⟩ := Kd.at_int (Kd.R_reads' HO_8.out).2.2 (ji33) p384 q384; obtain rfl : ad377 = ad384 := (by injection e384); replace p384 := eq_true p384; replace q384 := eq_true q384))
                go_roundg k1
                case measure => have := HK1.out; omega
                case rel => exact ⟨(y381), (t379), (wrap64 (x15_1 + 1)), (wrap64 (x16_1 + 1)), (by first | rfl | (simp; done) | (simp [*]; done)), (by first | rfl | (simp; done) | (simp [*]; done)), (by first | rfl | (simp; done) | (simp [*]; done)), H', ⟨by have := HK1.out; omega⟩, ⟨by (with_reducible repeat (first | apply Kd.R_alloc | apply Kd.R_drewN | apply Kd.R_drew)); exact Kd.R_mono HO_8.out (fun _ hk => hk.2)⟩, ⟨by (with_reducible repeat (first | apply Kd.R_alloc | apply Kd.R_drewN | apply Kd.R_drew)); exact HO_9.out⟩, ⟨by (with_reducible repeat (first | apply Kd.R_alloc | apply Kd.R_drewN | apply Kd.R_drew)); exact HO383.out⟩, ⟨by (with_reducible repeat (first | refine blk_drewN ?_ _ | refine blk_drew ?_ | refine blk_alloc ?_ _)); exact BK352.out⟩, ⟨by repeat (first | (with_reducible first | exact HB.out | apply below_alloc | apply pw_below_drewN | apply below_drew1 | refine below_set ?_ GE352.out) | exact HB.out)⟩⟩
              ·rw [if_neg c35] at H
               exact absurd H (by simp)
             ·rw [if_neg c34] at H
              exact absurd H (by simp)
            ·rw [if_neg c32] at H
             have c32b0 : decide (t366 ≤ x16_1) = false := decide_eq_false c32
             clear c32
             have H' := Aside0.mk H
             clear H
             have p378 : 0 ≤ (x16_1 : Int) := of_decide_eq_true (by first | (with_reducible assumption) | assumption)
             have q378 : x16_1 < (t361.length : Int) := of_decide_eq_true (by first | (with_reducible assumption) | assumption)
             obtain ⟨ad378, e378, hx378_0⟩ := Kd.at_string (Kd.R_reads' HO_9.out).2.2 x16_1 p378 q378
             cases e378
             replace p378 := eq_true p378
             replace q378 := eq_true q378
             go_wp2_with (first | ((with_reducible refine gate_callee (f := 36) rfl ?_); refine goesL_ (some 70) rfl rfl Tryd.func36 (by kernel_rfl) rfl #[.int .i64 x14_1, .string (rdOf ByteArray.empty t361 x16_1)] rfl (by (try simp only [List.map_toArray, List.map_cons, List.map_nil]); first | done | rfl | (simp only [List.length_drop, List.length_take]; rfl)) ?_; (with_reducible refine (spec_l17Line.calls k1 x14_1 (rdOf ByteArray.empty t361 x16_1) t379 t380 _ A30.out).mono ?_); rintro e w' ⟨rfl, ⟨nd, rfl⟩⟩; refine ⟨_, rfl, ?_⟩) | ((with_reducible refine gate_builtin (b := .append) (xs := #[.tmp 75, .tmp 77]) rfl ?_); at_builtin; refine Kd.R_append (Kd.int .i64) (w0 := w) w.heap.size rfl (.tmp 75) (.tmp 77) 22 3 (.int .i64 0) 8 rfl Tryd.underlying22 info3 rfl (by decide) (by omega) u13 x13_1 t379 [.int .i64 t379] (fun k_ => some k_ ≠ (.slice (some ad377) t358.length co26 : Value).ownBlock) (fun _ => False) rfl rfl ?aP (fun _ hk => hk.elim) ?aF ?aO ?aB ?aS ?aL ?_; (case aP => exact rfl); (case aB => exact (by repeat (first | (with_reducible first | exact HB.out | apply below_alloc | apply pw_below_drewN | apply below_drew1 | refine below_set ?_ GE352.out) | exact HB.out))); (case aF => exact (fun k_ hk => Kd.fresh' (Kd.R_lt (by (with_reducible repeat (first | apply Kd.R_alloc | apply Kd.R_drewN | apply Kd.R_drew)); exact HO_8.out)) k_ hk)); (case aO => exact (by (with_reducible repeat (first | apply Kd.R_alloc | apply Kd.R_drewN | apply Kd.R_drew)); exact HO_13.out)); (case aS => exact (below_size (by repeat (first | (with_reducible first | exact HB.out | apply below_alloc | apply pw_below_drewN | apply below_drew1 | refine below_set ?_ GE352.out) | exact HB.out)))); (case aL => have := LMc31.out; omega); intro v382 w45 ho hb hg hat; rw [← Ny381.out] at ho; have n0_ := Aside0.mk (Kd.R_after (ok := (fun _ => True)) (by (with_reducible repeat (first | apply Kd.R_alloc | apply Kd.R_drewN | apply Kd.R_drew)); exact Kd.R_mono HO_8.out (fun _ hk => ⟨trivial, hk⟩)) hg hat); have n1_ := Aside0.mk (Kd.R_over' (by (with_reducible repeat (first | apply Kd.R_alloc | apply Kd.R_drewN | apply Kd.R_drew)); exact HO_9.out) (Kd.R_typed (by (with_reducible repeat (first | apply Kd.R_alloc | apply Kd.R_drewN | apply Kd.R_drew)); exact HO_13.out)) (by decide) hg); have n2_ := Aside0.mk (blk_grown (g := gb352) (o := .cells #[.int .i64 a1_0, .int .i64 a1_1, .string a1_2] 43 (0, 0)) (by (with_reducible repeat (first | refine blk_drewN ?_ _ | refine blk_drew ?_ | refine blk_alloc ?_ _)); exact BK352.out) hg (Kd.R_ne HO_13.out BK352.out (by decide))); have n3_ := Aside0.mk (hb); have n4_ := Aside0.mk (ho); clear HO_8; clear HO_9; clear BK352; clear HB; clear HO_13; have HO_8 := n0_; have HO_9 := n1_; have BK352 := n2_; have HB := n3_; have HO383 := n4_; clear n0_ n1_ n2_ n3_ n4_; clear ho hb hg hat))
             go_roundg k1
             case measure => have := HK1.out; omega
             case rel => exact ⟨(y381), (t379), (wrap64 (x15_1 + 1)), (wrap64 (x16_1 + 1)), (by first | rfl | (simp; done) | (simp [*]; done)), (by first | rfl | (simp; done) | (simp [*]; done)), (by first | rfl | (simp; done) | (simp [*]; done)), H', ⟨by have := HK1.out; omega⟩, ⟨by (with_reducible repeat (first | apply Kd.R_alloc | apply Kd.R_drewN | apply Kd.R_drew)); exact Kd.R_mono HO_8.out (fun _ hk => hk.2)⟩, ⟨by (with_reducible repeat (first | apply Kd.R_alloc | apply Kd.R_drewN | apply Kd.R_drew)); exact HO_9.out⟩, ⟨by (with_reducible repeat (first | apply Kd.R_alloc | apply Kd.R_drewN | apply Kd.R_drew)); exact HO383.out⟩, ⟨by (with_reducible repeat (first | refine blk_drewN ?_ _ | refine blk_drew ?_ | refine blk_alloc ?_ _)); exact BK352.out⟩, ⟨by repeat (first | (with_reducible first | exact HB.out | apply below_alloc | apply pw_below_drewN | apply below_drew1 | refine below_set ?_ GE352.out) | exact HB.out)⟩⟩
           ·rw [if_neg c31] at H
            exact absurd H (by simp)
          ·rw [if_neg c29] at H
           exact absurd H (by simp)
         ·rw [if_neg c28] at H
          have c28b0 : decide (x16_1 < (t361.length : Int)) = false := decide_eq_false c28
          clear c28
          simp only [Option.some.injEq, Prod.mk.injEq] at H
          obtain ⟨rfl, rfl⟩ := H
          go_wp2
          go_ret2
          exact ⟨_, by first | rfl | (simp [errW_none, errW_some] <;> rfl) | (simp only [← hji10]; first | rfl | (simp [errW_none, errW_some] <;> rfl)) | (simp [*, errW_none, errW_some] <;> rfl), by (with_reducible repeat (first | apply Kd.R_alloc | apply Kd.R_drewN | apply Kd.R_drew)); exact Kd.R_mono HO_13.out (fun _ hk => trivial), by repeat (first | (with_reducible first | exact HB.out | apply below_alloc | apply pw_below_drewN | apply below_drew1 | refine below_set ?_ GE352.out) | exact HB.out)⟩
      ·rw [if_neg c15] at H
       exact absurd H (by simp)
     ·rw [if_neg c14] at H
      exact absurd H (by simp)
    ·rw [if_neg c13] at H
     exact absurd H (by simp)
   ·rw [if_neg c12] at H
    exact absurd H (by simp)
  ·rw [if_neg c11] at H
   exact absurd H (by simp)
 ·replace c4 := Bool.eq_false_iff.mpr c4
  subst c4
  have H1 : (some ((([] : List Int)), (-1))) = some (r1, r2) := by rw [if_neg (show ¬ (false = true) by decide)] at H; exact H
  clear H
  have H := H1
  clear H1
  obtain ⟨y355, hy355⟩ : ∃ y_ : List Int, y_ = (([] : List Int)) := ⟨_, rfl⟩
  replace H : (some (y355, (-1))) = some (r1, r2) := by first | (rw [hy355]; with_reducible exact H) | (have H2_ := (Option.bind_some _ _).symm.trans H; rw [hy355]; with_reducible exact H2_) | (have H2_ := (Option.bind_some _ _).symm.trans H; with_reducible exact H2_) | with_reducible exact H | (rw [hy355]; exact H) | exact H
  have Ny355 := Aside0.mk hy355
  clear hy355
  simp only [Option.some.injEq, Prod.mk.injEq] at H
  obtain ⟨rfl, rfl⟩ := H
  go_enter Tryd.func29, Tryd.ntmps29
  go_wp2_with (first | ((with_reducible refine gate_dst (N := 3) rfl ?_); refine box_event ?hg (N := 3) ?hd (cs := #[.int .i64 a1_0, .int .i64 a1_1, .string a1_2]) (t := 43) ?hr ?_; (case hd => rfl); (case hg => rfl); (case hr => first | (go_simp; done) | (go_simp; rfl) | (simp only [i64_w]; first | (go_simp; done) | (go_simp; rfl))); intro gb352 hg w46 hbox hb; have n0_ := Aside0.mk (below_step (by repeat (first | (with_reducible first | exact HB.out | apply below_alloc | apply pw_below_drewN | apply below_drew1) | exact HB.out)) hb); have n1_ := Aside0.mk (hbox); have n2_ := Aside0.mk ((by rw [hg]; exact (below_size (by repeat (first | (with_reducible first | exact HB.out | apply below_alloc | apply pw_below_drewN | apply below_drew1) | exact HB.out))) : w.heap.size ≤ gb352)); have n3_ := Aside0.mk ((by rw [hg]; exact (below_size (by repeat (first | (with_reducible first | exact HB.out | apply below_alloc | apply pw_below_drewN | apply below_drew1) | exact HB.out))) : w.heap.size ≤ gb352)); clear HB; have HB := n0_; have BK352 := n1_; have GW352 := n2_; have GE352 := n3_; clear n0_ n1_ n2_ n3_; clear hb hbox hg; have hcz47_0 : w46.cell? ⟨gb352, 0, none⟩ = some (.int .i64 a1_0) := (blk_cell BK352.out 0).trans rfl; have hcz47_1 : w46.cell? ⟨gb352, 1, none⟩ = some (.int .i64 a1_1) := (blk_cell BK352.out 1).trans rfl; have hcz47_2 : w46.cell? ⟨gb352, 2, none⟩ = some (.string a1_2) := (blk_cell BK352.out 2).trans rfl; have hfz47_0 := blk_frozen BK352.out 0; have hfz47_1 := blk_frozen BK352.out 1; have hfz47_2 := blk_frozen BK352.out 2) | ((with_reducible refine gate_callee (f := 46) rfl ?_); refine goesL_ (some 20) rfl rfl Tryd.func46 (by kernel_rfl) rfl #[.string a0, .agg #[.int .i64 a1_0, .int .i64 a1_1, .string a1_2]] rfl (by (try simp only [List.map_toArray, List.map_cons, List.map_nil]); first | done | rfl | (simp only [List.length_drop, List.length_take]; rfl)) ?_; (with_reducible refine (spec_ApplyChange.calls k a0 a1_0 a1_1 a1_2 t353 false _ A3.out).mono ?_); rintro e w48 ⟨rfl, hb⟩; refine ⟨_, rfl, ?_⟩; have n0_ := Aside0.mk (blk_below (g := gb352) (o := .cells #[.int .i64 a1_0, .int .i64 a1_1, .string a1_2] 43 (0, 0)) (by (with_reducible repeat (first | refine blk_drewN ?_ _ | refine blk_drew ?_ | refine blk_alloc ?_ _)); exact BK352.out) hb); have n1_ := Aside0.mk (below_step (by repeat (first | (with_reducible first | exact HB.out | apply below_alloc | apply pw_below_drewN | apply below_drew1 | refine below_set ?_ GE352.out) | exact HB.out)) hb); clear BK352; clear HB; have BK352 := n0_; have HB := n1_; clear n0_ n1_; (try clear hb); (try clear hb2); (try clear hk); (try clear hi)) | ((with_reducible refine gate_dst (N := 25) rfl ?_); refine Kd.R_lit (Kd.int .i64) _ 3 ?hg (N := 25) ?hd (xs := ([] : List Int)) (inner := []) (ok := fun _ => True) (okp := fun _ => True) ?hr ?hp (fun _ hk => hk) trivial (Below.refl _ _) (Nat.le_refl _) (by simp) ?_; (case hd => rfl); (case hg => rfl); (case hr => first | (go_simp; done) | (go_simp; rfl) | (simp only [i64_w]; first | (go_simp; done) | (go_simp; rfl))); (case hp => exact (Reps.none _ _)); intro v356 w49 ho50 hb hg_ hnew_; clear hg_ hnew_; (first | rw [← Ny355.out] at ho50 | (simp only [Int.reduceToNat] at ho50; rw [← Ny355.out] at ho50)); have n0_ := Aside0.mk (Kd.R_lower ho50 (below_size (by repeat (first | (with_reducible first | exact HB.out | apply below_alloc | apply pw_below_drewN | apply below_drew1 | refine below_set ?_ GE352.out) | exact HB.out)))); have n1_ := Aside0.mk (blk_below (g := gb352) (o := .cells #[.int .i64 a1_0, .int .i64 a1_1, .string a1_2] 43 (0, 0)) (by (with_reducible repeat (first | refine blk_drewN ?_ _ | refine blk_drew ?_ | refine blk_alloc ?_ _)); exact BK352.out) hb); have n2_ := Aside0.mk (below_step (by repeat (first | (with_reducible first | exact HB.out | apply below_alloc | apply pw_below_drewN | apply below_drew1 | refine below_set ?_ GE352.out) | exact HB.out)) hb); clear BK352; clear HB; have HO357 := n0_; have BK352 := n1_; have HB := n2_; clear n0_ n1_ n2_; clear hb ho50))
  go_ret2
  exact ⟨_, by first | rfl | (simp [errW_none, errW_some] <;> rfl) | (simp [*, errW_none, errW_some] <;> rfl), by (with_reducible repeat (first | apply Kd.R_alloc | apply Kd.R_drewN | apply Kd.R_drew)); exact HO357.out, by repeat (first | (with_reducible first | exact HB.out | apply below_alloc | apply pw_below_drewN | apply below_drew1 | refine below_set ?_ GE352.out) | exact HB.out)⟩

/-! ### impl_isPlace: function 67 -/
def impl_isPlace.f (k : Nat) (a0 : ByteArray) (a1 : Int) : Option (Bool) := (impl_TextValid.f k a0).bind fun t395 => (if t395 = true then ((impl_in.f a1 0 (a0.size : Int)).bind fun t396 => (some t396)) else (some false))
theorem impl_isPlace.mono : ∀ a0 a1 k, LeO (impl_isPlace.f k a0 a1) (impl_isPlace.f (k + 1) a0 a1) := by
 intro a0 a1 k
 unfold impl_isPlace.f
 repeat' first
   | (with_reducible exact impl_TextValid.mono _ _)
   | (with_reducible exact LeO.refl _)
   | (with_reducible exact LeO.none _)
   | (with_reducible refine LeO.ite ?_ ?_)
   | (with_reducible refine LeO.bind ?_ (fun _ => ?_))
   | exact impl_TextValid.mono _ _
   | exact LeO.none _
   | refine LeO.ite ?_ ?_
   | refine LeO.bind ?_ (fun _ => ?_)
set_option maxHeartbeats 8000000 in
set_option maxRecDepth 100000 in
theorem impl_isPlace.calls (k : Nat) (a0 : ByteArray) (a1 : Int) (r : Bool) (w : World) (h : impl_isPlace.f k a0 a1 = some r) :
  Calls Tryd.prog 67 #[.string a0, .int .i64 a1] w fun e w' => e = .returned (.bool r) ∧ Drawn0 w w' := by
 have H : ((impl_TextValid.f k a0).bind fun t395 => (if t395 = true then ((impl_in.f a1 0 (a0.size : Int)).bind fun t396 => (some t396)) else (some false))) = some r := h
 clear h
 replace H := Option.bind_eq_some_iff.mp H
 obtain ⟨t395, A30, H⟩ := H
 replace H : (if t395 = true then ((impl_in.f a1 0 (a0.size : Int)).bind fun t396 => (some t396)) else (some false)) = some r := H
 have A3 := Aside0.mk A30
 clear A30
 by_cases c4 : t395 = true
 ·subst c4
  have H1 : ((impl_in.f a1 0 (a0.size : Int)).bind fun t396 => (some t396)) = some r := by rw [if_pos rfl] at H; exact H
  clear H
  have H := H1
  clear H1
  replace H := Option.bind_eq_some_iff.mp H
  obtain ⟨t396, A50, H⟩ := H
  replace H : (some t396) = some r := H
  have A5 := Aside0.mk A50
  clear A50
  obtain rfl := Option.some.inj H
  go_enter Tryd.func67, Tryd.ntmps67
  go_wp2_with (first | ((with_reducible refine gate_callee (f := 37) rfl ?_); refine goesL_ (some 6) rfl rfl Tryd.func37 (by kernel_rfl) rfl #[.string a0] rfl (by (try simp only [List.map_toArray, List.map_cons, List.map_nil]); first | done | rfl | (simp only [List.length_drop, List.length_take]; rfl)) ?_; (with_reducible refine (impl_TextValid.calls k a0 true _ A3.out).mono ?_); rintro e w' ⟨rfl, ⟨nd, rfl⟩⟩; refine ⟨_, rfl, ?_⟩) | (go_at_call 44; (with_reducible refine (impl_in.calls a1 0 (a0.size : Int) t396 _ A5.out).mono ?_); rintro e w' ⟨rfl, ⟨nd, rfl⟩⟩))
  go_ret
  exact ⟨by first | rfl | (simp; done) | (simp [*]; done), by repeat (first | exact Drawn0.refl _ | apply Drawn0.step)⟩
 ·replace c4 := Bool.eq_false_iff.mpr c4
  subst c4
  have H1 : (some false) = some r := by rw [if_neg (show ¬ (false = true) by decide)] at H; exact H
  clear H
  have H := H1
  clear H1
  obtain rfl := Option.some.inj H
  go_enter Tryd.func67, Tryd.ntmps67
  go_wp2_with (first | ((with_reducible refine gate_callee (f := 37) rfl ?_); refine goesL_ (some 6) rfl rfl Tryd.func37 (by kernel_rfl) rfl #[.string a0] rfl (by (try simp only [List.map_toArray, List.map_cons, List.map_nil]); first | done | rfl | (simp only [List.length_drop, List.length_take]; rfl)) ?_; (with_reducible refine (impl_TextValid.calls k a0 false _ A3.out).mono ?_); rintro e w' ⟨rfl, ⟨nd, rfl⟩⟩; refine ⟨_, rfl, ?_⟩))
  go_ret
  exact ⟨by first | rfl | (simp; done) | (simp [*]; done), by repeat (first | exact Drawn0.refl _ | apply Drawn0.step)⟩

/-! ### impl_Change_apply: function 49 -/
def impl_Change_apply.f (k : Nat) (a0_0 : Int) (a0_1 : Int) (a0_2 : ByteArray) (a1 : ByteArray) : Option (ByteArray × Bool) := (impl_isPlace.f k a1 a0_0).bind fun t398 => (if t398 = true then ((impl_in.f a0_1 0 (wrap64 ((a1.size : Int) - a0_0))).bind fun t399 => (if t399 = true then (if 0 ≤ a0_0 then (if a0_0 ≤ (a1.size : Int) then (if (a1.extract 0 (a0_0 : Int).toNat).size + a0_2.size ≤ 9223372036854775807 then (if 0 ≤ (wrap64 (a0_0 + a0_1)) then (if (wrap64 (a0_0 + a0_1)) ≤ (a1.size : Int) then (if ((a1.extract 0 (a0_0 : Int).toNat) ++ a0_2).size + (a1.extract ((wrap64 (a0_0 + a0_1)) : Int).toNat a1.size).size ≤ 9223372036854775807 then ((impl_TextValid.f k (((a1.extract 0 (a0_0 : Int).toNat) ++ a0_2) ++ (a1.extract ((wrap64 (a0_0 + a0_1)) : Int).toNat a1.size))).bind fun t400 => (some (((a1.extract 0 (a0_0 : Int).toNat) ++ a0_2) ++ (a1.extract ((wrap64 (a0_0 + a0_1)) : Int).toNat a1.size), t400))) else (none)) else (none)) else (none)) else (none)) else (none)) else (none)) else (some ((⟨#[]⟩ : ByteArray), false)))) else (some ((⟨#[]⟩ : ByteArray), false)))
theorem impl_Change_apply.mono : ∀ a0 a1 a2 a3 k, LeO (impl_Change_apply.f k a0 a1 a2 a3) (impl_Change_apply.f (k + 1) a0 a1 a2 a3) := by
 intro a0 a1 a2 a3 k
 unfold impl_Change_apply.f
 repeat' first
   | (with_reducible exact impl_TextValid.mono _ _)
   | (with_reducible exact impl_isPlace.mono _ _ _)
   | (with_reducible exact LeO.refl _)
   | (with_reducible exact LeO.none _)
   | (with_reducible refine LeO.ite ?_ ?_)
   | (with_reducible refine LeO.bind ?_ (fun _ => ?_))
   | exact impl_TextValid.mono _ _
   | exact impl_isPlace.mono _ _ _
   | exact LeO.none _
   | refine LeO.ite ?_ ?_
   | refine LeO.bind ?_ (fun _ => ?_)
set_option maxHeartbeats 8000000 in
set_option maxRecDepth 100000 in
theorem impl_Change_apply.calls (k : Nat) (a0_0 : Int) (a0_1 : Int) (a0_2 : ByteArray) (a1 : ByteArray) (r1 : ByteArray) (r2 : Bool) (w : World) (h : impl_Change_apply.f k a0_0 a0_1 a0_2 a1 = some (r1, r2)) :
  Calls Tryd.prog 49 #[.agg #[.int .i64 a0_0, .int .i64 a0_1, .string a0_2], .string a1] w fun e w' => e = .returned (.tuple #[.string r1, .bool r2]) ∧ Below w.heap.size w w' := by
 have hu43 := Tryd.underlying43
 have HB := Aside0.mk (Below.refl w.heap.size w)
 have H : ((impl_isPlace.f k a1 a0_0).bind fun t398 => (if t398 = true then ((impl_in.f a0_1 0 (wrap64 ((a1.size : Int) - a0_0))).bind fun t399 => (if t399 = true then (if 0 ≤ a0_0 then (if a0_0 ≤ (a1.size : Int) then (if (a1.extract 0 (a0_0 : Int).toNat).size + a0_2.size ≤ 9223372036854775807 then (if 0 ≤ (wrap64 (a0_0 + a0_1)) then (if (wrap64 (a0_0 + a0_1)) ≤ (a1.size : Int) then (if ((a1.extract 0 (a0_0 : Int).toNat) ++ a0_2).size + (a1.extract ((wrap64 (a0_0 + a0_1)) : Int).toNat a1.size).size ≤ 9223372036854775807 then ((impl_TextValid.f k (((a1.extract 0 (a0_0 : Int).toNat) ++ a0_2) ++ (a1.extract ((wrap64 (a0_0 + a0_1)) : Int).toNat a1.size))).bind fun t400 => (some (((a1.extract 0 (a0_0 : Int).toNat) ++ a0_2) ++ (a1.extract ((wrap64 (a0_0 + a0_1)) : Int).toNat a1.size), t400))) else (none)) else (none)) else (none)) else (none)) else (none)) else (none)) else (some ((⟨#[]⟩ : ByteArray), false)))) else (some ((⟨#[]⟩ : ByteArray), false)))) = some (r1, r2) := h
 clear h
 replace H := Option.bind_eq_some_iff.mp H
 obtain ⟨t398, A30, H⟩ := H
 replace H : (if t398 = true then ((impl_in.f a0_1 0 (wrap64 ((a1.size : Int) - a0_0))).bind fun t399 => (if t399 = true then (if 0 ≤ a0_0 then (if a0_0 ≤ (a1.size : Int) then (if (a1.extract 0 (a0_0 : Int).toNat).size + a0_2.size ≤ 9223372036854775807 then (if 0 ≤ (wrap64 (a0_0 + a0_1)) then (if (wrap64 (a0_0 + a0_1)) ≤ (a1.size : Int) then (if ((a1.extract 0 (a0_0 : Int).toNat) ++ a0_2).size + (a1.extract ((wrap64 (a0_0 + a0_1)) : Int).toNat a1.size).size ≤ 9223372036854775807 then ((impl_TextValid.f k (((a1.extract 0 (a0_0 : Int).toNat) ++ a0_2) ++ (a1.extract ((wrap64 (a0_0 + a0_1)) : Int).toNat a1.size))).bind fun t400 => (some (((a1.extract 0 (a0_0 : Int).toNat) ++ a0_2) ++ (a1.extract ((wrap64 (a0_0 + a0_1)) : Int).toNat a1.size), t400))) else (none)) else (none)) else (none)) else (none)) else (none)) else (none)) else (some ((⟨#[]⟩ : ByteArray), false)))) else (some ((⟨#[]⟩ : ByteArray), false))) = some (r1, r2) := H
 have A3 := Aside0.mk A30
 clear A30
 by_cases c4 : t398 = true
 ·subst c4
  have H1 : ((impl_in.f a0_1 0 (wrap64 ((a1.size : Int) - a0_0))).bind fun t399 => (if t399 = true then (if 0 ≤ a0_0 then (if a0_0 ≤ (a1.size : Int) then (if (a1.extract 0 (a0_0 : Int).toNat).size + a0_2.size ≤ 9223372036854775807 then (if 0 ≤ (wrap64 (a0_0 + a0_1)) then (if (wrap64 (a0_0 + a0_1)) ≤ (a1.size : Int) then (if ((a1.extract 0 (a0_0 : Int).toNat) ++ a0_2).size + (a1.extract ((wrap64 (a0_0 + a0_1)) : Int).toNat a1.size).size ≤ 9223372036854775807 then ((impl_TextValid.f k (((a1.extract 0 (a0_0 : Int).toNat) ++ a0_2) ++ (a1.extract ((wrap64 (a0_0 + a0_1)) : Int).toNat a1.size))).bind fun t400 => (some (((a1.extract 0 (a0_0 : Int).toNat) ++ a0_2) ++ (a1.extract ((wrap64 (a0_0 + a0_1)) : Int).toNat a1.size), t400))) else (none)) else (none)) else (none)) else (none)) else (none)) else (none)) else (some ((⟨#[]⟩ : ByteArray), false)))) = some (r1, r2) := by rw [if_pos rfl] at H; exact H
  clear H
  have H := H1
  clear H1
  replace H := Option.bind_eq_some_iff.mp H
  obtain ⟨t399, A50, H⟩ := H
  replace H : (if t399 = true then (if 0 ≤ a0_0 then (if a0_0 ≤ (a1.size : Int) then (if (a1.extract 0 (a0_0 : Int).toNat).size + a0_2.size ≤ 9223372036854775807 then (if 0 ≤ (wrap64 (a0_0 + a0_1)) then (if (wrap64 (a0_0 + a0_1)) ≤ (a1.size : Int) then (if ((a1.extract 0 (a0_0 : Int).toNat) ++ a0_2).size + (a1.extract ((wrap64 (a0_0 + a0_1)) : Int).toNat a1.size).size ≤ 9223372036854775807 then ((impl_TextValid.f k (((a1.extract 0 (a0_0 : Int).toNat) ++ a0_2) ++ (a1.extract ((wrap64 (a0_0 + a0_1)) : Int).toNat a1.size))).bind fun t400 => (some (((a1.extract 0 (a0_0 : Int).toNat) ++ a0_2) ++ (a1.extract ((wrap64 (a0_0 + a0_1)) : Int).toNat a1.size), t400))) else (none)) else (none)) else (none)) else (none)) else (none)) else (none)) else (some ((⟨#[]⟩ : ByteArray), false))) = some (r1, r2) := H
  have A5 := Aside0.mk A50
  clear A50
  by_cases c6 : t399 = true
  ·subst c6
   have H1 : (if 0 ≤ a0_0 then (if a0_0 ≤ (a1.size : Int) then (if (a1.extract 0 (a0_0 : Int).toNat).size + a0_2.size ≤ 9223372036854775807 then (if 0 ≤ (wrap64 (a0_0 + a0_1)) then (if (wrap64 (a0_0 + a0_1)) ≤ (a1.size : Int) then (if ((a1.extract 0 (a0_0 : Int).toNat) ++ a0_2).size + (a1.extract ((wrap64 (a0_0 + a0_1)) : Int).toNat a1.size).size ≤ 9223372036854775807 then ((impl_TextValid.f k (((a1.extract 0 (a0_0 : Int).toNat) ++ a0_2) ++ (a1.extract ((wrap64 (a0_0 + a0_1)) : Int).toNat a1.size))).bind fun t400 => (some (((a1.extract 0 (a0_0 : Int).toNat) ++ a0_2) ++ (a1.extract ((wrap64 (a0_0 + a0_1)) : Int).toNat a1.size), t400))) else (none)) else (none)) else (none)) else (none)) else (none)) else (none)) = some (r1, r2) := by rw [if_pos rfl] at H; exact H
   clear H
   have H := H1
   clear H1
   by_cases c7 : 0 ≤ a0_0
   ·rw [if_pos c7] at H
    have c7b0 := eq_true c7
    have c7b1 : decide (0 ≤ a0_0) = true := decide_eq_true c7
    clear c7
    by_cases c8 : a0_0 ≤ (a1.size : Int)
    ·rw [if_pos c8] at H
     have c8b0 := eq_true c8
     have c8b1 : decide (a0_0 ≤ (a1.size : Int)) = true := decide_eq_true c8
     clear c8
     by_cases c9 : (a1.extract 0 (a0_0 : Int).toNat).size + a0_2.size ≤ 9223372036854775807
     ·rw [if_pos c9] at H
      have c9b0 := eq_true c9
      have c9b1 : decide ((a1.extract 0 (a0_0 : Int).toNat).size + a0_2.size ≤ 9223372036854775807) = true := decide_eq_true c9
      try have c9b2 : (9223372036854775807 < (a1.extract 0 (a0_0 : Int).toNat).size + a0_2.size) = False := eq_false (Nat.not_lt.2 c9)
      obtain ⟨ji10, hji10⟩ : ∃ j_ : Int, (wrap64 (a0_0 + a0_1)) = j_ := ⟨_, rfl⟩
      replace H : (if 0 ≤ (ji10) then (if (ji10) ≤ (a1.size : Int) then (if ((a1.extract 0 (a0_0 : Int).toNat) ++ a0_2).size + (a1.extract ((ji10) : Int).toNat a1.size).size ≤ 9223372036854775807 then ((impl_TextValid.f k (((a1.extract 0 (a0_0 : Int).toNat) ++ a0_2) ++ (a1.extract ((ji10) : Int).toNat a1.size))).bind fun t400 => (some (((a1.extract 0 (a0_0 : Int).toNat) ++ a0_2) ++ (a1.extract ((ji10) : Int).toNat a1.size), t400))) else (none)) else (none)) else (none)) = some (r1, r2) := by first | (rw [hji10] at H; exact H) | (simp only [hji10] at H ⊢; exact H)
      (try rw [hji10] at A3)
      (try rw [hji10] at A5)
      have hji10w : (IntKind.i64.wrap (a0_0 + a0_1)) = ji10 := (i64_w _).trans hji10
      by_cases c11 : 0 ≤ (ji10)
      ·rw [if_pos c11] at H
       have c11b0 := eq_true c11
       have c11b1 : decide (0 ≤ (ji10)) = true := decide_eq_true c11
       clear c11
       by_cases c12 : (ji10) ≤ (a1.size : Int)
       ·rw [if_pos c12] at H
        have c12b0 := eq_true c12
        have c12b1 : decide ((ji10) ≤ (a1.size : Int)) = true := decide_eq_true c12
        clear c12
        by_cases c13 : ((a1.extract 0 (a0_0 : Int).toNat) ++ a0_2).size + (a1.extract ((ji10) : Int).toNat a1.size).size ≤ 9223372036854775807
        ·rw [if_pos c13] at H
         have c13b0 := eq_true c13
         have c13b1 : decide (((a1.extract 0 (a0_0 : Int).toNat) ++ a0_2).size + (a1.extract ((ji10) : Int).toNat a1.size).size ≤ 9223372036854775807) = true := decide_eq_true c13
         try have c13b3 : (9223372036854775807 < (a1.extract 0 (a0_0 : Int).toNat).size + a0_2.size + (a1.extract ((ji10) : Int).toNat a1.size).size) = False := eq_false (by have h_ := c13; first | omega | (simp at h_ ⊢; omega) | (simp at h_ ⊢; exact h_))
         try have c13b2 : (9223372036854775807 < ((a1.extract 0 (a0_0 : Int).toNat) ++ a0_2).size + (a1.extract ((ji10) : Int).toNat a1.size).size) = False := eq_false (Nat.not_lt.2 c13)
         replace H := Option.bind_eq_some_iff.mp H
         obtain ⟨t400, A140, H⟩ := H
         replace H : (some (((a1.extract 0 (a0_0 : Int).toNat) ++ a0_2) ++ (a1.extract ((ji10) : Int).toNat a1.size), t400)) = some (r1, r2) := H
         have A14 := Aside0.mk A140
         clear A140
         simp only [Option.some.injEq, Prod.mk.injEq] at H
         obtain ⟨rfl, rfl⟩ := H
         go_enter Tryd.func49, Tryd.ntmps49
         go_wp2_with (first | ((with_reducible refine gate_dst (N := 2) rfl ?_); (try (refine gate_guard (by rfl) ?_; dsimp only)); refine box_event ?hg (N := 2) ?hd (cs := #[.int .i64 a0_0, .int .i64 a0_1, .string a0_2]) (t := 43) ?hr ?_; (case hd => rfl); (case hg => rfl); (case hr => first | (go_simp; done) | (go_simp; rfl) | (simp only [i64_w]; first | (go_simp; done) | (go_simp; rfl))); intro gb397 hg w15 hbox hb; have n0_ := Aside0.mk (below_step (by repeat (first | (with_reducible first | exact HB.out | apply below_alloc | apply pw_below_drewN | apply below_drew1) | exact HB.out)) hb); have n1_ := Aside0.mk (hbox); have n2_ := Aside0.mk ((by rw [hg]; exact (below_size (by repeat (first | (with_reducible first | exact HB.out | apply below_alloc | apply pw_below_drewN | apply below_drew1) | exact HB.out))) : w.heap.size ≤ gb397)); have n3_ := Aside0.mk ((by rw [hg]; exact (below_size (by repeat (first | (with_reducible first | exact HB.out | apply below_alloc | apply pw_below_drewN | apply below_drew1) | exact HB.out))) : w.heap.size ≤ gb397)); clear HB; have HB := n0_; have BK397 := n1_; have GW397 := n2_; have GE397 := n3_; clear n0_ n1_ n2_ n3_; clear hb hbox hg; have hcz16_0 : w15.cell? ⟨gb397, 0, none⟩ = some (.int .i64 a0_0) := (blk_cell BK397.out 0).trans rfl; have hcz16_1 : w15.cell? ⟨gb397, 1, none⟩ = some (.int .i64 a0_1) := (blk_cell BK397.out 1).trans rfl; have hcz16_2 : w15.cell? ⟨gb397, 2, none⟩ = some (.string a0_2) := (blk_cell BK397.out 2).trans rfl; have hfz16_0 := blk_frozen BK397.out 0; have hfz16_1 := blk_frozen BK397.out 1; have hfz16_2 := blk_frozen BK397.out 2) | (go_at_call 67; (with_reducible refine (impl_isPlace.calls k a1 a0_0 true _ A3.out).mono ?_); rintro e w' ⟨rfl, ⟨nd, rfl⟩⟩; (try first | exact ⟨rfl, _, World.drewN_drewN _ _ _⟩ | exact ⟨rfl, _, Eq.trans (World.drewN_drewN _ _ _) (congrArg (World.drewN _) (Nat.add_assoc _ _ _))⟩)) | (go_at_call 44; (with_reducible refine (impl_in.calls a0_1 0 (wrap64 ((a1.size : Int) - a0_0)) true _ A5.out).mono ?_); rintro e w' ⟨rfl, ⟨nd, rfl⟩⟩; (try first | exact ⟨rfl, _, World.drewN_drewN _ _ _⟩ | exact ⟨rfl, _, Eq.trans (World.drewN_drewN _ _ _) (congrArg (World.drewN _) (Nat.add_assoc _ _ _))⟩)) | (go_at_call 37; (with_reducible refine (impl_TextValid.calls k (((a1.extract 0 (a0_0 : Int).toNat) ++ a0_2) ++ (a1.extract ((ji10) : Int).toNat a1.size)) t400 _ A14.out).mono ?_); rintro e w' ⟨rfl, ⟨nd, rfl⟩⟩; (try first | exact ⟨rfl, _, World.drewN_drewN _ _ _⟩ | exact ⟨rfl, _, Eq.trans (World.drewN_drewN _ _ _) (congrArg (World.drewN _) (Nat.add_assoc _ _ _))⟩)))
         repeat (first | go_quiet (first | ((with_reducible refine gate_dst (N := 2) rfl ?_); (try (refine gate_guard (by rfl) ?_; dsimp only)); refine box_event ?hg (N := 2) ?hd (cs := #[.int .i64 a0_0, .int .i64 a0_1, .string a0_2]) (t := 43) ?hr ?_; (case hd => rfl); (case hg => rfl); (case hr => first | (go_simp; done) | (go_simp; rfl) | (simp only [i64_w]; first | (go_simp; done) | (go_simp; rfl))); intro gb397 hg w15 hbox hb; have n0_ := Aside0.mk (below_step (by repeat (first | (with_reducible first | exact HB.out | apply below_alloc | apply pw_below_drewN | apply below_drew1) | exact HB.out)) hb); have n1_ := Aside0.mk (hbox); have n2_ := Aside0.mk ((by rw [hg]; exact (below_size (by repeat (first | (with_reducible first | exact HB.out | apply below_alloc | apply pw_below_drewN | apply below_drew1) | exact HB.out))) : w.heap.size ≤ gb397)); have n3_ := Aside0.mk ((by rw [hg]; exact (below_size (by repeat (first | (with_reducible first | exact HB.out | apply below_alloc | apply pw_below_drewN | apply below_drew1) | exact HB.out))) : w.heap.size ≤ gb397)); clear HB; have HB := n0_; have BK397 := n1_; have GW397 := n2_; have GE397 := n3_; clear n0_ n1_ n2_ n3_; clear hb hbox hg; have hcz16_0 : w15.cell? ⟨gb397, 0, none⟩ = some (.int .i64 a0_0) := (blk_cell BK397.out 0).trans rfl; have hcz16_1 : w15.cell? ⟨gb397, 1, none⟩ = some (.int .i64 a0_1) := (blk_cell BK397.out 1).trans rfl; have hcz16_2 : w15.cell? ⟨gb397, 2, none⟩ = some (.string a0_2) := (blk_cell BK397.out 2).trans rfl; have hfz16_0 := blk_frozen BK397.out 0; have hfz16_1 := blk_frozen BK397.out 1; have hfz16_2 := blk_frozen BK397.out 2) | (go_at_call 67; (with_reducible refine (impl_isPlace.calls k a1 a0_0 true _ A3.out).mono ?_); rintro e w' ⟨rfl, ⟨nd, rfl⟩⟩; (try first | exact ⟨rfl, _, World.drewN_drewN _ _ _⟩ | exact ⟨rfl, _, Eq.trans (World.drewN_drewN _ _ _) (congrArg (World.drewN _) (Nat.add_assoc _ _ _))⟩)) | (go_at_call 44; (with_reducible refine (impl_in.calls a0_1 0 (wrap64 ((a1.size : Int) - a0_0)) true _ A5.out).mono ?_); rintro e w' ⟨rfl, ⟨nd, rfl⟩⟩; (try first | exact ⟨rfl, _, World.drewN_drewN _ _ _⟩ | exact ⟨rfl, _, Eq.trans (World.drewN_drewN _ _ _) (congrArg (World.drewN _) (Nat.add_assoc _ _ _))⟩)) | (go_at_call 37; (with_reducible refine (impl_TextValid.calls k (((a1.extract 0 (a0_0 : Int).toNat) ++ a0_2) ++ (a1.extract ((ji10) : Int).toNat a1.size)) t400 _ A14.out).mono ?_); rintro e w' ⟨rfl, ⟨nd, rfl⟩⟩; (try first | exact ⟨rfl, _, World.drewN_drewN _ _ _⟩ | exact ⟨rfl, _, Eq.trans (World.drewN_drewN _ _ _) (congrArg (World.drewN _) (Nat.add_assoc _ _ _))⟩))); try go_wp2_with (first | ((with_reducible refine gate_dst (N := 2) rfl ?_); (try (refine gate_guard (by rfl) ?_; dsimp only)); refine box_event ?hg (N := 2) ?hd (cs := #[.int .i64 a0_0, .int .i64 a0_1, .string a0_2]) (t := 43) ?hr ?_; (case hd => rfl); (case hg => rfl); (case hr => first | (go_simp; done) | (go_simp; rfl) | (simp only [i64_w]; first | (go_simp; done) | (go_simp; rfl))); intro gb397 hg w15 hbox hb; have n0_ := Aside0.mk (below_step (by repeat (first | (with_reducible first | exact HB.out | apply below_alloc | apply pw_below_drewN | apply below_drew1) | exact HB.out)) hb); have n1_ := Aside0.mk (hbox); have n2_ := Aside0.mk ((by rw [hg]; exact (below_size (by repeat (first | (with_reducible first | exact HB.out | apply below_alloc | apply pw_below_drewN | apply below_drew1) | exact HB.out))) : w.heap.size ≤ gb397)); have n3_ := Aside0.mk ((by rw [hg]; exact (below_size (by repeat (first | (with_reducible first | exact HB.out | apply below_alloc | apply pw_below_drewN | apply below_drew1) | exact HB.out))) : w.heap.size ≤ gb397)); clear HB; have HB := n0_; have BK397 := n1_; have GW397 := n2_; have GE397 := n3_; clear n0_ n1_ n2_ n3_; clear hb hbox hg; have hcz16_0 : w15.cell? ⟨gb397, 0, none⟩ = some (.int .i64 a0_0) := (blk_cell BK397.out 0).trans rfl; have hcz16_1 : w15.cell? ⟨gb397, 1, none⟩ = some (.int .i64 a0_1) := (blk_cell BK397.out 1).trans rfl; have hcz16_2 : w15.cell? ⟨gb397, 2, none⟩ = some (.string a0_2) := (blk_cell BK397.out 2).trans rfl; have hfz16_0 := blk_frozen BK397.out 0; have hfz16_1 := blk_frozen BK397.out 1; have hfz16_2 := blk_frozen BK397.out 2) | (go_at_call 67; (with_reducible refine (impl_isPlace.calls k a1 a0_0 true _ A3.out).mono ?_); rintro e w' ⟨rfl, ⟨nd, rfl⟩⟩; (try first | exact ⟨rfl, _, World.drewN_drewN _ _ _⟩ | exact ⟨rfl, _, Eq.trans (World.drewN_drewN _ _ _) (congrArg (World.drewN _) (Nat.add_assoc _ _ _))⟩)) | (go_at_call 44; (with_reducible refine (impl_in.calls a0_1 0 (wrap64 ((a1.size : Int) - a0_0)) true _ A5.out).mono ?_); rintro e w' ⟨rfl, ⟨nd, rfl⟩⟩; (try first | exact ⟨rfl, _, World.drewN_drewN _ _ _⟩ | exact ⟨rfl, _, Eq.trans (World.drewN_drewN _ _ _) (congrArg (World.drewN _) (Nat.add_assoc _ _ _))⟩)) | (go_at_call 37; (with_reducible refine (impl_TextValid.calls k (((a1.extract 0 (a0_0 : Int).toNat) ++ a0_2) ++ (a1.extract ((ji10) : Int).toNat a1.size)) t400 _ A14.out).mono ?_); rintro e w' ⟨rfl, ⟨nd, rfl⟩⟩; (try first | exact ⟨rfl, _, World.drewN_drewN _ _ _⟩ | exact ⟨rfl, _, Eq.trans (World.drewN_drewN _ _ _) (congrArg (World.drewN _) (Nat.add_assoc _ _ _))⟩))) | ((try simp only [i64_w]); (try simp only [hji10]); go_quiet (first | ((with_reducible refine gate_dst (N := 2) rfl ?_); (try (refine gate_guard (by rfl) ?_; dsimp only)); refine box_event ?hg (N := 2) ?hd (cs := #[.int .i64 a0_0, .int .i64 a0_1, .string a0_2]) (t := 43) ?hr ?_; (case hd => rfl); (case hg => rfl); (case hr => first | (go_simp; done) | (go_simp; rfl) | (simp only [i64_w]; first | (go_simp; done) | (go_simp; rfl))); intro gb397 hg w15 hbox hb; have n0_ := Aside0.mk (below_step (by repeat (first | (with_reducible first | exact HB.out | apply below_alloc | apply pw_below_drewN | apply below_drew1) | exact HB.out)) hb); have n1_ := Aside0.mk (hbox); have n2_ := Aside0.mk ((by rw [hg]; exact (below_size (by repeat (first | (with_reducible first | exact HB.out | apply below_alloc | apply pw_below_drewN | apply below_drew1) | exact HB.out))) : w.heap.size ≤ gb397)); have n3_ := Aside0.mk ((by rw [hg]; exact (below_size (by repeat (first | (with_reducible first | exact HB.out | apply below_alloc | apply pw_below_drewN | apply below_drew1) | exact HB.out))) : w.heap.size ≤ gb397)); clear HB; have HB := n0_; have BK397 := n1_; have GW397 := n2_; have GE397 := n3_; clear n0_ n1_ n2_ n3_; clear hb hbox hg; have hcz16_0 : w15.cell? ⟨gb397, 0, none⟩ = some (.int .i64 a0_0) := (blk_cell BK397.out 0).trans rfl; have hcz16_1 : w15.cell? ⟨gb397, 1, none⟩ = some (.int .i64 a0_1) := (blk_cell BK397.out 1).trans rfl; have hcz16_2 : w15.cell? ⟨gb397, 2, none⟩ = some (.string a0_2) := (blk_cell BK397.out 2).trans rfl; have hfz16_0 := blk_frozen BK397.out 0; have hfz16_1 := blk_frozen BK397.out 1; have hfz16_2 := blk_frozen BK397.out 2) | (go_at_call 67; (with_reducible refine (impl_isPlace.calls k a1 a0_0 true _ A3.out).mono ?_); rintro e w' ⟨rfl, ⟨nd, rfl⟩⟩; (try first | exact ⟨rfl, _, World.drewN_drewN _ _ _⟩ | exact ⟨rfl, _, Eq.trans (World.drewN_drewN _ _ _) (congrArg (World.drewN _) (Nat.add_assoc _ _ _))⟩)) | (go_at_call 44; (with_reducible refine (impl_in.calls a0_1 0 (wrap64 ((a1.size : Int) - a0_0)) true _ A5.out).mono ?_); rintro e w' ⟨rfl, ⟨nd, rfl⟩⟩; (try first | exact ⟨rfl, _, World.drewN_drewN _ _ _⟩ | exact ⟨rfl, _, Eq.trans (World.drewN_drewN _ _ _) (congrArg (World.drewN _) (Nat.add_assoc _ _ _))⟩)) | (go_at_call 37; (with_reducible refine (impl_TextValid.calls k (((a1.extract 0 (a0_0 : Int).toNat) ++ a0_2) ++ (a1.extract ((ji10) : Int).toNat a1.size)) t400 _ A14.out).mono ?_); rintro e w' ⟨rfl, ⟨nd, rfl⟩⟩; (try first | exact ⟨rfl, _, World.drewN_drewN _ _ _⟩ | exact ⟨rfl, _, Eq.trans (World.drewN_drewN _ _ _) (congrArg (World.drewN _) (Nat.add_assoc _ _ _))⟩))); try go_wp2_with (first | ((with_reducible refine gate_dst (N := 2) rfl ?_); (try (refine gate_guard (by rfl) ?_; dsimp only)); refine box_event ?hg (N := 2) ?hd (cs := #[.int .i64 a0_0, .int .i64 a0_1, .string a0_2]) (t := 43) ?hr ?_; (case hd => rfl); (case hg => rfl); (case hr => first | (go_simp; done) | (go_simp; rfl) | (simp only [i64_w]; first | (go_simp; done) | (go_simp; rfl))); intro gb397 hg w15 hbox hb; have n0_ := Aside0.mk (below_step (by repeat (first | (with_reducible first | exact HB.out | apply below_alloc | apply pw_below_drewN | apply below_drew1) | exact HB.out)) hb); have n1_ := Aside0.mk (hbox); have n2_ := Aside0.mk ((by rw [hg]; exact (below_size (by repeat (first | (with_reducible first | exact HB.out | apply below_alloc | apply pw_below_drewN | apply below_drew1) | exact HB.out))) : w.heap.size ≤ gb397)); have n3_ := Aside0.mk ((by rw [hg]; exact (below_size (by repeat (first | (with_reducible first | exact HB.out | apply below_alloc | apply pw_below_drewN | apply below_drew1) | exact HB.out))) : w.heap.size ≤ gb397)); clear HB; have HB := n0_; have BK397 := n1_; have GW397 := n2_; have GE397 := n3_; clear n0_ n1_ n2_ n3_; clear hb hbox hg; have hcz16_0 : w15.cell? ⟨gb397, 0, none⟩ = some (.int .i64 a0_0) := (blk_cell BK397.out 0).trans rfl; have hcz16_1 : w15.cell? ⟨gb397, 1, none⟩ = some (.int .i64 a0_1) := (blk_cell BK397.out 1).trans rfl; have hcz16_2 : w15.cell? ⟨gb397, 2, none⟩ = some (.string a0_2) := (blk_cell BK397.out 2).trans rfl; have hfz16_0 := blk_frozen BK397.out 0; have hfz16_1 := blk_frozen BK397.out 1; have hfz16_2 := blk_frozen BK397.out 2) | (go_at_call 67; (with_reducible refine (impl_isPlace.calls k a1 a0_0 true _ A3.out).mono ?_); rintro e w' ⟨rfl, ⟨nd, rfl⟩⟩; (try first | exact ⟨rfl, _, World.drewN_drewN _ _ _⟩ | exact ⟨rfl, _, Eq.trans (World.drewN_drewN _ _ _) (congrArg (World.drewN _) (Nat.add_assoc _ _ _))⟩)) | (go_at_call 44; (with_reducible refine (impl_in.calls a0_1 0 (wrap64 ((a1.size : Int) - a0_0)) true _ A5.out).mono ?_); rintro e w' ⟨rfl, ⟨nd, rfl⟩⟩; (try first | exact ⟨rfl, _, World.drewN_drewN _ _ _⟩ | exact ⟨rfl, _, Eq.trans (World.drewN_drewN _ _ _) (congrArg (World.drewN _) (Nat.add_assoc _ _ _))⟩)) | (go_at_call 37; (with_reducible refine (impl_TextValid.calls k (((a1.extract 0 (a0_0 : Int).toNat) ++ a0_2) ++ (a1.extract ((ji10) : Int).toNat a1.size)) t400 _ A14.out).mono ?_); rintro e w' ⟨rfl, ⟨nd, rfl⟩⟩; (try first | exact ⟨rfl, _, World.drewN_drewN _ _ _⟩ | exact ⟨rfl, _, Eq.trans (World.drewN_drewN _ _ _) (congrArg (World.drewN _) (Nat.add_assoc _ _ _))⟩)))))
         go_ret2
         exact ⟨by first | rfl | (simp [errW_none, errW_some] <;> rfl) | (simp only [← hji10]; first | rfl | (simp [errW_none, errW_some] <;> rfl)) | (simp [*, errW_none, errW_some] <;> rfl), by repeat (first | (with_reducible first | exact HB.out | apply below_alloc | apply pw_below_drewN | apply below_drew1 | refine below_set ?_ GE397.out) | exact HB.out)⟩
        ·rw [if_neg c13] at H
         exact absurd H (by simp)
       ·rw [if_neg c12] at H
        exact absurd H (by simp)
      ·rw [if_neg c11] at H
       exact absurd H (by simp)
     ·rw [if_neg c9] at H
      exact absurd H (by simp)
    ·rw [if_neg c8] at H
     exact absurd H (by simp)
   ·rw [if_neg c7] at H
    exact absurd H (by simp)
  ·replace c6 := Bool.eq_false_iff.mpr c6
   subst c6
   have H1 : (some ((⟨#[]⟩ : ByteArray), false)) = some (r1, r2) := by rw [if_neg (show ¬ (false = true) by decide)] at H; exact H
   clear H
   have H := H1
   clear H1
   simp only [Option.some.injEq, Prod.mk.injEq] at H
   obtain ⟨rfl, rfl⟩ := H
   go_enter Tryd.func49, Tryd.ntmps49
   go_wp2_with (first | ((with_reducible refine gate_dst (N := 2) rfl ?_); (try (refine gate_guard (by rfl) ?_; dsimp only)); refine box_event ?hg (N := 2) ?hd (cs := #[.int .i64 a0_0, .int .i64 a0_1, .string a0_2]) (t := 43) ?hr ?_; (case hd => rfl); (case hg => rfl); (case hr => first | (go_simp; done) | (go_simp; rfl) | (simp only [i64_w]; first | (go_simp; done) | (go_simp; rfl))); intro gb397 hg w17 hbox hb; have n0_ := Aside0.mk (below_step (by repeat (first | (with_reducible first | exact HB.out | apply below_alloc | apply pw_below_drewN | apply below_drew1) | exact HB.out)) hb); have n1_ := Aside0.mk (hbox); have n2_ := Aside0.mk ((by rw [hg]; exact (below_size (by repeat (first | (with_reducible first | exact HB.out | apply below_alloc | apply pw_below_drewN | apply below_drew1) | exact HB.out))) : w.heap.size ≤ gb397)); have n3_ := Aside0.mk ((by rw [hg]; exact (below_size (by repeat (first | (with_reducible first | exact HB.out | apply below_alloc | apply pw_below_drewN | apply below_drew1) | exact HB.out))) : w.heap.size ≤ gb397)); clear HB; have HB := n0_; have BK397 := n1_; have GW397 := n2_; have GE397 := n3_; clear n0_ n1_ n2_ n3_; clear hb hbox hg; have hcz18_0 : w17.cell? ⟨gb397, 0, none⟩ = some (.int .i64 a0_0) := (blk_cell BK397.out 0).trans rfl; have hcz18_1 : w17.cell? ⟨gb397, 1, none⟩ = some (.int .i64 a0_1) := (blk_cell BK397.out 1).trans rfl; have hcz18_2 : w17.cell? ⟨gb397, 2, none⟩ = some (.string a0_2) := (blk_cell BK397.out 2).trans rfl; have hfz18_0 := blk_frozen BK397.out 0; have hfz18_1 := blk_frozen BK397.out 1; have hfz18_2 := blk_frozen BK397.out 2) | (go_at_call 67; (with_reducible refine (impl_isPlace.calls k a1 a0_0 true _ A3.out).mono ?_); rintro e w' ⟨rfl, ⟨nd, rfl⟩⟩; (try first | exact ⟨rfl, _, World.drewN_drewN _ _ _⟩ | exact ⟨rfl, _, Eq.trans (World.drewN_drewN _ _ _) (congrArg (World.drewN _) (Nat.add_assoc _ _ _))⟩)) | (go_at_call 44; (with_reducible refine (impl_in.calls a0_1 0 (wrap64 ((a1.size : Int) - a0_0)) false _ A5.out).mono ?_); rintro e w' ⟨rfl, ⟨nd, rfl⟩⟩; (try first | exact ⟨rfl, _, World.drewN_drewN _ _ _⟩ | exact ⟨rfl, _, Eq.trans (World.drewN_drewN _ _ _) (congrArg (World.drewN _) (Nat.add_assoc _ _ _))⟩)))
   repeat (first | go_quiet (first | ((with_reducible refine gate_dst (N := 2) rfl ?_); (try (refine gate_guard (by rfl) ?_; dsimp only)); refine box_event ?hg (N := 2) ?hd (cs := #[.int .i64 a0_0, .int .i64 a0_1, .string a0_2]) (t := 43) ?hr ?_; (case hd => rfl); (case hg => rfl); (case hr => first | (go_simp; done) | (go_simp; rfl) | (simp only [i64_w]; first | (go_simp; done) | (go_simp; rfl))); intro gb397 hg w17 hbox hb; have n0_ := Aside0.mk (below_step (by repeat (first | (with_reducible first | exact HB.out | apply below_alloc | apply pw_below_drewN | apply below_drew1) | exact HB.out)) hb); have n1_ := Aside0.mk (hbox); have n2_ := Aside0.mk ((by rw [hg]; exact (below_size (by repeat (first | (with_reducible first | exact HB.out | apply below_alloc | apply pw_below_drewN | apply below_drew1) | exact HB.out))) : w.heap.size ≤ gb397)); have n3_ := Aside0.mk ((by rw [hg]; exact (below_size (by repeat (first | (with_reducible first | exact HB.out | apply below_alloc | apply pw_below_drewN | apply below_drew1) | exact HB.out))) : w.heap.size ≤ gb397)); clear HB; have HB := n0_; have BK397 := n1_; have GW397 := n2_; have GE397 := n3_; clear n0_ n1_ n2_ n3_; clear hb hbox hg; have hcz18_0 : w17.cell? ⟨gb397, 0, none⟩ = some (.int .i64 a0_0) := (blk_cell BK397.out 0).trans rfl; have hcz18_1 : w17.cell? ⟨gb397, 1, none⟩ = some (.int .i64 a0_1) := (blk_cell BK397.out 1).trans rfl; have hcz18_2 : w17.cell? ⟨gb397, 2, none⟩ = some (.string a0_2) := (blk_cell BK397.out 2).trans rfl; have hfz18_0 := blk_frozen BK397.out 0; have hfz18_1 := blk_frozen BK397.out 1; have hfz18_2 := blk_frozen BK397.out 2) | (go_at_call 67; (with_reducible refine (impl_isPlace.calls k a1 a0_0 true _ A3.out).mono ?_); rintro e w' ⟨rfl, ⟨nd, rfl⟩⟩; (try first | exact ⟨rfl, _, World.drewN_drewN _ _ _⟩ | exact ⟨rfl, _, Eq.trans (World.drewN_drewN _ _ _) (congrArg (World.drewN _) (Nat.add_assoc _ _ _))⟩)) | (go_at_call 44; (with_reducible refine (impl_in.calls a0_1 0 (wrap64 ((a1.size : Int) - a0_0)) false _ A5.out).mono ?_); rintro e w' ⟨rfl, ⟨nd, rfl⟩⟩; (try first | exact ⟨rfl, _, World.drewN_drewN _ _ _⟩ | exact ⟨rfl, _, Eq.trans (World.drewN_drewN _ _ _) (congrArg (World.drewN _) (Nat.add_assoc _ _ _))⟩))); try go_wp2_with (first | ((with_reducible refine gate_dst (N := 2) rfl ?_); (try (refine gate_guard (by rfl) ?_; dsimp only)); refine box_event ?hg (N := 2) ?hd (cs := #[.int .i64 a0_0, .int .i64 a0_1, .string a0_2]) (t := 43) ?hr ?_; (case hd => rfl); (case hg => rfl); (case hr => first | (go_simp; done) | (go_simp; rfl) | (simp only [i64_w]; first | (go_simp; done) | (go_simp; rfl))); intro gb397 hg w17 hbox hb; have n0_ := Aside0.mk (below_step (by repeat (first | (with_reducible first | exact HB.out | apply below_alloc | apply pw_below_drewN | apply below_drew1) | exact HB.out)) hb); have n1_ := Aside0.mk (hbox); have n2_ := Aside0.mk ((by rw [hg]; exact (below_size (by repeat (first | (with_reducible first | exact HB.out | apply below_alloc | apply pw_below_drewN | apply below_drew1) | exact HB.out))) : w.heap.size ≤ gb397)); have n3_ := Aside0.mk ((by rw [hg]; exact (below_size (by repeat (first | (with_reducible first | exact HB.out | apply below_alloc | apply pw_below_drewN | apply below_drew1) | exact HB.out))) : w.heap.size ≤ gb397)); clear HB; have HB := n0_; have BK397 := n1_; have GW397 := n2_; have GE397 := n3_; clear n0_ n1_ n2_ n3_; clear hb hbox hg; have hcz18_0 : w17.cell? ⟨gb397, 0, none⟩ = some (.int .i64 a0_0) := (blk_cell BK397.out 0).trans rfl; have hcz18_1 : w17.cell? ⟨gb397, 1, none⟩ = some (.int .i64 a0_1) := (blk_cell BK397.out 1).trans rfl; have hcz18_2 : w17.cell? ⟨gb397, 2, none⟩ = some (.string a0_2) := (blk_cell BK397.out 2).trans rfl; have hfz18_0 := blk_frozen BK397.out 0; have hfz18_1 := blk_frozen BK397.out 1; have hfz18_2 := blk_frozen BK397.out 2) | (go_at_call 67; (with_reducible refine (impl_isPlace.calls k a1 a0_0 true _ A3.out).mono ?_); rintro e w' ⟨rfl, ⟨nd, rfl⟩⟩; (try first | exact ⟨rfl, _, World.drewN_drewN _ _ _⟩ | exact ⟨rfl, _, Eq.trans (World.drewN_drewN _ _ _) (congrArg (World.drewN _) (Nat.add_assoc _ _ _))⟩)) | (go_at_call 44; (with_reducible refine (impl_in.calls a0_1 0 (wrap64 ((a1.size : Int) - a0_0)) false _ A5.out).mono ?_); rintro e w' ⟨rfl, ⟨nd, rfl⟩⟩; (try first | exact ⟨rfl, _, World.drewN_drewN _ _ _⟩ | exact ⟨rfl, _, Eq.trans (World.drewN_drewN _ _ _) (congrArg (World.drewN _) (Nat.add_assoc _ _ _))⟩))) | ((try simp only [i64_w]); go_quiet (first | ((with_reducible refine gate_dst (N := 2) rfl ?_); (try (refine gate_guard (by rfl) ?_; dsimp only)); refine box_event ?hg (N := 2) ?hd (cs := #[.int .i64 a0_0, .int .i64 a0_1, .string a0_2]) (t := 43) ?hr ?_; (case hd => rfl); (case hg => rfl); (case hr => first | (go_simp; done) | (go_simp; rfl) | (simp only [i64_w]; first | (go_simp; done) | (go_simp; rfl))); intro gb397 hg w17 hbox hb; have n0_ := Aside0.mk (below_step (by repeat (first | (with_reducible first | exact HB.out | apply below_alloc | apply pw_below_drewN | apply below_drew1) | exact HB.out)) hb); have n1_ := Aside0.mk (hbox); have n2_ := Aside0.mk ((by rw [hg]; exact (below_size (by repeat (first | (with_reducible first | exact HB.out | apply below_alloc | apply pw_below_drewN | apply below_drew1) | exact HB.out))) : w.heap.size ≤ gb397)); have n3_ := Aside0.mk ((by rw [hg]; exact (below_size (by repeat (first | (with_reducible first | exact HB.out | apply below_alloc | apply pw_below_drewN | apply below_drew1) | exact HB.out))) : w.heap.size ≤ gb397)); clear HB; have HB := n0_; have BK397 := n1_; have GW397 := n2_; have GE397 := n3_; clear n0_ n1_ n2_ n3_; clear hb hbox hg; have hcz18_0 : w17.cell? ⟨gb397, 0, none⟩ = some (.int .i64 a0_0) := (blk_cell BK397.out 0).trans rfl; have hcz18_1 : w17.cell? ⟨gb397, 1, none⟩ = some (.int .i64 a0_1) := (blk_cell BK397.out 1).trans rfl; have hcz18_2 : w17.cell? ⟨gb397, 2, none⟩ = some (.string a0_2) := (blk_cell BK397.out 2).trans rfl; have hfz18_0 := blk_frozen BK397.out 0; have hfz18_1 := blk_frozen BK397.out 1; have hfz18_2 := blk_frozen BK397.out 2) | (go_at_call 67; (with_reducible refine (impl_isPlace.calls k a1 a0_0 true _ A3.out).mono ?_); rintro e w' ⟨rfl, ⟨nd, rfl⟩⟩; (try first | exact ⟨rfl, _, World.drewN_drewN _ _ _⟩ | exact ⟨rfl, _, Eq.trans (World.drewN_drewN _ _ _) (congrArg (World.drewN _) (Nat.add_assoc _ _ _))⟩)) | (go_at_call 44; (with_reducible refine (impl_in.calls a0_1 0 (wrap64 ((a1.size : Int) - a0_0)) false _ A5.out).mono ?_); rintro e w' ⟨rfl, ⟨nd, rfl⟩⟩; (try first | exact ⟨rfl, _, World.drewN_drewN _ _ _⟩ | exact ⟨rfl, _, Eq.trans (World.drewN_drewN _ _ _) (congrArg (World.drewN _) (Nat.add_assoc _ _ _))⟩))); try go_wp2_with (first | ((with_reducible refine gate_dst (N := 2) rfl ?_); (try (refine gate_guard (by rfl) ?_; dsimp only)); refine box_event ?hg (N := 2) ?hd (cs := #[.int .i64 a0_0, .int .i64 a0_1, .string a0_2]) (t := 43) ?hr ?_; (case hd => rfl); (case hg => rfl); (case hr => first | (go_simp; done) | (go_simp; rfl) | (simp only [i64_w]; first | (go_simp; done) | (go_simp; rfl))); intro gb397 hg w17 hbox hb; have n0_ := Aside0.mk (below_step (by repeat (first | (with_reducible first | exact HB.out | apply below_alloc | apply pw_below_drewN | apply below_drew1) | exact HB.out)) hb); have n1_ := Aside0.mk (hbox); have n2_ := Aside0.mk ((by rw [hg]; exact (below_size (by repeat (first | (with_reducible first | exact HB.out | apply below_alloc | apply pw_below_drewN | apply below_drew1) | exact HB.out))) : w.heap.size ≤ gb397)); have n3_ := Aside0.mk ((by rw [hg]; exact (below_size (by repeat (first | (with_reducible first | exact HB.out | apply below_alloc | apply pw_below_drewN | apply below_drew1) | exact HB.out))) : w.heap.size ≤ gb397)); clear HB; have HB := n0_; have BK397 := n1_; have GW397 := n2_; have GE397 := n3_; clear n0_ n1_ n2_ n3_; clear hb hbox hg; have hcz18_0 : w17.cell? ⟨gb397, 0, none⟩ = some (.int .i64 a0_0) := (blk_cell BK397.out 0).trans rfl; have hcz18_1 : w17.cell? ⟨gb397, 1, none⟩ = some (.int .i64 a0_1) := (blk_cell BK397.out 1).trans rfl; have hcz18_2 : w17.cell? ⟨gb397, 2, none⟩ = some (.string a0_2) := (blk_cell BK397.out 2).trans rfl; have hfz18_0 := blk_frozen BK397.out 0; have hfz18_1 := blk_frozen BK397.out 1; have hfz18_2 := blk_frozen BK397.out 2) | (go_at_call 67; (with_reducible refine (impl_isPlace.calls k a1 a0_0 true _ A3.out).mono ?_); rintro e w' ⟨rfl, ⟨nd, rfl⟩⟩; (try first | exact ⟨rfl, _, World.drewN_drewN _ _ _⟩ | exact ⟨rfl, _, Eq.trans (World.drewN_drewN _ _ _) (congrArg (World.drewN _) (Nat.add_assoc _ _ _))⟩)) | (go_at_call 44; (with_reducible refine (impl_in.calls a0_1 0 (wrap64 ((a1.size : Int) - a0_0)) false _ A5.out).mono ?_); rintro e w' ⟨rfl, ⟨nd, rfl⟩⟩; (try first | exact ⟨rfl, _, World.drewN_drewN _ _ _⟩ | exact ⟨rfl, _, Eq.trans (World.drewN_drewN _ _ _) (congrArg (World.drewN _) (Nat.add_assoc _ _ _))⟩)))))
   go_ret2
   exact ⟨by first | rfl | (simp [errW_none, errW_some] <;> rfl) | (simp [*, errW_none, errW_some] <;> rfl), by repeat (first | (with_reducible first | exact HB.out | apply below_alloc | apply pw_below_drewN | apply below_drew1 | refine below_set ?_ GE397.out) | exact HB.out)⟩
 ·replace c4 := Bool.eq_false_iff.mpr c4
  subst c4
  have H1 : (some ((⟨#[]⟩ : ByteArray), false)) = some (r1, r2) := by rw [if_neg (show ¬ (false = true) by decide)] at H; exact H
  clear H
  have H := H1
  clear H1
  simp only [Option.some.injEq, Prod.mk.injEq] at H
  obtain ⟨rfl, rfl⟩ := H
  go_enter Tryd.func49, Tryd.ntmps49
  go_wp2_with (first | ((with_reducible refine gate_dst (N := 2) rfl ?_); (try (refine gate_guard (by rfl) ?_; dsimp only)); refine box_event ?hg (N := 2) ?hd (cs := #[.int .i64 a0_0, .int .i64 a0_1, .string a0_2]) (t := 43) ?hr ?_; (case hd => rfl); (case hg => rfl); (case hr => first | (go_simp; done) | (go_simp; rfl) | (simp only [i64_w]; first | (go_simp; done) | (go_simp; rfl))); intro gb397 hg w19 hbox hb; have n0_ := Aside0.mk (below_step (by repeat (first | (with_reducible first | exact HB.out | apply below_alloc | apply pw_below_drewN | apply below_drew1) | exact HB.out)) hb); have n1_ := Aside0.mk (hbox); have n2_ := Aside0.mk ((by rw [hg]; exact (below_size (by repeat (first | (with_reducible first | exact HB.out | apply below_alloc | apply pw_below_drewN | apply below_drew1) | exact HB.out))) : w.heap.size ≤ gb397)); have n3_ := Aside0.mk ((by rw [hg]; exact (below_size (by repeat (first | (with_reducible first | exact HB.out | apply below_alloc | apply pw_below_drewN | apply below_drew1) | exact HB.out))) : w.heap.size ≤ gb397)); clear HB; have HB := n0_; have BK397 := n1_; have GW397 := n2_; have GE397 := n3_; clear n0_ n1_ n2_ n3_; clear hb hbox hg; have hcz20_0 : w19.cell? ⟨gb397, 0, none⟩ = some (.int .i64 a0_0) := (blk_cell BK397.out 0).trans rfl; have hcz20_1 : w19.cell? ⟨gb397, 1, none⟩ = some (.int .i64 a0_1) := (blk_cell BK397.out 1).trans rfl; have hcz20_2 : w19.cell? ⟨gb397, 2, none⟩ = some (.string a0_2) := (blk_cell BK397.out 2).trans rfl; have hfz20_0 := blk_frozen BK397.out 0; have hfz20_1 := blk_frozen BK397.out 1; have hfz20_2 := blk_frozen BK397.out 2) | (go_at_call 67; (with_reducible refine (impl_isPlace.calls k a1 a0_0 false _ A3.out).mono ?_); rintro e w' ⟨rfl, ⟨nd, rfl⟩⟩; (try first | exact ⟨rfl, _, World.drewN_drewN _ _ _⟩ | exact ⟨rfl, _, Eq.trans (World.drewN_drewN _ _ _) (congrArg (World.drewN _) (Nat.add_assoc _ _ _))⟩)))
  repeat (first | go_quiet (first | ((with_reducible refine gate_dst (N := 2) rfl ?_); (try (refine gate_guard (by rfl) ?_; dsimp only)); refine box_event ?hg (N := 2) ?hd (cs := #[.int .i64 a0_0, .int .i64 a0_1, .string a0_2]) (t := 43) ?hr ?_; (case hd => rfl); (case hg => rfl); (case hr => first | (go_simp; done) | (go_simp; rfl) | (simp only [i64_w]; first | (go_simp; done) | (go_simp; rfl))); intro gb397 hg w19 hbox hb; have n0_ := Aside0.mk (below_step (by repeat (first | (with_reducible first | exact HB.out | apply below_alloc | apply pw_below_drewN | apply below_drew1) | exact HB.out)) hb); have n1_ := Aside0.mk (hbox); have n2_ := Aside0.mk ((by rw [hg]; exact (below_size (by repeat (first | (with_reducible first | exact HB.out | apply below_alloc | apply pw_below_drewN | apply below_drew1) | exact HB.out))) : w.heap.size ≤ gb397)); have n3_ := Aside0.mk ((by rw [hg]; exact (below_size (by repeat (first | (with_reducible first | exact HB.out | apply below_alloc | apply pw_below_drewN | apply below_drew1) | exact HB.out))) : w.heap.size ≤ gb397)); clear HB; have HB := n0_; have BK397 := n1_; have GW397 := n2_; have GE397 := n3_; clear n0_ n1_ n2_ n3_; clear hb hbox hg; have hcz20_0 : w19.cell? ⟨gb397, 0, none⟩ = some (.int .i64 a0_0) := (blk_cell BK397.out 0).trans rfl; have hcz20_1 : w19.cell? ⟨gb397, 1, none⟩ = some (.int .i64 a0_1) := (blk_cell BK397.out 1).trans rfl; have hcz20_2 : w19.cell? ⟨gb397, 2, none⟩ = some (.string a0_2) := (blk_cell BK397.out 2).trans rfl; have hfz20_0 := blk_frozen BK397.out 0; have hfz20_1 := blk_frozen BK397.out 1; have hfz20_2 := blk_frozen BK397.out 2) | (go_at_call 67; (with_reducible refine (impl_isPlace.calls k a1 a0_0 false _ A3.out).mono ?_); rintro e w' ⟨rfl, ⟨nd, rfl⟩⟩; (try first | exact ⟨rfl, _, World.drewN_drewN _ _ _⟩ | exact ⟨rfl, _, Eq.trans (World.drewN_drewN _ _ _) (congrArg (World.drewN _) (Nat.add_assoc _ _ _))⟩))); try go_wp2_with (first | ((with_reducible refine gate_dst (N := 2) rfl ?_); (try (refine gate_guard (by rfl) ?_; dsimp only)); refine box_event ?hg (N := 2) ?hd (cs := #[.int .i64 a0_0, .int .i64 a0_1, .string a0_2]) (t := 43) ?hr ?_; (case hd => rfl); (case hg => rfl); (case hr => first | (go_simp; done) | (go_simp; rfl) | (simp only [i64_w]; first | (go_simp; done) | (go_simp; rfl))); intro gb397 hg w19 hbox hb; have n0_ := Aside0.mk (below_step (by repeat (first | (with_reducible first | exact HB.out | apply below_alloc | apply pw_below_drewN | apply below_drew1) | exact HB.out)) hb); have n1_ := Aside0.mk (hbox); have n2_ := Aside0.mk ((by rw [hg]; exact (below_size (by repeat (first | (with_reducible first | exact HB.out | apply below_alloc | apply pw_below_drewN | apply below_drew1) | exact HB.out))) : w.heap.size ≤ gb397)); have n3_ := Aside0.mk ((by rw [hg]; exact (below_size (by repeat (first | (with_reducible first | exact HB.out | apply below_alloc | apply pw_below_drewN | apply below_drew1) | exact HB.out))) : w.heap.size ≤ gb397)); clear HB; have HB := n0_; have BK397 := n1_; have GW397 := n2_; have GE397 := n3_; clear n0_ n1_ n2_ n3_; clear hb hbox hg; have hcz20_0 : w19.cell? ⟨gb397, 0, none⟩ = some (.int .i64 a0_0) := (blk_cell BK397.out 0).trans rfl; have hcz20_1 : w19.cell? ⟨gb397, 1, none⟩ = some (.int .i64 a0_1) := (blk_cell BK397.out 1).trans rfl; have hcz20_2 : w19.cell? ⟨gb397, 2, none⟩ = some (.string a0_2) := (blk_cell BK397.out 2).trans rfl; have hfz20_0 := blk_frozen BK397.out 0; have hfz20_1 := blk_frozen BK397.out 1; have hfz20_2 := blk_frozen BK397.out 2) | (go_at_call 67; (with_reducible refine (impl_isPlace.calls k a1 a0_0 false _ A3.out).mono ?_); rintro e w' ⟨rfl, ⟨nd, rfl⟩⟩; (try first | exact ⟨rfl, _, World.drewN_drewN _ _ _⟩ | exact ⟨rfl, _, Eq.trans (World.drewN_drewN _ _ _) (congrArg (World.drewN _) (Nat.add_assoc _ _ _))⟩))) | ((try simp only [i64_w]); go_quiet (first | ((with_reducible refine gate_dst (N := 2) rfl ?_); (try (refine gate_guard (by rfl) ?_; dsimp only)); refine box_event ?hg (N := 2) ?hd (cs := #[.int .i64 a0_0, .int .i64 a0_1, .string a0_2]) (t := 43) ?hr ?_; (case hd => rfl); (case hg => rfl); (case hr => first | (go_simp; done) | (go_simp; rfl) | (simp only [i64_w]; first | (go_simp; done) | (go_simp; rfl))); intro gb397 hg w19 hbox hb; have n0_ := Aside0.mk (below_step (by repeat (first | (with_reducible first | exact HB.out | apply below_alloc | apply pw_below_drewN | apply below_drew1) | exact HB.out)) hb); have n1_ := Aside0.mk (hbox); have n2_ := Aside0.mk ((by rw [hg]; exact (below_size (by repeat (first | (with_reducible first | exact HB.out | apply below_alloc | apply pw_below_drewN | apply below_drew1) | exact HB.out))) : w.heap.size ≤ gb397)); have n3_ := Aside0.mk ((by rw [hg]; exact (below_size (by repeat (first | (with_reducible first | exact HB.out | apply below_alloc | apply pw_below_drewN | apply below_drew1) | exact HB.out))) : w.heap.size ≤ gb397)); clear HB; have HB := n0_; have BK397 := n1_; have GW397 := n2_; have GE397 := n3_; clear n0_ n1_ n2_ n3_; clear hb hbox hg; have hcz20_0 : w19.cell? ⟨gb397, 0, none⟩ = some (.int .i64 a0_0) := (blk_cell BK397.out 0).trans rfl; have hcz20_1 : w19.cell? ⟨gb397, 1, none⟩ = some (.int .i64 a0_1) := (blk_cell BK397.out 1).trans rfl; have hcz20_2 : w19.cell? ⟨gb397, 2, none⟩ = some (.string a0_2) := (blk_cell BK397.out 2).trans rfl; have hfz20_0 := blk_frozen BK397.out 0; have hfz20_1 := blk_frozen BK397.out 1; have hfz20_2 := blk_frozen BK397.out 2) | (go_at_call 67; (with_reducible refine (impl_isPlace.calls k a1 a0_0 false _ A3.out).mono ?_); rintro e w' ⟨rfl, ⟨nd, rfl⟩⟩; (try first | exact ⟨rfl, _, World.drewN_drewN _ _ _⟩ | exact ⟨rfl, _, Eq.trans (World.drewN_drewN _ _ _) (congrArg (World.drewN _) (Nat.add_assoc _ _ _))⟩))); try go_wp2_with (first | ((with_reducible refine gate_dst (N := 2) rfl ?_); (try (refine gate_guard (by rfl) ?_; dsimp only)); refine box_event ?hg (N := 2) ?hd (cs := #[.int .i64 a0_0, .int .i64 a0_1, .string a0_2]) (t := 43) ?hr ?_; (case hd => rfl); (case hg => rfl); (case hr => first | (go_simp; done) | (go_simp; rfl) | (simp only [i64_w]; first | (go_simp; done) | (go_simp; rfl))); intro gb397 hg w19 hbox hb; have n0_ := Aside0.mk (below_step (by repeat (first | (with_reducible first | exact HB.out | apply below_alloc | apply pw_below_drewN | apply below_drew1) | exact HB.out)) hb); have n1_ := Aside0.mk (hbox); have n2_ := Aside0.mk ((by rw [hg]; exact (below_size (by repeat (first | (with_reducible first | exact HB.out | apply below_alloc | apply pw_below_drewN | apply below_drew1) | exact HB.out))) : w.heap.size ≤ gb397)); have n3_ := Aside0.mk ((by rw [hg]; exact (below_size (by repeat (first | (with_reducible first | exact HB.out | apply below_alloc | apply pw_below_drewN | apply below_drew1) | exact HB.out))) : w.heap.size ≤ gb397)); clear HB; have HB := n0_; have BK397 := n1_; have GW397 := n2_; have GE397 := n3_; clear n0_ n1_ n2_ n3_; clear hb hbox hg; have hcz20_0 : w19.cell? ⟨gb397, 0, none⟩ = some (.int .i64 a0_0) := (blk_cell BK397.out 0).trans rfl; have hcz20_1 : w19.cell? ⟨gb397, 1, none⟩ = some (.int .i64 a0_1) := (blk_cell BK397.out 1).trans rfl; have hcz20_2 : w19.cell? ⟨gb397, 2, none⟩ = some (.string a0_2) := (blk_cell BK397.out 2).trans rfl; have hfz20_0 := blk_frozen BK397.out 0; have hfz20_1 := blk_frozen BK397.out 1; have hfz20_2 := blk_frozen BK397.out 2) | (go_at_call 67; (with_reducible refine (impl_isPlace.calls k a1 a0_0 false _ A3.out).mono ?_); rintro e w' ⟨rfl, ⟨nd, rfl⟩⟩; (try first | exact ⟨rfl, _, World.drewN_drewN _ _ _⟩ | exact ⟨rfl, _, Eq.trans (World.drewN_drewN _ _ _) (congrArg (World.drewN _) (Nat.add_assoc _ _ _))⟩)))))
  go_ret2
  exact ⟨by first | rfl | (simp [errW_none, errW_some] <;> rfl) | (simp [*, errW_none, errW_some] <;> rfl), by repeat (first | (with_reducible first | exact HB.out | apply below_alloc | apply pw_below_drewN | apply below_drew1 | refine below_set ?_ GE397.out) | exact HB.out)⟩

/-! ### impl_LineOf: function 50 -/
def impl_LineOf.f (k : Nat) (a0 : ByteArray) (a1 : Int) : Option (Int) := (impl_isPlace.f k a0 a1).bind fun t401 => (if t401 = true then (if 0 ≤ a1 then (if a1 ≤ (a0.size : Int) then ((strings_Count.f (a0.extract 0 (a1 : Int).toNat) (⟨#[10]⟩ : ByteArray)).bind fun t402 => (some t402)) else (none)) else (none)) else (some (-1)))
theorem impl_LineOf.mono : ∀ a0 a1 k, LeO (impl_LineOf.f k a0 a1) (impl_LineOf.f (k + 1) a0 a1) := by
 intro a0 a1 k
 unfold impl_LineOf.f
 repeat' first
   | (with_reducible exact impl_isPlace.mono _ _ _)
   | (with_reducible exact LeO.refl _)
   | (with_reducible exact LeO.none _)
   | (with_reducible refine LeO.ite ?_ ?_)
   | (with_reducible refine LeO.bind ?_ (fun _ => ?_))
   | exact impl_isPlace.mono _ _ _
   | exact LeO.none _
   | refine LeO.ite ?_ ?_
   | refine LeO.bind ?_ (fun _ => ?_)
set_option maxHeartbeats 8000000 in
set_option maxRecDepth 100000 in
theorem impl_LineOf.calls (k : Nat) (a0 : ByteArray) (a1 : Int) (r : Int) (w : World) (h : impl_LineOf.f k a0 a1 = some r) :
  Calls Tryd.prog 50 #[.string a0, .int .i64 a1] w fun e w' => e = .returned (.int .i64 r) ∧ Drawn0 w w' := by
 have H : ((impl_isPlace.f k a0 a1).bind fun t401 => (if t401 = true then (if 0 ≤ a1 then (if a1 ≤ (a0.size : Int) then ((strings_Count.f (a0.extract 0 (a1 : Int).toNat) (⟨#[10]⟩ : ByteArray)).bind fun t402 => (some t402)) else (none)) else (none)) else (some (-1)))) = some r := h
 clear h
 replace H := Option.bind_eq_some_iff.mp H
 obtain ⟨t401, A30, H⟩ := H
 replace H : (if t401 = true then (if 0 ≤ a1 then (if a1 ≤ (a0.size : Int) then ((strings_Count.f (a0.extract 0 (a1 : Int).toNat) (⟨#[10]⟩ : ByteArray)).bind fun t402 => (some t402)) else (none)) else (none)) else (some (-1))) = some r := H
 have A3 := Aside0.mk A30
 clear A30
 by_cases c4 : t401 = true
 ·subst c4
  have H1 : (if 0 ≤ a1 then (if a1 ≤ (a0.size : Int) then ((strings_Count.f (a0.extract 0 (a1 : Int).toNat) (⟨#[10]⟩ : ByteArray)).bind fun t402 => (some t402)) else (none)) else (none)) = some r := by rw [if_pos rfl] at H; exact H
  clear H
  have H := H1
  clear H1
  by_cases c5 : 0 ≤ a1
  ·rw [if_pos c5] at H
   have c5b0 := eq_true c5
   have c5b1 : decide (0 ≤ a1) = true := decide_eq_true c5
   clear c5
   by_cases c6 : a1 ≤ (a0.size : Int)
   ·rw [if_pos c6] at H
    have c6b0 := eq_true c6
    have c6b1 : decide (a1 ≤ (a0.size : Int)) = true := decide_eq_true c6
    clear c6
    replace H := Option.bind_eq_some_iff.mp H
    obtain ⟨t402, A70, H⟩ := H
    replace H : (some t402) = some r := H
    have A7 := Aside0.mk A70
    clear A70
    obtain rfl := Option.some.inj H
    go_enter Tryd.func50, Tryd.ntmps50
    go_wp2_with (first | ((with_reducible refine gate_callee (f := 67) rfl ?_); refine goesL_ (some 7) rfl rfl Tryd.func67 (by kernel_rfl) rfl #[.string a0, .int .i64 a1] rfl (by (try simp only [List.map_toArray, List.map_cons, List.map_nil]); first | done | rfl | (simp only [List.length_drop, List.length_take]; rfl)) ?_; (with_reducible refine (impl_isPlace.calls k a0 a1 true _ A3.out).mono ?_); rintro e w' ⟨rfl, ⟨nd, rfl⟩⟩; refine ⟨_, rfl, ?_⟩) | ((with_reducible refine gate_callee (f := 53) rfl ?_); refine goesL_ (some 12) rfl rfl Tryd.func53 (by kernel_rfl) rfl #[.string (a0.extract 0 (a1 : Int).toNat), .string (⟨#[10]⟩ : ByteArray)] rfl (by (try simp only [List.map_toArray, List.map_cons, List.map_nil]); first | done | rfl | (simp only [List.length_drop, List.length_take]; rfl)) ?_; (with_reducible refine (strings_Count.calls (a0.extract 0 (a1 : Int).toNat) (⟨#[10]⟩ : ByteArray) t402 _ A7.out).mono ?_); rintro e w' ⟨rfl, ⟨nd, rfl⟩⟩; refine ⟨_, rfl, ?_⟩))
    go_ret
    exact ⟨by first | rfl | (simp; done) | (simp [*]; done), by repeat (first | exact Drawn0.refl _ | apply Drawn0.step)⟩
   ·rw [if_neg c6] at H
    exact absurd H (by simp)
  ·rw [if_neg c5] at H
   exact absurd H (by simp)
 ·replace c4 := Bool.eq_false_iff.mpr c4
  subst c4
  have H1 : (some (-1)) = some r := by rw [if_neg (show ¬ (false = true) by decide)] at H; exact H
  clear H
  have H := H1
  clear H1
  obtain rfl := Option.some.inj H
  go_enter Tryd.func50, Tryd.ntmps50
  go_wp2_with (first | ((with_reducible refine gate_callee (f := 67) rfl ?_); refine goesL_ (some 7) rfl rfl Tryd.func67 (by kernel_rfl) rfl #[.string a0, .int .i64 a1] rfl (by (try simp only [List.map_toArray, List.map_cons, List.map_nil]); first | done | rfl | (simp only [List.length_drop, List.length_take]; rfl)) ?_; (with_reducible refine (impl_isPlace.calls k a0 a1 false _ A3.out).mono ?_); rintro e w' ⟨rfl, ⟨nd, rfl⟩⟩; refine ⟨_, rfl, ?_⟩))
  go_ret
  exact ⟨by first | rfl | (simp; done) | (simp [*]; done), by repeat (first | exact Drawn0.refl _ | apply Drawn0.step)⟩

/-! ### impl_isLine: function 68 -/
def impl_isLine.f (k : Nat) (a0 : ByteArray) (a1 : Int) : Option (Bool) := (impl_TextValid.f k a0).bind fun t403 => (if t403 = true then ((impl_LineMany.f k a0).bind fun t404 => ((impl_in.f a1 0 (wrap64 (t404 - 1))).bind fun t405 => (some t405))) else (some false))
theorem impl_isLine.mono : ∀ a0 a1 k, LeO (impl_isLine.f k a0 a1) (impl_isLine.f (k + 1) a0 a1) := by
 intro a0 a1 k
 unfold impl_isLine.f
 repeat' first
   | (with_reducible exact impl_LineMany.mono _ _)
   | (with_reducible exact impl_TextValid.mono _ _)
   | (with_reducible exact LeO.refl _)
   | (with_reducible exact LeO.none _)
   | (with_reducible refine LeO.ite ?_ ?_)
   | (with_reducible refine LeO.bind ?_ (fun _ => ?_))
   | exact impl_LineMany.mono _ _
   | exact impl_TextValid.mono _ _
   | exact LeO.none _
   | refine LeO.ite ?_ ?_
   | refine LeO.bind ?_ (fun _ => ?_)
set_option maxHeartbeats 8000000 in
set_option maxRecDepth 100000 in
theorem impl_isLine.calls (k : Nat) (a0 : ByteArray) (a1 : Int) (r : Bool) (w : World) (h : impl_isLine.f k a0 a1 = some r) :
  Calls Tryd.prog 68 #[.string a0, .int .i64 a1] w fun e w' => e = .returned (.bool r) ∧ Drawn0 w w' := by
 have H : ((impl_TextValid.f k a0).bind fun t403 => (if t403 = true then ((impl_LineMany.f k a0).bind fun t404 => ((impl_in.f a1 0 (wrap64 (t404 - 1))).bind fun t405 => (some t405))) else (some false))) = some r := h
 clear h
 replace H := Option.bind_eq_some_iff.mp H
 obtain ⟨t403, A30, H⟩ := H
 replace H : (if t403 = true then ((impl_LineMany.f k a0).bind fun t404 => ((impl_in.f a1 0 (wrap64 (t404 - 1))).bind fun t405 => (some t405))) else (some false)) = some r := H
 have A3 := Aside0.mk A30
 clear A30
 by_cases c4 : t403 = true
 ·subst c4
  have H1 : ((impl_LineMany.f k a0).bind fun t404 => ((impl_in.f a1 0 (wrap64 (t404 - 1))).bind fun t405 => (some t405))) = some r := by rw [if_pos rfl] at H; exact H
  clear H
  have H := H1
  clear H1
  replace H := Option.bind_eq_some_iff.mp H
  obtain ⟨t404, A50, H⟩ := H
  replace H : ((impl_in.f a1 0 (wrap64 (t404 - 1))).bind fun t405 => (some t405)) = some r := H
  have A5 := Aside0.mk A50
  clear A50
  replace H := Option.bind_eq_some_iff.mp H
  obtain ⟨t405, A60, H⟩ := H
  replace H : (some t405) = some r := H
  have A6 := Aside0.mk A60
  clear A60
  obtain rfl := Option.some.inj H
  go_enter Tryd.func68, Tryd.ntmps68
  go_wp2_with (first | ((with_reducible refine gate_callee (f := 37) rfl ?_); refine goesL_ (some 6) rfl rfl Tryd.func37 (by kernel_rfl) rfl #[.string a0] rfl (by (try simp only [List.map_toArray, List.map_cons, List.map_nil]); first | done | rfl | (simp only [List.length_drop, List.length_take]; rfl)) ?_; (with_reducible refine (impl_TextValid.calls k a0 true _ A3.out).mono ?_); rintro e w' ⟨rfl, ⟨nd, rfl⟩⟩; refine ⟨_, rfl, ?_⟩) | (go_at_call 34; (with_reducible refine (impl_LineMany.calls k a0 t404 _ A5.out).mono ?_); rintro e w' ⟨rfl, ⟨nd, rfl⟩⟩) | (go_at_call 44; (with_reducible refine (impl_in.calls a1 0 (wrap64 (t404 - 1)) t405 _ A6.out).mono ?_); rintro e w' ⟨rfl, ⟨nd, rfl⟩⟩))
  go_ret
  exact ⟨by first | rfl | (simp; done) | (simp [*]; done), by repeat (first | exact Drawn0.refl _ | apply Drawn0.step)⟩
 ·replace c4 := Bool.eq_false_iff.mpr c4
  subst c4
  have H1 : (some false) = some r := by rw [if_neg (show ¬ (false = true) by decide)] at H; exact H
  clear H
  have H := H1
  clear H1
  obtain rfl := Option.some.inj H
  go_enter Tryd.func68, Tryd.ntmps68
  go_wp2_with (first | ((with_reducible refine gate_callee (f := 37) rfl ?_); refine goesL_ (some 6) rfl rfl Tryd.func37 (by kernel_rfl) rfl #[.string a0] rfl (by (try simp only [List.map_toArray, List.map_cons, List.map_nil]); first | done | rfl | (simp only [List.length_drop, List.length_take]; rfl)) ?_; (with_reducible refine (impl_TextValid.calls k a0 false _ A3.out).mono ?_); rintro e w' ⟨rfl, ⟨nd, rfl⟩⟩; refine ⟨_, rfl, ?_⟩))
  go_ret
  exact ⟨by first | rfl | (simp; done) | (simp [*]; done), by repeat (first | exact Drawn0.refl _ | apply Drawn0.step)⟩

/-! ### impl_starts: function 69 -/
def impl_starts.l0 : Nat → ByteArray → List Int → Int → Int → Option (List Int)
 | 0, _, _, _, _ => none
 | k + 1, x0, x3, x7, x8 => if x8 < x7 then (if 0 ≤ x8 then (if x8 < (x0.size : Int) then (if (bt x0 x8) = 10 then (if x3.length < 17592186044416 then (impl_starts.l0 k x0 (x3 ++ [wrap64 (x8 + 1)]) x7 (wrap64 (x8 + 1))) else (none)) else (impl_starts.l0 k x0 x3 x7 (wrap64 (x8 + 1)))) else (none)) else (none)) else (some x3)
def impl_starts.f (k : Nat) (a0 : ByteArray) : Option (List Int) := impl_starts.l0 k a0 (([0] : List Int)) (a0.size : Int) 0
theorem impl_starts.mono_l : ∀ k, (∀ y0 y1 y2 y3, LeO (impl_starts.l0 k y0 y1 y2 y3) (impl_starts.l0 (k + 1) y0 y1 y2 y3))
 | 0 => fun _ _ _ _ r h => by simp [impl_starts.l0] at h
 | k + 1 => by
  have ih0 := impl_starts.mono_l k
  ·intro y0 y1 y2 y3
   unfold impl_starts.l0
   repeat' first
   | (with_reducible exact ih0 _ _ _ _)
   | (with_reducible exact LeO.refl _)
   | (with_reducible exact LeO.none _)
   | (with_reducible refine LeO.ite ?_ ?_)
   | (with_reducible refine LeO.bind ?_ (fun _ => ?_))
   | exact ih0 _ _ _ _
   | exact LeO.none _
   | refine LeO.ite ?_ ?_
   | refine LeO.bind ?_ (fun _ => ?_)
theorem impl_starts.mono : ∀ a0 k, LeO (impl_starts.f k a0) (impl_starts.f (k + 1) a0) := by
 intro a0 k
 have ih0 := impl_starts.mono_l k
 unfold impl_starts.f
 repeat' first
   | (with_reducible exact ih0 _ _ _ _)
   | (with_reducible exact LeO.refl _)
   | (with_reducible exact LeO.none _)
   | (with_reducible refine LeO.ite ?_ ?_)
   | (with_reducible refine LeO.bind ?_ (fun _ => ?_))
   | exact ih0 _ _ _ _
   | exact LeO.none _
   | refine LeO.ite ?_ ?_
   | refine LeO.bind ?_ (fun _ => ?_)
set_option maxHeartbeats 8000000 in
set_option maxRecDepth 100000 in
theorem impl_starts.calls (k : Nat) (a0 : ByteArray) (r : List Int) (w : World) (h : impl_starts.f k a0 = some r) :
  Calls Tryd.prog 69 #[.string a0] w fun e w' => ∃ v0_ : Value, e = .returned (v0_) ∧ Kd.R (Kd.int .i64) 3 w' w.heap.size (fun _ => True) v0_ r ∧ Below w.heap.size w w' := by
 have HB := Aside0.mk (Below.refl w.heap.size w)
 have H : (impl_starts.l0 k a0 (([0] : List Int)) (a0.size : Int) 0) = some r := h
 clear h
 obtain ⟨y406, hy406⟩ : ∃ y_ : List Int, y_ = (([0] : List Int)) := ⟨_, rfl⟩
 replace H : (impl_starts.l0 k a0 y406 (a0.size : Int) 0) = some r := by first | (rw [hy406]; with_reducible exact H) | (have H2_ := (Option.bind_some _ _).symm.trans H; rw [hy406]; with_reducible exact H2_) | (have H2_ := (Option.bind_some _ _).symm.trans H; with_reducible exact H2_) | with_reducible exact H | (rw [hy406]; exact H) | exact H
 have Ny406 := Aside0.mk hy406
 clear hy406
 have H' := Aside0.mk H
 clear H
 go_enter Tryd.func69, Tryd.ntmps69
 go_wp2_with (first | ((with_reducible refine gate_dst (N := 5) rfl ?_); refine Kd.R_lit (Kd.int .i64) _ 3 ?hg (N := 5) ?hd (xs := ([0] : List Int)) (inner := [.int .i64 0]) (ok := fun _ => True) (okp := fun _ => True) ?hr ?hp (fun _ hk => hk) trivial (Below.refl _ _) (Nat.le_refl _) (by simp) ?_; (case hd => rfl); (case hg => rfl); (case hr => first | (go_simp; done) | (go_simp; rfl) | (simp only [i64_w]; first | (go_simp; done) | (go_simp; rfl))); (case hp => exact (Reps.one (show Kd.M (Kd.int .i64) _ _ _ 0 [.int .i64 0] from rfl) (Reps.none _ _))); intro v407 w2 ho3 hb hg_ hnew_; clear hg_ hnew_; (first | rw [← Ny406.out] at ho3 | (simp only [Int.reduceToNat] at ho3; rw [← Ny406.out] at ho3)); have n0_ := Aside0.mk (Kd.R_lower ho3 (below_size (by repeat (first | (with_reducible first | exact HB.out | apply below_alloc | apply pw_below_drewN | apply below_drew1) | exact HB.out)))); have n1_ := Aside0.mk (below_step (by repeat (first | (with_reducible first | exact HB.out | apply below_alloc | apply pw_below_drewN | apply below_drew1) | exact HB.out)) hb); clear HB; have HO408 := n0_; have HB := n1_; clear n0_ n1_; clear hb ho3))
 go_loopg [3, 8] k (fun kq v3 v8 w' => ∃ (x3_1 : List Int) (x8_1 : Int), v8 = .int .i64 x8_1 ∧ Aside0 (impl_starts.l0 kq a0 x3_1 (a0.size : Int) x8_1 = some r) ∧ Aside0 (kq ≤ k) ∧ Aside0 (Kd.R (Kd.int .i64) 3 w' w.heap.size (fun _ => True) v3 x3_1) ∧ Aside0 (Below w.heap.size w w'))
 case atStart => exact ⟨(y406), (0), (by first | rfl | (simp; done) | (simp [*]; done)), H', ⟨Nat.le_refl _⟩, ⟨by (with_reducible repeat (first | apply Kd.R_alloc | apply Kd.R_drewN | apply Kd.R_drew)); exact HO408.out⟩, ⟨by repeat (first | (with_reducible first | exact HB.out | apply below_alloc | apply pw_below_drewN | apply below_drew1) | exact HB.out)⟩⟩
 case round =>
  clear H'
  try clear p2
  obtain ⟨x3_1, x8_1, rfl, HA, HK1, HO_3, HB⟩ := hrel
  cases gk with
  | zero => exact absurd HA.out (by simp [impl_starts.l0])
  | succ k1 =>
   have H := HA.out
   clear HA
   simp only [impl_starts.l0] at H
   by_cases c4 : x8_1 < (a0.size : Int)
   ·rw [if_pos c4] at H
    have c4b0 : decide (x8_1 < (a0.size : Int)) = true := decide_eq_true c4
    clear c4
    by_cases c5 : 0 ≤ x8_1
    ·rw [if_pos c5] at H
     have c5b0 : decide (0 ≤ x8_1) = true := decide_eq_true c5
     clear c5
     by_cases c6 : x8_1 < (a0.size : Int)
     ·rw [if_pos c6] at H
      have c6b0 : decide (x8_1 < (a0.size : Int)) = true := decide_eq_true c6
      clear c6
      by_cases c8 : (bt a0 x8_1) = 10
      ·rw [if_pos c8] at H
       have c8b0 : ((bt a0 x8_1) == 10) = true := beq_iff_eq.mpr c8
       have c8b1 : ((bt a0 x8_1) != 10) = false := bne_eq_false_iff_eq.mpr c8
       clear c8
       by_cases c9 : x3_1.length < 17592186044416
       ·rw [if_pos c9] at H
        have LMc9 := Aside0.mk c9
        clear c9
        obtain ⟨y409, hy409⟩ : ∃ y_ : List Int, y_ = (x3_1 ++ [wrap64 (x8_1 + 1)]) := ⟨_, rfl⟩
        replace H : (impl_starts.l0 k1 a0 y409 (a0.size : Int) (wrap64 (x8_1 + 1))) = some r := by first | (rw [hy409]; with_reducible exact H) | (have H2_ := (Option.bind_some _ _).symm.trans H; rw [hy409]; with_reducible exact H2_) | (have H2_ := (Option.bind_some _ _).symm.trans H; with_reducible exact H2_) | with_reducible exact H | (rw [hy409]; exact H) | exact H
        have Ny409 := Aside0.mk hy409
        clear hy409
        have H' := Aside0.mk H
        clear H
        have p7 : 0 ≤ (x8_1 : Int) := of_decide_eq_true (by first | (with_reducible assumption) | assumption)
        have q7 : x8_1 < (a0.size : Int) := of_decide_eq_true (by first | (with_reducible assumption) | assumption)
        have hx7 := bt_at a0 x8_1
        replace p7 := eq_true p7
        replace q7 := eq_true q7
        go_wp2_with (first | ((with_reducible refine gate_builtin (b := .append) (xs := #[.tmp 15, .tmp 18]) rfl ?_); at_builtin; refine Kd.R_append (Kd.int .i64) (w0 := w) w.heap.size rfl (.tmp 15) (.tmp 18) 22 3 (.int .i64 0) 8 rfl Tryd.underlying22 info3 rfl (by decide) (by omega) u3 x3_1 (wrap64 (x8_1 + 1)) [.int .i64 (wrap64 (x8_1 + 1))] (fun _ => True) (fun _ => False) rfl rfl ?aP (fun _ hk => hk.elim) ?aF ?aO ?aB ?aS ?aL ?_; (case aP => exact rfl); (case aB => exact (by repeat (first | (with_reducible first | exact HB.out | apply below_alloc | apply pw_below_drewN | apply below_drew1) | exact HB.out))); (case aF => exact (fun _ _ => trivial)); (case aO => exact (by (with_reducible repeat (first | apply Kd.R_alloc | apply Kd.R_drewN | apply Kd.R_drew)); exact HO_3.out)); (case aS => exact (below_size (by repeat (first | (with_reducible first | exact HB.out | apply below_alloc | apply pw_below_drewN | apply below_drew1) | exact HB.out)))); (case aL => have := LMc9.out; omega); intro v410 w10 ho hb hg hat; rw [← Ny409.out] at ho; have n0_ := Aside0.mk (hb); have n1_ := Aside0.mk (ho); clear HB; clear HO_3; have HB := n0_; have HO411 := n1_; clear n0_ n1_; clear ho hb hg hat))
        go_roundg k1
        case measure => have := HK1.out; omega
        case rel => exact ⟨(y409), (wrap64 (x8_1 + 1)), (by first | rfl | (simp; done) | (simp [*]; done)), H', ⟨by have := HK1.out; omega⟩, ⟨by (with_reducible repeat (first | apply Kd.R_alloc | apply Kd.R_drewN | apply Kd.R_drew)); exact HO411.out⟩, ⟨by repeat (first | (with_reducible first | exact HB.out | apply below_alloc | apply pw_below_drewN | apply below_drew1) | exact HB.out)⟩⟩
       ·rw [if_neg c9] at H
        exact absurd H (by simp)
      ·rw [if_neg c8] at H
       have c8b0 : ((bt a0 x8_1) == 10) = false := beq_eq_false_iff_ne.mpr c8
       have c8b1 : ((bt a0 x8_1) != 10) = true := bne_iff_ne.mpr c8
       have H' := Aside0.mk H
       clear H
       have p7 : 0 ≤ (x8_1 : Int) := of_decide_eq_true (by first | (with_reducible assumption) | assumption)
       have q7 : x8_1 < (a0.size : Int) := of_decide_eq_true (by first | (with_reducible assumption) | assumption)
       have hx7 := bt_at a0 x8_1
       replace p7 := eq_true p7
       replace q7 := eq_true q7
       go_wp2
       go_roundg k1
       case measure => have := HK1.out; omega
       case rel => exact ⟨(x3_1), (wrap64 (x8_1 + 1)), (by first | rfl | (simp; done) | (simp [*]; done)), H', ⟨by have := HK1.out; omega⟩, ⟨by (with_reducible repeat (first | apply Kd.R_alloc | apply Kd.R_drewN | apply Kd.R_drew)); exact HO_3.out⟩, ⟨by repeat (first | (with_reducible first | exact HB.out | apply below_alloc | apply pw_below_drewN | apply below_drew1) | exact HB.out)⟩⟩
     ·rw [if_neg c6] at H
      exact absurd H (by simp)
    ·rw [if_neg c5] at H
     exact absurd H (by simp)
   ·rw [if_neg c4] at H
    have c4b0 : decide (x8_1 < (a0.size : Int)) = false := decide_eq_false c4
    clear c4
    obtain rfl := Option.some.inj H
    go_wp2
    go_ret
    exact ⟨_, by first | rfl | (simp [errW_none, errW_some] <;> rfl) | (simp [*, errW_none, errW_some] <;> rfl), by (with_reducible repeat (first | apply Kd.R_alloc | apply Kd.R_drewN | apply Kd.R_drew)); exact HO_3.out, by repeat (first | (with_reducible first | exact HB.out | apply below_alloc | apply pw_below_drewN | apply below_drew1) | exact HB.out)⟩

/-! ### impl_LineEnd: function 51 -/
def impl_LineEnd.f (k : Nat) (a0 : ByteArray) (a1 : Int) : Option (Int) := (impl_isLine.f k a0 a1).bind fun t412 => (if t412 = true then ((impl_starts.f k a0).bind fun t413 => (if 0 ≤ a1 then (if a1 < (t413.length : Int) then (if 0 ≤ (rd t413 a1) then (if (rd t413 a1) ≤ (a0.size : Int) then ((strings_IndexByte.f (a0.extract ((rd t413 a1) : Int).toNat a0.size) 10).bind fun t417 => (if t417 ≥ 0 then (some (wrap64 ((rd t413 a1) + t417))) else (some (a0.size : Int)))) else (none)) else (none)) else (none)) else (none))) else (some (-1)))
theorem impl_LineEnd.mono : ∀ a0 a1 k, LeO (impl_LineEnd.f k a0 a1) (impl_LineEnd.f (k + 1) a0 a1) := by
 intro a0 a1 k
 unfold impl_LineEnd.f
 repeat' first
   | (with_reducible exact impl_isLine.mono _ _ _)
   | (with_reducible exact impl_starts.mono _ _)
   | (with_reducible exact LeO.refl _)
   | (with_reducible exact LeO.none _)
   | (with_reducible refine LeO.ite ?_ ?_)
   | (with_reducible refine LeO.bind ?_ (fun _ => ?_))
   | exact impl_isLine.mono _ _ _
   | exact impl_starts.mono _ _
   | exact LeO.none _
   | refine LeO.ite ?_ ?_
   | refine LeO.bind ?_ (fun _ => ?_)
set_option maxHeartbeats 8000000 in
set_option maxRecDepth 100000 in
theorem impl_LineEnd.calls (k : Nat) (a0 : ByteArray) (a1 : Int) (r : Int) (w : World) (h : impl_LineEnd.f k a0 a1 = some r) :
  Calls Tryd.prog 51 #[.string a0, .int .i64 a1] w fun e w' => e = .returned (.int .i64 r) ∧ Below w.heap.size w w' := by
 have HB := Aside0.mk (Below.refl w.heap.size w)
 have H : ((impl_isLine.f k a0 a1).bind fun t412 => (if t412 = true then ((impl_starts.f k a0).bind fun t413 => (if 0 ≤ a1 then (if a1 < (t413.length : Int) then (if 0 ≤ (rd t413 a1) then (if (rd t413 a1) ≤ (a0.size : Int) then ((strings_IndexByte.f (a0.extract ((rd t413 a1) : Int).toNat a0.size) 10).bind fun t417 => (if t417 ≥ 0 then (some (wrap64 ((rd t413 a1) + t417))) else (some (a0.size : Int)))) else (none)) else (none)) else (none)) else (none))) else (some (-1)))) = some r := h
 clear h
 replace H := Option.bind_eq_some_iff.mp H
 obtain ⟨t412, A30, H⟩ := H
 replace H : (if t412 = true then ((impl_starts.f k a0).bind fun t413 => (if 0 ≤ a1 then (if a1 < (t413.length : Int) then (if 0 ≤ (rd t413 a1) then (if (rd t413 a1) ≤ (a0.size : Int) then ((strings_IndexByte.f (a0.extract ((rd t413 a1) : Int).toNat a0.size) 10).bind fun t417 => (if t417 ≥ 0 then (some (wrap64 ((rd t413 a1) + t417))) else (some (a0.size : Int)))) else (none)) else (none)) else (none)) else (none))) else (some (-1))) = some r := H
 have A3 := Aside0.mk A30
 clear A30
 by_cases c4 : t412 = true
 ·subst c4
  have H1 : ((impl_starts.f k a0).bind fun t413 => (if 0 ≤ a1 then (if a1 < (t413.length : Int) then (if 0 ≤ (rd t413 a1) then (if (rd t413 a1) ≤ (a0.size : Int) then ((strings_IndexByte.f (a0.extract ((rd t413 a1) : Int).toNat a0.size) 10).bind fun t417 => (if t417 ≥ 0 then (some (wrap64 ((rd t413 a1) + t417))) else (some (a0.size : Int)))) else (none)) else (none)) else (none)) else (none))) = some r := by rw [if_pos rfl] at H; exact H
  clear H
  have H := H1
  clear H1
  replace H := Option.bind_eq_some_iff.mp H
  obtain ⟨t413, A50, H⟩ := H
  replace H : (if 0 ≤ a1 then (if a1 < (t413.length : Int) then (if 0 ≤ (rd t413 a1) then (if (rd t413 a1) ≤ (a0.size : Int) then ((strings_IndexByte.f (a0.extract ((rd t413 a1) : Int).toNat a0.size) 10).bind fun t417 => (if t417 ≥ 0 then (some (wrap64 ((rd t413 a1) + t417))) else (some (a0.size : Int)))) else (none)) else (none)) else (none)) else (none)) = some r := H
  have A5 := Aside0.mk A50
  clear A50
  by_cases c6 : 0 ≤ a1
  ·rw [if_pos c6] at H
   have c6b0 : decide (0 ≤ a1) = true := decide_eq_true c6
   clear c6
   by_cases c7 : a1 < (t413.length : Int)
   ·rw [if_pos c7] at H
    have c7b0 : decide (a1 < (t413.length : Int)) = true := decide_eq_true c7
    clear c7
    by_cases c8 : 0 ≤ (rd t413 a1)
    ·rw [if_pos c8] at H
     have c8b0 := eq_true c8
     have c8b1 : decide (0 ≤ (rd t413 a1)) = true := decide_eq_true c8
     clear c8
     by_cases c9 : (rd t413 a1) ≤ (a0.size : Int)
     ·rw [if_pos c9] at H
      have c9b0 := eq_true c9
      have c9b1 : decide ((rd t413 a1) ≤ (a0.size : Int)) = true := decide_eq_true c9
      clear c9
      replace H := Option.bind_eq_some_iff.mp H
      obtain ⟨t417, A100, H⟩ := H
      replace H : (if t417 ≥ 0 then (some (wrap64 ((rd t413 a1) + t417))) else (some (a0.size : Int))) = some r := H
      have A10 := Aside0.mk A100
      clear A100
      by_cases c11 : t417 ≥ 0
      ·rw [if_pos c11] at H
       have c11b0 : decide (0 ≤ t417) = true := decide_eq_true c11
       clear c11
       obtain rfl := Option.some.inj H
       go_enter Tryd.func51, Tryd.ntmps51
       go_wp2_with (first | ((with_reducible refine gate_callee (f := 68) rfl ?_); refine goesL_ (some 9) rfl rfl Tryd.func68 (by kernel_rfl) rfl #[.string a0, .int .i64 a1] rfl (by (try simp only [List.map_toArray, List.map_cons, List.map_nil]); first | done | rfl | (simp only [List.length_drop, List.length_take]; rfl)) ?_; (with_reducible refine (impl_isLine.calls k a0 a1 true _ A3.out).mono ?_); rintro e w' ⟨rfl, ⟨nd, rfl⟩⟩; refine ⟨_, rfl, ?_⟩) | ((with_reducible refine gate_callee (f := 69) rfl ?_); refine goesL_ (some 12) rfl rfl Tryd.func69 (by kernel_rfl) rfl #[.string a0] rfl (by (try simp only [List.map_toArray, List.map_cons, List.map_nil]); first | done | rfl | (simp only [List.length_drop, List.length_take]; rfl)) ?_; (with_reducible refine (impl_starts.calls k a0 t413 _ A5.out).mono ?_); rintro e w12 ⟨v414, rfl, ho0, hb⟩; refine ⟨_, rfl, ?_⟩; have n0_ := Aside0.mk (Kd.R_lower ho0 (below_size (by repeat (first | (with_reducible first | exact HB.out | apply below_alloc | apply pw_below_drewN | apply below_drew1) | exact HB.out)))); have n1_ := Aside0.mk (below_step (by repeat (first | (with_reducible first | exact HB.out | apply below_alloc | apply pw_below_drewN | apply below_drew1) | exact HB.out)) hb); clear HB; have HO415 := n0_; have HB := n1_; clear n0_ n1_; (try clear hb); (try clear hb2); (try clear hk); (try clear hi); (try clear ho0); obtain ⟨Ao13, co13, eo13⟩ := Kd.R_slice HO415.out; subst eo13; have p416 : 0 ≤ (a1 : Int) := of_decide_eq_true (by first | (with_reducible assumption) | assumption); have q416 : a1 < (t413.length : Int) := of_decide_eq_true (by first | (with_reducible assumption) | assumption); obtain ⟨ad416, e416, hx416_0⟩ := Kd.at_int (Kd.R_reads' HO415.out).2.2 a1 p416 q416; cases e416; replace p416 := eq_true p416; replace q416 := eq_true q416) | ((with_reducible refine gate_callee (f := 70) rfl ?_); refine goesL_ (some 19) rfl rfl Tryd.func70 (by kernel_rfl) rfl #[.string (a0.extract ((rd t413 a1) : Int).toNat a0.size), .int .u8 10] rfl (by (try simp only [List.map_toArray, List.map_cons, List.map_nil]); first | done | rfl | (simp only [List.length_drop, List.length_take]; rfl)) ?_; (with_reducible refine (strings_IndexByte.calls (a0.extract ((rd t413 a1) : Int).toNat a0.size) 10 t417 _ A10.out).mono ?_); rintro e w' ⟨rfl, ⟨nd, rfl⟩⟩; refine ⟨_, rfl, ?_⟩))
       go_ret
       exact ⟨by first | rfl | (simp [errW_none, errW_some] <;> rfl) | (simp [*, errW_none, errW_some] <;> rfl), by repeat (first | (with_reducible first | exact HB.out | apply below_alloc | apply pw_below_drewN | apply below_drew1) | exact HB.out)⟩
      ·rw [if_neg c11] at H
       have c11b0 : decide (0 ≤ t417) = false := decide_eq_false c11
       clear c11
       obtain rfl := Option.some.inj H
       go_enter Tryd.func51, Tryd.ntmps51
       go_wp2_with (first | ((with_reducible refine gate_callee (f := 68) rfl ?_); refine goesL_ (some 9) rfl rfl Tryd.func68 (by kernel_rfl) rfl #[.string a0, .int .i64 a1] rfl (by (try simp only [List.map_toArray, List.map_cons, List.map_nil]); first | done | rfl | (simp only [List.length_drop, List.length_take]; rfl)) ?_; (with_reducible refine (impl_isLine.calls k a0 a1 true _ A3.out).mono ?_); rintro e w' ⟨rfl, ⟨nd, rfl⟩⟩; refine ⟨_, rfl, ?_⟩) | ((with_reducible refine gate_callee (f := 69) rfl ?_); refine goesL_ (some 12) rfl rfl Tryd.func69 (by kernel_rfl) rfl #[.string a0] rfl (by (try simp only [List.map_toArray, List.map_cons, List.map_nil]); first | done | rfl | (simp only [List.length_drop, List.length_take]; rfl)) ?_; (with_reducible refine (impl_starts.calls k a0 t413 _ A5.out).mono ?_); rintro e w14 ⟨v414, rfl, ho0, hb⟩; refine ⟨_, rfl, ?_⟩; have n0_ := Aside0.mk (Kd.R_lower ho0 (below_size (by repeat (first | (with_reducible first | exact HB.out | apply below_alloc | apply pw_below_drewN | apply below_drew1) | exact HB.out)))); have n1_ := Aside0.mk (below_step (by repeat (first | (with_reducible first | exact HB.out | apply below_alloc | apply pw_below_drewN | apply below_drew1) | exact HB.out)) hb); clear HB; have HO415 := n0_; have HB := n1_; clear n0_ n1_; (try clear hb); (try clear hb2); (try clear hk); (try clear hi); (try clear ho0); obtain ⟨Ao15, co15, eo15⟩ := Kd.R_slice HO415.out; subst eo15; have p416 : 0 ≤ (a1 : Int) := of_decide_eq_true (by first | (with_reducible assumption) | assumption); have q416 : a1 < (t413.length : Int) := of_decide_eq_true (by first | (with_reducible assumption) | assumption); obtain ⟨ad416, e416, hx416_0⟩ := Kd.at_int (Kd.R_reads' HO415.out).2.2 a1 p416 q416; cases e416; replace p416 := eq_true p416; replace q416 := eq_true q416) | ((with_reducible refine gate_callee (f := 70) rfl ?_); refine goesL_ (some 19) rfl rfl Tryd.func70 (by kernel_rfl) rfl #[.string (a0.extract ((rd t413 a1) : Int).toNat a0.size), .int .u8 10] rfl (by (try simp only [List.map_toArray, List.map_cons, List.map_nil]); first | done | rfl | (simp only [List.length_drop, List.length_take]; rfl)) ?_; (with_reducible refine (strings_IndexByte.calls (a0.extract ((rd t413 a1) : Int).toNat a0.size) 10 t417 _ A10.out).mono ?_); rintro e w' ⟨rfl, ⟨nd, rfl⟩⟩; refine ⟨_, rfl, ?_⟩))
       go_ret
       exact ⟨by first | rfl | (simp [errW_none, errW_some] <;> rfl) | (simp [*, errW_none, errW_some] <;> rfl), by repeat (first | (with_reducible first | exact HB.out | apply below_alloc | apply pw_below_drewN | apply below_drew1) | exact HB.out)⟩
     ·rw [if_neg c9] at H
      exact absurd H (by simp)
    ·rw [if_neg c8] at H
     exact absurd H (by simp)
   ·rw [if_neg c7] at H
    exact absurd H (by simp)
  ·rw [if_neg c6] at H
   exact absurd H (by simp)
 ·replace c4 := Bool.eq_false_iff.mpr c4
  subst c4
  have H1 : (some (-1)) = some r := by rw [if_neg (show ¬ (false = true) by decide)] at H; exact H
  clear H
  have H := H1
  clear H1
  obtain rfl := Option.some.inj H
  go_enter Tryd.func51, Tryd.ntmps51
  go_wp2_with (first | ((with_reducible refine gate_callee (f := 68) rfl ?_); refine goesL_ (some 9) rfl rfl Tryd.func68 (by kernel_rfl) rfl #[.string a0, .int .i64 a1] rfl (by (try simp only [List.map_toArray, List.map_cons, List.map_nil]); first | done | rfl | (simp only [List.length_drop, List.length_take]; rfl)) ?_; (with_reducible refine (impl_isLine.calls k a0 a1 false _ A3.out).mono ?_); rintro e w' ⟨rfl, ⟨nd, rfl⟩⟩; refine ⟨_, rfl, ?_⟩))
  go_ret
  exact ⟨by first | rfl | (simp [errW_none, errW_some] <;> rfl) | (simp [*, errW_none, errW_some] <;> rfl), by repeat (first | (with_reducible first | exact HB.out | apply below_alloc | apply pw_below_drewN | apply below_drew1) | exact HB.out)⟩

end Go.Proofs.YtheglgphknahdaaDoor.X
