-- written by a program of this session (wip/xprint.py) out of the translation
import Derived.Test.YtheglgphknahdaaDoorX0
import Derived.Test.YtheglgphknahdaaDoorX4
import Derived.Test.YtheglgphknahdaaDoorX5
import Derived.Test.YtheglgphknahdaaDoorX15
import Derived.Test.YtheglgphknahdaaDoorLibC
namespace Go.Proofs.YtheglgphknahdaaDoor.X
open Go.RowKit Go.Proofs.YtheglgphknahdaaDoorW.PrintWords Go.Proofs.YtheglgphknahdaaDoorW.PrintLast Go.Proofs.YtheglgphknahdaaDoorW.PrintMore
attribute [local go_sem] max2_int min2_int max_two min_two max_three min_three max_four min_four   -- for this text's walks alone
set_option linter.unusedVariables false
set_option linter.unusedSimpArgs false

/-! ### impl_ColourAgain: function 31 -/
mutual
def impl_ColourAgain.j0 : Nat → ByteArray → ByteArray → Bool → Int → Int → ByteArray → Option (List Int × Int)
 | 0, _, _, _, _, _, _ => none
 | k + 1, x0, x6, x29, x419000, x419001, x419002 => if x29 = true then (some (([] : List Int), (-1))) else ((impl_ColourStates.f k x0).bind fun t422 => ((impl_linesOf.f k x6).bind fun t425 => ((impl_LineOf.f k x6 x419000).bind fun t428 => (if 0 ≤ (wrap64 (t428 + 1)) then (if (wrap64 (t428 + 1)) ≤ (t422.length : Int) then ((some (t422.take ((wrap64 (t428 + 1)) : Int).toNat : List Int)).bind fun y429 => (if ([] : List Int).length + y429.length < 17592186044416 then (impl_ColourAgain.l0 k x6 t422 t425 (([] : List Int) ++ y429) (wrap64 ((wrap64 ((t425.length : Int) + 1)) - (t422.length : Int))) 0 t428 x419000 x419001 x419002) else (none))) else (none)) else (none)))))
def impl_ColourAgain.l0 : Nat → ByteArray → List Int → List ByteArray → List Int → Int → Int → Int → Int → Int → ByteArray → Option (List Int × Int)
 | 0, _, _, _, _, _, _, _, _, _, _ => none
 | k + 1, x6, x8, x9, x11, x12, x13, x14, x419000, x419001, x419002 => if x14 < (x9.length : Int) then (if 0 ≤ x14 then (if x14 < (x11.length : Int) then ((impl_colour.f (rd x11 x14) (rdOf ByteArray.empty x9 x14)).bind fun bt438 => (if x11.length < 17592186044416 then ((some (x11 ++ [bt438.1] : List Int)).bind fun y440 => ((impl_LineEnd.f k x6 x14).bind fun t443 => (if t443 ≥ (wrap64 (x419000 + (x419002.size : Int))) then (if 0 ≤ (wrap64 ((wrap64 (x14 + 1)) - x12)) then (if (wrap64 ((wrap64 (x14 + 1)) - x12)) < (x8.length : Int) then (if bt438.1 = (rd x8 (wrap64 ((wrap64 (x14 + 1)) - x12))) then (if 0 ≤ (wrap64 ((wrap64 (x14 + 2)) - x12)) then (if (wrap64 ((wrap64 (x14 + 2)) - x12)) ≤ (x8.length : Int) then ((some (x8.drop ((wrap64 ((wrap64 (x14 + 2)) - x12)) : Int).toNat : List Int)).bind fun y445 => (if y440.length + y445.length < 17592186044416 then (some ((y440 ++ y445), wrap64 (x13 + 1))) else (none))) else (none)) else (none)) else (impl_ColourAgain.l0 k x6 x8 x9 y440 x12 (wrap64 (x13 + 1)) (wrap64 (x14 + 1)) x419000 x419001 x419002)) else (none)) else (none)) else (impl_ColourAgain.l0 k x6 x8 x9 y440 x12 (wrap64 (x13 + 1)) (wrap64 (x14 + 1)) x419000 x419001 x419002)))) else (none))) else (none)) else (none)) else (some (x11, x13))
end
def impl_ColourAgain.f (k : Nat) (a0 : ByteArray) (a1_0 : Int) (a1_1 : Int) (a1_2 : ByteArray) : Option (List Int × Int) := (impl_Change_apply.f k a1_0 a1_1 a1_2 a0).bind fun bt419 => ((impl_TextValid.f k a0).bind fun t421 => (if t421 = true then (impl_ColourAgain.j0 k a0 bt419.1 (!bt419.2) a1_0 a1_1 a1_2) else (impl_ColourAgain.j0 k a0 bt419.1 true a1_0 a1_1 a1_2)))
theorem impl_ColourAgain.mono_l : ∀ k, (∀ y0 y1 y2 y3 y4 y5, LeO (impl_ColourAgain.j0 k y0 y1 y2 y3 y4 y5) (impl_ColourAgain.j0 (k + 1) y0 y1 y2 y3 y4 y5)) ∧ (∀ y0 y1 y2 y3 y4 y5 y6 y7 y8 y9, LeO (impl_ColourAgain.l0 k y0 y1 y2 y3 y4 y5 y6 y7 y8 y9) (impl_ColourAgain.l0 (k + 1) y0 y1 y2 y3 y4 y5 y6 y7 y8 y9))
 | 0 => ⟨fun _ _ _ _ _ _ r h => by simp [impl_ColourAgain.j0] at h, fun _ _ _ _ _ _ _ _ _ _ r h => by simp [impl_ColourAgain.l0] at h⟩
 | k + 1 => by
  obtain ⟨ih0, ih1⟩ := impl_ColourAgain.mono_l k
  refine ⟨?_, ?_⟩
  ·intro y0 y1 y2 y3 y4 y5
   unfold impl_ColourAgain.j0
   repeat' first
   | (with_reducible exact ih0 _ _ _ _ _ _)
   | (with_reducible exact ih1 _ _ _ _ _ _ _ _ _ _)
   | (with_reducible exact impl_Change_apply.mono _ _ _ _ _)
   | (with_reducible exact impl_ColourStates.mono _ _)
   | (with_reducible exact impl_LineEnd.mono _ _ _)
   | (with_reducible exact impl_LineOf.mono _ _ _)
   | (with_reducible exact impl_TextValid.mono _ _)
   | (with_reducible exact impl_linesOf.mono _ _)
   | (with_reducible exact LeO.refl _)
   | (with_reducible exact LeO.none _)
   | (with_reducible refine LeO.ite ?_ ?_)
   | (with_reducible refine LeO.bind ?_ (fun _ => ?_))
   | exact ih0 _ _ _ _ _ _
   | exact ih1 _ _ _ _ _ _ _ _ _ _
   | exact impl_Change_apply.mono _ _ _ _ _
   | exact impl_ColourStates.mono _ _
   | exact impl_LineEnd.mono _ _ _
   | exact impl_LineOf.mono _ _ _
   | exact impl_TextValid.mono _ _
   | exact impl_linesOf.mono _ _
   | exact LeO.none _
   | refine LeO.ite ?_ ?_
   | refine LeO.bind ?_ (fun _ => ?_)
  ·intro y0 y1 y2 y3 y4 y5 y6 y7 y8 y9
   unfold impl_ColourAgain.l0
   repeat' first
   | (with_reducible exact ih0 _ _ _ _ _ _)
   | (with_reducible exact ih1 _ _ _ _ _ _ _ _ _ _)
   | (with_reducible exact impl_Change_apply.mono _ _ _ _ _)
   | (with_reducible exact impl_ColourStates.mono _ _)
   | (with_reducible exact impl_LineEnd.mono _ _ _)
   | (with_reducible exact impl_LineOf.mono _ _ _)
   | (with_reducible exact impl_TextValid.mono _ _)
   | (with_reducible exact impl_linesOf.mono _ _)
   | (with_reducible exact LeO.refl _)
   | (with_reducible exact LeO.none _)
   | (with_reducible refine LeO.ite ?_ ?_)
   | (with_reducible refine LeO.bind ?_ (fun _ => ?_))
   | exact ih0 _ _ _ _ _ _
   | exact ih1 _ _ _ _ _ _ _ _ _ _
   | exact impl_Change_apply.mono _ _ _ _ _
   | exact impl_ColourStates.mono _ _
   | exact impl_LineEnd.mono _ _ _
   | exact impl_LineOf.mono _ _ _
   | exact impl_TextValid.mono _ _
   | exact impl_linesOf.mono _ _
   | exact LeO.none _
   | refine LeO.ite ?_ ?_
   | refine LeO.bind ?_ (fun _ => ?_)
theorem impl_ColourAgain.mono : ∀ a0 a1 a2 a3 k, LeO (impl_ColourAgain.f k a0 a1 a2 a3) (impl_ColourAgain.f (k + 1) a0 a1 a2 a3) := by
 intro a0 a1 a2 a3 k
 obtain ⟨ih0, ih1⟩ := impl_ColourAgain.mono_l k
 unfold impl_ColourAgain.f
 repeat' first
   | (with_reducible exact ih0 _ _ _ _ _ _)
   | (with_reducible exact ih1 _ _ _ _ _ _ _ _ _ _)
   | (with_reducible exact impl_Change_apply.mono _ _ _ _ _)
   | (with_reducible exact impl_ColourStates.mono _ _)
   | (with_reducible exact impl_LineEnd.mono _ _ _)
   | (with_reducible exact impl_LineOf.mono _ _ _)
   | (with_reducible exact impl_TextValid.mono _ _)
   | (with_reducible exact impl_linesOf.mono _ _)
   | (with_reducible exact LeO.refl _)
   | (with_reducible exact LeO.none _)
   | (with_reducible refine LeO.ite ?_ ?_)
   | (with_reducible refine LeO.bind ?_ (fun _ => ?_))
   | exact ih0 _ _ _ _ _ _
   | exact ih1 _ _ _ _ _ _ _ _ _ _
   | exact impl_Change_apply.mono _ _ _ _ _
   | exact impl_ColourStates.mono _ _
   | exact impl_LineEnd.mono _ _ _
   | exact impl_LineOf.mono _ _ _
   | exact impl_TextValid.mono _ _
   | exact impl_linesOf.mono _ _
   | exact LeO.none _
   | refine LeO.ite ?_ ?_
   | refine LeO.bind ?_ (fun _ => ?_)
def impl_ColourAgain.T13 : Bool × List (List Nat × List Nat) := (true, [([], []), ([], []), ([0, 1], [0, 1]), ([2], [2]), ([], []), ([], []), ([4, 5], [4, 5]), ([6], [6]), ([3, 7], [3, 7]), ([8], [8]), ([9], [9]), ([9], [9]), ([10, 8, 0, 1, 2, 3, 4, 5, 6, 7, 8, 9, 10], [10]), ([11, 12, 0, 1, 2, 3, 4, 5, 6, 7, 8, 9, 10, 11, 12], [11])])
def impl_ColourAgain.B13 : List Nat := [0, 0, 3, 7, 0, 0, 48, 112, 255, 511, 1023, 1023, 2047, 8191]
theorem impl_ColourAgain.tab13 : rtab .any (opsOf Tryd.f31 13) = impl_ColourAgain.T13 := by kernel_rfl
theorem impl_ColourAgain.bits13 : waitsOk impl_ColourAgain.T13.2 impl_ColourAgain.B13 = true := by kernel_rfl
def impl_ColourAgain.T16 : Bool × List (List Nat × List Nat) := (true, [([], []), ([], []), ([0, 1], [0, 1]), ([], []), ([3], [3]), ([], []), ([5], [5]), ([6], [6]), ([4, 7], [4, 7]), ([2, 8], [2, 8]), ([9, 2], [9]), ([10], [10]), ([10], [10]), ([10], [10]), ([13, 10], [10, 13]), ([10], [10]), ([14, 15, 10], [10, 14, 15]), ([12, 16, 10], [10, 12, 16]), ([17, 10], [10, 17]), ([11, 18, 10], [10, 11, 18]), ([10, 19], [10, 19])])
def impl_ColourAgain.B16 : List Nat := [0, 0, 3, 0, 8, 0, 32, 96, 248, 511, 1023, 2047, 2047, 2047, 10239, 2047, 59391, 129023, 260095, 524287, 1048575]
theorem impl_ColourAgain.tab16 : rtab .any (opsOf Tryd.f31 16) = impl_ColourAgain.T16 := by kernel_rfl
theorem impl_ColourAgain.bits16 : waitsOk impl_ColourAgain.T16.2 impl_ColourAgain.B16 = true := by kernel_rfl
set_option maxHeartbeats 8000000 in
set_option maxRecDepth 100000 in
theorem impl_ColourAgain.calls (k : Nat) (a0 : ByteArray) (a1_0 : Int) (a1_1 : Int) (a1_2 : ByteArray) (r1 : List Int) (r2 : Int) (w : World) (h : impl_ColourAgain.f k a0 a1_0 a1_1 a1_2 = some (r1, r2)) :
  Calls Tryd.prog 31 #[.string a0, .agg #[.int .i64 a1_0, .int .i64 a1_1, .string a1_2]] w fun e w' => ∃ v0_ : Value, e = .returned (.tuple #[v0_, .int .i64 r2]) ∧ Kd.R (Kd.int .i64) 3 w' w.heap.size (fun _ => True) v0_ r1 ∧ Below w.heap.size w w' := by
 have hu43 := Tryd.underlying43
 have HB := Aside0.mk (Below.refl w.heap.size w)
 have H : ((impl_Change_apply.f k a1_0 a1_1 a1_2 a0).bind fun bt419 => ((impl_TextValid.f k a0).bind fun t421 => (if t421 = true then (impl_ColourAgain.j0 k a0 bt419.1 (!bt419.2) a1_0 a1_1 a1_2) else (impl_ColourAgain.j0 k a0 bt419.1 true a1_0 a1_1 a1_2)))) = some (r1, r2) := h
 clear h
 replace H := Option.bind_eq_some_iff.mp H
 obtain ⟨⟨t419, t420⟩, A30, H⟩ := H
 replace H : ((impl_TextValid.f k a0).bind fun t421 => (if t421 = true then (impl_ColourAgain.j0 k a0 t419 (!t420) a1_0 a1_1 a1_2) else (impl_ColourAgain.j0 k a0 t419 true a1_0 a1_1 a1_2))) = some (r1, r2) := H
 have A3 := Aside0.mk A30
 clear A30
 have HC4 := Aside0.mk H
 clear H
 go_enter Tryd.func31, Tryd.ntmps31
 go_upto_region 2 with (first | ((with_reducible refine gate_dst (N := 3) rfl ?_); refine box_event ?hg (N := 3) ?hd (cs := #[.int .i64 a1_0, .int .i64 a1_1, .string a1_2]) (t := 43) ?hr ?_; (case hd => rfl); (case hg => rfl); (case hr => first | (go_simp; done) | (go_simp; rfl) | (simp only [i64_w]; first | (go_simp; done) | (go_simp; rfl))); intro gb418 hg w5 hbox hb; have n0_ := Aside0.mk (below_step (by repeat (first | (with_reducible first | exact HB.out | apply below_alloc | apply pw_below_drewN | apply below_drew1) | exact HB.out)) hb); have n1_ := Aside0.mk (hbox); have n2_ := Aside0.mk ((by rw [hg]; exact (below_size (by repeat (first | (with_reducible first | exact HB.out | apply below_alloc | apply pw_below_drewN | apply below_drew1) | exact HB.out))) : w.heap.size ≤ gb418)); have n3_ := Aside0.mk ((by rw [hg]; exact (below_size (by repeat (first | (with_reducible first | exact HB.out | apply below_alloc | apply pw_below_drewN | apply below_drew1) | exact HB.out))) : w.heap.size ≤ gb418)); clear HB; have HB := n0_; have BK418 := n1_; have GW418 := n2_; have GE418 := n3_; clear n0_ n1_ n2_ n3_; clear hb hbox hg; have hcz6_0 : w5.cell? ⟨gb418, 0, none⟩ = some (.int .i64 a1_0) := (blk_cell BK418.out 0).trans rfl; have hcz6_1 : w5.cell? ⟨gb418, 1, none⟩ = some (.int .i64 a1_1) := (blk_cell BK418.out 1).trans rfl; have hcz6_2 : w5.cell? ⟨gb418, 2, none⟩ = some (.string a1_2) := (blk_cell BK418.out 2).trans rfl; have hfz6_0 := blk_frozen BK418.out 0; have hfz6_1 := blk_frozen BK418.out 1; have hfz6_2 := blk_frozen BK418.out 2) | ((with_reducible refine gate_callee (f := 49) rfl ?_); refine goesL_ (some 20) rfl rfl Tryd.func49 (by kernel_rfl) rfl #[.agg #[.int .i64 a1_0, .int .i64 a1_1, .string a1_2], .string a0] rfl (by (try simp only [List.map_toArray, List.map_cons, List.map_nil]); first | done | rfl | (simp only [List.length_drop, List.length_take]; rfl)) ?_; (with_reducible refine (impl_Change_apply.calls k a1_0 a1_1 a1_2 a0 t419 t420 _ A3.out).mono ?_); rintro e w7 ⟨rfl, hb⟩; refine ⟨_, rfl, ?_⟩; have n0_ := Aside0.mk (blk_below (g := gb418) (o := .cells #[.int .i64 a1_0, .int .i64 a1_1, .string a1_2] 43 (0, 0)) (by (with_reducible repeat (first | refine blk_drewN ?_ _ | refine blk_drew ?_ | refine blk_alloc ?_ _)); exact BK418.out) hb); have n1_ := Aside0.mk (below_step (by repeat (first | (with_reducible first | exact HB.out | apply below_alloc | apply pw_below_drewN | apply below_drew1 | refine below_set ?_ GE418.out) | exact HB.out)) hb); clear BK418; clear HB; have BK418 := n0_; have HB := n1_; clear n0_ n1_; (try clear hb); (try clear hb2); (try clear hk); (try clear hi)))
 (try simp only [Act.put, List.setIfInBounds_toArray, List.set_cons_zero, List.set_cons_succ])
 go_cut [29] (fun v29 wc => ∃ (kq : Nat) (x29_3 : Bool), v29 = .bool x29_3 ∧ Aside0 (impl_ColourAgain.j0 kq a0 t419 x29_3 a1_0 a1_1 a1_2 = some (r1, r2)) ∧ Aside0 (kq ≤ k) ∧ Aside0 (wc.heap[gb418]? = some (.cells #[.int .i64 a1_0, .int .i64 a1_1, .string a1_2] 43 (0, 0))) ∧ Aside0 (Below w.heap.size w wc))
 case first =>
  have H := HC4.out
  clear HC4
  replace H := Option.bind_eq_some_iff.mp H
  obtain ⟨t421, A80, H⟩ := H
  replace H : (if t421 = true then (impl_ColourAgain.j0 k a0 t419 (!t420) a1_0 a1_1 a1_2) else (impl_ColourAgain.j0 k a0 t419 true a1_0 a1_1 a1_2)) = some (r1, r2) := H
  have A8 := Aside0.mk A80
  clear A80
  by_cases c9 : t421 = true
  ·subst c9
   have H1 : (impl_ColourAgain.j0 k a0 t419 (!t420) a1_0 a1_1 a1_2) = some (r1, r2) := by rw [if_pos rfl] at H; exact H
   clear H
   have H := H1
   clear H1
   have H' := Aside0.mk H
   clear H
   go_wp2_with (first | ((with_reducible refine gate_callee (f := 37) rfl ?_); refine goesL_ (some 24) rfl rfl Tryd.func37 (by kernel_rfl) rfl #[.string a0] rfl (by (try simp only [List.map_toArray, List.map_cons, List.map_nil]); first | done | rfl | (simp only [List.length_drop, List.length_take]; rfl)) ?_; (with_reducible refine (impl_TextValid.calls k a0 true _ A8.out).mono ?_); rintro e w' ⟨rfl, ⟨nd, rfl⟩⟩; refine ⟨_, rfl, ?_⟩))
   go_meet
   case rel => exact ⟨_, (!t420), (by first | rfl | (simp; done) | (simp [*]; done)), H', ⟨by first | omega | exact Nat.le_refl _⟩, ⟨by (with_reducible repeat (first | refine blk_drewN ?_ _ | refine blk_drew ?_ | refine blk_alloc ?_ _)); exact BK418.out⟩, ⟨by repeat (first | (with_reducible first | exact HB.out | apply below_alloc | apply pw_below_drewN | apply below_drew1 | refine below_set ?_ GE418.out) | exact HB.out)⟩⟩
  ·replace c9 := Bool.eq_false_iff.mpr c9
   subst c9
   have H1 : (impl_ColourAgain.j0 k a0 t419 true a1_0 a1_1 a1_2) = some (r1, r2) := by rw [if_neg (show ¬ (false = true) by decide)] at H; exact H
   clear H
   have H := H1
   clear H1
   have H' := Aside0.mk H
   clear H
   go_wp2_with (first | ((with_reducible refine gate_callee (f := 37) rfl ?_); refine goesL_ (some 24) rfl rfl Tryd.func37 (by kernel_rfl) rfl #[.string a0] rfl (by (try simp only [List.map_toArray, List.map_cons, List.map_nil]); first | done | rfl | (simp only [List.length_drop, List.length_take]; rfl)) ?_; (with_reducible refine (impl_TextValid.calls k a0 false _ A8.out).mono ?_); rintro e w' ⟨rfl, ⟨nd, rfl⟩⟩; refine ⟨_, rfl, ?_⟩))
   go_meet
   case rel => exact ⟨_, (true), (by first | rfl | (simp; done) | (simp [*]; done)), H', ⟨by first | omega | exact Nat.le_refl _⟩, ⟨by (with_reducible repeat (first | refine blk_drewN ?_ _ | refine blk_drew ?_ | refine blk_alloc ?_ _)); exact BK418.out⟩, ⟨by repeat (first | (with_reducible first | exact HB.out | apply below_alloc | apply pw_below_drewN | apply below_drew1 | refine below_set ?_ GE418.out) | exact HB.out)⟩⟩
 case rest =>
  clear HC4
  try clear p2
  try clear c3
  try clear c4
  try clear c9
  try clear hcz6_0
  try clear hcz6_1
  try clear hcz6_2
  try clear hfz6_0
  try clear hfz6_1
  try clear hfz6_2
  obtain ⟨kq, x29_3, rfl, HA, HJ3, BK418, HB⟩ := hcut
  cases kq with
  | zero => exact absurd HA.out (by simp [impl_ColourAgain.j0])
  | succ kj3 =>
   have H := HA.out
   clear HA
   simp only [impl_ColourAgain.j0] at H
   by_cases c10 : x29_3 = true
   ·subst c10
    have H1 : (some (([] : List Int), (-1))) = some (r1, r2) := by rw [if_pos rfl] at H; exact H
    clear H
    have H := H1
    clear H1
    simp only [Option.some.injEq, Prod.mk.injEq] at H
    obtain ⟨rfl, rfl⟩ := H
    go_wp2
    go_ret2
    exact ⟨_, by first | rfl | (simp [errW_none, errW_some] <;> rfl) | (simp [*, errW_none, errW_some] <;> rfl), by first | exact Kd.R_nil _ _ _ _ _ | exact Kd.N_nil _ _ _ _ _ | exact Kd.V_nil _ _ _ _ _ | exact Kd.Q_nil _ _ _ _ _ | exact Kd.S_nil _ _ _ _ _, by repeat (first | (with_reducible first | exact HB.out | apply below_alloc | apply pw_below_drewN | apply below_drew1 | refine below_set ?_ GE418.out) | exact HB.out)⟩
   ·replace c10 := Bool.eq_false_iff.mpr c10
    subst c10
    have H1 : ((impl_ColourStates.f kj3 a0).bind fun t422 => ((impl_linesOf.f kj3 t419).bind fun t425 => ((impl_LineOf.f kj3 t419 a1_0).bind fun t428 => (if 0 ≤ (wrap64 (t428 + 1)) then (if (wrap64 (t428 + 1)) ≤ (t422.length : Int) then ((some (t422.take ((wrap64 (t428 + 1)) : Int).toNat : List Int)).bind fun y429 => (if ([] : List Int).length + y429.length < 17592186044416 then (impl_ColourAgain.l0 kj3 t419 t422 t425 (([] : List Int) ++ y429) (wrap64 ((wrap64 ((t425.length : Int) + 1)) - (t422.length : Int))) 0 t428 a1_0 a1_1 a1_2) else (none))) else (none)) else (none))))) = some (r1, r2) := by rw [if_neg (show ¬ (false = true) by decide)] at H; exact H
    clear H
    have H := H1
    clear H1
    replace H := Option.bind_eq_some_iff.mp H
    obtain ⟨t422, A110, H⟩ := H
    replace H : ((impl_linesOf.f kj3 t419).bind fun t425 => ((impl_LineOf.f kj3 t419 a1_0).bind fun t428 => (if 0 ≤ (wrap64 (t428 + 1)) then (if (wrap64 (t428 + 1)) ≤ (t422.length : Int) then ((some (t422.take ((wrap64 (t428 + 1)) : Int).toNat : List Int)).bind fun y429 => (if ([] : List Int).length + y429.length < 17592186044416 then (impl_ColourAgain.l0 kj3 t419 t422 t425 (([] : List Int) ++ y429) (wrap64 ((wrap64 ((t425.length : Int) + 1)) - (t422.length : Int))) 0 t428 a1_0 a1_1 a1_2) else (none))) else (none)) else (none)))) = some (r1, r2) := H
    have A11 := Aside0.mk A110
    clear A110
    replace H := Option.bind_eq_some_iff.mp H
    obtain ⟨t425, A120, H⟩ := H
    replace H : ((impl_LineOf.f kj3 t419 a1_0).bind fun t428 => (if 0 ≤ (wrap64 (t428 + 1)) then (if (wrap64 (t428 + 1)) ≤ (t422.length : Int) then ((some (t422.take ((wrap64 (t428 + 1)) : Int).toNat : List Int)).bind fun y429 => (if ([] : List Int).length + y429.length < 17592186044416 then (impl_ColourAgain.l0 kj3 t419 t422 t425 (([] : List Int) ++ y429) (wrap64 ((wrap64 ((t425.length : Int) + 1)) - (t422.length : Int))) 0 t428 a1_0 a1_1 a1_2) else (none))) else (none)) else (none))) = some (r1, r2) := H
    have A12 := Aside0.mk A120
    clear A120
    replace H := Option.bind_eq_some_iff.mp H
    obtain ⟨t428, A130, H⟩ := H
    replace H : (if 0 ≤ (wrap64 (t428 + 1)) then (if (wrap64 (t428 + 1)) ≤ (t422.length : Int) then ((some (t422.take ((wrap64 (t428 + 1)) : Int).toNat : List Int)).bind fun y429 => (if ([] : List Int).length + y429.length < 17592186044416 then (impl_ColourAgain.l0 kj3 t419 t422 t425 (([] : List Int) ++ y429) (wrap64 ((wrap64 ((t425.length : Int) + 1)) - (t422.length : Int))) 0 t428 a1_0 a1_1 a1_2) else (none))) else (none)) else (none)) = some (r1, r2) := H
    have A13 := Aside0.mk A130
    clear A130
    obtain ⟨ji14, hji14⟩ : ∃ j_ : Int, (wrap64 (t428 + 1)) = j_ := ⟨_, rfl⟩
    replace H : (if 0 ≤ (ji14) then (if (ji14) ≤ (t422.length : Int) then ((some (t422.take ((ji14) : Int).toNat : List Int)).bind fun y429 => (if ([] : List Int).length + y429.length < 17592186044416 then (impl_ColourAgain.l0 kj3 t419 t422 t425 (([] : List Int) ++ y429) (wrap64 ((wrap64 ((t425.length : Int) + 1)) - (t422.length : Int))) 0 t428 a1_0 a1_1 a1_2) else (none))) else (none)) else (none)) = some (r1, r2) := by first | (rw [hji14] at H; exact H) | (simp only [hji14] at H ⊢; exact H)
    (try rw [hji14] at A11)
    (try rw [hji14] at A12)
    (try rw [hji14] at A13)
    have hji14w : (IntKind.i64.wrap (t428 + 1)) = ji14 := (i64_w _).trans hji14
    by_cases c15 : 0 ≤ (ji14)
    ·rw [if_pos c15] at H
     have c15b0 := eq_true c15
     have c15b1 : decide (0 ≤ (ji14)) = true := decide_eq_true c15
     clear c15
     by_cases c16 : (ji14) ≤ (t422.length : Int)
     ·rw [if_pos c16] at H
      have c16b0 := eq_true c16
      have c16b1 : decide ((ji14) ≤ (t422.length : Int)) = true := decide_eq_true c16
      clear c16
      obtain ⟨y429, hy429⟩ : ∃ y_ : List Int, y_ = (t422.take ((ji14) : Int).toNat) := ⟨_, rfl⟩
      replace H : (if ([] : List Int).length + y429.length < 17592186044416 then (impl_ColourAgain.l0 kj3 t419 t422 t425 (([] : List Int) ++ y429) (wrap64 ((wrap64 ((t425.length : Int) + 1)) - (t422.length : Int))) 0 t428 a1_0 a1_1 a1_2) else (none)) = some (r1, r2) := by first | (rw [hy429]; with_reducible exact H) | (have H2_ := (Option.bind_some _ _).symm.trans H; rw [hy429]; with_reducible exact H2_) | (have H2_ := (Option.bind_some _ _).symm.trans H; with_reducible exact H2_) | with_reducible exact H | (rw [hy429]; exact H) | exact H
      have Ny429 := Aside0.mk hy429
      clear hy429
      by_cases c17 : ([] : List Int).length + y429.length < 17592186044416
      ·rw [if_pos c17] at H
       have LMc17 := Aside0.mk c17
       clear c17
       obtain ⟨y433, hy433⟩ : ∃ y_ : List Int, y_ = (([] : List Int) ++ y429) := ⟨_, rfl⟩
       replace H : (impl_ColourAgain.l0 kj3 t419 t422 t425 y433 (wrap64 ((wrap64 ((t425.length : Int) + 1)) - (t422.length : Int))) 0 t428 a1_0 a1_1 a1_2) = some (r1, r2) := by first | (rw [hy433]; with_reducible exact H) | (have H2_ := (Option.bind_some _ _).symm.trans H; rw [hy433]; with_reducible exact H2_) | (have H2_ := (Option.bind_some _ _).symm.trans H; with_reducible exact H2_) | with_reducible exact H | (rw [hy433]; exact H) | exact H
       have Ny433 := Aside0.mk hy433
       clear hy433
       have H' := Aside0.mk H
       clear H
       go_wp2_with (first | ((with_reducible refine gate_callee (f := 11) rfl ?_); refine goesL_ (some 31) rfl rfl Tryd.func11 (by kernel_rfl) rfl #[.string a0] rfl (by (try simp only [List.map_toArray, List.map_cons, List.map_nil]); first | done | rfl | (simp only [List.length_drop, List.length_take]; rfl)) ?_; (with_reducible refine (impl_ColourStates.calls kj3 a0 t422 _ A11.out).mono ?_); rintro e w18 ⟨v423, rfl, ho0, hb⟩; refine ⟨_, rfl, ?_⟩; have n0_ := Aside0.mk (Kd.R_lower ho0 (below_size (by repeat (first | (with_reducible first | exact HB.out | apply below_alloc | apply pw_below_drewN | apply below_drew1 | refine below_set ?_ GE418.out) | exact HB.out)))); have n1_ := Aside0.mk (blk_below (g := gb418) (o := .cells #[.int .i64 a1_0, .int .i64 a1_1, .string a1_2] 43 (0, 0)) (by (with_reducible repeat (first | refine blk_drewN ?_ _ | refine blk_drew ?_ | refine blk_alloc ?_ _)); exact BK418.out) hb); have n2_ := Aside0.mk (below_step (by repeat (first | (with_reducible first | exact HB.out | apply below_alloc | apply pw_below_drewN | apply below_drew1 | refine below_set ?_ GE418.out) | exact HB.out)) hb); clear BK418; clear HB; have HO424 := n0_; have BK418 := n1_; have HB := n2_; clear n0_ n1_ n2_; (try clear hb); (try clear hb2); (try clear hk); (try clear hi); (try clear ho0)) | ((with_reducible refine gate_callee (f := 38) rfl ?_); refine goesL_ (some 33) rfl rfl Tryd.func38 (by kernel_rfl) rfl #[.string t419] rfl (by (try simp only [List.map_toArray, List.map_cons, List.map_nil]); first | done | rfl | (simp only [List.length_drop, List.length_take]; rfl)) ?_; (with_reducible refine (impl_linesOf.calls kj3 t419 t425 _ A12.out).mono ?_); rintro e w19 ⟨v426, rfl, ho0, hb⟩; refine ⟨_, rfl, ?_⟩; have n0_ := Aside0.mk (Kd.R_below (by (with_reducible repeat (first | apply Kd.R_alloc | apply Kd.R_drewN | apply Kd.R_drew)); exact HO424.out) hb); have n1_ := Aside0.mk (Kd.R_lower ho0 (below_size (by repeat (first | (with_reducible first | exact HB.out | apply below_alloc | apply pw_below_drewN | apply below_drew1 | refine below_set ?_ GE418.out) | exact HB.out)))); have n2_ := Aside0.mk (blk_below (g := gb418) (o := .cells #[.int .i64 a1_0, .int .i64 a1_1, .string a1_2] 43 (0, 0)) (by (with_reducible repeat (first | refine blk_drewN ?_ _ | refine blk_drew ?_ | refine blk_alloc ?_ _)); exact BK418.out) hb); have n3_ := Aside0.mk (below_step (by repeat (first | (with_reducible first | exact HB.out | apply below_alloc | apply pw_below_drewN | apply below_drew1 | refine below_set ?_ GE418.out) | exact HB.out)) hb); clear HO424; clear BK418; clear HB; have HO424 := n0_; have HO427 := n1_; have BK418 := n2_; have HB := n3_; clear n0_ n1_ n2_ n3_; (try clear hb); (try clear hb2); (try clear hk); (try clear hi); (try clear ho0); have hcz20_0 : w19.cell? ⟨gb418, 0, none⟩ = some (.int .i64 a1_0) := (blk_cell BK418.out 0).trans rfl; have hcz20_1 : w19.cell? ⟨gb418, 1, none⟩ = some (.int .i64 a1_1) := (blk_cell BK418.out 1).trans rfl; have hcz20_2 : w19.cell? ⟨gb418, 2, none⟩ = some (.string a1_2) := (blk_cell BK418.out 2).trans rfl; have hfz20_0 := blk_frozen BK418.out 0; have hfz20_1 := blk_frozen BK418.out 1; have hfz20_2 := blk_frozen BK418.out 2) | ((with_reducible refine gate_callee (f := 50) rfl ?_); refine goesL_ (some 37) rfl rfl Tryd.func50 (by kernel_rfl) rfl #[.string t419, .int .i64 a1_0] rfl (by (try simp only [List.map_toArray, List.map_cons, List.map_nil]); first | done | rfl | (simp only [List.length_drop, List.length_take]; rfl)) ?_; (with_reducible refine (impl_LineOf.calls kj3 t419 a1_0 t428 _ A13.out).mono ?_); rintro e w' ⟨rfl, ⟨nd, rfl⟩⟩; refine ⟨_, rfl, ?_⟩; obtain ⟨Ao22, co22, eo22⟩ := Kd.R_slice HO424.out; subst eo22; have q21 : ((ji14) : Int) ≤ ((t422.length : Int) : Int) := of_decide_eq_true (by first | (with_reducible assumption) | assumption); obtain ⟨i021, hi021, _, hsz21, _⟩ := info_parts info3; have hroom21 : t422.length ≤ co22 := (Kd.R_reads' HO424.out).2.1; have hC21 : Kd.C (Kd.int .i64) _ Ao22 t422.length t422 := (Kd.R_reads' HO424.out).2.2; have hcut21 := cut_to (P := Tryd.prog) 22 3 .i64 Tryd.underlying22 hi021 Ao22 t422.length co22 (ji14) (of_decide_eq_true (by first | (with_reducible assumption) | assumption)) q21 hroom21; have hr21 := Kd.C_take (m := ((ji14) : Int).toNat) hC21 (by omega); have hy21 : y429.length = ((ji14) : Int).toNat := (by rw [Ny429.out, List.length_take]; omega); rw [← Ny429.out] at hr21; rw [← hy21] at hcut21; have HR432 := Aside0.mk hr21; have HC432 := Aside0.mk (show y429.length ≤ co22 from by omega); clear hr21 hC21 hroom21 hi021 hsz21; have KY21 := Aside0.mk hy21; clear hy21; have KL21 := Aside0.mk (show ((ji14) : Int).toNat ≤ t422.length from by omega); replace q21 := eq_true q21) | ((with_reducible refine gate_builtin (b := .append) (xs := #[.const (.slice none 0 0), .tmp 41]) rfl ?_); at_builtin; refine Kd.R_append_rows (Kd.int .i64) (w0 := w) w.heap.size rfl (.const (.slice none 0 0)) (.tmp 41) 22 3 (.int .i64 0) 8 rfl Tryd.underlying22 info3 rfl (by decide) (by omega) (.slice none 0 0) ([] : List Int) y429 _ _ _ (fun k_ => some k_ ≠ (.slice Ao22 t422.length co22 : Value).ownBlock) (fun _ => False) rfl rfl ?aO ?aR (fun _ _ h => h) (fun _ h => h.elim) ?aF ?aB ?aS ?aL ?_; (case aR => repeat (first | exact (by repeat (first | (with_reducible exact HR432.out) | (with_reducible refine Kd.C_alloc ?_ _) | (with_reducible refine Kd.C_drewN ?_ _) | (with_reducible refine Kd.C_drew ?_) | exact HR432.out)) | (with_reducible refine Kd.C_alloc ?_ _) | (with_reducible refine Kd.C_drewN ?_ _) | (with_reducible refine Kd.C_drew ?_))); (case aB => exact (by repeat (first | (with_reducible first | exact HB.out | apply below_alloc | apply pw_below_drewN | apply below_drew1 | refine below_set ?_ GE418.out) | exact HB.out))); (case aF => exact (fun k_ hk => Kd.fresh' (Kd.R_lt (by (with_reducible repeat (first | apply Kd.R_alloc | apply Kd.R_drewN | apply Kd.R_drew)); exact HO424.out)) k_ hk)); (case aO => exact ((Kd.R_nil _ _ _ _ (fun k_ => some k_ ≠ (.slice Ao22 t422.length co22 : Value).ownBlock)))); (case aS => exact (below_size (by repeat (first | (with_reducible first | exact HB.out | apply below_alloc | apply pw_below_drewN | apply below_drew1 | refine below_set ?_ GE418.out) | exact HB.out)))); (case aL => have := LMc17.out; omega); intro v434 w23 ho hb hg hat; rw [← Ny433.out] at ho; have n0_ := Aside0.mk (blk_grown (g := gb418) (o := .cells #[.int .i64 a1_0, .int .i64 a1_1, .string a1_2] 43 (0, 0)) (by (with_reducible repeat (first | refine blk_drewN ?_ _ | refine blk_drew ?_ | refine blk_alloc ?_ _)); exact BK418.out) hg (by simp [Value.ownBlock])); have n1_ := Aside0.mk (Kd.R_after (Kd.R_apart_nil (by (with_reducible repeat (first | apply Kd.R_alloc | apply Kd.R_drewN | apply Kd.R_drew)); exact HO424.out)) hg hat); have n2_ := Aside0.mk (Kd.R_grown (by (with_reducible repeat (first | apply Kd.R_alloc | apply Kd.R_drewN | apply Kd.R_drew)); exact HO427.out) hg (fun _ _ => by simp [Value.ownBlock])); have n3_ := Aside0.mk (hb); have n4_ := Aside0.mk ((show Kd.C (Kd.int .i64) w23 Ao22 y429.length y429 from by rw [Ny429.out]; exact Kd.C_take (m := ((ji14) : Int).toNat) ((Kd.R_reads' (Kd.R_after (Kd.R_apart_nil (by (with_reducible repeat (first | apply Kd.R_alloc | apply Kd.R_drewN | apply Kd.R_drew)); exact HO424.out)) hg hat)).2.2) KL21.out)); have n5_ := Aside0.mk (ho); clear BK418; clear HO424; clear HO427; clear HB; clear HR432; have BK418 := n0_; have HO424 := n1_; have HO427 := n2_; have HB := n3_; have HR432 := n4_; have HO435 := n5_; clear n0_ n1_ n2_ n3_ n4_ n5_; clear ho hb hg hat; obtain ⟨Ao24, co24, eo24⟩ := Kd.R_slice HO427.out; subst eo24))
       go_loopg [11, 13, 14] kj3 (fun kq v11 v13 v14 w' => ∃ (x11_2 : List Int) (x13_2 : Int) (x14_2 : Int), v13 = .int .i64 x13_2 ∧ v14 = .int .i64 x14_2 ∧ Aside0 (impl_ColourAgain.l0 kq t419 t422 t425 x11_2 (wrap64 ((wrap64 ((t425.length : Int) + 1)) - (t422.length : Int))) x13_2 x14_2 a1_0 a1_1 a1_2 = some (r1, r2)) ∧ Aside0 (kq ≤ kj3) ∧ Aside0 (Kd.R (Kd.int .i64) 3 w' w.heap.size (fun k_ => some k_ ≠ (v11 : Value).ownBlock) (.slice Ao22 t422.length co22) t422) ∧ Aside0 (Kd.R Kd.string 9 w' w.heap.size (fun _ => True) (.slice Ao24 t425.length co24) t425) ∧ Aside0 (Kd.R (Kd.int .i64) 3 w' w.heap.size (fun k_ => some k_ ≠ ((.slice Ao22 t422.length co22) : Value).ownBlock) v11 x11_2) ∧ Aside0 (w'.heap[gb418]? = some (.cells #[.int .i64 a1_0, .int .i64 a1_1, .string a1_2] 43 (0, 0))) ∧ Aside0 (Below w.heap.size w w'))
       case atStart => exact ⟨(y433), (0), (t428), (by first | rfl | (simp; done) | (simp [*]; done)), (by first | rfl | (simp; done) | (simp [*]; done)), H', ⟨Nat.le_refl _⟩, ⟨by (with_reducible repeat (first | apply Kd.R_alloc | apply Kd.R_drewN | apply Kd.R_drew)); exact Kd.R_mono HO424.out (fun _ hk => hk.2)⟩, ⟨by (with_reducible repeat (first | apply Kd.R_alloc | apply Kd.R_drewN | apply Kd.R_drew)); exact HO427.out⟩, ⟨by (with_reducible repeat (first | apply Kd.R_alloc | apply Kd.R_drewN | apply Kd.R_drew)); exact HO435.out⟩, ⟨by (with_reducible repeat (first | refine blk_drewN ?_ _ | refine blk_drew ?_ | refine blk_alloc ?_ _)); exact BK418.out⟩, ⟨by repeat (first | (with_reducible first | exact HB.out | apply below_alloc | apply pw_below_drewN | apply below_drew1 | refine below_set ?_ GE418.out) | exact HB.out)⟩⟩
       case round =>
        clear H'
        try clear c1
        try clear p2
        try clear q2
        try clear c3
        try clear c4
        try clear c5
        try clear p6
        try clear c9
        try clear c10
        try clear c11
        try clear c15
        try clear c15b0
        try clear c15b1
        try clear c16
        try clear c16b0
        try clear c16b1
        try clear c17
        try clear q21
        try clear hcz20_0
        try clear hcz20_1
        try clear hcz20_2
        try clear hcz6_0
        try clear hcz6_1
        try clear hcz6_2
        try clear hfz20_0
        try clear hfz20_1
        try clear hfz20_2
        try clear hfz6_0
        try clear hfz6_1
        try clear hfz6_2
        try clear p2
        try clear q21
        obtain ⟨x11_2, x13_2, x14_2, rfl, rfl, HA, HK2, HO_8, HO_9, HO_11, BK418, HB⟩ := hrel
        cases gk with
        | zero => exact absurd HA.out (by simp [impl_ColourAgain.l0])
        | succ k2 =>
         have H := HA.out
         clear HA
         simp only [impl_ColourAgain.l0] at H
         by_cases c25 : x14_2 < (t425.length : Int)
         ·rw [if_pos c25] at H
          have c25b0 : decide (x14_2 < (t425.length : Int)) = true := decide_eq_true c25
          clear c25
          by_cases c26 : 0 ≤ x14_2
          ·rw [if_pos c26] at H
           have c26b0 : decide (0 ≤ x14_2) = true := decide_eq_true c26
           clear c26
           by_cases c27 : x14_2 < (x11_2.length : Int)
           ·rw [if_pos c27] at H
            have c27b0 : decide (x14_2 < (x11_2.length : Int)) = true := decide_eq_true c27
            clear c27
            replace H := Option.bind_eq_some_iff.mp H
            obtain ⟨⟨t438, t439⟩, A280, H⟩ := H
            replace H : (if x11_2.length < 17592186044416 then ((some (x11_2 ++ [t438] : List Int)).bind fun y440 => ((impl_LineEnd.f k2 t419 x14_2).bind fun t443 => (if t443 ≥ (wrap64 (a1_0 + (a1_2.size : Int))) then (if 0 ≤ (wrap64 ((wrap64 (x14_2 + 1)) - (wrap64 ((wrap64 ((t425.length : Int) + 1)) - (t422.length : Int))))) then (if (wrap64 ((wrap64 (x14_2 + 1)) - (wrap64 ((wrap64 ((t425.length : Int) + 1)) - (t422.length : Int))))) < (t422.length : Int) then (if t438 = (rd t422 (wrap64 ((wrap64 (x14_2 + 1)) - (wrap64 ((wrap64 ((t425.length : Int) + 1)) - (t422.length : Int)))))) then (if 0 ≤ (wrap64 ((wrap64 (x14_2 + 2)) - (wrap64 ((wrap64 ((t425.length : Int) + 1)) - (t422.length : Int))))) then (if (wrap64 ((wrap64 (x14_2 + 2)) - (wrap64 ((wrap64 ((t425.length : Int) + 1)) - (t422.length : Int))))) ≤ (t422.length : Int) then ((some (t422.drop ((wrap64 ((wrap64 (x14_2 + 2)) - (wrap64 ((wrap64 ((t425.length : Int) + 1)) - (t422.length : Int))))) : Int).toNat : List Int)).bind fun y445 => (if y440.length + y445.length < 17592186044416 then (some ((y440 ++ y445), wrap64 (x13_2 + 1))) else (none))) else (none)) else (none)) else (impl_ColourAgain.l0 k2 t419 t422 t425 y440 (wrap64 ((wrap64 ((t425.length : Int) + 1)) - (t422.length : Int))) (wrap64 (x13_2 + 1)) (wrap64 (x14_2 + 1)) a1_0 a1_1 a1_2)) else (none)) else (none)) else (impl_ColourAgain.l0 k2 t419 t422 t425 y440 (wrap64 ((wrap64 ((t425.length : Int) + 1)) - (t422.length : Int))) (wrap64 (x13_2 + 1)) (wrap64 (x14_2 + 1)) a1_0 a1_1 a1_2)))) else (none)) = some (r1, r2) := H
            have A28 := Aside0.mk A280
            clear A280
            by_cases c29 : x11_2.length < 17592186044416
            ·rw [if_pos c29] at H
             have LMc29 := Aside0.mk c29
             clear c29
             obtain ⟨y440, hy440⟩ : ∃ y_ : List Int, y_ = (x11_2 ++ [t438]) := ⟨_, rfl⟩
             replace H : ((impl_LineEnd.f k2 t419 x14_2).bind fun t443 => (if t443 ≥ (wrap64 (a1_0 + (a1_2.size : Int))) then (if 0 ≤ (wrap64 ((wrap64 (x14_2 + 1)) - (wrap64 ((wrap64 ((t425.length : Int) + 1)) - (t422.length : Int))))) then (if (wrap64 ((wrap64 (x14_2 + 1)) - (wrap64 ((wrap64 ((t425.length : Int) + 1)) - (t422.length : Int))))) < (t422.length : Int) then (if t438 = (rd t422 (wrap64 ((wrap64 (x14_2 + 1)) - (wrap64 ((wrap64 ((t425.length : Int) + 1)) - (t422.length : Int)))))) then (if 0 ≤ (wrap64 ((wrap64 (x14_2 + 2)) - (wrap64 ((wrap64 ((t425.length : Int) + 1)) - (t422.length : Int))))) then (if (wrap64 ((wrap64 (x14_2 + 2)) - (wrap64 ((wrap64 ((t425.length : Int) + 1)) - (t422.length : Int))))) ≤ (t422.length : Int) then ((some (t422.drop ((wrap64 ((wrap64 (x14_2 + 2)) - (wrap64 ((wrap64 ((t425.length : Int) + 1)) - (t422.length : Int))))) : Int).toNat : List Int)).bind fun y445 => (if y440.length + y445.length < 17592186044416 then (some ((y440 ++ y445), wrap64 (x13_2 + 1))) else (none))) else (none)) else (none)) else (impl_ColourAgain.l0 k2 t419 t422 t425 y440 (wrap64 ((wrap64 ((t425.length : Int) + 1)) - (t422.length : Int))) (wrap64 (x13_2 + 1)) (wrap64 (x14_2 + 1)) a1_0 a1_1 a1_2)) else (none)) else (none)) else (impl_ColourAgain.l0 k2 t419 t422 t425 y440 (wrap64 ((wrap64 ((t425.length : Int) + 1)) - (t422.length : Int))) (wrap64 (x13_2 + 1)) (wrap64 (x14_2 + 1)) a1_0 a1_1 a1_2))) = some (r1, r2) := by first | (rw [hy440]; with_reducible exact H) | (have H2_ := (Option.bind_some _ _).symm.trans H; rw [hy440]; with_reducible exact H2_) | (have H2_ := (Option.bind_some _ _).symm.trans H; with_reducible exact H2_) | with_reducible exact H | (rw [hy440]; exact H) | exact H
             have Ny440 := Aside0.mk hy440
             clear hy440
             replace H := Option.bind_eq_some_iff.mp H
             obtain ⟨t443, A300, H⟩ := H
             replace H : (if t443 ≥ (wrap64 (a1_0 + (a1_2.size : Int))) then (if 0 ≤ (wrap64 ((wrap64 (x14_2 + 1)) - (wrap64 ((wrap64 ((t425.length : Int) + 1)) - (t422.length : Int))))) then (if (wrap64 ((wrap64 (x14_2 + 1)) - (wrap64 ((wrap64 ((t425.length : Int) + 1)) - (t422.length : Int))))) < (t422.length : Int) then (if t438 = (rd t422 (wrap64 ((wrap64 (x14_2 + 1)) - (wrap64 ((wrap64 ((t425.length : Int) + 1)) - (t422.length : Int)))))) then (if 0 ≤ (wrap64 ((wrap64 (x14_2 + 2)) - (wrap64 ((wrap64 ((t425.length : Int) + 1)) - (t422.length : Int))))) then (if (wrap64 ((wrap64 (x14_2 + 2)) - (wrap64 ((wrap64 ((t425.length : Int) + 1)) - (t422.length : Int))))) ≤ (t422.length : Int) then ((some (t422.drop ((wrap64 ((wrap64 (x14_2 + 2)) - (wrap64 ((wrap64 ((t425.length : Int) + 1)) - (t422.length : Int))))) : Int).toNat : List Int)).bind fun y445 => (if y440.length + y445.length < 17592186044416 then (some ((y440 ++ y445), wrap64 (x13_2 + 1))) else (none))) else (none)) else (none)) else (impl_ColourAgain.l0 k2 t419 t422 t425 y440 (wrap64 ((wrap64 ((t425.length : Int) + 1)) - (t422.length : Int))) (wrap64 (x13_2 + 1)) (wrap64 (x14_2 + 1)) a1_0 a1_1 a1_2)) else (none)) else (none)) else (impl_ColourAgain.l0 k2 t419 t422 t425 y440 (wrap64 ((wrap64 ((t425.length : Int) + 1)) - (t422.length : Int))) (wrap64 (x13_2 + 1)) (wrap64 (x14_2 + 1)) a1_0 a1_1 a1_2)) = some (r1, r2) := H
             have A30 := Aside0.mk A300
             clear A300
             by_cases c31 : t443 ≥ (wrap64 (a1_0 + (a1_2.size : Int)))
             ·rw [if_pos c31] at H
              have c31b0 : decide ((wrap64 (a1_0 + (a1_2.size : Int))) ≤ t443) = true := decide_eq_true c31
              clear c31
              obtain ⟨ji32, hji32⟩ : ∃ j_ : Int, (wrap64 ((wrap64 (x14_2 + 1)) - (wrap64 ((wrap64 ((t425.length : Int) + 1)) - (t422.length : Int))))) = j_ := ⟨_, rfl⟩
              replace H : (if 0 ≤ (ji32) then (if (ji32) < (t422.length : Int) then (if t438 = (rd t422 (ji32)) then (if 0 ≤ (wrap64 ((wrap64 (x14_2 + 2)) - (wrap64 ((wrap64 ((t425.length : Int) + 1)) - (t422.length : Int))))) then (if (wrap64 ((wrap64 (x14_2 + 2)) - (wrap64 ((wrap64 ((t425.length : Int) + 1)) - (t422.length : Int))))) ≤ (t422.length : Int) then ((some (t422.drop ((wrap64 ((wrap64 (x14_2 + 2)) - (wrap64 ((wrap64 ((t425.length : Int) + 1)) - (t422.length : Int))))) : Int).toNat : List Int)).bind fun y445 => (if y440.length + y445.length < 17592186044416 then (some ((y440 ++ y445), wrap64 (x13_2 + 1))) else (none))) else (none)) else (none)) else (impl_ColourAgain.l0 k2 t419 t422 t425 y440 (wrap64 ((wrap64 ((t425.length : Int) + 1)) - (t422.length : Int))) (wrap64 (x13_2 + 1)) (wrap64 (x14_2 + 1)) a1_0 a1_1 a1_2)) else (none)) else (none)) = some (r1, r2) := by first | (rw [hji32] at H; exact H) | (simp only [hji32] at H ⊢; exact H)
              (try rw [hji32] at A28)
              (try rw [hji32] at A30)
              have hji32w : (IntKind.i64.wrap ((wrap64 (x14_2 + 1)) - (wrap64 ((wrap64 ((t425.length : Int) + 1)) - (t422.length : Int))))) = ji32 := (i64_w _).trans hji32
              by_cases c33 : 0 ≤ (ji32)
              ·rw [if_pos c33] at H
               have c33b0 : decide (0 ≤ (ji32)) = true := decide_eq_true c33
               clear c33
               by_cases c34 : (ji32) < (t422.length : Int)
               ·rw [if_pos c34] at H
                have c34b0 : decide ((ji32) < (t422.length : Int)) = true := decide_eq_true c34
                clear c34
                by_cases c35 : t438 = (rd t422 (ji32))
                ·rw [if_pos c35] at H
                 have c35b0 : (t438 == (rd t422 (ji32))) = true := beq_iff_eq.mpr c35
                 have c35b1 : (t438 != (rd t422 (ji32))) = false := bne_eq_false_iff_eq.mpr c35
                 clear c35
                 obtain ⟨ji36, hji36⟩ : ∃ j_ : Int, (wrap64 ((wrap64 (x14_2 + 2)) - (wrap64 ((wrap64 ((t425.length : Int) + 1)) - (t422.length : Int))))) = j_ := ⟨_, rfl⟩
                 replace H : (if 0 ≤ (ji36) then (if (ji36) ≤ (t422.length : Int) then ((some (t422.drop ((ji36) : Int).toNat : List Int)).bind fun y445 => (if y440.length + y445.length < 17592186044416 then (some ((y440 ++ y445), wrap64 (x13_2 + 1))) else (none))) else (none)) else (none)) = some (r1, r2) := by first | (rw [hji36] at H; exact H) | (simp only [hji36] at H ⊢; exact H)
                 (try rw [hji36] at A28)
                 (try rw [hji36] at A30)
                 have hji36w : (IntKind.i64.wrap ((wrap64 (x14_2 + 2)) - (wrap64 ((wrap64 ((t425.length : Int) + 1)) - (t422.length : Int))))) = ji36 := (i64_w _).trans hji36
                 by_cases c37 : 0 ≤ (ji36)
                 ·rw [if_pos c37] at H
                  have c37b0 := eq_true c37
                  have c37b1 : decide (0 ≤ (ji36)) = true := decide_eq_true c37
                  clear c37
                  by_cases c38 : (ji36) ≤ (t422.length : Int)
                  ·rw [if_pos c38] at H
                   have c38b0 := eq_true c38
                   have c38b1 : decide ((ji36) ≤ (t422.length : Int)) = true := decide_eq_true c38
                   clear c38
                   obtain ⟨y445, hy445⟩ : ∃ y_ : List Int, y_ = (t422.drop ((ji36) : Int).toNat) := ⟨_, rfl⟩
                   replace H : (if y440.length + y445.length < 17592186044416 then (some ((y440 ++ y445), wrap64 (x13_2 + 1))) else (none)) = some (r1, r2) := by first | (rw [hy445]; with_reducible exact H) | (have H2_ := (Option.bind_some _ _).symm.trans H; rw [hy445]; with_reducible exact H2_) | (have H2_ := (Option.bind_some _ _).symm.trans H; with_reducible exact H2_) | with_reducible exact H | (rw [hy445]; exact H) | exact H
                   have Ny445 := Aside0.mk hy445
                   clear hy445
                   by_cases c39 : y440.length + y445.length < 17592186044416
                   ·rw [if_pos c39] at H
                    have LMc39 := Aside0.mk c39
                    clear c39
                    obtain ⟨y449, hy449⟩ : ∃ y_ : List Int, y_ = (y440 ++ y445) := ⟨_, rfl⟩
                    replace H : (some (y449, wrap64 (x13_2 + 1))) = some (r1, r2) := by first | (rw [hy449]; with_reducible exact H) | (have H2_ := (Option.bind_some _ _).symm.trans H; rw [hy449]; with_reducible exact H2_) | (have H2_ := (Option.bind_some _ _).symm.trans H; with_reducible exact H2_) | with_reducible exact H | (rw [hy449]; exact H) | exact H
                    have Ny449 := Aside0.mk hy449
                    clear hy449
                    simp only [Option.some.injEq, Prod.mk.injEq] at H
                    obtain ⟨rfl, rfl⟩ := H
                    try go_wp2
                    have n0_ := Aside0.mk (Kd.R_drew HO_8.out)
                    have n1_ := Aside0.mk (Kd.R_drew HO_9.out)
                    have n2_ := Aside0.mk (Kd.R_drew HO_11.out)
                    have n3_ := Aside0.mk (blk_drew BK418.out)
                    have n4_ := Aside0.mk (below_drew1 HB.out)
                    clear HO_8
                    clear HO_9
                    clear HO_11
                    clear BK418
                    clear HB
                    have HO_8 := n0_
                    have HO_9 := n1_
                    have HO_11 := n2_
                    have BK418 := n3_
                    have HB := n4_
                    clear n0_ n1_ n2_ n3_ n4_
                    obtain ⟨Ao41, co41, eo41⟩ := Kd.R_slice HO_11.out
                    (first | subst eo41 | (injection eo41 with f1_ f2_ f3_; have f4_ := f1_.symm; have f5_ := f3_.symm; clear f1_ f2_ f3_; subst f4_; subst f5_))
                    have p436 : 0 ≤ (x14_2 : Int) := of_decide_eq_true (by first | (with_reducible assumption) | assumption)
                    have q436 : x14_2 < (x11_2.length : Int) := of_decide_eq_true (by first | (with_reducible assumption) | assumption)
                    obtain ⟨ad436, e436, hx436_0⟩ := Kd.at_int (Kd.R_reads' HO_11.out).2.2 x14_2 p436 q436
                    cases e436
                    replace p436 := eq_true p436
                    replace q436 := eq_true q436
                    have p437 : 0 ≤ (x14_2 : Int) := of_decide_eq_true (by first | (with_reducible assumption) | assumption)
                    have q437 : x14_2 < (t425.length : Int) := of_decide_eq_true (by first | (with_reducible assumption) | assumption)
                    obtain ⟨ad437, e437, hx437_0⟩ := Kd.at_string (Kd.R_reads' HO_9.out).2.2 x14_2 p437 q437
                    cases e437
                    replace p437 := eq_true p437
                    replace q437 := eq_true q437
                    refine start_ (n := 14) (S := fun w' => w'.cell? (ad436.add (x14_2).toNat) = some (.int .i64 (rd x11_2 x14_2)) ∧ w'.cell? (ad437.add (x14_2).toNat) = some (.string (rdOf ByteArray.empty t425 x14_2))) (ds := []) #[false, false, false, false, false, false, false, false, false, false, false, false, false, false] (by kernel_rfl) rfl rfl ⟨hx436_0, hx437_0⟩ (fun hHeld => ?_); refine with_tabW impl_ColourAgain.tab13 impl_ColourAgain.bits13 (fun HT_ HW_ => ?_)
                    generalize wr.drew = w40 at HO_8 HO_9 HO_11 BK418 HB hx436_0 hx437_0 hHeld ⊢
                    refine pure_ (i := 0) (N := some 57) (v := ?_) (a' := ?_) #[true, false, false, false, false, false, false, false, false, false, false, false, false, false] rfl rfl (any_of HT_.out (by kernel_rfl)) (fun _ _ _ h => h) (Or.inl ⟨by rfl, ?_⟩) ?_ ?_
                    rotate_left
                    ·intro w'
                     go_simp
                     with_reducible rfl
                    rotate_left
                    ·simp only [Act.put, List.setIfInBounds_toArray, List.set_cons_zero, List.set_cons_succ, i64_w, i32_w]
                     rfl
                    refine pure_ (i := 1) (N := some 58) (v := ?_) (a' := ?_) #[true, true, false, false, false, false, false, false, false, false, false, false, false, false] rfl rfl (any_of HT_.out (by kernel_rfl)) (fun _ _ _ h => h) (Or.inl ⟨by rfl, ?_⟩) ?_ ?_
                    rotate_left
                    ·intro w'
                     go_simp
                     with_reducible rfl
                    rotate_left
                    ·simp only [Act.put, List.setIfInBounds_toArray, List.set_cons_zero, List.set_cons_succ, i64_w, i32_w]
                     rfl
                    refine pure_ (i := 2) (N := some 59) (v := ?_) (a' := ?_) #[true, true, true, false, false, false, false, false, false, false, false, false, false, false] rfl rfl (any_of HT_.out (by kernel_rfl)) (fun _ _ _ h => h) (Or.inl ⟨by rfl, ?_⟩) ?_ ?_
                    rotate_left
                    ·intro w'
                     go_simp
                     with_reducible rfl
                    rotate_left
                    ·simp only [Act.put, List.setIfInBounds_toArray, List.set_cons_zero, List.set_cons_succ, i64_w, i32_w]
                     rfl
                    refine pure_ (i := 4) (N := some 61) (v := ?_) (a' := ?_) #[true, true, true, false, true, false, false, false, false, false, false, false, false, false] rfl rfl (any_of HT_.out (by kernel_rfl)) (fun _ _ _ h => h) (Or.inl ⟨by rfl, ?_⟩) ?_ ?_
                    rotate_left
                    ·intro w'
                     go_simp
                     with_reducible rfl
                    rotate_left
                    ·simp only [Act.put, List.setIfInBounds_toArray, List.set_cons_zero, List.set_cons_succ, i64_w, i32_w]
                     rfl
                    refine pure_ (i := 5) (N := some 62) (v := ?_) (a' := ?_) #[true, true, true, false, true, true, false, false, false, false, false, false, false, false] rfl rfl (any_of HT_.out (by kernel_rfl)) (fun _ _ _ h => h) (Or.inl ⟨by rfl, ?_⟩) ?_ ?_
                    rotate_left
                    ·intro w'
                     go_simp
                     with_reducible rfl
                    rotate_left
                    ·simp only [Act.put, List.setIfInBounds_toArray, List.set_cons_zero, List.set_cons_succ, i64_w, i32_w]
                     rfl
                    refine pure_ (i := 6) (N := some 63) (v := ?_) (a' := ?_) #[true, true, true, false, true, true, true, false, false, false, false, false, false, false] rfl rfl (any_of HT_.out (by kernel_rfl)) (fun _ _ _ h => h) (Or.inl ⟨by rfl, ?_⟩) ?_ ?_
                    rotate_left
                    ·intro w'
                     go_simp
                     with_reducible rfl
                    rotate_left
                    ·simp only [Act.put, List.setIfInBounds_toArray, List.set_cons_zero, List.set_cons_succ, i64_w, i32_w]
                     rfl
                    refine take_ (i := 3) (N := some 60) (v := ?_) (a' := ?_) #[true, true, true, true, true, true, true, false, false, false, false, false, false, false] rfl rfl (take_ofW HT_.out HW_.out (by kernel_rfl)) (fun _ _ _ h => h) (Or.inl ⟨by rfl, ?_⟩) hHeld ?_ ?_
                    rotate_left
                    ·rintro w' ⟨s0, s1⟩
                     go_simp
                     with_reducible rfl
                    rotate_left
                    ·simp only [Act.put, List.setIfInBounds_toArray, List.set_cons_zero, List.set_cons_succ, i64_w, i32_w]
                     rfl
                    refine take_ (i := 7) (N := some 64) (v := ?_) (a' := ?_) #[true, true, true, true, true, true, true, true, false, false, false, false, false, false] rfl rfl (take_ofW HT_.out HW_.out (by kernel_rfl)) (fun _ _ _ h => h) (Or.inl ⟨by rfl, ?_⟩) hHeld ?_ ?_
                    rotate_left
                    ·rintro w' ⟨s0, s1⟩
                     go_simp
                     with_reducible rfl
                    rotate_left
                    ·simp only [Act.put, List.setIfInBounds_toArray, List.set_cons_zero, List.set_cons_succ, i64_w, i32_w]
                     rfl
                    refine one_ (i := 8) (N := some 65) #[true, true, true, true, true, true, true, true, true, false, false, false, false, false] rfl rfl (one_of HT_.out (by kernel_rfl)) (by decide) (fun K hK => ?_)
                    refine goes_ Tryd.func39 (by kernel_rfl) rfl #[.int .i64 (rd x11_2 x14_2), .string (rdOf ByteArray.empty t425 x14_2)] (by rfl) rfl rfl (by (try simp only [List.map_toArray, List.map_cons, List.map_nil]); first | done | rfl | (simp only [List.length_drop, List.length_take]; rfl)) ?_
                    with_reducible refine (impl_colour.calls (rd x11_2 x14_2) (rdOf ByteArray.empty t425 x14_2) t438 t439 _ A28.out).mono ?_
                    rintro e w42 ⟨rfl, hb⟩
                    have HS0_ := (hb.cell (World.block_lt_of_cell? _ _ (hHeld.1))).trans (hHeld.1)
                    have HS1_ := (hb.cell (World.block_lt_of_cell? _ _ (hHeld.2))).trans (hHeld.2)
                    refine ⟨_, rfl, ?_⟩
                    have n0_ := Aside0.mk (Kd.R_below (by (with_reducible repeat (first | apply Kd.R_alloc | apply Kd.R_drewN | apply Kd.R_drew)); exact HO_8.out) hb)
                    have n1_ := Aside0.mk (Kd.R_below (by (with_reducible repeat (first | apply Kd.R_alloc | apply Kd.R_drewN | apply Kd.R_drew)); exact HO_9.out) hb)
                    have n2_ := Aside0.mk (Kd.R_below (by (with_reducible repeat (first | apply Kd.R_alloc | apply Kd.R_drewN | apply Kd.R_drew)); exact HO_11.out) hb)
                    have n3_ := Aside0.mk (blk_below (g := gb418) (o := .cells #[.int .i64 a1_0, .int .i64 a1_1, .string a1_2] 43 (0, 0)) (by (with_reducible repeat (first | refine blk_drewN ?_ _ | refine blk_drew ?_ | refine blk_alloc ?_ _)); exact BK418.out) hb)
                    have n4_ := Aside0.mk (below_step (by repeat (first | (with_reducible first | exact HB.out | apply below_alloc | apply pw_below_drewN | apply below_drew1 | refine below_set ?_ GE418.out) | exact HB.out)) hb)
                    clear HO_8
                    clear HO_9
                    clear HO_11
                    clear BK418
                    clear HB
                    have HO_8 := n0_
                    have HO_9 := n1_
                    have HO_11 := n2_
                    have BK418 := n3_
                    have HB := n4_
                    clear n0_ n1_ n2_ n3_ n4_
                    (try clear hb)
                    (try clear hb2)
                    (try clear hk)
                    (try clear hi)
                    refine hK.out _ _ ⟨HS0_, HS1_⟩ (fun hHeld => ?_)
                    clear hK K
                    refine norm_ (a' := ?_) ?_ ?_
                    rotate_left
                    ·show Act.put _ (some 65) _ = _
                     simp only [Act.put, List.setIfInBounds_toArray, List.set_cons_zero, List.set_cons_succ, i64_w, i32_w]
                     rfl
                    refine pure_ (i := 9) (N := some 56) (v := ?_) (a' := ?_) #[true, true, true, true, true, true, true, true, true, true, false, false, false, false] rfl rfl (any_of HT_.out (by kernel_rfl)) (fun _ _ _ h => h) (Or.inl ⟨by rfl, ?_⟩) ?_ ?_
                    rotate_left
                    ·intro w'
                     go_simp
                     with_reducible rfl
                    rotate_left
                    ·simp only [Act.put, List.setIfInBounds_toArray, List.set_cons_zero, List.set_cons_succ, i64_w, i32_w]
                     rfl
                    refine pure_ (i := 10) (N := some 66) (v := ?_) (a' := ?_) #[true, true, true, true, true, true, true, true, true, true, true, false, false, false] rfl rfl (any_of HT_.out (by kernel_rfl)) (fun _ _ _ h => h) (Or.inl ⟨by rfl, ?_⟩) ?_ ?_
                    rotate_left
                    ·intro w'
                     go_simp
                     with_reducible rfl
                    rotate_left
                    ·simp only [Act.put, List.setIfInBounds_toArray, List.set_cons_zero, List.set_cons_succ, i64_w, i32_w]
                     rfl
                    refine pure_ (i := 11) (N := some 67) (v := ?_) (a' := ?_) #[true, true, true, true, true, true, true, true, true, true, true, true, false, false] rfl rfl (any_of HT_.out (by kernel_rfl)) (fun _ _ _ h => h) (Or.inl ⟨by rfl, ?_⟩) ?_ ?_
                    rotate_left
                    ·intro w'
                     go_simp
                     with_reducible rfl
                    rotate_left
                    ·simp only [Act.put, List.setIfInBounds_toArray, List.set_cons_zero, List.set_cons_succ, i64_w, i32_w]
                     rfl
                    refine pure_ (i := 12) (N := some 15) (v := ?_) (a' := ?_) #[true, true, true, true, true, true, true, true, true, true, true, true, true, false] rfl rfl (any_of HT_.out (by kernel_rfl)) (fun _ _ _ h => h) (Or.inl ⟨by rfl, ?_⟩) ?_ ?_
                    rotate_left
                    ·intro w'
                     go_simp
                     with_reducible rfl
                    rotate_left
                    ·simp only [Act.put, List.setIfInBounds_toArray, List.set_cons_zero, List.set_cons_succ, i64_w, i32_w]
                     rfl
                    refine pure_ (i := 13) (N := some 16) (v := ?_) (a' := ?_) #[true, true, true, true, true, true, true, true, true, true, true, true, true, true] rfl rfl (any_of HT_.out (by kernel_rfl)) (fun _ _ _ h => h) (Or.inl ⟨by rfl, ?_⟩) ?_ ?_
                    rotate_left
                    ·intro w'
                     go_simp
                     with_reducible rfl
                    rotate_left
                    ·simp only [Act.put, List.setIfInBounds_toArray, List.set_cons_zero, List.set_cons_succ, i64_w, i32_w]
                     rfl
                    refine done_ (done_of HT_.out (by kernel_rfl)) ?_
                    try go_wp2_with (first | ((with_reducible refine gate_builtin (b := .append) (xs := #[.tmp 68, .tmp 70]) rfl ?_); at_builtin; refine Kd.R_append (Kd.int .i64) (w0 := w) w.heap.size rfl (.tmp 68) (.tmp 70) 22 3 (.int .i64 0) 8 rfl Tryd.underlying22 info3 rfl (by decide) (by omega) (.slice (some ad436) x11_2.length co41) x11_2 t438 [.int .i64 t438] (fun k_ => some k_ ≠ (.slice Ao22 t422.length co22 : Value).ownBlock) (fun _ => False) rfl rfl ?aP (fun _ hk => hk.elim) ?aF ?aO ?aB ?aS ?aL ?_; (case aP => exact rfl); (case aB => exact (by repeat (first | (with_reducible first | exact HB.out | apply below_alloc | apply pw_below_drewN | apply below_drew1 | refine below_set ?_ GE418.out) | exact HB.out))); (case aF => exact (fun k_ hk => Kd.fresh' (Kd.R_lt (by (with_reducible repeat (first | apply Kd.R_alloc | apply Kd.R_drewN | apply Kd.R_drew)); exact HO_8.out)) k_ hk)); (case aO => exact (by (with_reducible repeat (first | apply Kd.R_alloc | apply Kd.R_drewN | apply Kd.R_drew)); exact HO_11.out)); (case aS => exact (below_size (by repeat (first | (with_reducible first | exact HB.out | apply below_alloc | apply pw_below_drewN | apply below_drew1 | refine below_set ?_ GE418.out) | exact HB.out)))); (case aL => have := LMc29.out; omega); intro v441 w43 ho hb hg hat; rw [← Ny440.out] at ho; have n0_ := Aside0.mk (Kd.R_after (ok := (fun _ => True)) (by (with_reducible repeat (first | apply Kd.R_alloc | apply Kd.R_drewN | apply Kd.R_drew)); exact Kd.R_mono HO_8.out (fun _ hk => ⟨trivial, hk⟩)) hg hat); have n1_ := Aside0.mk (Kd.R_over' (by (with_reducible repeat (first | apply Kd.R_alloc | apply Kd.R_drewN | apply Kd.R_drew)); exact HO_9.out) (Kd.R_typed (by (with_reducible repeat (first | apply Kd.R_alloc | apply Kd.R_drewN | apply Kd.R_drew)); exact HO_11.out)) (by decide) hg); have n2_ := Aside0.mk (blk_grown (g := gb418) (o := .cells #[.int .i64 a1_0, .int .i64 a1_1, .string a1_2] 43 (0, 0)) (by (with_reducible repeat (first | refine blk_drewN ?_ _ | refine blk_drew ?_ | refine blk_alloc ?_ _)); exact BK418.out) hg (Kd.R_ne HO_11.out BK418.out (by decide))); have n3_ := Aside0.mk (hb); have n4_ := Aside0.mk (ho); clear HO_8; clear HO_9; clear BK418; clear HB; clear HO_11; have HO_8 := n0_; have HO_9 := n1_; have BK418 := n2_; have HB := n3_; have HO442 := n4_; clear n0_ n1_ n2_ n3_ n4_; clear ho hb hg hat))
                    have n0_ := Aside0.mk (Kd.R_drew HO_8.out)
                    have n1_ := Aside0.mk (Kd.R_drew HO_9.out)
                    have n2_ := Aside0.mk (Kd.R_drew HO442.out)
                    have n3_ := Aside0.mk (blk_drew BK418.out)
                    have n4_ := Aside0.mk (below_drew1 HB.out)
                    clear HO_8
                    clear HO_9
                    clear HO442
                    clear BK418
                    clear HB
                    have HO_8 := n0_
                    have HO_9 := n1_
                    have HO442 := n2_
                    have BK418 := n3_
                    have HB := n4_
                    clear n0_ n1_ n2_ n3_ n4_
                    have p444 : 0 ≤ ((ji32) : Int) := of_decide_eq_true (by first | (with_reducible assumption) | assumption)
                    have q444 : (ji32) < (t422.length : Int) := of_decide_eq_true (by first | (with_reducible assumption) | assumption)
                    obtain ⟨ad444, e444, hx444_0⟩ := Kd.at_int (Kd.R_reads' HO_8.out).2.2 (ji32) p444 q444
                    cases e444
                    replace p444 := eq_true p444
                    replace q444 := eq_true q444
                    refine start_ (n := 21) (S := fun w' => w'.cell? ⟨gb418, 0, none⟩ = some (.int .i64 a1_0) ∧ w'.cell? ⟨gb418, 1, none⟩ = some (.int .i64 a1_1) ∧ w'.cell? ⟨gb418, 2, none⟩ = some (.string a1_2) ∧ w'.cell? (ad444.add ((ji32)).toNat) = some (.int .i64 (rd t422 (ji32)))) (ds := []) #[false, false, false, false, false, false, false, false, false, false, false, false, false, false, false, false, false, false, false, false, false] (by kernel_rfl) rfl rfl ⟨(blk_cell BK418.out 0).trans rfl, (blk_cell BK418.out 1).trans rfl, (blk_cell BK418.out 2).trans rfl, hx444_0⟩ (fun hHeld => ?_); refine with_tabW impl_ColourAgain.tab16 impl_ColourAgain.bits16 (fun HT_ HW_ => ?_)
                    generalize w43.drew = w44 at HO_8 HO_9 HO442 BK418 HB hx444_0 hHeld ⊢
                    refine pure_ (i := 0) (N := some 74) (v := ?_) (a' := ?_) #[true, false, false, false, false, false, false, false, false, false, false, false, false, false, false, false, false, false, false, false, false] rfl rfl (any_of HT_.out (by kernel_rfl)) (fun _ _ _ h => h) (Or.inl ⟨by rfl, ?_⟩) ?_ ?_
                    rotate_left
                    ·intro w'
                     go_simp
                     with_reducible rfl
                    rotate_left
                    ·simp only [Act.put, List.setIfInBounds_toArray, List.set_cons_zero, List.set_cons_succ, i64_w, i32_w]
                     rfl
                    refine pure_ (i := 1) (N := some 75) (v := ?_) (a' := ?_) #[true, true, false, false, false, false, false, false, false, false, false, false, false, false, false, false, false, false, false, false, false] rfl rfl (any_of HT_.out (by kernel_rfl)) (fun _ _ _ h => h) (Or.inl ⟨by rfl, ?_⟩) ?_ ?_
                    rotate_left
                    ·intro w'
                     go_simp
                     with_reducible rfl
                    rotate_left
                    ·simp only [Act.put, List.setIfInBounds_toArray, List.set_cons_zero, List.set_cons_succ, i64_w, i32_w]
                     rfl
                    refine pure_ (i := 3) (N := some 77) (v := ?_) (a' := ?_) #[true, true, false, true, false, false, false, false, false, false, false, false, false, false, false, false, false, false, false, false, false] rfl rfl (any_of HT_.out (by kernel_rfl)) (fun _ _ _ h => h) (Or.inl ⟨by rfl, ?_⟩) ?_ ?_
                    rotate_left
                    ·intro w'
                     go_simp
                     with_reducible rfl
                    rotate_left
                    ·simp only [Act.put, List.setIfInBounds_toArray, List.set_cons_zero, List.set_cons_succ, i64_w, i32_w]
                     rfl
                    refine pure_ (i := 5) (N := some 79) (v := ?_) (a' := ?_) #[true, true, false, true, false, true, false, false, false, false, false, false, false, false, false, false, false, false, false, false, false] rfl rfl (any_of HT_.out (by kernel_rfl)) (fun _ _ _ h => h) (Or.inl ⟨by rfl, ?_⟩) ?_ ?_
                    rotate_left
                    ·intro w'
                     go_simp
                     with_reducible rfl
                    rotate_left
                    ·simp only [Act.put, List.setIfInBounds_toArray, List.set_cons_zero, List.set_cons_succ, i64_w, i32_w]
                     rfl
                    refine take_ (i := 4) (N := some 78) (v := ?_) (a' := ?_) #[true, true, false, true, true, true, false, false, false, false, false, false, false, false, false, false, false, false, false, false, false] rfl rfl (take_ofW HT_.out HW_.out (by kernel_rfl)) (fun _ _ _ h => h) (Or.inl ⟨by rfl, ?_⟩) hHeld ?_ ?_
                    rotate_left
                    ·rintro w' ⟨s0, s1, s2, s3⟩
                     go_simp
                     with_reducible rfl
                    rotate_left
                    ·simp only [Act.put, List.setIfInBounds_toArray, List.set_cons_zero, List.set_cons_succ, i64_w, i32_w]
                     rfl
                    refine take_ (i := 6) (N := some 80) (v := ?_) (a' := ?_) #[true, true, false, true, true, true, true, false, false, false, false, false, false, false, false, false, false, false, false, false, false] rfl rfl (take_ofW HT_.out HW_.out (by kernel_rfl)) (fun _ _ _ h => h) (Or.inl ⟨by rfl, ?_⟩) hHeld ?_ ?_
                    rotate_left
                    ·rintro w' ⟨s0, s1, s2, s3⟩
                     go_simp
                     with_reducible rfl
                    rotate_left
                    ·simp only [Act.put, List.setIfInBounds_toArray, List.set_cons_zero, List.set_cons_succ, i64_w, i32_w]
                     rfl
                    refine pure_ (i := 7) (N := some 81) (v := ?_) (a' := ?_) #[true, true, false, true, true, true, true, true, false, false, false, false, false, false, false, false, false, false, false, false, false] rfl rfl (any_of HT_.out (by kernel_rfl)) (fun _ _ _ h => h) (Or.inl ⟨by rfl, ?_⟩) ?_ ?_
                    rotate_left
                    ·intro w'
                     go_simp
                     with_reducible rfl
                    rotate_left
                    ·simp only [Act.put, List.setIfInBounds_toArray, List.set_cons_zero, List.set_cons_succ, i64_w, i32_w]
                     rfl
                    refine pure_ (i := 8) (N := some 82) (v := ?_) (a' := ?_) #[true, true, false, true, true, true, true, true, true, false, false, false, false, false, false, false, false, false, false, false, false] rfl rfl (any_of HT_.out (by kernel_rfl)) (fun _ _ _ h => h) (Or.inl ⟨by rfl, ?_⟩) ?_ ?_
                    rotate_left
                    ·intro w'
                     go_simp
                     with_reducible rfl
                    rotate_left
                    ·simp only [Act.put, List.setIfInBounds_toArray, List.set_cons_zero, List.set_cons_succ, i64_w, i32_w]
                     rfl
                    refine one_ (i := 2) (N := some 76) #[true, true, true, true, true, true, true, true, true, false, false, false, false, false, false, false, false, false, false, false, false] rfl rfl (one_of HT_.out (by kernel_rfl)) (by decide) (fun K hK => ?_)
                    refine goes_ Tryd.func51 (by kernel_rfl) rfl #[.string t419, .int .i64 x14_2] (by rfl) rfl rfl (by (try simp only [List.map_toArray, List.map_cons, List.map_nil]); first | done | rfl | (simp only [List.length_drop, List.length_take]; rfl)) ?_
                    with_reducible refine (impl_LineEnd.calls k2 t419 x14_2 t443 _ A30.out).mono ?_
                    rintro e w45 ⟨rfl, hb⟩
                    have HS3_ := (hb.cell (World.block_lt_of_cell? _ _ (hHeld.2.2.2))).trans (hHeld.2.2.2)
                    refine ⟨_, rfl, ?_⟩
                    have n0_ := Aside0.mk (Kd.R_below (by (with_reducible repeat (first | apply Kd.R_alloc | apply Kd.R_drewN | apply Kd.R_drew)); exact HO_8.out) hb)
                    have n1_ := Aside0.mk (Kd.R_below (by (with_reducible repeat (first | apply Kd.R_alloc | apply Kd.R_drewN | apply Kd.R_drew)); exact HO_9.out) hb)
                    have n2_ := Aside0.mk (Kd.R_below (by (with_reducible repeat (first | apply Kd.R_alloc | apply Kd.R_drewN | apply Kd.R_drew)); exact HO442.out) hb)
                    have n3_ := Aside0.mk (blk_below (g := gb418) (o := .cells #[.int .i64 a1_0, .int .i64 a1_1, .string a1_2] 43 (0, 0)) (by (with_reducible repeat (first | refine blk_drewN ?_ _ | refine blk_drew ?_ | refine blk_alloc ?_ _)); exact BK418.out) hb)
                    have n4_ := Aside0.mk (below_step (by repeat (first | (with_reducible first | exact HB.out | apply below_alloc | apply pw_below_drewN | apply below_drew1 | refine below_set ?_ GE418.out) | exact HB.out)) hb)
                    clear HO_8
                    clear HO_9
                    clear HO442
                    clear BK418
                    clear HB
                    have HO_8 := n0_
                    have HO_9 := n1_
                    have HO442 := n2_
                    have BK418 := n3_
                    have HB := n4_
                    clear n0_ n1_ n2_ n3_ n4_
                    (try clear hb)
                    (try clear hb2)
                    (try clear hk)
                    (try clear hi)
                    refine hK.out _ _ ⟨(blk_cell BK418.out 0).trans rfl, (blk_cell BK418.out 1).trans rfl, (blk_cell BK418.out 2).trans rfl, HS3_⟩ (fun hHeld => ?_)
                    clear hK K
                    refine norm_ (a' := ?_) ?_ ?_
                    rotate_left
                    ·show Act.put _ (some 76) _ = _
                     simp only [Act.put, List.setIfInBounds_toArray, List.set_cons_zero, List.set_cons_succ, i64_w, i32_w]
                     rfl
                    refine pure_ (i := 9) (N := some 83) (v := ?_) (a' := ?_) #[true, true, true, true, true, true, true, true, true, true, false, false, false, false, false, false, false, false, false, false, false] rfl rfl (any_of HT_.out (by kernel_rfl)) (fun _ _ _ h => h) (Or.inl ⟨by rfl, ?_⟩) ?_ ?_
                    rotate_left
                    ·intro w'
                     go_simp
                     with_reducible rfl
                    rotate_left
                    ·simp only [Act.put, List.setIfInBounds_toArray, List.set_cons_zero, List.set_cons_succ, i64_w, i32_w]
                     rfl
                    refine pure_ (i := 10) (N := some 84) (v := ?_) (a' := ?_) #[true, true, true, true, true, true, true, true, true, true, true, false, false, false, false, false, false, false, false, false, false] rfl rfl (any_of HT_.out (by kernel_rfl)) (fun _ _ _ h => h) (Or.inl ⟨by rfl, ?_⟩) ?_ ?_
                    rotate_left
                    ·intro w'
                     go_simp
                     with_reducible rfl
                    rotate_left
                    ·simp only [Act.put, List.setIfInBounds_toArray, List.set_cons_zero, List.set_cons_succ, i64_w, i32_w]
                     rfl
                    refine pure_ (i := 11) (N := some 85) (v := ?_) (a' := ?_) #[true, true, true, true, true, true, true, true, true, true, true, true, false, false, false, false, false, false, false, false, false] rfl rfl (any_of HT_.out (by kernel_rfl)) (fun _ _ _ h => h) (Or.inl ⟨by rfl, ?_⟩) ?_ ?_
                    rotate_left
                    ·intro w'
                     go_simp
                     with_reducible rfl
                    rotate_left
                    ·simp only [Act.put, List.setIfInBounds_toArray, List.set_cons_zero, List.set_cons_succ, i64_w, i32_w]
                     rfl
                    refine pure_ (i := 12) (N := some 86) (v := ?_) (a' := ?_) #[true, true, true, true, true, true, true, true, true, true, true, true, true, false, false, false, false, false, false, false, false] rfl rfl (any_of HT_.out (by kernel_rfl)) (fun _ _ _ h => h) (Or.inl ⟨by rfl, ?_⟩) ?_ ?_
                    rotate_left
                    ·intro w'
                     go_simp
                     with_reducible rfl
                    rotate_left
                    ·simp only [Act.put, List.setIfInBounds_toArray, List.set_cons_zero, List.set_cons_succ, i64_w, i32_w]
                     rfl
                    refine pure_ (i := 13) (N := some 87) (v := ?_) (a' := ?_) #[true, true, true, true, true, true, true, true, true, true, true, true, true, true, false, false, false, false, false, false, false] rfl rfl (any_of HT_.out (by kernel_rfl)) (fun _ _ _ h => h) (Or.inl ⟨by rfl, ?_⟩) ?_ ?_
                    rotate_left
                    ·intro w'
                     go_simp
                     with_reducible rfl
                    rotate_left
                    ·simp only [Act.put, List.setIfInBounds_toArray, List.set_cons_zero, List.set_cons_succ, i64_w, i32_w]
                     rfl
                    refine pure_ (i := 14) (N := some 88) (v := ?_) (a' := ?_) #[true, true, true, true, true, true, true, true, true, true, true, true, true, true, true, false, false, false, false, false, false] rfl rfl (any_of HT_.out (by kernel_rfl)) (fun _ _ _ h => h) (Or.inl ⟨by rfl, ?_⟩) ?_ ?_
                    rotate_left
                    ·intro w'
                     go_simp
                     with_reducible rfl
                    rotate_left
                    ·simp only [Act.put, List.setIfInBounds_toArray, List.set_cons_zero, List.set_cons_succ, i64_w, i32_w]
                     rfl
                    refine pure_ (i := 15) (N := some 89) (v := ?_) (a' := ?_) #[true, true, true, true, true, true, true, true, true, true, true, true, true, true, true, true, false, false, false, false, false] rfl rfl (any_of HT_.out (by kernel_rfl)) (fun _ _ _ h => h) (Or.inl ⟨by rfl, ?_⟩) ?_ ?_
                    rotate_left
                    ·intro w'
                     go_simp
                     with_reducible rfl
                    rotate_left
                    ·simp only [Act.put, List.setIfInBounds_toArray, List.set_cons_zero, List.set_cons_succ, i64_w, i32_w]
                     rfl
                    refine pure_ (i := 16) (N := some 90) (v := ?_) (a' := ?_) #[true, true, true, true, true, true, true, true, true, true, true, true, true, true, true, true, true, false, false, false, false] rfl rfl (any_of HT_.out (by kernel_rfl)) (fun _ _ _ h => h) (Or.inl ⟨by rfl, ?_⟩) ?_ ?_
                    rotate_left
                    ·intro w'
                     go_simp
                     with_reducible rfl
                    rotate_left
                    ·simp only [Act.put, List.setIfInBounds_toArray, List.set_cons_zero, List.set_cons_succ, i64_w, i32_w]
                     rfl
                    refine pure_ (i := 17) (N := some 91) (v := ?_) (a' := ?_) #[true, true, true, true, true, true, true, true, true, true, true, true, true, true, true, true, true, true, false, false, false] rfl rfl (any_of HT_.out (by kernel_rfl)) (fun _ _ _ h => h) (Or.inl ⟨by rfl, ?_⟩) ?_ ?_
                    rotate_left
                    ·intro w'
                     go_simp
                     with_reducible rfl
                    rotate_left
                    ·simp only [Act.put, List.setIfInBounds_toArray, List.set_cons_zero, List.set_cons_succ, i64_w, i32_w]
                     rfl
                    refine take_ (i := 18) (N := some 92) (v := ?_) (a' := ?_) #[true, true, true, true, true, true, true, true, true, true, true, true, true, true, true, true, true, true, true, false, false] rfl rfl (take_ofW HT_.out HW_.out (by kernel_rfl)) (fun _ _ _ h => h) (Or.inl ⟨by rfl, ?_⟩) hHeld ?_ ?_
                    rotate_left
                    ·rintro w' ⟨s0, s1, s2, s3⟩
                     go_simp
                     with_reducible rfl
                    rotate_left
                    ·simp only [Act.put, List.setIfInBounds_toArray, List.set_cons_zero, List.set_cons_succ, i64_w, i32_w]
                     rfl
                    refine pure_ (i := 19) (N := some 93) (v := ?_) (a' := ?_) #[true, true, true, true, true, true, true, true, true, true, true, true, true, true, true, true, true, true, true, true, false] rfl rfl (any_of HT_.out (by kernel_rfl)) (fun _ _ _ h => h) (Or.inl ⟨by rfl, ?_⟩) ?_ ?_
                    rotate_left
                    ·intro w'
                     go_simp
                     with_reducible rfl
                    rotate_left
                    ·simp only [Act.put, List.setIfInBounds_toArray, List.set_cons_zero, List.set_cons_succ, i64_w, i32_w]
                     rfl
                    refine pure_ (i := 20) (N := some 94) (v := ?_) (a' := ?_) #[true, true, true, true, true, true, true, true, true, true, true, true, true, true, true, true, true, true, true, true, true] rfl rfl (any_of HT_.out (by kernel_rfl)) (fun _ _ _ h => h) (Or.inl ⟨by rfl, ?_⟩) ?_ ?_
                    rotate_left
                    ·intro w'
                     go_simp
                     with_reducible rfl
                    rotate_left
                    ·simp only [Act.put, List.setIfInBounds_toArray, List.set_cons_zero, List.set_cons_succ, i64_w, i32_w]
                     rfl
                    refine done_ (done_of HT_.out (by kernel_rfl)) ?_
                    have q46 : ((ji36) : Int) ≤ ((t422.length : Int) : Int) := of_decide_eq_true (by first | (with_reducible assumption) | assumption)
                    obtain ⟨i046, hi046, _, hsz46, _⟩ := info_parts info3
                    have hroom46 : t422.length ≤ co22 := (Kd.R_reads' HO_8.out).2.1
                    have hC46 : Kd.C (Kd.int .i64) _ (some ad444) t422.length t422 := (Kd.R_reads' HO_8.out).2.2
                    have q046 : (0 : Int) ≤ ((ji36) : Int) := of_decide_eq_true (by first | (with_reducible assumption) | assumption)
                    have hcut46 := cut_from (P := Tryd.prog) 22 3 .i64 Tryd.underlying22 hi046 1 hsz46 (some ad444) t422.length co22 (ji36) q046 q46
                    have hr46 := Kd.C_drop (m := ((ji36) : Int).toNat) (c := co22) hC46 (by omega) hroom46
                    obtain ⟨A46, hA46⟩ : ∃ A1, A1 = (if co22 = ((ji36) : Int).toNat then (some ad444) else ((some ad444) : Option Addr).map (·.add (((ji36) : Int).toNat * 1))) := ⟨_, rfl⟩
                    obtain ⟨c46, hc46⟩ : ∃ c1, c1 = co22 - ((ji36) : Int).toNat := ⟨_, rfl⟩
                    have hy46 : y445.length = t422.length - ((ji36) : Int).toNat := (by rw [Ny445.out, List.length_drop] <;> omega)
                    rw [show (t422).drop ((ji36) : Int).toNat = y445 from Ny445.out.symm] at hr46
                    replace hr46 : Kd.C (Kd.int .i64) _ A46 y445.length y445 := (by rw [hA46]; exact hr46)
                    rw [← hy46, ← hA46, ← hc46] at hcut46
                    have HR448 := Aside0.mk hr46
                    have HC448 := Aside0.mk (show y445.length ≤ c46 from by rw [hy46, hc46]; exact Nat.sub_le_sub_right hroom46 _)
                    clear hr46 hC46 hroom46 hi046 hsz46 hc46
                    have KY46 := Aside0.mk hy46
                    have KA46 := Aside0.mk hA46
                    clear hy46 hA46
                    have KL46 := Aside0.mk (show ((ji36) : Int).toNat ≤ t422.length from by omega)
                    replace q46 := eq_true q46
                    try go_wp2_with (first | ((with_reducible refine gate_builtin (b := .append) (xs := #[.tmp 95, .tmp 101]) rfl ?_); at_builtin; refine Kd.R_append_rows (Kd.int .i64) (w0 := w) w.heap.size rfl (.tmp 95) (.tmp 101) 22 3 (.int .i64 0) 8 rfl Tryd.underlying22 info3 rfl (by decide) (by omega) v441 y440 y445 _ _ _ (fun k_ => some k_ ≠ (.slice (some ad444) t422.length co22 : Value).ownBlock) (fun _ => False) rfl rfl ?aO ?aR (fun _ _ h => h) (fun _ h => h.elim) ?aF ?aB ?aS ?aL ?_; (case aR => repeat (first | exact (by repeat (first | (with_reducible exact HR448.out) | (with_reducible refine Kd.C_alloc ?_ _) | (with_reducible refine Kd.C_drewN ?_ _) | (with_reducible refine Kd.C_drew ?_) | exact HR448.out)) | (with_reducible refine Kd.C_alloc ?_ _) | (with_reducible refine Kd.C_drewN ?_ _) | (with_reducible refine Kd.C_drew ?_))); (case aB => exact (by repeat (first | (with_reducible first | exact HB.out | apply below_alloc | apply pw_below_drewN | apply below_drew1 | refine below_set ?_ GE418.out) | exact HB.out))); (case aF => exact (fun k_ hk => Kd.fresh' (Kd.R_lt (by (with_reducible repeat (first | apply Kd.R_alloc | apply Kd.R_drewN | apply Kd.R_drew)); exact HO_8.out)) k_ hk)); (case aO => exact (by (with_reducible repeat (first | apply Kd.R_alloc | apply Kd.R_drewN | apply Kd.R_drew)); exact HO442.out)); (case aS => exact (below_size (by repeat (first | (with_reducible first | exact HB.out | apply below_alloc | apply pw_below_drewN | apply below_drew1 | refine below_set ?_ GE418.out) | exact HB.out)))); (case aL => have := LMc39.out; omega); intro v450 w47 ho hb hg hat; rw [← Ny449.out] at ho; have n0_ := Aside0.mk (Kd.R_after (ok := (fun _ => True)) (by (with_reducible repeat (first | apply Kd.R_alloc | apply Kd.R_drewN | apply Kd.R_drew)); exact HO_8.out) hg hat); have n1_ := Aside0.mk (Kd.R_over' (by (with_reducible repeat (first | apply Kd.R_alloc | apply Kd.R_drewN | apply Kd.R_drew)); exact HO_9.out) (Kd.R_typed (by (with_reducible repeat (first | apply Kd.R_alloc | apply Kd.R_drewN | apply Kd.R_drew)); exact HO442.out)) (by decide) hg); have n2_ := Aside0.mk (blk_grown (g := gb418) (o := .cells #[.int .i64 a1_0, .int .i64 a1_1, .string a1_2] 43 (0, 0)) (by (with_reducible repeat (first | refine blk_drewN ?_ _ | refine blk_drew ?_ | refine blk_alloc ?_ _)); exact BK418.out) hg (Kd.R_ne HO442.out BK418.out (by decide))); have n3_ := Aside0.mk (hb); have n4_ := Aside0.mk ((show Kd.C (Kd.int .i64) w47 A46 y445.length y445 from by rw [Ny445.out, KA46.out]; exact Kd.C_drop (m := ((ji36) : Int).toNat) (c := co22) ((Kd.R_reads' (Kd.R_after (ok := (fun _ => True)) (by (with_reducible repeat (first | apply Kd.R_alloc | apply Kd.R_drewN | apply Kd.R_drew)); exact HO_8.out) hg hat)).2.2) KL46.out ((Kd.R_reads' (Kd.R_after (ok := (fun _ => True)) (by (with_reducible repeat (first | apply Kd.R_alloc | apply Kd.R_drewN | apply Kd.R_drew)); exact HO_8.out) hg hat)).2.1))); have n5_ := Aside0.mk (ho); clear HO_8; clear HO_9; clear BK418; clear HB; clear HR448; clear HO442; have HO_8 := n0_; have HO_9 := n1_; have BK418 := n2_; have HB := n3_; have HR448 := n4_; have HO451 := n5_; clear n0_ n1_ n2_ n3_ n4_ n5_; clear ho hb hg hat))
                    go_ret2
                    exact ⟨_, by first | rfl | (simp [errW_none, errW_some] <;> rfl) | (simp only [← hji14, ← hji32, ← hji36]; first | rfl | (simp [errW_none, errW_some] <;> rfl)) | (simp [*, errW_none, errW_some] <;> rfl), by (with_reducible repeat (first | apply Kd.R_alloc | apply Kd.R_drewN | apply Kd.R_drew)); exact Kd.R_mono HO451.out (fun _ hk => trivial), by repeat (first | (with_reducible first | exact HB.out | apply below_alloc | apply pw_below_drewN | apply below_drew1 | refine below_set ?_ GE418.out) | exact HB.out)⟩
                   ·rw [if_neg c39] at H
                    exact absurd H (by simp)
                  ·rw [if_neg c38] at H
                   exact absurd H (by simp)
                 ·rw [if_neg c37] at H
                  exact absurd H (by simp)
                ·rw [if_neg c35] at H
                 have c35b0 : (t438 == (rd t422 (ji32))) = false := beq_eq_false_iff_ne.mpr c35
                 have c35b1 : (t438 != (rd t422 (ji32))) = true := bne_iff_ne.mpr c35
                 have H' := Aside0.mk H
                 clear H
                 try go_wp2
                 have n0_ := Aside0.mk (Kd.R_drew HO_8.out)
                 have n1_ := Aside0.mk (Kd.R_drew HO_9.out)
                 have n2_ := Aside0.mk (Kd.R_drew HO_11.out)
                 have n3_ := Aside0.mk (blk_drew BK418.out)
                 have n4_ := Aside0.mk (below_drew1 HB.out)
                 clear HO_8
                 clear HO_9
                 clear HO_11
                 clear BK418
                 clear HB
                 have HO_8 := n0_
                 have HO_9 := n1_
                 have HO_11 := n2_
                 have BK418 := n3_
                 have HB := n4_
                 clear n0_ n1_ n2_ n3_ n4_
                 obtain ⟨Ao49, co49, eo49⟩ := Kd.R_slice HO_11.out
                 (first | subst eo49 | (injection eo49 with f1_ f2_ f3_; have f4_ := f1_.symm; have f5_ := f3_.symm; clear f1_ f2_ f3_; subst f4_; subst f5_))
                 have p436 : 0 ≤ (x14_2 : Int) := of_decide_eq_true (by first | (with_reducible assumption) | assumption)
                 have q436 : x14_2 < (x11_2.length : Int) := of_decide_eq_true (by first | (with_reducible assumption) | assumption)
                 obtain ⟨ad436, e436, hx436_0⟩ := Kd.at_int (Kd.R_reads' HO_11.out).2.2 x14_2 p436 q436
                 cases e436
                 replace p436 := eq_true p436
                 replace q436 := eq_true q436
                 have p437 : 0 ≤ (x14_2 : Int) := of_decide_eq_true (by first | (with_reducible assumption) | assumption)
                 have q437 : x14_2 < (t425.length : Int) := of_decide_eq_true (by first | (with_reducible assumption) | assumption)
                 obtain ⟨ad437, e437, hx437_0⟩ := Kd.at_string (Kd.R_reads' HO_9.out).2.2 x14_2 p437 q437
                 cases e437
                 replace p437 := eq_true p437
                 replace q437 := eq_true q437
                 refine start_ (n := 14) (S := fun w' => w'.cell? (ad436.add (x14_2).toNat) = some (.int .i64 (rd x11_2 x14_2)) ∧ w'.cell? (ad437.add (x14_2).toNat) = some (.string (rdOf ByteArray.empty t425 x14_2))) (ds := []) #[false, false, false, false, false, false, false, false, false, false, false, false, false, false] (by kernel_rfl) rfl rfl ⟨hx436_0, hx437_0⟩ (fun hHeld => ?_); refine with_tabW impl_ColourAgain.tab13 impl_ColourAgain.bits13 (fun HT_ HW_ => ?_)
                 generalize wr.drew = w48 at HO_8 HO_9 HO_11 BK418 HB hx436_0 hx437_0 hHeld ⊢
                 refine pure_ (i := 0) (N := some 57) (v := ?_) (a' := ?_) #[true, false, false, false, false, false, false, false, false, false, false, false, false, false] rfl rfl (any_of HT_.out (by kernel_rfl)) (fun _ _ _ h => h) (Or.inl ⟨by rfl, ?_⟩) ?_ ?_
                 rotate_left
                 ·intro w'
                  go_simp
                  with_reducible rfl
                 rotate_left
                 ·simp only [Act.put, List.setIfInBounds_toArray, List.set_cons_zero, List.set_cons_succ, i64_w, i32_w]
                  rfl
                 refine pure_ (i := 1) (N := some 58) (v := ?_) (a' := ?_) #[true, true, false, false, false, false, false, false, false, false, false, false, false, false] rfl rfl (any_of HT_.out (by kernel_rfl)) (fun _ _ _ h => h) (Or.inl ⟨by rfl, ?_⟩) ?_ ?_
                 rotate_left
                 ·intro w'
                  go_simp
                  with_reducible rfl
                 rotate_left
                 ·simp only [Act.put, List.setIfInBounds_toArray, List.set_cons_zero, List.set_cons_succ, i64_w, i32_w]
                  rfl
                 refine pure_ (i := 2) (N := some 59) (v := ?_) (a' := ?_) #[true, true, true, false, false, false, false, false, false, false, false, false, false, false] rfl rfl (any_of HT_.out (by kernel_rfl)) (fun _ _ _ h => h) (Or.inl ⟨by rfl, ?_⟩) ?_ ?_
                 rotate_left
                 ·intro w'
                  go_simp
                  with_reducible rfl
                 rotate_left
                 ·simp only [Act.put, List.setIfInBounds_toArray, List.set_cons_zero, List.set_cons_succ, i64_w, i32_w]
                  rfl
                 refine pure_ (i := 4) (N := some 61) (v := ?_) (a' := ?_) #[true, true, true, false, true, false, false, false, false, false, false, false, false, false] rfl rfl (any_of HT_.out (by kernel_rfl)) (fun _ _ _ h => h) (Or.inl ⟨by rfl, ?_⟩) ?_ ?_
                 rotate_left
                 ·intro w'
                  go_simp
                  with_reducible rfl
                 rotate_left
                 ·simp only [Act.put, List.setIfInBounds_toArray, List.set_cons_zero, List.set_cons_succ, i64_w, i32_w]
                  rfl
                 refine pure_ (i := 5) (N := some 62) (v := ?_) (a' := ?_) #[true, true, true, false, true, true, false, false, false, false, false, false, false, false] rfl rfl (any_of HT_.out (by kernel_rfl)) (fun _ _ _ h => h) (Or.inl ⟨by rfl, ?_⟩) ?_ ?_
                 rotate_left
                 ·intro w'
                  go_simp
                  with_reducible rfl
                 rotate_left
                 ·simp only [Act.put, List.setIfInBounds_toArray, List.set_cons_zero, List.set_cons_succ, i64_w, i32_w]
                  rfl
                 refine pure_ (i := 6) (N := some 63) (v := ?_) (a' := ?_) #[true, true, true, false, true, true, true, false, false, false, false, false, false, false] rfl rfl (any_of HT_.out (by kernel_rfl)) (fun _ _ _ h => h) (Or.inl ⟨by rfl, ?_⟩) ?_ ?_
                 rotate_left
                 ·intro w'
                  go_simp
                  with_reducible rfl
                 rotate_left
                 ·simp only [Act.put, List.setIfInBounds_toArray, List.set_cons_zero, List.set_cons_succ, i64_w, i32_w]
                  rfl
                 refine take_ (i := 3) (N := some 60) (v := ?_) (a' := ?_) #[true, true, true, true, true, true, true, false, false, false, false, false, false, false] rfl rfl (take_ofW HT_.out HW_.out (by kernel_rfl)) (fun _ _ _ h => h) (Or.inl ⟨by rfl, ?_⟩) hHeld ?_ ?_
                 rotate_left
                 ·rintro w' ⟨s0, s1⟩
                  go_simp
                  with_reducible rfl
                 rotate_left
                 ·simp only [Act.put, List.setIfInBounds_toArray, List.set_cons_zero, List.set_cons_succ, i64_w, i32_w]
                  rfl
                 refine take_ (i := 7) (N := some 64) (v := ?_) (a' := ?_) #[true, true, true, true, true, true, true, true, false, false, false, false, false, false] rfl rfl (take_ofW HT_.out HW_.out (by kernel_rfl)) (fun _ _ _ h => h) (Or.inl ⟨by rfl, ?_⟩) hHeld ?_ ?_
                 rotate_left
                 ·rintro w' ⟨s0, s1⟩
                  go_simp
                  with_reducible rfl
                 rotate_left
                 ·simp only [Act.put, List.setIfInBounds_toArray, List.set_cons_zero, List.set_cons_succ, i64_w, i32_w]
                  rfl
                 refine one_ (i := 8) (N := some 65) #[true, true, true, true, true, true, true, true, true, false, false, false, false, false] rfl rfl (one_of HT_.out (by kernel_rfl)) (by decide) (fun K hK => ?_)
                 refine goes_ Tryd.func39 (by kernel_rfl) rfl #[.int .i64 (rd x11_2 x14_2), .string (rdOf ByteArray.empty t425 x14_2)] (by rfl) rfl rfl (by (try simp only [List.map_toArray, List.map_cons, List.map_nil]); first | done | rfl | (simp only [List.length_drop, List.length_take]; rfl)) ?_
                 with_reducible refine (impl_colour.calls (rd x11_2 x14_2) (rdOf ByteArray.empty t425 x14_2) t438 t439 _ A28.out).mono ?_
                 rintro e w50 ⟨rfl, hb⟩
                 have HS0_ := (hb.cell (World.block_lt_of_cell? _ _ (hHeld.1))).trans (hHeld.1)
                 have HS1_ := (hb.cell (World.block_lt_of_cell? _ _ (hHeld.2))).trans (hHeld.2)
                 refine ⟨_, rfl, ?_⟩
                 have n0_ := Aside0.mk (Kd.R_below (by (with_reducible repeat (first | apply Kd.R_alloc | apply Kd.R_drewN | apply Kd.R_drew)); exact HO_8.out) hb)
                 have n1_ := Aside0.mk (Kd.R_below (by (with_reducible repeat (first | apply Kd.R_alloc | apply Kd.R_drewN | apply Kd.R_drew)); exact HO_9.out) hb)
                 have n2_ := Aside0.mk (Kd.R_below (by (with_reducible repeat (first | apply Kd.R_alloc | apply Kd.R_drewN | apply Kd.R_drew)); exact HO_11.out) hb)
                 have n3_ := Aside0.mk (blk_below (g := gb418) (o := .cells #[.int .i64 a1_0, .int .i64 a1_1, .string a1_2] 43 (0, 0)) (by (with_reducible repeat (first | refine blk_drewN ?_ _ | refine blk_drew ?_ | refine blk_alloc ?_ _)); exact BK418.out) hb)
                 have n4_ := Aside0.mk (below_step (by repeat (first | (with_reducible first | exact HB.out | apply below_alloc | apply pw_below_drewN | apply below_drew1 | refine below_set ?_ GE418.out) | exact HB.out)) hb)
                 clear HO_8
                 clear HO_9
                 clear HO_11
                 clear BK418
                 clear HB
                 have HO_8 := n0_
                 have HO_9 := n1_
                 have HO_11 := n2_
                 have BK418 := n3_
                 have HB := n4_
                 clear n0_ n1_ n2_ n3_ n4_
                 (try clear hb)
                 (try clear hb2)
                 (try clear hk)
                 (try clear hi)
                 refine hK.out _ _ ⟨HS0_, HS1_⟩ (fun hHeld => ?_)
                 clear hK K
                 refine norm_ (a' := ?_) ?_ ?_
                 rotate_left
                 ·show Act.put _ (some 65) _ = _
                  simp only [Act.put, List.setIfInBounds_toArray, List.set_cons_zero, List.set_cons_succ, i64_w, i32_w]
                  rfl
                 refine pure_ (i := 9) (N := some 56) (v := ?_) (a' := ?_) #[true, true, true, true, true, true, true, true, true, true, false, false, false, false] rfl rfl (any_of HT_.out (by kernel_rfl)) (fun _ _ _ h => h) (Or.inl ⟨by rfl, ?_⟩) ?_ ?_
                 rotate_left
                 ·intro w'
                  go_simp
                  with_reducible rfl
                 rotate_left
                 ·simp only [Act.put, List.setIfInBounds_toArray, List.set_cons_zero, List.set_cons_succ, i64_w, i32_w]
                  rfl
                 refine pure_ (i := 10) (N := some 66) (v := ?_) (a' := ?_) #[true, true, true, true, true, true, true, true, true, true, true, false, false, false] rfl rfl (any_of HT_.out (by kernel_rfl)) (fun _ _ _ h => h) (Or.inl ⟨by rfl, ?_⟩) ?_ ?_
                 rotate_left
                 ·intro w'
                  go_simp
                  with_reducible rfl
                 rotate_left
                 ·simp only [Act.put, List.setIfInBounds_toArray, List.set_cons_zero, List.set_cons_succ, i64_w, i32_w]
                  rfl
                 refine pure_ (i := 11) (N := some 67) (v := ?_) (a' := ?_) #[true, true, true, true, true, true, true, true, true, true, true, true, false, false] rfl rfl (any_of HT_.out (by kernel_rfl)) (fun _ _ _ h => h) (Or.inl ⟨by rfl, ?_⟩) ?_ ?_
                 rotate_left
                 ·intro w'
                  go_simp
                  with_reducible rfl
                 rotate_left
                 ·simp only [Act.put, List.setIfInBounds_toArray, List.set_cons_zero, List.set_cons_succ, i64_w, i32_w]
                  rfl
                 refine pure_ (i := 12) (N := some 15) (v := ?_) (a' := ?_) #[true, true, true, true, true, true, true, true, true, true, true, true, true, false] rfl rfl (any_of HT_.out (by kernel_rfl)) (fun _ _ _ h => h) (Or.inl ⟨by rfl, ?_⟩) ?_ ?_
                 rotate_left
                 ·intro w'
                  go_simp
                  with_reducible rfl
                 rotate_left
                 ·simp only [Act.put, List.setIfInBounds_toArray, List.set_cons_zero, List.set_cons_succ, i64_w, i32_w]
                  rfl
                 refine pure_ (i := 13) (N := some 16) (v := ?_) (a' := ?_) #[true, true, true, true, true, true, true, true, true, true, true, true, true, true] rfl rfl (any_of HT_.out (by kernel_rfl)) (fun _ _ _ h => h) (Or.inl ⟨by rfl, ?_⟩) ?_ ?_
                 rotate_left
                 ·intro w'
                  go_simp
                  with_reducible rfl
                 rotate_left
                 ·simp only [Act.put, List.setIfInBounds_toArray, List.set_cons_zero, List.set_cons_succ, i64_w, i32_w]
                  rfl
                 refine done_ (done_of HT_.out (by kernel_rfl)) ?_
                 try go_wp2_with (first | ((with_reducible refine gate_builtin (b := .append) (xs := #[.tmp 68, .tmp 70]) rfl ?_); at_builtin; refine Kd.R_append (Kd.int .i64) (w0 := w) w.heap.size rfl (.tmp 68) (.tmp 70) 22 3 (.int .i64 0) 8 rfl Tryd.underlying22 info3 rfl (by decide) (by omega) (.slice (some ad436) x11_2.length co49) x11_2 t438 [.int .i64 t438] (fun k_ => some k_ ≠ (.slice Ao22 t422.length co22 : Value).ownBlock) (fun _ => False) rfl rfl ?aP (fun _ hk => hk.elim) ?aF ?aO ?aB ?aS ?aL ?_; (case aP => exact rfl); (case aB => exact (by repeat (first | (with_reducible first | exact HB.out | apply below_alloc | apply pw_below_drewN | apply below_drew1 | refine below_set ?_ GE418.out) | exact HB.out))); (case aF => exact (fun k_ hk => Kd.fresh' (Kd.R_lt (by (with_reducible repeat (first | apply Kd.R_alloc | apply Kd.R_drewN | apply Kd.R_drew)); exact HO_8.out)) k_ hk)); (case aO => exact (by (with_reducible repeat (first | apply Kd.R_alloc | apply Kd.R_drewN | apply Kd.R_drew)); exact HO_11.out)); (case aS => exact (below_size (by repeat (first | (with_reducible first | exact HB.out | apply below_alloc | apply pw_below_drewN | apply below_drew1 | refine below_set ?_ GE418.out) | exact HB.out)))); (case aL => have := LMc29.out; omega); intro v441 w51 ho hb hg hat; rw [← Ny440.out] at ho; have n0_ := Aside0.mk (Kd.R_after (ok := (fun _ => True)) (by (with_reducible repeat (first | apply Kd.R_alloc | apply Kd.R_drewN | apply Kd.R_drew)); exact Kd.R_mono HO_8.out (fun _ hk => ⟨trivial, hk⟩)) hg hat); have n1_ := Aside0.mk (Kd.R_over' (by (with_reducible repeat (first | apply Kd.R_alloc | apply Kd.R_drewN | apply Kd.R_drew)); exact HO_9.out) (Kd.R_typed (by (with_reducible repeat (first | apply Kd.R_alloc | apply Kd.R_drewN | apply Kd.R_drew)); exact HO_11.out)) (by decide) hg); have n2_ := Aside0.mk (blk_grown (g := gb418) (o := .cells #[.int .i64 a1_0, .int .i64 a1_1, .string a1_2] 43 (0, 0)) (by (with_reducible repeat (first | refine blk_drewN ?_ _ | refine blk_drew ?_ | refine blk_alloc ?_ _)); exact BK418.out) hg (Kd.R_ne HO_11.out BK418.out (by decide))); have n3_ := Aside0.mk (hb); have n4_ := Aside0.mk (ho); clear HO_8; clear HO_9; clear BK418; clear HB; clear HO_11; have HO_8 := n0_; have HO_9 := n1_; have BK418 := n2_; have HB := n3_; have HO442 := n4_; clear n0_ n1_ n2_ n3_ n4_; clear ho hb hg hat))
                 have n0_ := Aside0.mk (Kd.R_drew HO_8.out)
                 have n1_ := Aside0.mk (Kd.R_drew HO_9.out)
                 have n2_ := Aside0.mk (Kd.R_drew HO442.out)
                 have n3_ := Aside0.mk (blk_drew BK418.out)
                 have n4_ := Aside0.mk (below_drew1 HB.out)
                 clear HO_8
                 clear HO_9
                 clear HO442
                 clear BK418
                 clear HB
                 have HO_8 := n0_
                 have HO_9 := n1_
                 have HO442 := n2_
                 have BK418 := n3_
                 have HB := n4_
                 clear n0_ n1_ n2_ n3_ n4_
                 have p444 : 0 ≤ ((ji32) : Int) := of_decide_eq_true (by first | (with_reducible assumption) | assumption)
                 have q444 : (ji32) < (t422.length : Int) := of_decide_eq_true (by first | (with_reducible assumption) | assumption)
                 obtain ⟨ad444, e444, hx444_0⟩ := Kd.at_int (Kd.R_reads' HO_8.out).2.2 (ji32) p444 q444
                 cases e444
                 replace p444 := eq_true p444
                 replace q444 := eq_true q444
                 refine start_ (n := 21) (S := fun w' => w'.cell? ⟨gb418, 0, none⟩ = some (.int .i64 a1_0) ∧ w'.cell? ⟨gb418, 1, none⟩ = some (.int .i64 a1_1) ∧ w'.cell? ⟨gb418, 2, none⟩ = some (.string a1_2) ∧ w'.cell? (ad444.add ((ji32)).toNat) = some (.int .i64 (rd t422 (ji32)))) (ds := []) #[false, false, false, false, false, false, false, false, false, false, false, false, false, false, false, false, false, false, false, false, false] (by kernel_rfl) rfl rfl ⟨(blk_cell BK418.out 0).trans rfl, (blk_cell BK418.out 1).trans rfl, (blk_cell BK418.out 2).trans rfl, hx444_0⟩ (fun hHeld => ?_); refine with_tabW impl_ColourAgain.tab16 impl_ColourAgain.bits16 (fun HT_ HW_ => ?_)
                 generalize w51.drew = w52 at HO_8 HO_9 HO442 BK418 HB hx444_0 hHeld ⊢
                 refine pure_ (i := 0) (N := some 74) (v := ?_) (a' := ?_) #[true, false, false, false, false, false, false, false, false, false, false, false, false, false, false, false, false, false, false, false, false] rfl rfl (any_of HT_.out (by kernel_rfl)) (fun _ _ _ h => h) (Or.inl ⟨by rfl, ?_⟩) ?_ ?_
                 rotate_left
                 ·intro w'
                  go_simp
                  with_reducible rfl
                 rotate_left
                 ·simp only [Act.put, List.setIfInBounds_toArray, List.set_cons_zero, List.set_cons_succ, i64_w, i32_w]
                  rfl
                 refine pure_ (i := 1) (N := some 75) (v := ?_) (a' := ?_) #[true, true, false, false, false, false, false, false, false, false, false, false, false, false, false, false, false, false, false, false, false] rfl rfl (any_of HT_.out (by kernel_rfl)) (fun _ _ _ h => h) (Or.inl ⟨by rfl, ?_⟩) ?_ ?_
                 rotate_left
                 ·intro w'
                  go_simp
                  with_reducible rfl
                 rotate_left
                 ·simp only [Act.put, List.setIfInBounds_toArray, List.set_cons_zero, List.set_cons_succ, i64_w, i32_w]
                  rfl
                 refine pure_ (i := 3) (N := some 77) (v := ?_) (a' := ?_) #[true, true, false, true, false, false, false, false, false, false, false, false, false, false, false, false, false, false, false, false, false] rfl rfl (any_of HT_.out (by kernel_rfl)) (fun _ _ _ h => h) (Or.inl ⟨by rfl, ?_⟩) ?_ ?_
                 rotate_left
                 ·intro w'
                  go_simp
                  with_reducible rfl
                 rotate_left
                 ·simp only [Act.put, List.setIfInBounds_toArray, List.set_cons_zero, List.set_cons_succ, i64_w, i32_w]
                  rfl
                 refine pure_ (i := 5) (N := some 79) (v := ?_) (a' := ?_) #[true, true, false, true, false, true, false, false, false, false, false, false, false, false, false, false, false, false, false, false, false] rfl rfl (any_of HT_.out (by kernel_rfl)) (fun _ _ _ h => h) (Or.inl ⟨by rfl, ?_⟩) ?_ ?_
                 rotate_left
                 ·intro w'
                  go_simp
                  with_reducible rfl
                 rotate_left
                 ·simp only [Act.put, List.setIfInBounds_toArray, List.set_cons_zero, List.set_cons_succ, i64_w, i32_w]
                  rfl
                 refine take_ (i := 4) (N := some 78) (v := ?_) (a' := ?_) #[true, true, false, true, true, true, false, false, false, false, false, false, false, false, false, false, false, false, false, false, false] rfl rfl (take_ofW HT_.out HW_.out (by kernel_rfl)) (fun _ _ _ h => h) (Or.inl ⟨by rfl, ?_⟩) hHeld ?_ ?_
                 rotate_left
                 ·rintro w' ⟨s0, s1, s2, s3⟩
                  go_simp
                  with_reducible rfl
                 rotate_left
                 ·simp only [Act.put, List.setIfInBounds_toArray, List.set_cons_zero, List.set_cons_succ, i64_w, i32_w]
                  rfl
                 refine take_ (i := 6) (N := some 80) (v := ?_) (a' := ?_) #[true, true, false, true, true, true, true, false, false, false, false, false, false, false, false, false, false, false, false, false, false] rfl rfl (take_ofW HT_.out HW_.out (by kernel_rfl)) (fun _ _ _ h => h) (Or.inl ⟨by rfl, ?_⟩) hHeld ?_ ?_
                 rotate_left
                 ·rintro w' ⟨s0, s1, s2, s3⟩
                  go_simp
                  with_reducible rfl
                 rotate_left
                 ·simp only [Act.put, List.setIfInBounds_toArray, List.set_cons_zero, List.set_cons_succ, i64_w, i32_w]
                  rfl
                 refine pure_ (i := 7) (N := some 81) (v := ?_) (a' := ?_) #[true, true, false, true, true, true, true, true, false, false, false, false, false, false, false, false, false, false, false, false, false] rfl rfl (any_of HT_.out (by kernel_rfl)) (fun _ _ _ h => h) (Or.inl ⟨by rfl, ?_⟩) ?_ ?_
                 rotate_left
                 ·intro w'
                  go_simp
                  with_reducible rfl
                 rotate_left
                 ·simp only [Act.put, List.setIfInBounds_toArray, List.set_cons_zero, List.set_cons_succ, i64_w, i32_w]
                  rfl
                 refine pure_ (i := 8) (N := some 82) (v := ?_) (a' := ?_) #[true, true, false, true, true, true, true, true, true, false, false, false, false, false, false, false, false, false, false, false, false] rfl rfl (any_of HT_.out (by kernel_rfl)) (fun _ _ _ h => h) (Or.inl ⟨by rfl, ?_⟩) ?_ ?_
                 rotate_left
                 ·intro w'
                  go_simp
                  with_reducible rfl
                 rotate_left
                 ·simp only [Act.put, List.setIfInBounds_toArray, List.set_cons_zero, List.set_cons_succ, i64_w, i32_w]
                  rfl
                 refine one_ (i := 2) (N := some 76) #[true, true, true, true, true, true, true, true, true, false, false, false, false, false, false, false, false, false, false, false, false] rfl rfl (one_of HT_.out (by kernel_rfl)) (by decide) (fun K hK => ?_)
                 refine goes_ Tryd.func51 (by kernel_rfl) rfl #[.string t419, .int .i64 x14_2] (by rfl) rfl rfl (by (try simp only [List.map_toArray, List.map_cons, List.map_nil]); first | done | rfl | (simp only [List.length_drop, List.length_take]; rfl)) ?_
                 with_reducible refine (impl_LineEnd.calls k2 t419 x14_2 t443 _ A30.out).mono ?_
                 rintro e w53 ⟨rfl, hb⟩
                 have HS3_ := (hb.cell (World.block_lt_of_cell? _ _ (hHeld.2.2.2))).trans (hHeld.2.2.2)
                 refine ⟨_, rfl, ?_⟩
                 have n0_ := Aside0.mk (Kd.R_below (by (with_reducible repeat (first | apply Kd.R_alloc | apply Kd.R_drewN | apply Kd.R_drew)); exact HO_8.out) hb)
                 have n1_ := Aside0.mk (Kd.R_below (by (with_reducible repeat (first | apply Kd.R_alloc | apply Kd.R_drewN | apply Kd.R_drew)); exact HO_9.out) hb)
                 have n2_ := Aside0.mk (Kd.R_below (by (with_reducible repeat (first | apply Kd.R_alloc | apply Kd.R_drewN | apply Kd.R_drew)); exact HO442.out) hb)
                 have n3_ := Aside0.mk (blk_below (g := gb418) (o := .cells #[.int .i64 a1_0, .int .i64 a1_1, .string a1_2] 43 (0, 0)) (by (with_reducible repeat (first | refine blk_drewN ?_ _ | refine blk_drew ?_ | refine blk_alloc ?_ _)); exact BK418.out) hb)
                 have n4_ := Aside0.mk (below_step (by repeat (first | (with_reducible first | exact HB.out | apply below_alloc | apply pw_below_drewN | apply below_drew1 | refine below_set ?_ GE418.out) | exact HB.out)) hb)
                 clear HO_8
                 clear HO_9
                 clear HO442
                 clear BK418
                 clear HB
                 have HO_8 := n0_
                 have HO_9 := n1_
                 have HO442 := n2_
                 have BK418 := n3_
                 have HB := n4_
                 clear n0_ n1_ n2_ n3_ n4_
                 (try clear hb)
                 (try clear hb2)
                 (try clear hk)
                 (try clear hi)
                 refine hK.out _ _ ⟨(blk_cell BK418.out 0).trans rfl, (blk_cell BK418.out 1).trans rfl, (blk_cell BK418.out 2).trans rfl, HS3_⟩ (fun hHeld => ?_)
                 clear hK K
                 refine norm_ (a' := ?_) ?_ ?_
                 rotate_left
                 ·show Act.put _ (some 76) _ = _
                  simp only [Act.put, List.setIfInBounds_toArray, List.set_cons_zero, List.set_cons_succ, i64_w, i32_w]
                  rfl
                 refine pure_ (i := 9) (N := some 83) (v := ?_) (a' := ?_) #[true, true, true, true, true, true, true, true, true, true, false, false, false, false, false, false, false, false, false, false, false] rfl rfl (any_of HT_.out (by kernel_rfl)) (fun _ _ _ h => h) (Or.inl ⟨by rfl, ?_⟩) ?_ ?_
                 rotate_left
                 ·intro w'
                  go_simp
                  with_reducible rfl
                 rotate_left
                 ·simp only [Act.put, List.setIfInBounds_toArray, List.set_cons_zero, List.set_cons_succ, i64_w, i32_w]
                  rfl
                 refine pure_ (i := 10) (N := some 84) (v := ?_) (a' := ?_) #[true, true, true, true, true, true, true, true, true, true, true, false, false, false, false, false, false, false, false, false, false] rfl rfl (any_of HT_.out (by kernel_rfl)) (fun _ _ _ h => h) (Or.inl ⟨by rfl, ?_⟩) ?_ ?_
                 rotate_left
                 ·intro w'
                  go_simp
                  with_reducible rfl
                 rotate_left
                 ·simp only [Act.put, List.setIfInBounds_toArray, List.set_cons_zero, List.set_cons_succ, i64_w, i32_w]
                  rfl
                 refine pure_ (i := 11) (N := some 85) (v := ?_) (a' := ?_) #[true, true, true, true, true, true, true, true, true, true, true, true, false, false, false, false, false, false, false, false, false] rfl rfl (any_of HT_.out (by kernel_rfl)) (fun _ _ _ h => h) (Or.inl ⟨by rfl, ?_⟩) ?_ ?_
                 rotate_left
                 ·intro w'
                  go_simp
                  with_reducible rfl
                 rotate_left
                 ·simp only [Act.put, List.setIfInBounds_toArray, List.set_cons_zero, List.set_cons_succ, i64_w, i32_w]
                  rfl
                 refine pure_ (i := 12) (N := some 86) (v := ?_) (a' := ?_) #[true, true, true, true, true, true, true, true, true, true, true, true, true, false, false, false, false, false, false, false, false] rfl rfl (any_of HT_.out (by kernel_rfl)) (fun _ _ _ h => h) (Or.inl ⟨by rfl, ?_⟩) ?_ ?_
                 rotate_left
                 ·intro w'
                  go_simp
                  with_reducible rfl
                 rotate_left
                 ·simp only [Act.put, List.setIfInBounds_toArray, List.set_cons_zero, List.set_cons_succ, i64_w, i32_w]
                  rfl
                 refine pure_ (i := 13) (N := some 87) (v := ?_) (a' := ?_) #[true, true, true, true, true, true, true, true, true, true, true, true, true, true, false, false, false, false, false, false, false] rfl rfl (any_of HT_.out (by kernel_rfl)) (fun _ _ _ h => h) (Or.inl ⟨by rfl, ?_⟩) ?_ ?_
                 rotate_left
                 ·intro w'
                  go_simp
                  with_reducible rfl
                 rotate_left
                 ·simp only [Act.put, List.setIfInBounds_toArray, List.set_cons_zero, List.set_cons_succ, i64_w, i32_w]
                  rfl
                 refine pure_ (i := 14) (N := some 88) (v := ?_) (a' := ?_) #[true, true, true, true, true, true, true, true, true, true, true, true, true, true, true, false, false, false, false, false, false] rfl rfl (any_of HT_.out (by kernel_rfl)) (fun _ _ _ h => h) (Or.inl ⟨by rfl, ?_⟩) ?_ ?_
                 rotate_left
                 ·intro w'
                  go_simp
                  with_reducible rfl
                 rotate_left
                 ·simp only [Act.put, List.setIfInBounds_toArray, List.set_cons_zero, List.set_cons_succ, i64_w, i32_w]
                  rfl
                 refine pure_ (i := 15) (N := some 89) (v := ?_) (a' := ?_) #[true, true, true, true, true, true, true, true, true, true, true, true, true, true, true, true, false, false, false, false, false] rfl rfl (any_of HT_.out (by kernel_rfl)) (fun _ _ _ h => h) (Or.inl ⟨by rfl, ?_⟩) ?_ ?_
                 rotate_left
                 ·intro w'
                  go_simp
                  with_reducible rfl
                 rotate_left
                 ·simp only [Act.put, List.setIfInBounds_toArray, List.set_cons_zero, List.set_cons_succ, i64_w, i32_w]
                  rfl
                 refine pure_ (i := 16) (N := some 90) (v := ?_) (a' := ?_) #[true, true, true, true, true, true, true, true, true, true, true, true, true, true, true, true, true, false, false, false, false] rfl rfl (any_of HT_.out (by kernel_rfl)) (fun _ _ _ h => h) (Or.inl ⟨by rfl, ?_⟩) ?_ ?_
                 rotate_left
                 ·intro w'
                  go_simp
                  with_reducible rfl
                 rotate_left
                 ·simp only [Act.put, List.setIfInBounds_toArray, List.set_cons_zero, List.set_cons_succ, i64_w, i32_w]
                  rfl
                 refine pure_ (i := 17) (N := some 91) (v := ?_) (a' := ?_) #[true, true, true, true, true, true, true, true, true, true, true, true, true, true, true, true, true, true, false, false, false] rfl rfl (any_of HT_.out (by kernel_rfl)) (fun _ _ _ h => h) (Or.inl ⟨by rfl, ?_⟩) ?_ ?_
                 rotate_left
                 ·intro w'
                  go_simp
                  with_reducible rfl
                 rotate_left
                 ·simp only [Act.put, List.setIfInBounds_toArray, List.set_cons_zero, List.set_cons_succ, i64_w, i32_w]
                  rfl
                 refine take_ (i := 18) (N := some 92) (v := ?_) (a' := ?_) #[true, true, true, true, true, true, true, true, true, true, true, true, true, true, true, true, true, true, true, false, false] rfl rfl (take_ofW HT_.out HW_.out (by kernel_rfl)) (fun _ _ _ h => h) (Or.inl ⟨by rfl, ?_⟩) hHeld ?_ ?_
                 rotate_left
                 ·rintro w' ⟨s0, s1, s2, s3⟩
                  go_simp
                  with_reducible rfl
                 rotate_left
                 ·simp only [Act.put, List.setIfInBounds_toArray, List.set_cons_zero, List.set_cons_succ, i64_w, i32_w]
                  rfl
                 refine pure_ (i := 19) (N := some 93) (v := ?_) (a' := ?_) #[true, true, true, true, true, true, true, true, true, true, true, true, true, true, true, true, true, true, true, true, false] rfl rfl (any_of HT_.out (by kernel_rfl)) (fun _ _ _ h => h) (Or.inl ⟨by rfl, ?_⟩) ?_ ?_
                 rotate_left
                 ·intro w'
                  go_simp
                  with_reducible rfl
                 rotate_left
                 ·simp only [Act.put, List.setIfInBounds_toArray, List.set_cons_zero, List.set_cons_succ, i64_w, i32_w]
                  rfl
                 refine pure_ (i := 20) (N := some 94) (v := ?_) (a' := ?_) #[true, true, true, true, true, true, true, true, true, true, true, true, true, true, true, true, true, true, true, true, true] rfl rfl (any_of HT_.out (by kernel_rfl)) (fun _ _ _ h => h) (Or.inl ⟨by rfl, ?_⟩) ?_ ?_
                 rotate_left
                 ·intro w'
                  go_simp
                  with_reducible rfl
                 rotate_left
                 ·simp only [Act.put, List.setIfInBounds_toArray, List.set_cons_zero, List.set_cons_succ, i64_w, i32_w]
                  rfl
                 refine done_ (done_of HT_.out (by kernel_rfl)) ?_
                 try go_wp2
                 go_roundg k2
                 case measure => have := HJ3.out; have := HK2.out; omega
                 case rel => exact ⟨(y440), (wrap64 (x13_2 + 1)), (wrap64 (x14_2 + 1)), (by first | rfl | (simp; done) | (simp [*]; done)), (by first | rfl | (simp; done) | (simp [*]; done)), H', ⟨by have := HJ3.out; have := HK2.out; omega⟩, ⟨by (with_reducible repeat (first | apply Kd.R_alloc | apply Kd.R_drewN | apply Kd.R_drew)); exact Kd.R_mono HO_8.out (fun _ hk => hk.2)⟩, ⟨by (with_reducible repeat (first | apply Kd.R_alloc | apply Kd.R_drewN | apply Kd.R_drew)); exact HO_9.out⟩, ⟨by (with_reducible repeat (first | apply Kd.R_alloc | apply Kd.R_drewN | apply Kd.R_drew)); exact HO442.out⟩, ⟨by (with_reducible repeat (first | refine blk_drewN ?_ _ | refine blk_drew ?_ | refine blk_alloc ?_ _)); exact BK418.out⟩, ⟨by repeat (first | (with_reducible first | exact HB.out | apply below_alloc | apply pw_below_drewN | apply below_drew1 | refine below_set ?_ GE418.out) | exact HB.out)⟩⟩
               ·rw [if_neg c34] at H
                exact absurd H (by simp)
              ·rw [if_neg c33] at H
               exact absurd H (by simp)
             ·rw [if_neg c31] at H
              have c31b0 : decide ((wrap64 (a1_0 + (a1_2.size : Int))) ≤ t443) = false := decide_eq_false c31
              clear c31
              have H' := Aside0.mk H
              clear H
              try go_wp2
              have n0_ := Aside0.mk (Kd.R_drew HO_8.out)
              have n1_ := Aside0.mk (Kd.R_drew HO_9.out)
              have n2_ := Aside0.mk (Kd.R_drew HO_11.out)
              have n3_ := Aside0.mk (blk_drew BK418.out)
              have n4_ := Aside0.mk (below_drew1 HB.out)
              clear HO_8
              clear HO_9
              clear HO_11
              clear BK418
              clear HB
              have HO_8 := n0_
              have HO_9 := n1_
              have HO_11 := n2_
              have BK418 := n3_
              have HB := n4_
              clear n0_ n1_ n2_ n3_ n4_
              obtain ⟨Ao55, co55, eo55⟩ := Kd.R_slice HO_11.out
              (first | subst eo55 | (injection eo55 with f1_ f2_ f3_; have f4_ := f1_.symm; have f5_ := f3_.symm; clear f1_ f2_ f3_; subst f4_; subst f5_))
              have p436 : 0 ≤ (x14_2 : Int) := of_decide_eq_true (by first | (with_reducible assumption) | assumption)
              have q436 : x14_2 < (x11_2.length : Int) := of_decide_eq_true (by first | (with_reducible assumption) | assumption)
              obtain ⟨ad436, e436, hx436_0⟩ := Kd.at_int (Kd.R_reads' HO_11.out).2.2 x14_2 p436 q436
              cases e436
              replace p436 := eq_true p436
              replace q436 := eq_true q436
              have p437 : 0 ≤ (x14_2 : Int) := of_decide_eq_true (by first | (with_reducible assumption) | assumption)
              have q437 : x14_2 < (t425.length : Int) := of_decide_eq_true (by first | (with_reducible assumption) | assumption)
              obtain ⟨ad437, e437, hx437_0⟩ := Kd.at_string (Kd.R_reads' HO_9.out).2.2 x14_2 p437 q437
              cases e437
              replace p437 := eq_true p437
              replace q437 := eq_true q437
              refine start_ (n := 14) (S := fun w' => w'.cell? (ad436.add (x14_2).toNat) = some (.int .i64 (rd x11_2 x14_2)) ∧ w'.cell? (ad437.add (x14_2).toNat) = some (.string (rdOf ByteArray.empty t425 x14_2))) (ds := []) #[false, false, false, false, false, false, false, false, false, false, false, false, false, false] (by kernel_rfl) rfl rfl ⟨hx436_0, hx437_0⟩ (fun hHeld => ?_); refine with_tabW impl_ColourAgain.tab13 impl_ColourAgain.bits13 (fun HT_ HW_ => ?_)
              generalize wr.drew = w54 at HO_8 HO_9 HO_11 BK418 HB hx436_0 hx437_0 hHeld ⊢
              refine pure_ (i := 0) (N := some 57) (v := ?_) (a' := ?_) #[true, false, false, false, false, false, false, false, false, false, false, false, false, false] rfl rfl (any_of HT_.out (by kernel_rfl)) (fun _ _ _ h => h) (Or.inl ⟨by rfl, ?_⟩) ?_ ?_
              rotate_left
              ·intro w'
               go_simp
               with_reducible rfl
              rotate_left
              ·simp only [Act.put, List.setIfInBounds_toArray, List.set_cons_zero, List.set_cons_succ, i64_w, i32_w]
               rfl
              refine pure_ (i := 1) (N := some 58) (v := ?_) (a' := ?_) #[true, true, false, false, false, false, false, false, false, false, false, false, false, false] rfl rfl (any_of HT_.out (by kernel_rfl)) (fun _ _ _ h => h) (Or.inl ⟨by rfl, ?_⟩) ?_ ?_
              rotate_left
              ·intro w'
               go_simp
               with_reducible rfl
              rotate_left
              ·simp only [Act.put, List.setIfInBounds_toArray, List.set_cons_zero, List.set_cons_succ, i64_w, i32_w]
               rfl
              refine pure_ (i := 2) (N := some 59) (v := ?_) (a' := ?_) #[true, true, true, false, false, false, false, false, false, false, false, false, false, false] rfl rfl (any_of HT_.out (by kernel_rfl)) (fun _ _ _ h => h) (Or.inl ⟨by rfl, ?_⟩) ?_ ?_
              rotate_left
              ·intro w'
               go_simp
               with_reducible rfl
              rotate_left
              ·simp only [Act.put, List.setIfInBounds_toArray, List.set_cons_zero, List.set_cons_succ, i64_w, i32_w]
               rfl
              refine pure_ (i := 4) (N := some 61) (v := ?_) (a' := ?_) #[true, true, true, false, true, false, false, false, false, false, false, false, false, false] rfl rfl (any_of HT_.out (by kernel_rfl)) (fun _ _ _ h => h) (Or.inl ⟨by rfl, ?_⟩) ?_ ?_
              rotate_left
              ·intro w'
               go_simp
               with_reducible rfl
              rotate_left
              ·simp only [Act.put, List.setIfInBounds_toArray, List.set_cons_zero, List.set_cons_succ, i64_w, i32_w]
               rfl
              refine pure_ (i := 5) (N := some 62) (v := ?_) (a' := ?_) #[true, true, true, false, true, true, false, false, false, false, false, false, false, false] rfl rfl (any_of HT_.out (by kernel_rfl)) (fun _ _ _ h => h) (Or.inl ⟨by rfl, ?_⟩) ?_ ?_
              rotate_left
              ·intro w'
               go_simp
               with_reducible rfl
              rotate_left
              ·simp only [Act.put, List.setIfInBounds_toArray, List.set_cons_zero, List.set_cons_succ, i64_w, i32_w]
               rfl
              refine pure_ (i := 6) (N := some 63) (v := ?_) (a' := ?_) #[true, true, true, false, true, true, true, false, false, false, false, false, false, false] rfl rfl (any_of HT_.out (by kernel_rfl)) (fun _ _ _ h => h) (Or.inl ⟨by rfl, ?_⟩) ?_ ?_
              rotate_left
              ·intro w'
               go_simp
               with_reducible rfl
              rotate_left
              ·simp only [Act.put, List.setIfInBounds_toArray, List.set_cons_zero, List.set_cons_succ, i64_w, i32_w]
               rfl
              refine take_ (i := 3) (N := some 60) (v := ?_) (a' := ?_) #[true, true, true, true, true, true, true, false, false, false, false, false, false, false] rfl rfl (take_ofW HT_.out HW_.out (by kernel_rfl)) (fun _ _ _ h => h) (Or.inl ⟨by rfl, ?_⟩) hHeld ?_ ?_
              rotate_left
              ·rintro w' ⟨s0, s1⟩
               go_simp
               with_reducible rfl
              rotate_left
              ·simp only [Act.put, List.setIfInBounds_toArray, List.set_cons_zero, List.set_cons_succ, i64_w, i32_w]
               rfl
              refine take_ (i := 7) (N := some 64) (v := ?_) (a' := ?_) #[true, true, true, true, true, true, true, true, false, false, false, false, false, false] rfl rfl (take_ofW HT_.out HW_.out (by kernel_rfl)) (fun _ _ _ h => h) (Or.inl ⟨by rfl, ?_⟩) hHeld ?_ ?_
              rotate_left
              ·rintro w' ⟨s0, s1⟩
               go_simp
               with_reducible rfl
              rotate_left
              ·simp only [Act.put, List.setIfInBounds_toArray, List.set_cons_zero, List.set_cons_succ, i64_w, i32_w]
               rfl
              refine one_ (i := 8) (N := some 65) #[true, true, true, true, true, true, true, true, true, false, false, false, false, false] rfl rfl (one_of HT_.out (by kernel_rfl)) (by decide) (fun K hK => ?_)
              refine goes_ Tryd.func39 (by kernel_rfl) rfl #[.int .i64 (rd x11_2 x14_2), .string (rdOf ByteArray.empty t425 x14_2)] (by rfl) rfl rfl (by (try simp only [List.map_toArray, List.map_cons, List.map_nil]); first | done | rfl | (simp only [List.length_drop, List.length_take]; rfl)) ?_
              with_reducible refine (impl_colour.calls (rd x11_2 x14_2) (rdOf ByteArray.empty t425 x14_2) t438 t439 _ A28.out).mono ?_
              rintro e w56 ⟨rfl, hb⟩
              have HS0_ := (hb.cell (World.block_lt_of_cell? _ _ (hHeld.1))).trans (hHeld.1)
              have HS1_ := (hb.cell (World.block_lt_of_cell? _ _ (hHeld.2))).trans (hHeld.2)
              refine ⟨_, rfl, ?_⟩
              have n0_ := Aside0.mk (Kd.R_below (by (with_reducible repeat (first | apply Kd.R_alloc | apply Kd.R_drewN | apply Kd.R_drew)); exact HO_8.out) hb)
              have n1_ := Aside0.mk (Kd.R_below (by (with_reducible repeat (first | apply Kd.R_alloc | apply Kd.R_drewN | apply Kd.R_drew)); exact HO_9.out) hb)
              have n2_ := Aside0.mk (Kd.R_below (by (with_reducible repeat (first | apply Kd.R_alloc | apply Kd.R_drewN | apply Kd.R_drew)); exact HO_11.out) hb)
              have n3_ := Aside0.mk (blk_below (g := gb418) (o := .cells #[.int .i64 a1_0, .int .i64 a1_1, .string a1_2] 43 (0, 0)) (by (with_reducible repeat (first | refine blk_drewN ?_ _ | refine blk_drew ?_ | refine blk_alloc ?_ _)); exact BK418.out) hb)
              have n4_ := Aside0.mk (below_step (by repeat (first | (with_reducible first | exact HB.out | apply below_alloc | apply pw_below_drewN | apply below_drew1 | refine below_set ?_ GE418.out) | exact HB.out)) hb)
              clear HO_8
              clear HO_9
              clear HO_11
              clear BK418
              clear HB
              have HO_8 := n0_
              have HO_9 := n1_
              have HO_11 := n2_
              have BK418 := n3_
              have HB := n4_
              clear n0_ n1_ n2_ n3_ n4_
              (try clear hb)
              (try clear hb2)
              (try clear hk)
              (try clear hi)
              refine hK.out _ _ ⟨HS0_, HS1_⟩ (fun hHeld => ?_)
              clear hK K
              refine norm_ (a' := ?_) ?_ ?_
              rotate_left
              ·show Act.put _ (some 65) _ = _
               simp only [Act.put, List.setIfInBounds_toArray, List.set_cons_zero, List.set_cons_succ, i64_w, i32_w]
               rfl
              refine pure_ (i := 9) (N := some 56) (v := ?_) (a' := ?_) #[true, true, true, true, true, true, true, true, true, true, false, false, false, false] rfl rfl (any_of HT_.out (by kernel_rfl)) (fun _ _ _ h => h) (Or.inl ⟨by rfl, ?_⟩) ?_ ?_
              rotate_left
              ·intro w'
               go_simp
               with_reducible rfl
              rotate_left
              ·simp only [Act.put, List.setIfInBounds_toArray, List.set_cons_zero, List.set_cons_succ, i64_w, i32_w]
               rfl
              refine pure_ (i := 10) (N := some 66) (v := ?_) (a' := ?_) #[true, true, true, true, true, true, true, true, true, true, true, false, false, false] rfl rfl (any_of HT_.out (by kernel_rfl)) (fun _ _ _ h => h) (Or.inl ⟨by rfl, ?_⟩) ?_ ?_
              rotate_left
              ·intro w'
               go_simp
               with_reducible rfl
              rotate_left
              ·simp only [Act.put, List.setIfInBounds_toArray, List.set_cons_zero, List.set_cons_succ, i64_w, i32_w]
               rfl
              refine pure_ (i := 11) (N := some 67) (v := ?_) (a' := ?_) #[true, true, true, true, true, true, true, true, true, true, true, true, false, false] rfl rfl (any_of HT_.out (by kernel_rfl)) (fun _ _ _ h => h) (Or.inl ⟨by rfl, ?_⟩) ?_ ?_
              rotate_left
              ·intro w'
               go_simp
               with_reducible rfl
              rotate_left
              ·simp only [Act.put, List.setIfInBounds_toArray, List.set_cons_zero, List.set_cons_succ, i64_w, i32_w]
               rfl
              refine pure_ (i := 12) (N := some 15) (v := ?_) (a' := ?_) #[true, true, true, true, true, true, true, true, true, true, true, true, true, false] rfl rfl (any_of HT_.out (by kernel_rfl)) (fun _ _ _ h => h) (Or.inl ⟨by rfl, ?_⟩) ?_ ?_
              rotate_left
              ·intro w'
               go_simp
               with_reducible rfl
              rotate_left
              ·simp only [Act.put, List.setIfInBounds_toArray, List.set_cons_zero, List.set_cons_succ, i64_w, i32_w]
               rfl
              refine pure_ (i := 13) (N := some 16) (v := ?_) (a' := ?_) #[true, true, true, true, true, true, true, true, true, true, true, true, true, true] rfl rfl (any_of HT_.out (by kernel_rfl)) (fun _ _ _ h => h) (Or.inl ⟨by rfl, ?_⟩) ?_ ?_
              rotate_left
              ·intro w'
               go_simp
               with_reducible rfl
              rotate_left
              ·simp only [Act.put, List.setIfInBounds_toArray, List.set_cons_zero, List.set_cons_succ, i64_w, i32_w]
               rfl
              refine done_ (done_of HT_.out (by kernel_rfl)) ?_
              try go_wp2_with (first | ((with_reducible refine gate_builtin (b := .append) (xs := #[.tmp 68, .tmp 70]) rfl ?_); at_builtin; refine Kd.R_append (Kd.int .i64) (w0 := w) w.heap.size rfl (.tmp 68) (.tmp 70) 22 3 (.int .i64 0) 8 rfl Tryd.underlying22 info3 rfl (by decide) (by omega) (.slice (some ad436) x11_2.length co55) x11_2 t438 [.int .i64 t438] (fun k_ => some k_ ≠ (.slice Ao22 t422.length co22 : Value).ownBlock) (fun _ => False) rfl rfl ?aP (fun _ hk => hk.elim) ?aF ?aO ?aB ?aS ?aL ?_; (case aP => exact rfl); (case aB => exact (by repeat (first | (with_reducible first | exact HB.out | apply below_alloc | apply pw_below_drewN | apply below_drew1 | refine below_set ?_ GE418.out) | exact HB.out))); (case aF => exact (fun k_ hk => Kd.fresh' (Kd.R_lt (by (with_reducible repeat (first | apply Kd.R_alloc | apply Kd.R_drewN | apply Kd.R_drew)); exact HO_8.out)) k_ hk)); (case aO => exact (by (with_reducible repeat (first | apply Kd.R_alloc | apply Kd.R_drewN | apply Kd.R_drew)); exact HO_11.out)); (case aS => exact (below_size (by repeat (first | (with_reducible first | exact HB.out | apply below_alloc | apply pw_below_drewN | apply below_drew1 | refine below_set ?_ GE418.out) | exact HB.out)))); (case aL => have := LMc29.out; omega); intro v441 w57 ho hb hg hat; rw [← Ny440.out] at ho; have n0_ := Aside0.mk (Kd.R_after (ok := (fun _ => True)) (by (with_reducible repeat (first | apply Kd.R_alloc | apply Kd.R_drewN | apply Kd.R_drew)); exact Kd.R_mono HO_8.out (fun _ hk => ⟨trivial, hk⟩)) hg hat); have n1_ := Aside0.mk (Kd.R_over' (by (with_reducible repeat (first | apply Kd.R_alloc | apply Kd.R_drewN | apply Kd.R_drew)); exact HO_9.out) (Kd.R_typed (by (with_reducible repeat (first | apply Kd.R_alloc | apply Kd.R_drewN | apply Kd.R_drew)); exact HO_11.out)) (by decide) hg); have n2_ := Aside0.mk (blk_grown (g := gb418) (o := .cells #[.int .i64 a1_0, .int .i64 a1_1, .string a1_2] 43 (0, 0)) (by (with_reducible repeat (first | refine blk_drewN ?_ _ | refine blk_drew ?_ | refine blk_alloc ?_ _)); exact BK418.out) hg (Kd.R_ne HO_11.out BK418.out (by decide))); have n3_ := Aside0.mk (hb); have n4_ := Aside0.mk (ho); clear HO_8; clear HO_9; clear BK418; clear HB; clear HO_11; have HO_8 := n0_; have HO_9 := n1_; have BK418 := n2_; have HB := n3_; have HO442 := n4_; clear n0_ n1_ n2_ n3_ n4_; clear ho hb hg hat))
              have n0_ := Aside0.mk (Kd.R_drew HO_8.out)
              have n1_ := Aside0.mk (Kd.R_drew HO_9.out)
              have n2_ := Aside0.mk (Kd.R_drew HO442.out)
              have n3_ := Aside0.mk (blk_drew BK418.out)
              have n4_ := Aside0.mk (below_drew1 HB.out)
              clear HO_8
              clear HO_9
              clear HO442
              clear BK418
              clear HB
              have HO_8 := n0_
              have HO_9 := n1_
              have HO442 := n2_
              have BK418 := n3_
              have HB := n4_
              clear n0_ n1_ n2_ n3_ n4_
              refine start_ (n := 21) (S := fun w' => w'.cell? ⟨gb418, 0, none⟩ = some (.int .i64 a1_0) ∧ w'.cell? ⟨gb418, 1, none⟩ = some (.int .i64 a1_1) ∧ w'.cell? ⟨gb418, 2, none⟩ = some (.string a1_2)) (ds := []) #[false, false, false, false, false, false, false, false, false, false, false, false, false, false, false, false, false, false, false, false, false] (by kernel_rfl) rfl rfl ⟨(blk_cell BK418.out 0).trans rfl, (blk_cell BK418.out 1).trans rfl, (blk_cell BK418.out 2).trans rfl⟩ (fun hHeld => ?_); refine with_tabW impl_ColourAgain.tab16 impl_ColourAgain.bits16 (fun HT_ HW_ => ?_)
              generalize w57.drew = w58 at HO_8 HO_9 HO442 BK418 HB hHeld ⊢
              refine pure_ (i := 0) (N := some 74) (v := ?_) (a' := ?_) #[true, false, false, false, false, false, false, false, false, false, false, false, false, false, false, false, false, false, false, false, false] rfl rfl (any_of HT_.out (by kernel_rfl)) (fun _ _ _ h => h) (Or.inl ⟨by rfl, ?_⟩) ?_ ?_
              rotate_left
              ·intro w'
               go_simp
               with_reducible rfl
              rotate_left
              ·simp only [Act.put, List.setIfInBounds_toArray, List.set_cons_zero, List.set_cons_succ, i64_w, i32_w]
               rfl
              refine pure_ (i := 1) (N := some 75) (v := ?_) (a' := ?_) #[true, true, false, false, false, false, false, false, false, false, false, false, false, false, false, false, false, false, false, false, false] rfl rfl (any_of HT_.out (by kernel_rfl)) (fun _ _ _ h => h) (Or.inl ⟨by rfl, ?_⟩) ?_ ?_
              rotate_left
              ·intro w'
               go_simp
               with_reducible rfl
              rotate_left
              ·simp only [Act.put, List.setIfInBounds_toArray, List.set_cons_zero, List.set_cons_succ, i64_w, i32_w]
               rfl
              refine pure_ (i := 3) (N := some 77) (v := ?_) (a' := ?_) #[true, true, false, true, false, false, false, false, false, false, false, false, false, false, false, false, false, false, false, false, false] rfl rfl (any_of HT_.out (by kernel_rfl)) (fun _ _ _ h => h) (Or.inl ⟨by rfl, ?_⟩) ?_ ?_
              rotate_left
              ·intro w'
               go_simp
               with_reducible rfl
              rotate_left
              ·simp only [Act.put, List.setIfInBounds_toArray, List.set_cons_zero, List.set_cons_succ, i64_w, i32_w]
               rfl
              refine pure_ (i := 5) (N := some 79) (v := ?_) (a' := ?_) #[true, true, false, true, false, true, false, false, false, false, false, false, false, false, false, false, false, false, false, false, false] rfl rfl (any_of HT_.out (by kernel_rfl)) (fun _ _ _ h => h) (Or.inl ⟨by rfl, ?_⟩) ?_ ?_
              rotate_left
              ·intro w'
               go_simp
               with_reducible rfl
              rotate_left
              ·simp only [Act.put, List.setIfInBounds_toArray, List.set_cons_zero, List.set_cons_succ, i64_w, i32_w]
               rfl
              refine take_ (i := 4) (N := some 78) (v := ?_) (a' := ?_) #[true, true, false, true, true, true, false, false, false, false, false, false, false, false, false, false, false, false, false, false, false] rfl rfl (take_ofW HT_.out HW_.out (by kernel_rfl)) (fun _ _ _ h => h) (Or.inl ⟨by rfl, ?_⟩) hHeld ?_ ?_
              rotate_left
              ·rintro w' ⟨s0, s1, s2⟩
               go_simp
               with_reducible rfl
              rotate_left
              ·simp only [Act.put, List.setIfInBounds_toArray, List.set_cons_zero, List.set_cons_succ, i64_w, i32_w]
               rfl
              refine take_ (i := 6) (N := some 80) (v := ?_) (a' := ?_) #[true, true, false, true, true, true, true, false, false, false, false, false, false, false, false, false, false, false, false, false, false] rfl rfl (take_ofW HT_.out HW_.out (by kernel_rfl)) (fun _ _ _ h => h) (Or.inl ⟨by rfl, ?_⟩) hHeld ?_ ?_
              rotate_left
              ·rintro w' ⟨s0, s1, s2⟩
               go_simp
               with_reducible rfl
              rotate_left
              ·simp only [Act.put, List.setIfInBounds_toArray, List.set_cons_zero, List.set_cons_succ, i64_w, i32_w]
               rfl
              refine pure_ (i := 7) (N := some 81) (v := ?_) (a' := ?_) #[true, true, false, true, true, true, true, true, false, false, false, false, false, false, false, false, false, false, false, false, false] rfl rfl (any_of HT_.out (by kernel_rfl)) (fun _ _ _ h => h) (Or.inl ⟨by rfl, ?_⟩) ?_ ?_
              rotate_left
              ·intro w'
               go_simp
               with_reducible rfl
              rotate_left
              ·simp only [Act.put, List.setIfInBounds_toArray, List.set_cons_zero, List.set_cons_succ, i64_w, i32_w]
               rfl
              refine pure_ (i := 8) (N := some 82) (v := ?_) (a' := ?_) #[true, true, false, true, true, true, true, true, true, false, false, false, false, false, false, false, false, false, false, false, false] rfl rfl (any_of HT_.out (by kernel_rfl)) (fun _ _ _ h => h) (Or.inl ⟨by rfl, ?_⟩) ?_ ?_
              rotate_left
              ·intro w'
               go_simp
               with_reducible rfl
              rotate_left
              ·simp only [Act.put, List.setIfInBounds_toArray, List.set_cons_zero, List.set_cons_succ, i64_w, i32_w]
               rfl
              refine one_ (i := 2) (N := some 76) #[true, true, true, true, true, true, true, true, true, false, false, false, false, false, false, false, false, false, false, false, false] rfl rfl (one_of HT_.out (by kernel_rfl)) (by decide) (fun K hK => ?_)
              refine goes_ Tryd.func51 (by kernel_rfl) rfl #[.string t419, .int .i64 x14_2] (by rfl) rfl rfl (by (try simp only [List.map_toArray, List.map_cons, List.map_nil]); first | done | rfl | (simp only [List.length_drop, List.length_take]; rfl)) ?_
              with_reducible refine (impl_LineEnd.calls k2 t419 x14_2 t443 _ A30.out).mono ?_
              rintro e w59 ⟨rfl, hb⟩
              refine ⟨_, rfl, ?_⟩
              have n0_ := Aside0.mk (Kd.R_below (by (with_reducible repeat (first | apply Kd.R_alloc | apply Kd.R_drewN | apply Kd.R_drew)); exact HO_8.out) hb)
              have n1_ := Aside0.mk (Kd.R_below (by (with_reducible repeat (first | apply Kd.R_alloc | apply Kd.R_drewN | apply Kd.R_drew)); exact HO_9.out) hb)
              have n2_ := Aside0.mk (Kd.R_below (by (with_reducible repeat (first | apply Kd.R_alloc | apply Kd.R_drewN | apply Kd.R_drew)); exact HO442.out) hb)
              have n3_ := Aside0.mk (blk_below (g := gb418) (o := .cells #[.int .i64 a1_0, .int .i64 a1_1, .string a1_2] 43 (0, 0)) (by (with_reducible repeat (first | refine blk_drewN ?_ _ | refine blk_drew ?_ | refine blk_alloc ?_ _)); exact BK418.out) hb)
              have n4_ := Aside0.mk (below_step (by repeat (first | (with_reducible first | exact HB.out | apply below_alloc | apply pw_below_drewN | apply below_drew1 | refine below_set ?_ GE418.out) | exact HB.out)) hb)
              clear HO_8
              clear HO_9
              clear HO442
              clear BK418
              clear HB
              have HO_8 := n0_
              have HO_9 := n1_
              have HO442 := n2_
              have BK418 := n3_
              have HB := n4_
              clear n0_ n1_ n2_ n3_ n4_
              (try clear hb)
              (try clear hb2)
              (try clear hk)
              (try clear hi)
              refine hK.out _ _ ⟨(blk_cell BK418.out 0).trans rfl, (blk_cell BK418.out 1).trans rfl, (blk_cell BK418.out 2).trans rfl⟩ (fun hHeld => ?_)
              clear hK K
              refine norm_ (a' := ?_) ?_ ?_
              rotate_left
              ·show Act.put _ (some 76) _ = _
               simp only [Act.put, List.setIfInBounds_toArray, List.set_cons_zero, List.set_cons_succ, i64_w, i32_w]
               rfl
              refine pure_ (i := 9) (N := some 83) (v := ?_) (a' := ?_) #[true, true, true, true, true, true, true, true, true, true, false, false, false, false, false, false, false, false, false, false, false] rfl rfl (any_of HT_.out (by kernel_rfl)) (fun _ _ _ h => h) (Or.inl ⟨by rfl, ?_⟩) ?_ ?_
              rotate_left
              ·intro w'
               go_simp
               with_reducible rfl
              rotate_left
              ·simp only [Act.put, List.setIfInBounds_toArray, List.set_cons_zero, List.set_cons_succ, i64_w, i32_w]
               rfl
              refine pure_ (i := 10) (N := some 84) (v := ?_) (a' := ?_) #[true, true, true, true, true, true, true, true, true, true, true, false, false, false, false, false, false, false, false, false, false] rfl rfl (any_of HT_.out (by kernel_rfl)) (fun _ _ _ h => h) (Or.inl ⟨by rfl, ?_⟩) ?_ ?_
              rotate_left
              ·intro w'
               go_simp
               with_reducible rfl
              rotate_left
              ·simp only [Act.put, List.setIfInBounds_toArray, List.set_cons_zero, List.set_cons_succ, i64_w, i32_w]
               rfl
              refine pure_ (i := 11) (N := some 85) (v := undef) (a' := ?_) #[true, true, true, true, true, true, true, true, true, true, true, true, false, false, false, false, false, false, false, false, false] rfl rfl (any_of HT_.out (by kernel_rfl)) (fun _ _ _ h => h) (Or.inr ⟨by rfl, rfl⟩) ?_ ?_
              rotate_left
              ·simp only [Act.put, List.setIfInBounds_toArray, List.set_cons_zero, List.set_cons_succ, i64_w, i32_w]
               rfl
              refine pure_ (i := 12) (N := some 86) (v := undef) (a' := ?_) #[true, true, true, true, true, true, true, true, true, true, true, true, true, false, false, false, false, false, false, false, false] rfl rfl (any_of HT_.out (by kernel_rfl)) (fun _ _ _ h => h) (Or.inr ⟨by rfl, rfl⟩) ?_ ?_
              rotate_left
              ·simp only [Act.put, List.setIfInBounds_toArray, List.set_cons_zero, List.set_cons_succ, i64_w, i32_w]
               rfl
              refine pure_ (i := 13) (N := some 87) (v := undef) (a' := ?_) #[true, true, true, true, true, true, true, true, true, true, true, true, true, true, false, false, false, false, false, false, false] rfl rfl (any_of HT_.out (by kernel_rfl)) (fun _ _ _ h => h) (Or.inr ⟨by rfl, rfl⟩) ?_ ?_
              rotate_left
              ·simp only [Act.put, List.setIfInBounds_toArray, List.set_cons_zero, List.set_cons_succ, i64_w, i32_w]
               rfl
              refine pure_ (i := 14) (N := some 88) (v := undef) (a' := ?_) #[true, true, true, true, true, true, true, true, true, true, true, true, true, true, true, false, false, false, false, false, false] rfl rfl (any_of HT_.out (by kernel_rfl)) (fun _ _ _ h => h) (Or.inr ⟨by rfl, rfl⟩) ?_ ?_
              rotate_left
              ·simp only [Act.put, List.setIfInBounds_toArray, List.set_cons_zero, List.set_cons_succ, i64_w, i32_w]
               rfl
              refine pure_ (i := 15) (N := some 89) (v := undef) (a' := ?_) #[true, true, true, true, true, true, true, true, true, true, true, true, true, true, true, true, false, false, false, false, false] rfl rfl (any_of HT_.out (by kernel_rfl)) (fun _ _ _ h => h) (Or.inr ⟨by rfl, rfl⟩) ?_ ?_
              rotate_left
              ·simp only [Act.put, List.setIfInBounds_toArray, List.set_cons_zero, List.set_cons_succ, i64_w, i32_w]
               rfl
              refine pure_ (i := 16) (N := some 90) (v := undef) (a' := ?_) #[true, true, true, true, true, true, true, true, true, true, true, true, true, true, true, true, true, false, false, false, false] rfl rfl (any_of HT_.out (by kernel_rfl)) (fun _ _ _ h => h) (Or.inr ⟨by rfl, rfl⟩) ?_ ?_
              rotate_left
              ·simp only [Act.put, List.setIfInBounds_toArray, List.set_cons_zero, List.set_cons_succ, i64_w, i32_w]
               rfl
              refine pure_ (i := 17) (N := some 91) (v := undef) (a' := ?_) #[true, true, true, true, true, true, true, true, true, true, true, true, true, true, true, true, true, true, false, false, false] rfl rfl (any_of HT_.out (by kernel_rfl)) (fun _ _ _ h => h) (Or.inr ⟨by rfl, rfl⟩) ?_ ?_
              rotate_left
              ·simp only [Act.put, List.setIfInBounds_toArray, List.set_cons_zero, List.set_cons_succ, i64_w, i32_w]
               rfl
              refine pure_ (i := 18) (N := some 92) (v := undef) (a' := ?_) #[true, true, true, true, true, true, true, true, true, true, true, true, true, true, true, true, true, true, true, false, false] rfl rfl (any_of HT_.out (by kernel_rfl)) (fun _ _ _ h => h) (Or.inr ⟨by rfl, rfl⟩) ?_ ?_
              rotate_left
              ·simp only [Act.put, List.setIfInBounds_toArray, List.set_cons_zero, List.set_cons_succ, i64_w, i32_w]
               rfl
              refine pure_ (i := 19) (N := some 93) (v := undef) (a' := ?_) #[true, true, true, true, true, true, true, true, true, true, true, true, true, true, true, true, true, true, true, true, false] rfl rfl (any_of HT_.out (by kernel_rfl)) (fun _ _ _ h => h) (Or.inr ⟨by rfl, rfl⟩) ?_ ?_
              rotate_left
              ·simp only [Act.put, List.setIfInBounds_toArray, List.set_cons_zero, List.set_cons_succ, i64_w, i32_w]
               rfl
              refine pure_ (i := 20) (N := some 94) (v := ?_) (a' := ?_) #[true, true, true, true, true, true, true, true, true, true, true, true, true, true, true, true, true, true, true, true, true] rfl rfl (any_of HT_.out (by kernel_rfl)) (fun _ _ _ h => h) (Or.inl ⟨by rfl, ?_⟩) ?_ ?_
              rotate_left
              ·intro w'
               go_simp
               with_reducible rfl
              rotate_left
              ·simp only [Act.put, List.setIfInBounds_toArray, List.set_cons_zero, List.set_cons_succ, i64_w, i32_w]
               rfl
              refine done_ (done_of HT_.out (by kernel_rfl)) ?_
              try go_wp2
              go_roundg k2
              case measure => have := HJ3.out; have := HK2.out; omega
              case rel => exact ⟨(y440), (wrap64 (x13_2 + 1)), (wrap64 (x14_2 + 1)), (by first | rfl | (simp; done) | (simp [*]; done)), (by first | rfl | (simp; done) | (simp [*]; done)), H', ⟨by have := HJ3.out; have := HK2.out; omega⟩, ⟨by (with_reducible repeat (first | apply Kd.R_alloc | apply Kd.R_drewN | apply Kd.R_drew)); exact Kd.R_mono HO_8.out (fun _ hk => hk.2)⟩, ⟨by (with_reducible repeat (first | apply Kd.R_alloc | apply Kd.R_drewN | apply Kd.R_drew)); exact HO_9.out⟩, ⟨by (with_reducible repeat (first | apply Kd.R_alloc | apply Kd.R_drewN | apply Kd.R_drew)); exact HO442.out⟩, ⟨by (with_reducible repeat (first | refine blk_drewN ?_ _ | refine blk_drew ?_ | refine blk_alloc ?_ _)); exact BK418.out⟩, ⟨by repeat (first | (with_reducible first | exact HB.out | apply below_alloc | apply pw_below_drewN | apply below_drew1 | refine below_set ?_ GE418.out) | exact HB.out)⟩⟩
            ·rw [if_neg c29] at H
             exact absurd H (by simp)
           ·rw [if_neg c27] at H
            exact absurd H (by simp)
          ·rw [if_neg c26] at H
           exact absurd H (by simp)
         ·rw [if_neg c25] at H
          have c25b0 : decide (x14_2 < (t425.length : Int)) = false := decide_eq_false c25
          clear c25
          simp only [Option.some.injEq, Prod.mk.injEq] at H
          obtain ⟨rfl, rfl⟩ := H
          go_wp2
          go_ret2
          exact ⟨_, by first | rfl | (simp [errW_none, errW_some] <;> rfl) | (simp only [← hji14]; first | rfl | (simp [errW_none, errW_some] <;> rfl)) | (simp [*, errW_none, errW_some] <;> rfl), by (with_reducible repeat (first | apply Kd.R_alloc | apply Kd.R_drewN | apply Kd.R_drew)); exact Kd.R_mono HO_11.out (fun _ hk => trivial), by repeat (first | (with_reducible first | exact HB.out | apply below_alloc | apply pw_below_drewN | apply below_drew1 | refine below_set ?_ GE418.out) | exact HB.out)⟩
      ·rw [if_neg c17] at H
       exact absurd H (by simp)
     ·rw [if_neg c16] at H
      exact absurd H (by simp)
    ·rw [if_neg c15] at H
     exact absurd H (by simp)

end Go.Proofs.YtheglgphknahdaaDoor.X
