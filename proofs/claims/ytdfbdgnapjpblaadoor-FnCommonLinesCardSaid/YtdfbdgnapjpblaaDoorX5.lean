-- written by a program of this session (wip/xprint.py) out of the translation
import Derived.Test.YtdfbdgnapjpblaaDoorX0
namespace Go.Proofs.YtdfbdgnapjpblaaDoor.X
open Go.RowKit Go.Proofs.YtdfbdgnapjpblaaDoorW.PrintWords Go.Proofs.YtdfbdgnapjpblaaDoorW.PrintLast Go.Proofs.YtdfbdgnapjpblaaDoorW.PrintMore
attribute [local go_sem] max2_int min2_int max_two min_two max_three min_three max_four min_four   -- for this text's walks alone
set_option linter.unusedVariables false
set_option linter.unusedSimpArgs false

/-! ### impl_common: function 37 -/
mutual
def impl_common.l0 : Nat → List ByteArray → List ByteArray → List (List Int) → Int → Option ((List (List Int)))
 | 0, _, _, _, _ => none
 | k + 1, x0, x1, x5, x6 => if x6 ≥ 0 then (if 0 ≤ (wrap64 ((x1.length : Int) + 1)) then (if (wrap64 ((x1.length : Int) + 1) : Int).toNat ≤ 35184372088832 then (if 0 ≤ x6 then (if x6 < (x5.length : Int) then ((some (x5.set (x6 : Int).toNat (List.replicate (wrap64 ((x1.length : Int) + 1) : Int).toNat 0) : List (List Int))).bind fun y160 => (if x6 = (x0.length : Int) then (impl_common.l0 k x0 x1 y160 (wrap64 (x6 - 1))) else (impl_common.l1 k x0 x1 y160 x6 (wrap64 ((x1.length : Int) - 1))))) else (none)) else (none)) else (none)) else (none)) else (some x5)
def impl_common.l1 : Nat → List ByteArray → List ByteArray → List (List Int) → Int → Int → Option ((List (List Int)))
 | 0, _, _, _, _, _ => none
 | k + 1, x0, x1, x5, x6, x7 => if x7 ≥ 0 then (if 0 ≤ x6 then (if x6 < (x0.length : Int) then (if 0 ≤ x7 then (if x7 < (x1.length : Int) then (if (rdOf ByteArray.empty x0 x6).toList = (rdOf ByteArray.empty x1 x7).toList then (if x6 < (x5.length : Int) then (if 0 ≤ (wrap64 (x6 + 1)) then (if (wrap64 (x6 + 1)) < (x5.length : Int) then (if 0 ≤ (wrap64 (x7 + 1)) then (if (wrap64 (x7 + 1)) < ((rd_L1 x5 (wrap64 (x6 + 1))).length : Int) then (if x7 < ((rd_L1 x5 x6).length : Int) then (impl_common.l1 k x0 x1 (x5.set (x6 : Int).toNat ((rd_L1 x5 x6).set (x7 : Int).toNat (wrap64 (1 + (rd (rd_L1 x5 (wrap64 (x6 + 1))) (wrap64 (x7 + 1))))))) x6 (wrap64 (x7 - 1))) else (none)) else (none)) else (none)) else (none)) else (none)) else (none)) else (if x6 < (x5.length : Int) then (if 0 ≤ (wrap64 (x6 + 1)) then (if (wrap64 (x6 + 1)) < (x5.length : Int) then (if x7 < ((rd_L1 x5 (wrap64 (x6 + 1))).length : Int) then (if 0 ≤ (wrap64 (x7 + 1)) then (if (wrap64 (x7 + 1)) < ((rd_L1 x5 x6).length : Int) then (if x7 < ((rd_L1 x5 x6).length : Int) then (impl_common.l1 k x0 x1 (x5.set (x6 : Int).toNat ((rd_L1 x5 x6).set (x7 : Int).toNat (mx (rd (rd_L1 x5 (wrap64 (x6 + 1))) x7) (rd (rd_L1 x5 x6) (wrap64 (x7 + 1)))))) x6 (wrap64 (x7 - 1))) else (none)) else (none)) else (none)) else (none)) else (none)) else (none)) else (none))) else (none)) else (none)) else (none)) else (none)) else (impl_common.l0 k x0 x1 x5 (wrap64 (x6 - 1)))
end
def impl_common.f (k : Nat) (l0 : List ByteArray) (l1 : List ByteArray) : Option ((List (List Int))) := if 0 ≤ (wrap64 ((l0.length : Int) + 1)) then (if (wrap64 ((l0.length : Int) + 1) : Int).toNat ≤ 11728124029610 then (impl_common.l0 k l0 l1 (List.replicate (wrap64 ((l0.length : Int) + 1) : Int).toNat []) (l0.length : Int)) else (none)) else (none)
theorem impl_common.mono_l : ∀ k, (∀ y0 y1 y2 y3, LeO (impl_common.l0 k y0 y1 y2 y3) (impl_common.l0 (k + 1) y0 y1 y2 y3)) ∧ (∀ y0 y1 y2 y3 y4, LeO (impl_common.l1 k y0 y1 y2 y3 y4) (impl_common.l1 (k + 1) y0 y1 y2 y3 y4))
 | 0 => ⟨fun _ _ _ _ r h => by simp [impl_common.l0] at h, fun _ _ _ _ _ r h => by simp [impl_common.l1] at h⟩
 | k + 1 => by
  obtain ⟨ih0, ih1⟩ := impl_common.mono_l k
  refine ⟨?_, ?_⟩
  ·intro y0 y1 y2 y3
   unfold impl_common.l0
   repeat' first
   | (with_reducible exact ih0 _ _ _ _)
   | (with_reducible exact ih1 _ _ _ _ _)
   | (with_reducible exact LeO.refl _)
   | (with_reducible exact LeO.none _)
   | (with_reducible refine LeO.ite ?_ ?_)
   | (with_reducible refine LeO.bind ?_ (fun _ => ?_))
   | exact ih0 _ _ _ _
   | exact ih1 _ _ _ _ _
   | exact LeO.none _
   | refine LeO.ite ?_ ?_
   | refine LeO.bind ?_ (fun _ => ?_)
  ·intro y0 y1 y2 y3 y4
   unfold impl_common.l1
   repeat' first
   | (with_reducible exact ih0 _ _ _ _)
   | (with_reducible exact ih1 _ _ _ _ _)
   | (with_reducible exact LeO.refl _)
   | (with_reducible exact LeO.none _)
   | (with_reducible refine LeO.ite ?_ ?_)
   | (with_reducible refine LeO.bind ?_ (fun _ => ?_))
   | exact ih0 _ _ _ _
   | exact ih1 _ _ _ _ _
   | exact LeO.none _
   | refine LeO.ite ?_ ?_
   | refine LeO.bind ?_ (fun _ => ?_)
theorem impl_common.mono : ∀ a0 a1 k, LeO (impl_common.f k a0 a1) (impl_common.f (k + 1) a0 a1) := by
 intro a0 a1 k
 obtain ⟨ih0, ih1⟩ := impl_common.mono_l k
 unfold impl_common.f
 repeat' first
   | (with_reducible exact ih0 _ _ _ _)
   | (with_reducible exact ih1 _ _ _ _ _)
   | (with_reducible exact LeO.refl _)
   | (with_reducible exact LeO.none _)
   | (with_reducible refine LeO.ite ?_ ?_)
   | (with_reducible refine LeO.bind ?_ (fun _ => ?_))
   | exact ih0 _ _ _ _
   | exact ih1 _ _ _ _ _
   | exact LeO.none _
   | refine LeO.ite ?_ ?_
   | refine LeO.bind ?_ (fun _ => ?_)
def impl_common.T10 : Bool × List (List Nat × List Nat) := (true, [([], []), ([], []), ([0, 1], [0, 1]), ([2], [2]), ([], []), ([], []), ([4, 5], [4, 5]), ([6], [6]), ([3, 7], [3, 7])])
def impl_common.B10 : List Nat := [0, 0, 3, 7, 0, 0, 48, 112, 255]
theorem impl_common.tab10 : rtab .any (opsOf Tryd.f37 10) = impl_common.T10 := by kernel_rfl
theorem impl_common.bits10 : waitsOk impl_common.T10.2 impl_common.B10 = true := by kernel_rfl
def impl_common.T11 : Bool × List (List Nat × List Nat) := (true, [([], []), ([], []), ([0, 1], [0, 1]), ([2], [2]), ([], []), ([], []), ([], []), ([6], [6]), ([5, 7], [5, 7]), ([8], [8]), ([], []), ([10], [10]), ([9, 11], [9, 11]), ([12], [12]), ([13], [13]), ([3, 4, 0, 1, 2, 3, 4, 5, 6, 7, 8, 9, 10, 11, 12, 13, 14], [3, 4]), ([15, 14, 0, 1, 2, 3, 4, 5, 6, 7, 8, 9, 10, 11, 12, 13, 14], [14, 15])])
def impl_common.B11 : List Nat := [0, 0, 3, 7, 0, 0, 0, 64, 224, 480, 0, 1024, 4064, 8160, 16352, 32767, 65535]
theorem impl_common.tab11 : rtab .any (opsOf Tryd.f37 11) = impl_common.T11 := by kernel_rfl
theorem impl_common.bits11 : waitsOk impl_common.T11.2 impl_common.B11 = true := by kernel_rfl
def impl_common.T12 : Bool × List (List Nat × List Nat) := (true, [([], []), ([], []), ([0, 1], [0, 1]), ([2], [2]), ([], []), ([], []), ([], []), ([6], [6]), ([5, 7], [5, 7]), ([8], [8]), ([], []), ([9, 10], [9, 10]), ([11], [11]), ([], []), ([], []), ([13, 14], [13, 14]), ([15], [15]), ([], []), ([17], [17]), ([16, 18], [16, 18]), ([19], [19]), ([12, 20], [12, 20]), ([3, 4, 0, 1, 2, 3, 4, 5, 6, 7, 8, 9, 10, 11, 12, 13, 14, 15, 16, 17, 18, 19, 20, 21], [3, 4]), ([22, 21, 0, 1, 2, 3, 4, 5, 6, 7, 8, 9, 10, 11, 12, 13, 14, 15, 16, 17, 18, 19, 20, 21], [21, 22])])
def impl_common.B12 : List Nat := [0, 0, 3, 7, 0, 0, 0, 64, 224, 480, 0, 2016, 4064, 0, 0, 24576, 57344, 0, 131072, 516096, 1040384, 2097120, 4194303, 8388607]
theorem impl_common.tab12 : rtab .any (opsOf Tryd.f37 12) = impl_common.T12 := by kernel_rfl
theorem impl_common.bits12 : waitsOk impl_common.T12.2 impl_common.B12 = true := by kernel_rfl
set_option maxHeartbeats 8000000 in
set_option maxRecDepth 100000 in
theorem impl_common.calls (k : Nat) (A0 : Option Addr) (c0 : Nat) (l0 : List ByteArray) (A1 : Option Addr) (c1 : Nat) (l1 : List ByteArray) (r : List (List Int)) (w : World) (hr0 : Kd.C Kd.string w A0 l0.length l0) (hc0 : l0.length ≤ c0) (hr1 : Kd.C Kd.string w A1 l1.length l1) (hc1 : l1.length ≤ c1) (h : impl_common.f k l0 l1 = some r) :
  Calls Tryd.prog 37 #[.slice A0 l0.length c0, .slice A1 l1.length c1] w fun e w' => ∃ v0_ : Value, e = .returned (v0_) ∧ Kd.S (Kd.slice 3 (Kd.int .i64)) 49 w' w.heap.size (fun _ => True) v0_ r ∧ Below w.heap.size w w' := by
 have HR0 := Aside0.mk hr0
 have HC0 := Aside0.mk hc0
 clear hr0 hc0
 have HR1 := Aside0.mk hr1
 have HC1 := Aside0.mk hc1
 clear hr1 hc1
 have HB := Aside0.mk (Below.refl w.heap.size w)
 have H : (if 0 ≤ (wrap64 ((l0.length : Int) + 1)) then (if (wrap64 ((l0.length : Int) + 1) : Int).toNat ≤ 11728124029610 then (impl_common.l0 k l0 l1 (List.replicate (wrap64 ((l0.length : Int) + 1) : Int).toNat []) (l0.length : Int)) else (none)) else (none)) = some r := h
 clear h
 obtain ⟨ji3, hji3⟩ : ∃ j_ : Int, (wrap64 ((l0.length : Int) + 1)) = j_ := ⟨_, rfl⟩
 replace H : (if 0 ≤ (ji3) then (if (ji3 : Int).toNat ≤ 11728124029610 then (impl_common.l0 k l0 l1 (List.replicate (ji3 : Int).toNat []) (l0.length : Int)) else (none)) else (none)) = some r := by first | (rw [hji3] at H; exact H) | (simp only [hji3] at H ⊢; exact H)
 have hji3w : (IntKind.i64.wrap ((l0.length : Int) + 1)) = ji3 := (i64_w _).trans hji3
 by_cases c4 : 0 ≤ (ji3)
 ·rw [if_pos c4] at H
  have c4b0 := eq_true c4
  have c4b1 : decide (0 ≤ (ji3)) = true := decide_eq_true c4
  clear c4
  by_cases c5 : (ji3 : Int).toNat ≤ 11728124029610
  ·rw [if_pos c5] at H
   have c5b0 := eq_true c5
   have c5b1 : decide ((ji3 : Int).toNat ≤ 11728124029610) = true := decide_eq_true c5
   clear c5
   obtain ⟨y154, hy154⟩ : ∃ y_ : List (List Int), y_ = (List.replicate (ji3 : Int).toNat []) := ⟨_, rfl⟩
   replace H : (impl_common.l0 k l0 l1 y154 (l0.length : Int)) = some r := by first | (rw [hy154]; with_reducible exact H) | (have H2_ := (Option.bind_some _ _).symm.trans H; rw [hy154]; with_reducible exact H2_) | (have H2_ := (Option.bind_some _ _).symm.trans H; with_reducible exact H2_) | with_reducible exact H | (rw [hy154]; exact H) | exact H
   have Ny154 := Aside0.mk hy154
   clear hy154
   have H' := Aside0.mk H
   clear H
   go_enter Tryd.func37, Tryd.ntmps37
   go_wp2_with (first | ((with_reducible refine gate_dst (N := 11) rfl ?_); refine Kd.S_make (Kd.slice 3 (Kd.int .i64)) _ 49 rfl (N := 11) rfl 50 _ _ rfl ji3 rfl rfl Tryd.underlying50 (.slice none 0 0) 24 info49 rfl (by decide) (by omega) [] (ok := fun _ => True) (okp := fun _ => True) ⟨_, rfl, Kd.R_nil _ _ _ _ _⟩ (fun _ hk => hk) trivial (of_decide_eq_true (by first | (with_reducible assumption) | assumption)) (Nat.le_trans (Nat.mul_le_mul_right _ (of_decide_eq_true (by first | (with_reducible assumption) | assumption) : ji3.toNat ≤ 11728124029610)) (by omega)) (Below.refl _ _) (Nat.le_refl _) ?_; intro v155 w6 ho7 hb hg_ hnew_; clear hg_ hnew_; (first | rw [← Ny154.out] at ho7 | (simp only [Int.reduceToNat] at ho7; rw [← Ny154.out] at ho7)); have n0_ := Aside0.mk (Kd.S_lower ho7 (below_size (by repeat (first | (with_reducible first | exact HB.out | apply below_alloc | apply pw_below_drewN | apply below_drew1) | exact HB.out)))); have n1_ := Aside0.mk (below_step (by repeat (first | (with_reducible first | exact HB.out | apply below_alloc | apply pw_below_drewN | apply below_drew1) | exact HB.out)) hb); clear HB; have HO156 := n0_; have HB := n1_; clear n0_ n1_; clear hb ho7))
   go_loopg [6] k (fun kq v6 w' => ∃ (x5_1 : List (List Int)) (x6_1 : Int), v6 = .int .i64 x6_1 ∧ Aside0 (impl_common.l0 kq l0 l1 x5_1 x6_1 = some r) ∧ Aside0 (kq ≤ k) ∧ Aside0 (Kd.S (Kd.slice 3 (Kd.int .i64)) 49 w' w.heap.size (fun _ => True) v155 x5_1) ∧ Aside0 (Below w.heap.size w w'))
   case atStart => exact ⟨(y154), ((l0.length : Int)), (by first | rfl | (simp; done) | (simp [*]; done)), H', ⟨Nat.le_refl _⟩, ⟨by (with_reducible repeat (first | apply Kd.S_alloc | apply Kd.S_drewN | apply Kd.S_drew)); exact HO156.out⟩, ⟨by repeat (first | (with_reducible first | exact HB.out | apply below_alloc | apply pw_below_drewN | apply below_drew1) | exact HB.out)⟩⟩
   case round =>
    clear H'
    try clear c1
    try clear p2
    try clear c3
    try clear c4
    try clear c4b0
    try clear c4b1
    try clear c5
    try clear c5b0
    try clear c5b1
    try clear p6
    obtain ⟨x5_1, x6_1, rfl, HA, HK1, HO_5, HB⟩ := hrel
    cases gk with
    | zero => exact absurd HA.out (by simp [impl_common.l0])
    | succ k1 =>
     have H := HA.out
     clear HA
     simp only [impl_common.l0] at H
     by_cases c8 : x6_1 ≥ 0
     ·rw [if_pos c8] at H
      have c8b0 : decide (0 ≤ x6_1) = true := decide_eq_true c8
      clear c8
      obtain ⟨ji9, hji9⟩ : ∃ j_ : Int, (wrap64 ((l1.length : Int) + 1)) = j_ := ⟨_, rfl⟩
      replace H : (if 0 ≤ (ji9) then (if (ji9 : Int).toNat ≤ 35184372088832 then (if 0 ≤ x6_1 then (if x6_1 < (x5_1.length : Int) then ((some (x5_1.set (x6_1 : Int).toNat (List.replicate (ji9 : Int).toNat 0) : List (List Int))).bind fun y160 => (if x6_1 = (l0.length : Int) then (impl_common.l0 k1 l0 l1 y160 (wrap64 (x6_1 - 1))) else (impl_common.l1 k1 l0 l1 y160 x6_1 (wrap64 ((l1.length : Int) - 1))))) else (none)) else (none)) else (none)) else (none)) = some r := by first | (rw [hji9] at H; exact H) | (simp only [hji9] at H ⊢; exact H)
      have hji9w : (IntKind.i64.wrap ((l1.length : Int) + 1)) = ji9 := (i64_w _).trans hji9
      by_cases c10 : 0 ≤ (ji9)
      ·rw [if_pos c10] at H
       have c10b0 := eq_true c10
       have c10b1 : decide (0 ≤ (ji9)) = true := decide_eq_true c10
       clear c10
       by_cases c11 : (ji9 : Int).toNat ≤ 35184372088832
       ·rw [if_pos c11] at H
        have c11b0 := eq_true c11
        have c11b1 : decide ((ji9 : Int).toNat ≤ 35184372088832) = true := decide_eq_true c11
        clear c11
        obtain ⟨y157, hy157⟩ : ∃ y_ : List Int, y_ = (List.replicate (ji9 : Int).toNat 0) := ⟨_, rfl⟩
        replace H : (if 0 ≤ x6_1 then (if x6_1 < (x5_1.length : Int) then ((some (x5_1.set (x6_1 : Int).toNat y157 : List (List Int))).bind fun y160 => (if x6_1 = (l0.length : Int) then (impl_common.l0 k1 l0 l1 y160 (wrap64 (x6_1 - 1))) else (impl_common.l1 k1 l0 l1 y160 x6_1 (wrap64 ((l1.length : Int) - 1))))) else (none)) else (none)) = some r := by first | (rw [hy157]; with_reducible exact H) | (have H2_ := (Option.bind_some _ _).symm.trans H; rw [hy157]; with_reducible exact H2_) | (have H2_ := (Option.bind_some _ _).symm.trans H; with_reducible exact H2_) | with_reducible exact H | (rw [hy157]; exact H) | exact H
        have Ny157 := Aside0.mk hy157
        clear hy157
        by_cases c12 : 0 ≤ x6_1
        ·rw [if_pos c12] at H
         have c12b0 : decide (0 ≤ x6_1) = true := decide_eq_true c12
         clear c12
         by_cases c13 : x6_1 < (x5_1.length : Int)
         ·rw [if_pos c13] at H
          have c13b0 : decide (x6_1 < (x5_1.length : Int)) = true := decide_eq_true c13
          clear c13
          obtain ⟨y160, hy160⟩ : ∃ y_ : List (List Int), y_ = (x5_1.set (x6_1 : Int).toNat y157) := ⟨_, rfl⟩
          replace H : (if x6_1 = (l0.length : Int) then (impl_common.l0 k1 l0 l1 y160 (wrap64 (x6_1 - 1))) else (impl_common.l1 k1 l0 l1 y160 x6_1 (wrap64 ((l1.length : Int) - 1)))) = some r := by first | (rw [hy160]; with_reducible exact H) | (have H2_ := (Option.bind_some _ _).symm.trans H; rw [hy160]; with_reducible exact H2_) | (have H2_ := (Option.bind_some _ _).symm.trans H; with_reducible exact H2_) | with_reducible exact H | (rw [hy160]; exact H) | exact H
          have Ny160 := Aside0.mk hy160
          clear hy160
          by_cases c15 : x6_1 = (l0.length : Int)
          ·rw [if_pos c15] at H
           have c15b0 : (x6_1 == (l0.length : Int)) = true := beq_iff_eq.mpr c15
           have c15b1 : (x6_1 != (l0.length : Int)) = false := bne_eq_false_iff_eq.mpr c15
           clear c15
           have H' := Aside0.mk H
           clear H
           go_wp2_with (first | ((with_reducible refine gate_dst (N := 23) rfl ?_); refine Kd.R_make (Kd.int .i64) _ 3 rfl (N := 23) rfl 49 _ _ rfl ji9 rfl rfl Tryd.underlying49 (.int .i64 0) 8 info3 rfl (by decide) (by omega) 0 (ok := fun _ => True) (okp := fun _ => True) rfl (fun _ hk => hk) trivial (of_decide_eq_true (by first | (with_reducible assumption) | assumption)) (Nat.le_trans (Nat.mul_le_mul_right _ (of_decide_eq_true (by first | (with_reducible assumption) | assumption) : ji9.toNat ≤ 35184372088832)) (by omega)) (Below.refl _ _) (Nat.le_refl _) ?_; intro v158 w16 ho17 hb hg_ hnew_; clear hg_ hnew_; (first | rw [← Ny157.out] at ho17 | (simp only [Int.reduceToNat] at ho17; rw [← Ny157.out] at ho17)); have n0_ := Aside0.mk (Kd.S_elder' (by (with_reducible repeat (first | apply Kd.S_alloc | apply Kd.S_drewN | apply Kd.S_drew)); exact HO_5.out) (Kd.R_base ho17) hb); have n1_ := Aside0.mk (Kd.R_lower ho17 (below_size (by repeat (first | (with_reducible first | exact HB.out | apply below_alloc | apply pw_below_drewN | apply below_drew1) | exact HB.out)))); have n2_ := Aside0.mk (below_step (by repeat (first | (with_reducible first | exact HB.out | apply below_alloc | apply pw_below_drewN | apply below_drew1) | exact HB.out)) hb); clear HO_5; clear HB; have HO_5 := n0_; have HO159 := n1_; have HB := n2_; clear n0_ n1_ n2_; clear hb ho17; have p14 : 0 ≤ (x6_1 : Int) := of_decide_eq_true (by first | (with_reducible assumption) | assumption); have q14 : (x6_1 : Int) < ((x5_1.length : Int) : Int) := of_decide_eq_true (by first | (with_reducible assumption) | assumption); obtain ⟨go14, co14, eo14, gb14, gl14, cl14, HG14⟩ := Kd.S_form HO_5.out (by omega); (first | cases eo14 | (injection eo14 with ea_ en_ ec_; (first | subst ea_ | (injection ea_ with ea_; subst ea_)); subst ec_; clear en_)); have GB14 := Aside0.mk gb14; have GG14 := Aside0.mk HG14; clear gb14 gl14 HG14; obtain ⟨_, ce14, hcl14, hM14, hcc14, hfr14, _, _⟩ := Kd.S_elem HO_5.out [] (x6_1 : Int) p14 q14; obtain ⟨ve14_0, rfl, ge14_0⟩ := hM14; have hx14_0 := hcc14 0 _ rfl; have hf14_0 := hfr14 0; (try simp only [show ((Kd.slice 3 (Kd.int .i64))).sz = 1 from rfl, Nat.mul_one, Nat.add_zero] at hx14_0); (try simp only [show ((Kd.slice 3 (Kd.int .i64))).sz = 1 from rfl, Nat.mul_one, Nat.add_zero] at hf14_0); clear hcl14 hcc14 hfr14; (try clear hM14); replace p14 := eq_true p14; replace q14 := eq_true q14; have n_ := Aside0.mk (Kd.S_mono (ok' := (fun k_ => some k_ ≠ (v158 : Value).ownBlock)) HO_5.out (fun k_ hk => hk.2)); clear HO_5; have HO_5 := n_; clear n_; have HX18 := Aside0.mk (show Kd.S (Kd.slice 3 (Kd.int .i64)) 49 w16 w.heap.size (fun k_ => ((fun _ => True)) k_ ∧ ¬ ((fun k_ => some k_ = (v158 : Value).ownBlock)) k_) (.slice (some ⟨go14, 0, none⟩) x5_1.length co14) x5_1 from (by (with_reducible repeat (first | apply Kd.S_alloc | apply Kd.S_drewN | apply Kd.S_drew)); exact Kd.S_mono HO_5.out (fun k_ hk => ⟨trivial, fun e_ => hk e_⟩))); obtain ⟨oki18, ce18, hcl18, hM18, hcc18, hfr18, hoki18, hH18⟩ := Kd.S_elem HX18.out [] (x6_1 : Int) (of_decide_eq_true (by first | (with_reducible assumption) | assumption)) (by have h_ : (x6_1 : Int) < ((x5_1.length : Int) : Int) := of_decide_eq_true (by first | (with_reducible assumption) | assumption); first | exact h_ | (have e_ := (Kd.S_reads' HO_5.out).1; omega) | simpa using h_); obtain ⟨ve18_0, rfl, ge18_0⟩ := hM18; have HP18 := Kd.S_seg hH18 (of_decide_eq_true (by first | (with_reducible assumption) | assumption)) (by have h_ : (x6_1 : Int) < ((x5_1.length : Int) : Int) := of_decide_eq_true (by first | (with_reducible assumption) | assumption); first | exact h_ | (have e_ := (Kd.S_reads' HO_5.out).1; omega) | simpa using h_) (seg := [v158]) (j := 0) (show 1 ≤ 1 from by decide) (x' := y157) (Kd.M_row (Kd.R_mono (Kd.R_tight rfl (Kd.R_mono (ok' := fun k_ => ((fun _ => True)) k_ ∧ k_ ≠ go14) (Kd.R_apart' (HO159.out) (Kd.S_typed HO_5.out) (by decide)) (fun k_ hk => ⟨trivial, fun e_ => (hk.2) (by rw [e_]; rfl)⟩))) (fun _ h_ => Or.inr (h_)))) (fun _ hk => hk) (fun k_ hk_ => ((Kd.R_mono (ok' := fun k_ => ((fun _ => True)) k_ ∧ k_ ≠ go14) (Kd.R_apart' (HO159.out) (Kd.S_typed HO_5.out) (by decide)) (fun k_ hk => ⟨trivial, fun e_ => (hk.2) (by rw [e_]; rfl)⟩))).1 k_ hk_.symm); have hx18_0 := hcc18 0 _ rfl; (try simp only [show ((Kd.slice 3 (Kd.int .i64))).sz = 1 from rfl, Nat.mul_one, Nat.add_zero] at hx18_0); have hf18_0 := hfr18 0; (try simp only [show ((Kd.slice 3 (Kd.int .i64))).sz = 1 from rfl, Nat.mul_one, Nat.add_zero] at hf18_0); clear hcl18 hcc18 hfr18 hoki18 hH18; (try clear hM18); (try simp only [show ((Kd.slice 3 (Kd.int .i64))).sz = 1 from rfl, Nat.mul_one, Nat.add_zero] at HP18)) | ((with_reducible refine gate_store (t := 49) (p := 24) rfl ?_); refine store_event (t := 49) (p := 24) (v := ?vo_w19) (w1 := (w16.setCell ⟨go14, (x6_1 : Int).toNat, none⟩ (v158))) ?hg ?ho ?hn ?hr ?_; (case ho => rfl); (case hg => rfl); (case hn => rfl); (case hr => first | (go_simp; done) | (go_simp; rfl) | (obtain ⟨Ao_, co_, eo_⟩ := Kd.R_slice HO159.out; subst eo_; first | (go_simp; done) | (go_simp; rfl))); intro w19 hw; have hg : w16.grownBy w19 (some go14) := (by rw [hw]; exact HP18.2); have hp_ : Kd.S (Kd.slice 3 (Kd.int .i64)) 49 w19 w.heap.size (fun _ => True) (.slice (some ⟨go14, 0, none⟩) x5_1.length co14) y160 := (by rw [hw, Ny160.out]; exact HP18.1); clear HP18; have n0_ := Aside0.mk (hp_); have n1_ := Aside0.mk ((by rw [hw]; exact below_set (HB.out) GB14.out : Below w.heap.size w w19)); clear HO_5; clear HB; clear HO159; have HO_5 := n0_; have HB := n1_; clear n0_ n1_; clear hg hw hp_))
           go_roundg k1
           case measure => have := HK1.out; omega
           case rel => exact ⟨(y160), (wrap64 (x6_1 - 1)), (by first | rfl | (simp; done) | (simp [*]; done)), H', ⟨by have := HK1.out; omega⟩, ⟨by (with_reducible repeat (first | apply Kd.S_alloc | apply Kd.S_drewN | apply Kd.S_drew)); exact HO_5.out⟩, ⟨by repeat (first | (with_reducible first | exact HB.out | apply below_alloc | apply pw_below_drewN | apply below_drew1) | exact HB.out)⟩⟩
          ·rw [if_neg c15] at H
           have c15b0 : (x6_1 == (l0.length : Int)) = false := beq_eq_false_iff_ne.mpr c15
           have c15b1 : (x6_1 != (l0.length : Int)) = true := bne_iff_ne.mpr c15
           have H' := Aside0.mk H
           clear H
           go_wp2_with (first | ((with_reducible refine gate_dst (N := 23) rfl ?_); refine Kd.R_make (Kd.int .i64) _ 3 rfl (N := 23) rfl 49 _ _ rfl ji9 rfl rfl Tryd.underlying49 (.int .i64 0) 8 info3 rfl (by decide) (by omega) 0 (ok := fun _ => True) (okp := fun _ => True) rfl (fun _ hk => hk) trivial (of_decide_eq_true (by first | (with_reducible assumption) | assumption)) (Nat.le_trans (Nat.mul_le_mul_right _ (of_decide_eq_true (by first | (with_reducible assumption) | assumption) : ji9.toNat ≤ 35184372088832)) (by omega)) (Below.refl _ _) (Nat.le_refl _) ?_; intro v158 w20 ho21 hb hg_ hnew_; clear hg_ hnew_; (first | rw [← Ny157.out] at ho21 | (simp only [Int.reduceToNat] at ho21; rw [← Ny157.out] at ho21)); have n0_ := Aside0.mk (Kd.S_elder' (by (with_reducible repeat (first | apply Kd.S_alloc | apply Kd.S_drewN | apply Kd.S_drew)); exact HO_5.out) (Kd.R_base ho21) hb); have n1_ := Aside0.mk (Kd.R_lower ho21 (below_size (by repeat (first | (with_reducible first | exact HB.out | apply below_alloc | apply pw_below_drewN | apply below_drew1) | exact HB.out)))); have n2_ := Aside0.mk (below_step (by repeat (first | (with_reducible first | exact HB.out | apply below_alloc | apply pw_below_drewN | apply below_drew1) | exact HB.out)) hb); clear HO_5; clear HB; have HO_5 := n0_; have HO159 := n1_; have HB := n2_; clear n0_ n1_ n2_; clear hb ho21; have p14 : 0 ≤ (x6_1 : Int) := of_decide_eq_true (by first | (with_reducible assumption) | assumption); have q14 : (x6_1 : Int) < ((x5_1.length : Int) : Int) := of_decide_eq_true (by first | (with_reducible assumption) | assumption); obtain ⟨go14, co14, eo14, gb14, gl14, cl14, HG14⟩ := Kd.S_form HO_5.out (by omega); (first | cases eo14 | (injection eo14 with ea_ en_ ec_; (first | subst ea_ | (injection ea_ with ea_; subst ea_)); subst ec_; clear en_)); have GB14 := Aside0.mk gb14; have GG14 := Aside0.mk HG14; clear gb14 gl14 HG14; obtain ⟨_, ce14, hcl14, hM14, hcc14, hfr14, _, _⟩ := Kd.S_elem HO_5.out [] (x6_1 : Int) p14 q14; obtain ⟨ve14_0, rfl, ge14_0⟩ := hM14; have hx14_0 := hcc14 0 _ rfl; have hf14_0 := hfr14 0; (try simp only [show ((Kd.slice 3 (Kd.int .i64))).sz = 1 from rfl, Nat.mul_one, Nat.add_zero] at hx14_0); (try simp only [show ((Kd.slice 3 (Kd.int .i64))).sz = 1 from rfl, Nat.mul_one, Nat.add_zero] at hf14_0); clear hcl14 hcc14 hfr14; (try clear hM14); replace p14 := eq_true p14; replace q14 := eq_true q14; have n_ := Aside0.mk (Kd.S_mono (ok' := (fun k_ => some k_ ≠ (v158 : Value).ownBlock)) HO_5.out (fun k_ hk => hk.2)); clear HO_5; have HO_5 := n_; clear n_; have HX22 := Aside0.mk (show Kd.S (Kd.slice 3 (Kd.int .i64)) 49 w20 w.heap.size (fun k_ => ((fun _ => True)) k_ ∧ ¬ ((fun k_ => some k_ = (v158 : Value).ownBlock)) k_) (.slice (some ⟨go14, 0, none⟩) x5_1.length co14) x5_1 from (by (with_reducible repeat (first | apply Kd.S_alloc | apply Kd.S_drewN | apply Kd.S_drew)); exact Kd.S_mono HO_5.out (fun k_ hk => ⟨trivial, fun e_ => hk e_⟩))); obtain ⟨oki22, ce22, hcl22, hM22, hcc22, hfr22, hoki22, hH22⟩ := Kd.S_elem HX22.out [] (x6_1 : Int) (of_decide_eq_true (by first | (with_reducible assumption) | assumption)) (by have h_ : (x6_1 : Int) < ((x5_1.length : Int) : Int) := of_decide_eq_true (by first | (with_reducible assumption) | assumption); first | exact h_ | (have e_ := (Kd.S_reads' HO_5.out).1; omega) | simpa using h_); obtain ⟨ve22_0, rfl, ge22_0⟩ := hM22; have HP22 := Kd.S_seg hH22 (of_decide_eq_true (by first | (with_reducible assumption) | assumption)) (by have h_ : (x6_1 : Int) < ((x5_1.length : Int) : Int) := of_decide_eq_true (by first | (with_reducible assumption) | assumption); first | exact h_ | (have e_ := (Kd.S_reads' HO_5.out).1; omega) | simpa using h_) (seg := [v158]) (j := 0) (show 1 ≤ 1 from by decide) (x' := y157) (Kd.M_row (Kd.R_mono (Kd.R_tight rfl (Kd.R_mono (ok' := fun k_ => ((fun _ => True)) k_ ∧ k_ ≠ go14) (Kd.R_apart' (HO159.out) (Kd.S_typed HO_5.out) (by decide)) (fun k_ hk => ⟨trivial, fun e_ => (hk.2) (by rw [e_]; rfl)⟩))) (fun _ h_ => Or.inr (h_)))) (fun _ hk => hk) (fun k_ hk_ => ((Kd.R_mono (ok' := fun k_ => ((fun _ => True)) k_ ∧ k_ ≠ go14) (Kd.R_apart' (HO159.out) (Kd.S_typed HO_5.out) (by decide)) (fun k_ hk => ⟨trivial, fun e_ => (hk.2) (by rw [e_]; rfl)⟩))).1 k_ hk_.symm); have hx22_0 := hcc22 0 _ rfl; (try simp only [show ((Kd.slice 3 (Kd.int .i64))).sz = 1 from rfl, Nat.mul_one, Nat.add_zero] at hx22_0); have hf22_0 := hfr22 0; (try simp only [show ((Kd.slice 3 (Kd.int .i64))).sz = 1 from rfl, Nat.mul_one, Nat.add_zero] at hf22_0); clear hcl22 hcc22 hfr22 hoki22 hH22; (try clear hM22); (try simp only [show ((Kd.slice 3 (Kd.int .i64))).sz = 1 from rfl, Nat.mul_one, Nat.add_zero] at HP22)) | ((with_reducible refine gate_store (t := 49) (p := 24) rfl ?_); refine store_event (t := 49) (p := 24) (v := ?vo_w23) (w1 := (w20.setCell ⟨go14, (x6_1 : Int).toNat, none⟩ (v158))) ?hg ?ho ?hn ?hr ?_; (case ho => rfl); (case hg => rfl); (case hn => rfl); (case hr => first | (go_simp; done) | (go_simp; rfl) | (obtain ⟨Ao_, co_, eo_⟩ := Kd.R_slice HO159.out; subst eo_; first | (go_simp; done) | (go_simp; rfl))); intro w23 hw; have hg : w20.grownBy w23 (some go14) := (by rw [hw]; exact HP22.2); have hp_ : Kd.S (Kd.slice 3 (Kd.int .i64)) 49 w23 w.heap.size (fun _ => True) (.slice (some ⟨go14, 0, none⟩) x5_1.length co14) y160 := (by rw [hw, Ny160.out]; exact HP22.1); clear HP22; have n0_ := Aside0.mk (hp_); have n1_ := Aside0.mk ((by rw [hw]; exact below_set (HB.out) GB14.out : Below w.heap.size w w23)); clear HO_5; clear HB; clear HO159; have HO_5 := n0_; have HB := n1_; clear n0_ n1_; clear hg hw hp_))
           go_loopg [7] k1 (fun kq v7 w' => ∃ (x5_2 : List (List Int)) (x7_2 : Int), v7 = .int .i64 x7_2 ∧ Aside0 (impl_common.l1 kq l0 l1 x5_2 x6_1 x7_2 = some r) ∧ Aside0 (kq ≤ k1) ∧ Aside0 (Kd.S (Kd.slice 3 (Kd.int .i64)) 49 w' w.heap.size (fun _ => True) (.slice (some ⟨go14, 0, none⟩) x5_1.length co14) x5_2) ∧ Aside0 (Below w.heap.size w w'))
           case atStart => exact ⟨(y160), (wrap64 ((l1.length : Int) - 1)), (by first | rfl | (simp; done) | (simp [*]; done)), H', ⟨Nat.le_refl _⟩, ⟨by (with_reducible repeat (first | apply Kd.S_alloc | apply Kd.S_drewN | apply Kd.S_drew)); exact HO_5.out⟩, ⟨by repeat (first | (with_reducible first | exact HB.out | apply below_alloc | apply pw_below_drewN | apply below_drew1) | exact HB.out)⟩⟩
           case round =>
            clear H'
            try clear c1
            try clear p1
            try clear q1
            try clear hx1
            try clear c2
            try clear p2
            try clear hx2
            try clear hf2
            try clear c3
            try clear c4
            try clear c4b0
            try clear c4b1
            try clear c5
            try clear c5b0
            try clear c5b1
            try clear p6
            try clear c8
            try clear c8b0
            try clear c10
            try clear c10b0
            try clear c10b1
            try clear c11
            try clear c11b0
            try clear c11b1
            try clear c12
            try clear c12b0
            try clear c13
            try clear c13b0
            try clear c14
            try clear p14
            try clear q14
            try clear hx14
            try clear hf14
            try clear c15
            try clear c15b0
            try clear c15b1
            try clear c18
            try clear hx18
            try clear hf18
            try clear c22
            try clear hx22
            try clear hf22
            try clear hx14_0
            try clear hx18_0
            try clear hx22_0
            try clear p14
            try clear p2
            try clear p6
            try clear q14
            obtain ⟨x5_2, x7_2, rfl, HA, HK2, HO_5, HB⟩ := hrel
            have hl5_2 := (Kd.S_reads' HO_5.out).1
            rw [hl5_2] at HO_5
            (try simp only [hl5_2])
            cases gk with
            | zero => exact absurd HA.out (by simp [impl_common.l1])
            | succ k2 =>
             have H := HA.out
             clear HA
             simp only [impl_common.l1] at H
             by_cases c24 : x7_2 ≥ 0
             ·rw [if_pos c24] at H
              have c24b0 : decide (0 ≤ x7_2) = true := decide_eq_true c24
              clear c24
              by_cases c25 : 0 ≤ x6_1
              ·rw [if_pos c25] at H
               have c25b0 : decide (0 ≤ x6_1) = true := decide_eq_true c25
               clear c25
               by_cases c26 : x6_1 < (l0.length : Int)
               ·rw [if_pos c26] at H
                have c26b0 : decide (x6_1 < (l0.length : Int)) = true := decide_eq_true c26
                clear c26
                by_cases c27 : 0 ≤ x7_2
                ·rw [if_pos c27] at H
                 have c27b0 : decide (0 ≤ x7_2) = true := decide_eq_true c27
                 clear c27
                 by_cases c28 : x7_2 < (l1.length : Int)
                 ·rw [if_pos c28] at H
                  have c28b0 : decide (x7_2 < (l1.length : Int)) = true := decide_eq_true c28
                  clear c28
                  by_cases c29 : (rdOf ByteArray.empty l0 x6_1).toList = (rdOf ByteArray.empty l1 x7_2).toList
                  ·rw [if_pos c29] at H
                   have c29b0 : ((rdOf ByteArray.empty l0 x6_1).toList == (rdOf ByteArray.empty l1 x7_2).toList) = true := beq_iff_eq.mpr c29
                   have c29b1 : ((rdOf ByteArray.empty l0 x6_1).toList != (rdOf ByteArray.empty l1 x7_2).toList) = false := bne_eq_false_iff_eq.mpr c29
                   clear c29
                   by_cases c30 : x6_1 < (x5_2.length : Int)
                   ·rw [if_pos c30] at H
                    have c30b0 : decide (x6_1 < (x5_2.length : Int)) = true := decide_eq_true c30
                    clear c30
                    obtain ⟨ji31, hji31⟩ : ∃ j_ : Int, (wrap64 (x6_1 + 1)) = j_ := ⟨_, rfl⟩
                    replace H : (if 0 ≤ (ji31) then (if (ji31) < (x5_2.length : Int) then (if 0 ≤ (wrap64 (x7_2 + 1)) then (if (wrap64 (x7_2 + 1)) < ((rd_L1 x5_2 (ji31)).length : Int) then (if x7_2 < ((rd_L1 x5_2 x6_1).length : Int) then (impl_common.l1 k2 l0 l1 (x5_2.set (x6_1 : Int).toNat ((rd_L1 x5_2 x6_1).set (x7_2 : Int).toNat (wrap64 (1 + (rd (rd_L1 x5_2 (ji31)) (wrap64 (x7_2 + 1))))))) x6_1 (wrap64 (x7_2 - 1))) else (none)) else (none)) else (none)) else (none)) else (none)) = some r := by first | (rw [hji31] at H; exact H) | (simp only [hji31] at H ⊢; exact H)
                    have hji31w : (IntKind.i64.wrap (x6_1 + 1)) = ji31 := (i64_w _).trans hji31
                    by_cases c32 : 0 ≤ (ji31)
                    ·rw [if_pos c32] at H
                     have c32b0 : decide (0 ≤ (ji31)) = true := decide_eq_true c32
                     clear c32
                     by_cases c33 : (ji31) < (x5_2.length : Int)
                     ·rw [if_pos c33] at H
                      have c33b0 : decide ((ji31) < (x5_2.length : Int)) = true := decide_eq_true c33
                      clear c33
                      obtain ⟨ji34, hji34⟩ : ∃ j_ : Int, (wrap64 (x7_2 + 1)) = j_ := ⟨_, rfl⟩
                      replace H : (if 0 ≤ (ji34) then (if (ji34) < ((rd_L1 x5_2 (ji31)).length : Int) then (if x7_2 < ((rd_L1 x5_2 x6_1).length : Int) then (impl_common.l1 k2 l0 l1 (x5_2.set (x6_1 : Int).toNat ((rd_L1 x5_2 x6_1).set (x7_2 : Int).toNat (wrap64 (1 + (rd (rd_L1 x5_2 (ji31)) (ji34)))))) x6_1 (wrap64 (x7_2 - 1))) else (none)) else (none)) else (none)) = some r := by first | (rw [hji34] at H; exact H) | (simp only [hji34] at H ⊢; exact H)
                      have hji34w : (IntKind.i64.wrap (x7_2 + 1)) = ji34 := (i64_w _).trans hji34
                      by_cases c35 : 0 ≤ (ji34)
                      ·rw [if_pos c35] at H
                       have c35b0 : decide (0 ≤ (ji34)) = true := decide_eq_true c35
                       clear c35
                       by_cases c36 : (ji34) < ((rd_L1 x5_2 (ji31)).length : Int)
                       ·rw [if_pos c36] at H
                        have c36b0 : decide ((ji34) < ((rd_L1 x5_2 (ji31)).length : Int)) = true := decide_eq_true c36
                        clear c36
                        by_cases c37 : x7_2 < ((rd_L1 x5_2 x6_1).length : Int)
                        ·rw [if_pos c37] at H
                         have c37b0 : decide (x7_2 < ((rd_L1 x5_2 x6_1).length : Int)) = true := decide_eq_true c37
                         clear c37
                         obtain ⟨y166, hy166⟩ : ∃ y_ : List Int, y_ = ((rd_L1 x5_2 x6_1).set (x7_2 : Int).toNat (wrap64 (1 + (rd (rd_L1 x5_2 (ji31)) (ji34))))) := ⟨_, rfl⟩
                         replace H : (impl_common.l1 k2 l0 l1 (x5_2.set (x6_1 : Int).toNat y166) x6_1 (wrap64 (x7_2 - 1))) = some r := by first | (rw [hy166]; with_reducible exact H) | (have H2_ := (Option.bind_some _ _).symm.trans H; rw [hy166]; with_reducible exact H2_) | (have H2_ := (Option.bind_some _ _).symm.trans H; with_reducible exact H2_) | with_reducible exact H | (rw [hy166]; exact H) | exact H
                         have Ny166 := Aside0.mk hy166
                         clear hy166
                         obtain ⟨y168, hy168⟩ : ∃ y_ : List (List Int), y_ = (x5_2.set (x6_1 : Int).toNat y166) := ⟨_, rfl⟩
                         replace H : (impl_common.l1 k2 l0 l1 y168 x6_1 (wrap64 (x7_2 - 1))) = some r := by first | (rw [hy168]; with_reducible exact H) | (have H2_ := (Option.bind_some _ _).symm.trans H; rw [hy168]; with_reducible exact H2_) | (have H2_ := (Option.bind_some _ _).symm.trans H; with_reducible exact H2_) | with_reducible exact H | (rw [hy168]; exact H) | exact H
                         have Ny168 := Aside0.mk hy168
                         clear hy168
                         have H' := Aside0.mk H
                         clear H
                         try go_wp2
                         have n0_ := Aside0.mk (Kd.S_drew HO_5.out)
                         have n1_ := Aside0.mk (below_drew1 HB.out)
                         clear HO_5
                         clear HB
                         have HO_5 := n0_
                         have HB := n1_
                         clear n0_ n1_
                         have p161 : 0 ≤ (x6_1 : Int) := of_decide_eq_true (by first | (with_reducible assumption) | assumption)
                         have q161 : x6_1 < (l0.length : Int) := of_decide_eq_true (by first | (with_reducible assumption) | assumption)
                         obtain ⟨ad161, e161, hx161_0⟩ := Kd.at_string HR0.out x6_1 p161 q161
                         have hw161_0 := hx161_0
                         cases e161
                         replace hx161_0 := (HB.out.cell (World.block_lt_of_cell? w _ hx161_0)).trans hx161_0
                         replace p161 := eq_true p161
                         replace q161 := eq_true q161
                         have p162 : 0 ≤ (x7_2 : Int) := of_decide_eq_true (by first | (with_reducible assumption) | assumption)
                         have q162 : x7_2 < (l1.length : Int) := of_decide_eq_true (by first | (with_reducible assumption) | assumption)
                         obtain ⟨ad162, e162, hx162_0⟩ := Kd.at_string HR1.out x7_2 p162 q162
                         have hw162_0 := hx162_0
                         cases e162
                         replace hx162_0 := (HB.out.cell (World.block_lt_of_cell? w _ hx162_0)).trans hx162_0
                         replace p162 := eq_true p162
                         replace q162 := eq_true q162
                         refine start_ (n := 9) (S := fun w' => w'.cell? (ad161.add (x6_1).toNat) = some (.string (rdOf ByteArray.empty l0 x6_1)) ∧ w'.cell? (ad162.add (x7_2).toNat) = some (.string (rdOf ByteArray.empty l1 x7_2))) (ds := []) #[false, false, false, false, false, false, false, false, false] (by kernel_rfl) rfl rfl ⟨((HB.out.cell (World.block_lt_of_cell? w _ hw161_0)).trans hw161_0), ((HB.out.cell (World.block_lt_of_cell? w _ hw162_0)).trans hw162_0)⟩ (fun hHeld => ?_); refine with_tabW impl_common.tab10 impl_common.bits10 (fun HT_ HW_ => ?_)
                         generalize wr.drew = w39 at HO_5 HB hx161_0 hx162_0 hHeld ⊢
                         refine pure_ (i := 0) (N := some 36) (v := ?_) (a' := ?_) #[true, false, false, false, false, false, false, false, false] rfl rfl (any_of HT_.out (by kernel_rfl)) (fun _ _ _ h => h) (Or.inl ⟨by rfl, ?_⟩) ?_ ?_
                         rotate_left
                         ·intro w'
                          go_simp
                          with_reducible rfl
                         rotate_left
                         ·simp only [Act.put, List.setIfInBounds_toArray, List.set_cons_zero, List.set_cons_succ, i64_w, i32_w]
                          rfl
                         refine pure_ (i := 1) (N := some 37) (v := ?_) (a' := ?_) #[true, true, false, false, false, false, false, false, false] rfl rfl (any_of HT_.out (by kernel_rfl)) (fun _ _ _ h => h) (Or.inl ⟨by rfl, ?_⟩) ?_ ?_
                         rotate_left
                         ·intro w'
                          go_simp
                          with_reducible rfl
                         rotate_left
                         ·simp only [Act.put, List.setIfInBounds_toArray, List.set_cons_zero, List.set_cons_succ, i64_w, i32_w]
                          rfl
                         refine pure_ (i := 2) (N := some 38) (v := ?_) (a' := ?_) #[true, true, true, false, false, false, false, false, false] rfl rfl (any_of HT_.out (by kernel_rfl)) (fun _ _ _ h => h) (Or.inl ⟨by rfl, ?_⟩) ?_ ?_
                         rotate_left
                         ·intro w'
                          go_simp
                          with_reducible rfl
                         rotate_left
                         ·simp only [Act.put, List.setIfInBounds_toArray, List.set_cons_zero, List.set_cons_succ, i64_w, i32_w]
                          rfl
                         refine pure_ (i := 4) (N := some 40) (v := ?_) (a' := ?_) #[true, true, true, false, true, false, false, false, false] rfl rfl (any_of HT_.out (by kernel_rfl)) (fun _ _ _ h => h) (Or.inl ⟨by rfl, ?_⟩) ?_ ?_
                         rotate_left
                         ·intro w'
                          go_simp
                          with_reducible rfl
                         rotate_left
                         ·simp only [Act.put, List.setIfInBounds_toArray, List.set_cons_zero, List.set_cons_succ, i64_w, i32_w]
                          rfl
                         refine pure_ (i := 5) (N := some 41) (v := ?_) (a' := ?_) #[true, true, true, false, true, true, false, false, false] rfl rfl (any_of HT_.out (by kernel_rfl)) (fun _ _ _ h => h) (Or.inl ⟨by rfl, ?_⟩) ?_ ?_
                         rotate_left
                         ·intro w'
                          go_simp
                          with_reducible rfl
                         rotate_left
                         ·simp only [Act.put, List.setIfInBounds_toArray, List.set_cons_zero, List.set_cons_succ, i64_w, i32_w]
                          rfl
                         refine pure_ (i := 6) (N := some 42) (v := ?_) (a' := ?_) #[true, true, true, false, true, true, true, false, false] rfl rfl (any_of HT_.out (by kernel_rfl)) (fun _ _ _ h => h) (Or.inl ⟨by rfl, ?_⟩) ?_ ?_
                         rotate_left
                         ·intro w'
                          go_simp
                          with_reducible rfl
                         rotate_left
                         ·simp only [Act.put, List.setIfInBounds_toArray, List.set_cons_zero, List.set_cons_succ, i64_w, i32_w]
                          rfl
                         refine take_ (i := 3) (N := some 39) (v := ?_) (a' := ?_) #[true, true, true, true, true, true, true, false, false] rfl rfl (take_ofW HT_.out HW_.out (by kernel_rfl)) (fun _ _ _ h => h) (Or.inl ⟨by rfl, ?_⟩) hHeld ?_ ?_
                         rotate_left
                         ·rintro w' ⟨s0, s1⟩
                          go_simp
                          with_reducible rfl
                         rotate_left
                         ·simp only [Act.put, List.setIfInBounds_toArray, List.set_cons_zero, List.set_cons_succ, i64_w, i32_w]
                          rfl
                         refine take_ (i := 7) (N := some 43) (v := ?_) (a' := ?_) #[true, true, true, true, true, true, true, true, false] rfl rfl (take_ofW HT_.out HW_.out (by kernel_rfl)) (fun _ _ _ h => h) (Or.inl ⟨by rfl, ?_⟩) hHeld ?_ ?_
                         rotate_left
                         ·rintro w' ⟨s0, s1⟩
                          go_simp
                          with_reducible rfl
                         rotate_left
                         ·simp only [Act.put, List.setIfInBounds_toArray, List.set_cons_zero, List.set_cons_succ, i64_w, i32_w]
                          rfl
                         refine pure_ (i := 8) (N := some 44) (v := ?_) (a' := ?_) #[true, true, true, true, true, true, true, true, true] rfl rfl (any_of HT_.out (by kernel_rfl)) (fun _ _ _ h => h) (Or.inl ⟨by rfl, ?_⟩) ?_ ?_
                         rotate_left
                         ·intro w'
                          go_simp
                          with_reducible rfl
                         rotate_left
                         ·simp only [Act.put, List.setIfInBounds_toArray, List.set_cons_zero, List.set_cons_succ, i64_w, i32_w]
                          rfl
                         refine done_ (done_of HT_.out (by kernel_rfl)) ?_
                         try go_wp2
                         have n0_ := Aside0.mk (Kd.S_drew HO_5.out)
                         have n1_ := Aside0.mk (below_drew1 HB.out)
                         clear HO_5
                         clear HB
                         have HO_5 := n0_
                         have HB := n1_
                         clear n0_ n1_
                         have p163 : 0 ≤ (x6_1 : Int) := of_decide_eq_true (by first | (with_reducible assumption) | assumption)
                         have q163 : x6_1 < (x5_2.length : Int) := of_decide_eq_true (by first | (with_reducible assumption) | assumption)
                         obtain ⟨ad163, A163_0, c163_0, e163, hx163_0, hl163_0, hi163_0⟩ := at_L1 (Kd.S_reads' HO_5.out).2.2 x6_1 p163 q163
                         obtain rfl : (⟨go14, 0, none⟩ : Addr) = ad163 := (by injection e163)
                         obtain ⟨ce163, hce163, hMe163, hcc163⟩ := Kd.S_get HO_5.out [] x6_1 p163 (by first | exact q163 | exact of_decide_eq_true (by first | (with_reducible assumption) | assumption) | (have e_ := (Kd.S_reads' HO_5.out).1; omega))
                         obtain ⟨ve163_0, rfl, ge163_0⟩ := hMe163
                         have hv163_0 := hcc163 0 _ rfl
                         rw [Nat.add_zero, show ((Kd.slice 3 (Kd.int .i64))).sz = 1 from rfl, Nat.mul_one] at hv163_0
                         replace hv163_0 := Option.some.inj (hv163_0.symm.trans hx163_0)
                         rw [hv163_0] at ge163_0
                         have HL163_0 := Aside0.mk (show Kd.R (Kd.int .i64) 3 _ _ _ _ (rd_L1 x5_2 x6_1) from ge163_0)
                         clear hv163_0 ge163_0
                         have HX163_0 := Aside0.mk hx163_0
                         clear hcc163 hce163
                         (first | simp only [add_plain] at hx163_0 | simp only [add_at] at hx163_0 | simp only [Addr.add, Nat.zero_add] at hx163_0 | skip)
                         have HR163_0 := Aside0.mk hi163_0
                         have HC163_0 := Aside0.mk hl163_0
                         clear hi163_0 hl163_0
                         replace p163 := eq_true p163
                         replace q163 := eq_true q163
                         have p164 : 0 ≤ ((ji31) : Int) := of_decide_eq_true (by first | (with_reducible assumption) | assumption)
                         have q164 : (ji31) < (x5_2.length : Int) := of_decide_eq_true (by first | (with_reducible assumption) | assumption)
                         obtain ⟨ad164, A164_0, c164_0, e164, hx164_0, hl164_0, hi164_0⟩ := at_L1 (Kd.S_reads' HO_5.out).2.2 (ji31) p164 q164
                         obtain rfl : (⟨go14, 0, none⟩ : Addr) = ad164 := (by injection e164)
                         obtain ⟨ce164, hce164, hMe164, hcc164⟩ := Kd.S_get HO_5.out [] (ji31) p164 (by first | exact q164 | exact of_decide_eq_true (by first | (with_reducible assumption) | assumption) | (have e_ := (Kd.S_reads' HO_5.out).1; omega))
                         obtain ⟨ve164_0, rfl, ge164_0⟩ := hMe164
                         have hv164_0 := hcc164 0 _ rfl
                         rw [Nat.add_zero, show ((Kd.slice 3 (Kd.int .i64))).sz = 1 from rfl, Nat.mul_one] at hv164_0
                         replace hv164_0 := Option.some.inj (hv164_0.symm.trans hx164_0)
                         rw [hv164_0] at ge164_0
                         have HL164_0 := Aside0.mk (show Kd.R (Kd.int .i64) 3 _ _ _ _ (rd_L1 x5_2 (ji31)) from ge164_0)
                         clear hv164_0 ge164_0
                         have HX164_0 := Aside0.mk hx164_0
                         clear hcc164 hce164
                         (first | simp only [add_plain] at hx164_0 | simp only [add_at] at hx164_0 | simp only [Addr.add, Nat.zero_add] at hx164_0 | skip)
                         have HR164_0 := Aside0.mk hi164_0
                         have HC164_0 := Aside0.mk hl164_0
                         clear hi164_0 hl164_0
                         replace p164 := eq_true p164
                         replace q164 := eq_true q164
                         have p165 : 0 ≤ ((ji34) : Int) := of_decide_eq_true (by first | (with_reducible assumption) | assumption)
                         have q165 : (ji34) < ((rd_L1 x5_2 (ji31)).length : Int) := of_decide_eq_true (by first | (with_reducible assumption) | assumption)
                         obtain ⟨ad165, e165, hx165_0⟩ := Kd.at_int (by repeat (first | (with_reducible exact HR164_0.out) | (with_reducible refine Kd.C_alloc ?_ _) | (with_reducible refine Kd.C_drewN ?_ _) | (with_reducible refine Kd.C_drew ?_) | exact HR164_0.out)) (ji34) p165 q165
                         cases e165
                         replace p165 := eq_true p165
                         replace q165 := eq_true q165
                         have p38 : 0 ≤ (x7_2 : Int) := of_decide_eq_true (by first | (with_reducible assumption) | assumption)
                         have q38 : (x7_2 : Int) < (((rd_L1 x5_2 x6_1).length : Int) : Int) := of_decide_eq_true (by first | (with_reducible assumption) | assumption)
                         obtain ⟨go38, co38, eo38, gb38, gl38, cl38, HG38⟩ := Kd.R_form HL163_0.out (by omega)
                         (first | cases eo38 | (injection eo38 with ea_ en_ ec_; (first | subst ea_ | (injection ea_ with ea_; subst ea_)); subst ec_; clear en_))
                         have GB38 := Aside0.mk gb38
                         have GG38 := Aside0.mk HG38
                         clear gb38 gl38 HG38
                         obtain ⟨hx38_0, hf38_0⟩ := Kd.R_celln 0 HL163_0.out (x7_2 : Int) p38 q38
                         replace p38 := eq_true p38
                         replace q38 := eq_true q38
                         have hq41 : (x6_1 : Int) < (x5_2.length : Int) := (by have h_ : (x6_1 : Int) < ((x5_2.length : Int) : Int) := of_decide_eq_true (by first | (with_reducible assumption) | assumption); first | exact h_ | (have e_ := (Kd.S_reads' HO_5.out).1; omega) | simpa only [List.length_set, List.length_set] using h_)
                         obtain ⟨oki41, ce41, hcl41, hM41, hcc41, hok41, hbk41⟩ := Kd.S_borrow HO_5.out [] (x6_1 : Int) (of_decide_eq_true (by first | (with_reducible assumption) | assumption)) (by first | exact hq41 | exact of_decide_eq_true (by first | (with_reducible assumption) | assumption))
                         obtain ⟨ve41_0, rfl, ge41_0⟩ := hM41
                         have hv41 := hcc41 0 _ rfl
                         rw [Nat.add_zero, show ((Kd.slice 3 (Kd.int .i64))).sz = 1 from rfl, Nat.mul_one] at hv41
                         replace hv41 := Option.some.inj (hv41.symm.trans HX163_0.out)
                         subst hv41
                         clear hcc41 hcl41
                         replace ge41_0 := (show Kd.R (Kd.int .i64) 3 _ _ _ _ (rd_L1 x5_2 x6_1) from ge41_0)
                         have HP41 := Kd.R_putg ge41_0 (x7_2 : Int) (wrap64 (1 + (rd (rd_L1 x5_2 (ji31)) (ji34))))
                         rw [← Ny166.out] at HP41
                         have HS41 := hbk41 HP41.2 (fun k_ e_ => by injection e_ with e_; subst e_; exact ge41_0.1 _ rfl) (x' := y166) (Kd.M_row HP41.1)
                         rw [← Ny168.out] at HS41
                         have HQ41 := Aside0.mk HS41
                         clear HP41 HS41 hbk41 hok41
                         refine start_ (n := 17) (S := fun w' => w'.cell? ⟨go14, (x6_1).toNat, none⟩ = some (.slice (some ⟨go38, 0, none⟩) (rd_L1 x5_2 x6_1).length c163_0) ∧ w'.cell? ⟨go14, ((ji31)).toNat, none⟩ = some (.slice (some ad165) (rd_L1 x5_2 (ji31)).length c164_0) ∧ w'.cell? (ad165.add ((ji34)).toNat) = some (.int .i64 (rd (rd_L1 x5_2 (ji31)) (ji34)))) (ds := [16]) #[false, false, false, false, false, false, false, false, false, false, false, false, false, false, false, false, false] (by kernel_rfl) rfl rfl ⟨hx163_0, hx164_0, hx165_0⟩ (fun hHeld => ?_); refine with_tabW impl_common.tab11 impl_common.bits11 (fun HT_ HW_ => ?_)
                         generalize w39.drew = w40 at HO_5 HB GG38 HL163_0 HL164_0 HQ41 HR163_0 HR164_0 HX163_0 HX164_0 hf38_0 hx163_0 hx164_0 hx165_0 hx38_0 hHeld ⊢
                         refine pure_ (i := 0) (N := some 45) (v := ?_) (a' := ?_) #[true, false, false, false, false, false, false, false, false, false, false, false, false, false, false, false, false] rfl rfl (any_of HT_.out (by kernel_rfl)) (fun _ _ _ h => h) (Or.inl ⟨by rfl, ?_⟩) ?_ ?_
                         rotate_left
                         ·intro w'
                          go_simp
                          with_reducible rfl
                         rotate_left
                         ·simp only [Act.put, List.setIfInBounds_toArray, List.set_cons_zero, List.set_cons_succ, i64_w, i32_w]
                          rfl
                         refine pure_ (i := 1) (N := some 46) (v := ?_) (a' := ?_) #[true, true, false, false, false, false, false, false, false, false, false, false, false, false, false, false, false] rfl rfl (any_of HT_.out (by kernel_rfl)) (fun _ _ _ h => h) (Or.inl ⟨by rfl, ?_⟩) ?_ ?_
                         rotate_left
                         ·intro w'
                          go_simp
                          with_reducible rfl
                         rotate_left
                         ·simp only [Act.put, List.setIfInBounds_toArray, List.set_cons_zero, List.set_cons_succ, i64_w, i32_w]
                          rfl
                         refine pure_ (i := 2) (N := some 47) (v := ?_) (a' := ?_) #[true, true, true, false, false, false, false, false, false, false, false, false, false, false, false, false, false] rfl rfl (any_of HT_.out (by kernel_rfl)) (fun _ _ _ h => h) (Or.inl ⟨by rfl, ?_⟩) ?_ ?_
                         rotate_left
                         ·intro w'
                          go_simp
                          with_reducible rfl
                         rotate_left
                         ·simp only [Act.put, List.setIfInBounds_toArray, List.set_cons_zero, List.set_cons_succ, i64_w, i32_w]
                          rfl
                         refine pure_ (i := 4) (N := some 49) (v := ?_) (a' := ?_) #[true, true, true, false, true, false, false, false, false, false, false, false, false, false, false, false, false] rfl rfl (any_of HT_.out (by kernel_rfl)) (fun _ _ _ h => h) (Or.inl ⟨by rfl, ?_⟩) ?_ ?_
                         rotate_left
                         ·intro w'
                          go_simp
                          with_reducible rfl
                         rotate_left
                         ·simp only [Act.put, List.setIfInBounds_toArray, List.set_cons_zero, List.set_cons_succ, i64_w, i32_w]
                          rfl
                         refine pure_ (i := 5) (N := some 50) (v := ?_) (a' := ?_) #[true, true, true, false, true, true, false, false, false, false, false, false, false, false, false, false, false] rfl rfl (any_of HT_.out (by kernel_rfl)) (fun _ _ _ h => h) (Or.inl ⟨by rfl, ?_⟩) ?_ ?_
                         rotate_left
                         ·intro w'
                          go_simp
                          with_reducible rfl
                         rotate_left
                         ·simp only [Act.put, List.setIfInBounds_toArray, List.set_cons_zero, List.set_cons_succ, i64_w, i32_w]
                          rfl
                         refine pure_ (i := 6) (N := some 51) (v := ?_) (a' := ?_) #[true, true, true, false, true, true, true, false, false, false, false, false, false, false, false, false, false] rfl rfl (any_of HT_.out (by kernel_rfl)) (fun _ _ _ h => h) (Or.inl ⟨by rfl, ?_⟩) ?_ ?_
                         rotate_left
                         ·intro w'
                          go_simp
                          with_reducible rfl
                         rotate_left
                         ·simp only [Act.put, List.setIfInBounds_toArray, List.set_cons_zero, List.set_cons_succ, i64_w, i32_w]
                          rfl
                         refine pure_ (i := 7) (N := some 52) (v := ?_) (a' := ?_) #[true, true, true, false, true, true, true, true, false, false, false, false, false, false, false, false, false] rfl rfl (any_of HT_.out (by kernel_rfl)) (fun _ _ _ h => h) (Or.inl ⟨by rfl, ?_⟩) ?_ ?_
                         rotate_left
                         ·intro w'
                          go_simp
                          with_reducible rfl
                         rotate_left
                         ·simp only [Act.put, List.setIfInBounds_toArray, List.set_cons_zero, List.set_cons_succ, i64_w, i32_w]
                          rfl
                         refine pure_ (i := 8) (N := some 53) (v := ?_) (a' := ?_) #[true, true, true, false, true, true, true, true, true, false, false, false, false, false, false, false, false] rfl rfl (any_of HT_.out (by kernel_rfl)) (fun _ _ _ h => h) (Or.inl ⟨by rfl, ?_⟩) ?_ ?_
                         rotate_left
                         ·intro w'
                          go_simp
                          with_reducible rfl
                         rotate_left
                         ·simp only [Act.put, List.setIfInBounds_toArray, List.set_cons_zero, List.set_cons_succ, i64_w, i32_w]
                          rfl
                         refine pure_ (i := 10) (N := some 55) (v := ?_) (a' := ?_) #[true, true, true, false, true, true, true, true, true, false, true, false, false, false, false, false, false] rfl rfl (any_of HT_.out (by kernel_rfl)) (fun _ _ _ h => h) (Or.inl ⟨by rfl, ?_⟩) ?_ ?_
                         rotate_left
                         ·intro w'
                          go_simp
                          with_reducible rfl
                         rotate_left
                         ·simp only [Act.put, List.setIfInBounds_toArray, List.set_cons_zero, List.set_cons_succ, i64_w, i32_w]
                          rfl
                         refine pure_ (i := 11) (N := some 56) (v := ?_) (a' := ?_) #[true, true, true, false, true, true, true, true, true, false, true, true, false, false, false, false, false] rfl rfl (any_of HT_.out (by kernel_rfl)) (fun _ _ _ h => h) (Or.inl ⟨by rfl, ?_⟩) ?_ ?_
                         rotate_left
                         ·intro w'
                          go_simp
                          with_reducible rfl
                         rotate_left
                         ·simp only [Act.put, List.setIfInBounds_toArray, List.set_cons_zero, List.set_cons_succ, i64_w, i32_w]
                          rfl
                         refine take_ (i := 3) (N := some 48) (v := ?_) (a' := ?_) #[true, true, true, true, true, true, true, true, true, false, true, true, false, false, false, false, false] rfl rfl (take_ofW HT_.out HW_.out (by kernel_rfl)) (fun _ _ _ h => h) (Or.inl ⟨by rfl, ?_⟩) hHeld ?_ ?_
                         rotate_left
                         ·rintro w' ⟨s0, s1, s2⟩
                          go_simp
                          with_reducible rfl
                         rotate_left
                         ·simp only [Act.put, List.setIfInBounds_toArray, List.set_cons_zero, List.set_cons_succ, i64_w, i32_w]
                          rfl
                         refine take_ (i := 9) (N := some 54) (v := ?_) (a' := ?_) #[true, true, true, true, true, true, true, true, true, true, true, true, false, false, false, false, false] rfl rfl (take_ofW HT_.out HW_.out (by kernel_rfl)) (fun _ _ _ h => h) (Or.inl ⟨by rfl, ?_⟩) hHeld ?_ ?_
                         rotate_left
                         ·rintro w' ⟨s0, s1, s2⟩
                          go_simp
                          with_reducible rfl
                         rotate_left
                         ·simp only [Act.put, List.setIfInBounds_toArray, List.set_cons_zero, List.set_cons_succ, i64_w, i32_w]
                          rfl
                         refine pure_ (i := 12) (N := some 57) (v := ?_) (a' := ?_) #[true, true, true, true, true, true, true, true, true, true, true, true, true, false, false, false, false] rfl rfl (any_of HT_.out (by kernel_rfl)) (fun _ _ _ h => h) (Or.inl ⟨by rfl, ?_⟩) ?_ ?_
                         rotate_left
                         ·intro w'
                          go_simp
                          with_reducible rfl
                         rotate_left
                         ·simp only [Act.put, List.setIfInBounds_toArray, List.set_cons_zero, List.set_cons_succ, i64_w, i32_w]
                          rfl
                         refine take_ (i := 13) (N := some 58) (v := ?_) (a' := ?_) #[true, true, true, true, true, true, true, true, true, true, true, true, true, true, false, false, false] rfl rfl (take_ofW HT_.out HW_.out (by kernel_rfl)) (fun _ _ _ h => h) (Or.inl ⟨by rfl, ?_⟩) hHeld ?_ ?_
                         rotate_left
                         ·rintro w' ⟨s0, s1, s2⟩
                          go_simp
                          with_reducible rfl
                         rotate_left
                         ·simp only [Act.put, List.setIfInBounds_toArray, List.set_cons_zero, List.set_cons_succ, i64_w, i32_w]
                          rfl
                         refine pure_ (i := 14) (N := some 59) (v := ?_) (a' := ?_) #[true, true, true, true, true, true, true, true, true, true, true, true, true, true, true, false, false] rfl rfl (any_of HT_.out (by kernel_rfl)) (fun _ _ _ h => h) (Or.inl ⟨by rfl, ?_⟩) ?_ ?_
                         rotate_left
                         ·intro w'
                          go_simp
                          with_reducible rfl
                         rotate_left
                         ·simp only [Act.put, List.setIfInBounds_toArray, List.set_cons_zero, List.set_cons_succ, i64_w, i32_w]
                          rfl
                         refine pure_ (i := 15) (N := some 60) (v := ?_) (a' := ?_) #[true, true, true, true, true, true, true, true, true, true, true, true, true, true, true, true, false] rfl rfl (any_of HT_.out (by kernel_rfl)) (fun _ _ _ h => h) (Or.inl ⟨by rfl, ?_⟩) ?_ ?_
                         rotate_left
                         ·intro w'
                          go_simp
                          with_reducible rfl
                         rotate_left
                         ·simp only [Act.put, List.setIfInBounds_toArray, List.set_cons_zero, List.set_cons_succ, i64_w, i32_w]
                          rfl
                         refine last_ (i := 16) (N := none) #[true, true, true, true, true, true, true, true, true, true, true, true, true, true, true, true, true] rfl rfl (one_of HT_.out (by kernel_rfl)) (by decide) (fun K hK => ?_)
                         refine skip_ (w1 := ?_) (by rfl) rfl ?_ ?_
                         rotate_left
                         ·go_simp
                          rfl
                         refine hK.out _ _ ?_
                         clear hK K
                         refine done_ (done_of HT_.out (by kernel_rfl)) ?_
                         try go_wp2
                         (try simp only [← hl5_2])
                         go_roundg k2
                         case measure => have := HK1.out; have := HK2.out; omega
                         case rel => exact ⟨(y168), (wrap64 (x7_2 - 1)), (by first | rfl | (simp; done) | (simp [*]; done)), H', ⟨by have := HK1.out; have := HK2.out; omega⟩, ⟨by (try simp only [hl5_2]); (with_reducible repeat (first | apply Kd.S_alloc | apply Kd.S_drewN | apply Kd.S_drew)); exact HQ41.out⟩, ⟨by repeat (first | (with_reducible first | exact HB.out | apply below_alloc | apply pw_below_drewN | apply below_drew1 | refine below_set ?_ GB38.out) | exact HB.out)⟩⟩
                        ·rw [if_neg c37] at H
                         exact absurd H (by simp)
                       ·rw [if_neg c36] at H
                        exact absurd H (by simp)
                      ·rw [if_neg c35] at H
                       exact absurd H (by simp)
                     ·rw [if_neg c33] at H
                      exact absurd H (by simp)
                    ·rw [if_neg c32] at H
                     exact absurd H (by simp)
                   ·rw [if_neg c30] at H
                    exact absurd H (by simp)
                  ·rw [if_neg c29] at H
                   have c29b0 : ((rdOf ByteArray.empty l0 x6_1).toList == (rdOf ByteArray.empty l1 x7_2).toList) = false := beq_eq_false_iff_ne.mpr c29
                   have c29b1 : ((rdOf ByteArray.empty l0 x6_1).toList != (rdOf ByteArray.empty l1 x7_2).toList) = true := bne_iff_ne.mpr c29
                   by_cases c43 : x6_1 < (x5_2.length : Int)
                   ·rw [if_pos c43] at H
                    have c43b0 : decide (x6_1 < (x5_2.length : Int)) = true := decide_eq_true c43
                    clear c43
                    obtain ⟨ji44, hji44⟩ : ∃ j_ : Int, (wrap64 (x6_1 + 1)) = j_ := ⟨_, rfl⟩
                    replace H : (if 0 ≤ (ji44) then (if (ji44) < (x5_2.length : Int) then (if x7_2 < ((rd_L1 x5_2 (ji44)).length : Int) then (if 0 ≤ (wrap64 (x7_2 + 1)) then (if (wrap64 (x7_2 + 1)) < ((rd_L1 x5_2 x6_1).length : Int) then (if x7_2 < ((rd_L1 x5_2 x6_1).length : Int) then (impl_common.l1 k2 l0 l1 (x5_2.set (x6_1 : Int).toNat ((rd_L1 x5_2 x6_1).set (x7_2 : Int).toNat (mx (rd (rd_L1 x5_2 (ji44)) x7_2) (rd (rd_L1 x5_2 x6_1) (wrap64 (x7_2 + 1)))))) x6_1 (wrap64 (x7_2 - 1))) else (none)) else (none)) else (none)) else (none)) else (none)) else (none)) = some r := by first | (rw [hji44] at H; exact H) | (simp only [hji44] at H ⊢; exact H)
                    have hji44w : (IntKind.i64.wrap (x6_1 + 1)) = ji44 := (i64_w _).trans hji44
                    by_cases c45 : 0 ≤ (ji44)
                    ·rw [if_pos c45] at H
                     have c45b0 : decide (0 ≤ (ji44)) = true := decide_eq_true c45
                     clear c45
                     by_cases c46 : (ji44) < (x5_2.length : Int)
                     ·rw [if_pos c46] at H
                      have c46b0 : decide ((ji44) < (x5_2.length : Int)) = true := decide_eq_true c46
                      clear c46
                      by_cases c47 : x7_2 < ((rd_L1 x5_2 (ji44)).length : Int)
                      ·rw [if_pos c47] at H
                       have c47b0 : decide (x7_2 < ((rd_L1 x5_2 (ji44)).length : Int)) = true := decide_eq_true c47
                       clear c47
                       obtain ⟨ji48, hji48⟩ : ∃ j_ : Int, (wrap64 (x7_2 + 1)) = j_ := ⟨_, rfl⟩
                       replace H : (if 0 ≤ (ji48) then (if (ji48) < ((rd_L1 x5_2 x6_1).length : Int) then (if x7_2 < ((rd_L1 x5_2 x6_1).length : Int) then (impl_common.l1 k2 l0 l1 (x5_2.set (x6_1 : Int).toNat ((rd_L1 x5_2 x6_1).set (x7_2 : Int).toNat (mx (rd (rd_L1 x5_2 (ji44)) x7_2) (rd (rd_L1 x5_2 x6_1) (ji48))))) x6_1 (wrap64 (x7_2 - 1))) else (none)) else (none)) else (none)) = some r := by first | (rw [hji48] at H; exact H) | (simp only [hji48] at H ⊢; exact H)
                       have hji48w : (IntKind.i64.wrap (x7_2 + 1)) = ji48 := (i64_w _).trans hji48
                       by_cases c49 : 0 ≤ (ji48)
                       ·rw [if_pos c49] at H
                        have c49b0 : decide (0 ≤ (ji48)) = true := decide_eq_true c49
                        clear c49
                        by_cases c50 : (ji48) < ((rd_L1 x5_2 x6_1).length : Int)
                        ·rw [if_pos c50] at H
                         have c50b0 : decide ((ji48) < ((rd_L1 x5_2 x6_1).length : Int)) = true := decide_eq_true c50
                         clear c50
                         obtain ⟨ji51, hji51⟩ : ∃ j_ : Int, (mx (rd (rd_L1 x5_2 (ji44)) x7_2) (rd (rd_L1 x5_2 x6_1) (ji48))) = j_ := ⟨_, rfl⟩
                         replace H : (if x7_2 < ((rd_L1 x5_2 x6_1).length : Int) then (impl_common.l1 k2 l0 l1 (x5_2.set (x6_1 : Int).toNat ((rd_L1 x5_2 x6_1).set (x7_2 : Int).toNat (ji51))) x6_1 (wrap64 (x7_2 - 1))) else (none)) = some r := by first | (rw [hji51] at H; exact H) | (simp only [hji51] at H ⊢; exact H)
                         have hji51_ : (if (rd (rd_L1 x5_2 (ji44)) x7_2) < (rd (rd_L1 x5_2 x6_1) (ji48)) then (rd (rd_L1 x5_2 x6_1) (ji48)) else (rd (rd_L1 x5_2 (ji44)) x7_2)) = ji51 := hji51
                         by_cases c52 : x7_2 < ((rd_L1 x5_2 x6_1).length : Int)
                         ·rw [if_pos c52] at H
                          have c52b0 : decide (x7_2 < ((rd_L1 x5_2 x6_1).length : Int)) = true := decide_eq_true c52
                          clear c52
                          obtain ⟨y174, hy174⟩ : ∃ y_ : List Int, y_ = ((rd_L1 x5_2 x6_1).set (x7_2 : Int).toNat (ji51)) := ⟨_, rfl⟩
                          replace H : (impl_common.l1 k2 l0 l1 (x5_2.set (x6_1 : Int).toNat y174) x6_1 (wrap64 (x7_2 - 1))) = some r := by first | (rw [hy174]; with_reducible exact H) | (have H2_ := (Option.bind_some _ _).symm.trans H; rw [hy174]; with_reducible exact H2_) | (have H2_ := (Option.bind_some _ _).symm.trans H; with_reducible exact H2_) | with_reducible exact H | (rw [hy174]; exact H) | exact H
                          have Ny174 := Aside0.mk hy174
                          clear hy174
                          obtain ⟨y176, hy176⟩ : ∃ y_ : List (List Int), y_ = (x5_2.set (x6_1 : Int).toNat y174) := ⟨_, rfl⟩
                          replace H : (impl_common.l1 k2 l0 l1 y176 x6_1 (wrap64 (x7_2 - 1))) = some r := by first | (rw [hy176]; with_reducible exact H) | (have H2_ := (Option.bind_some _ _).symm.trans H; rw [hy176]; with_reducible exact H2_) | (have H2_ := (Option.bind_some _ _).symm.trans H; with_reducible exact H2_) | with_reducible exact H | (rw [hy176]; exact H) | exact H
                          have Ny176 := Aside0.mk hy176
                          clear hy176
                          have H' := Aside0.mk H
                          clear H
                          try go_wp2
                          have n0_ := Aside0.mk (Kd.S_drew HO_5.out)
                          have n1_ := Aside0.mk (below_drew1 HB.out)
                          clear HO_5
                          clear HB
                          have HO_5 := n0_
                          have HB := n1_
                          clear n0_ n1_
                          have p161 : 0 ≤ (x6_1 : Int) := of_decide_eq_true (by first | (with_reducible assumption) | assumption)
                          have q161 : x6_1 < (l0.length : Int) := of_decide_eq_true (by first | (with_reducible assumption) | assumption)
                          obtain ⟨ad161, e161, hx161_0⟩ := Kd.at_string HR0.out x6_1 p161 q161
                          have hw161_0 := hx161_0
                          cases e161
                          replace hx161_0 := (HB.out.cell (World.block_lt_of_cell? w _ hx161_0)).trans hx161_0
                          replace p161 := eq_true p161
                          replace q161 := eq_true q161
                          have p162 : 0 ≤ (x7_2 : Int) := of_decide_eq_true (by first | (with_reducible assumption) | assumption)
                          have q162 : x7_2 < (l1.length : Int) := of_decide_eq_true (by first | (with_reducible assumption) | assumption)
                          obtain ⟨ad162, e162, hx162_0⟩ := Kd.at_string HR1.out x7_2 p162 q162
                          have hw162_0 := hx162_0
                          cases e162
                          replace hx162_0 := (HB.out.cell (World.block_lt_of_cell? w _ hx162_0)).trans hx162_0
                          replace p162 := eq_true p162
                          replace q162 := eq_true q162
                          refine start_ (n := 9) (S := fun w' => w'.cell? (ad161.add (x6_1).toNat) = some (.string (rdOf ByteArray.empty l0 x6_1)) ∧ w'.cell? (ad162.add (x7_2).toNat) = some (.string (rdOf ByteArray.empty l1 x7_2))) (ds := []) #[false, false, false, false, false, false, false, false, false] (by kernel_rfl) rfl rfl ⟨((HB.out.cell (World.block_lt_of_cell? w _ hw161_0)).trans hw161_0), ((HB.out.cell (World.block_lt_of_cell? w _ hw162_0)).trans hw162_0)⟩ (fun hHeld => ?_); refine with_tabW impl_common.tab10 impl_common.bits10 (fun HT_ HW_ => ?_)
                          generalize wr.drew = w54 at HO_5 HB hx161_0 hx162_0 hHeld ⊢
                          refine pure_ (i := 0) (N := some 36) (v := ?_) (a' := ?_) #[true, false, false, false, false, false, false, false, false] rfl rfl (any_of HT_.out (by kernel_rfl)) (fun _ _ _ h => h) (Or.inl ⟨by rfl, ?_⟩) ?_ ?_
                          rotate_left
                          ·intro w'
                           go_simp
                           with_reducible rfl
                          rotate_left
                          ·simp only [Act.put, List.setIfInBounds_toArray, List.set_cons_zero, List.set_cons_succ, i64_w, i32_w]
                           rfl
                          refine pure_ (i := 1) (N := some 37) (v := ?_) (a' := ?_) #[true, true, false, false, false, false, false, false, false] rfl rfl (any_of HT_.out (by kernel_rfl)) (fun _ _ _ h => h) (Or.inl ⟨by rfl, ?_⟩) ?_ ?_
                          rotate_left
                          ·intro w'
                           go_simp
                           with_reducible rfl
                          rotate_left
                          ·simp only [Act.put, List.setIfInBounds_toArray, List.set_cons_zero, List.set_cons_succ, i64_w, i32_w]
                           rfl
                          refine pure_ (i := 2) (N := some 38) (v := ?_) (a' := ?_) #[true, true, true, false, false, false, false, false, false] rfl rfl (any_of HT_.out (by kernel_rfl)) (fun _ _ _ h => h) (Or.inl ⟨by rfl, ?_⟩) ?_ ?_
                          rotate_left
                          ·intro w'
                           go_simp
                           with_reducible rfl
                          rotate_left
                          ·simp only [Act.put, List.setIfInBounds_toArray, List.set_cons_zero, List.set_cons_succ, i64_w, i32_w]
                           rfl
                          refine pure_ (i := 4) (N := some 40) (v := ?_) (a' := ?_) #[true, true, true, false, true, false, false, false, false] rfl rfl (any_of HT_.out (by kernel_rfl)) (fun _ _ _ h => h) (Or.inl ⟨by rfl, ?_⟩) ?_ ?_
                          rotate_left
                          ·intro w'
                           go_simp
                           with_reducible rfl
                          rotate_left
                          ·simp only [Act.put, List.setIfInBounds_toArray, List.set_cons_zero, List.set_cons_succ, i64_w, i32_w]
                           rfl
                          refine pure_ (i := 5) (N := some 41) (v := ?_) (a' := ?_) #[true, true, true, false, true, true, false, false, false] rfl rfl (any_of HT_.out (by kernel_rfl)) (fun _ _ _ h => h) (Or.inl ⟨by rfl, ?_⟩) ?_ ?_
                          rotate_left
                          ·intro w'
                           go_simp
                           with_reducible rfl
                          rotate_left
                          ·simp only [Act.put, List.setIfInBounds_toArray, List.set_cons_zero, List.set_cons_succ, i64_w, i32_w]
                           rfl
                          refine pure_ (i := 6) (N := some 42) (v := ?_) (a' := ?_) #[true, true, true, false, true, true, true, false, false] rfl rfl (any_of HT_.out (by kernel_rfl)) (fun _ _ _ h => h) (Or.inl ⟨by rfl, ?_⟩) ?_ ?_
                          rotate_left
                          ·intro w'
                           go_simp
                           with_reducible rfl
                          rotate_left
                          ·simp only [Act.put, List.setIfInBounds_toArray, List.set_cons_zero, List.set_cons_succ, i64_w, i32_w]
                           rfl
                          refine take_ (i := 3) (N := some 39) (v := ?_) (a' := ?_) #[true, true, true, true, true, true, true, false, false] rfl rfl (take_ofW HT_.out HW_.out (by kernel_rfl)) (fun _ _ _ h => h) (Or.inl ⟨by rfl, ?_⟩) hHeld ?_ ?_
                          rotate_left
                          ·rintro w' ⟨s0, s1⟩
                           go_simp
                           with_reducible rfl
                          rotate_left
                          ·simp only [Act.put, List.setIfInBounds_toArray, List.set_cons_zero, List.set_cons_succ, i64_w, i32_w]
                           rfl
                          refine take_ (i := 7) (N := some 43) (v := ?_) (a' := ?_) #[true, true, true, true, true, true, true, true, false] rfl rfl (take_ofW HT_.out HW_.out (by kernel_rfl)) (fun _ _ _ h => h) (Or.inl ⟨by rfl, ?_⟩) hHeld ?_ ?_
                          rotate_left
                          ·rintro w' ⟨s0, s1⟩
                           go_simp
                           with_reducible rfl
                          rotate_left
                          ·simp only [Act.put, List.setIfInBounds_toArray, List.set_cons_zero, List.set_cons_succ, i64_w, i32_w]
                           rfl
                          refine pure_ (i := 8) (N := some 44) (v := ?_) (a' := ?_) #[true, true, true, true, true, true, true, true, true] rfl rfl (any_of HT_.out (by kernel_rfl)) (fun _ _ _ h => h) (Or.inl ⟨by rfl, ?_⟩) ?_ ?_
                          rotate_left
                          ·intro w'
                           go_simp
                           with_reducible rfl
                          rotate_left
                          ·simp only [Act.put, List.setIfInBounds_toArray, List.set_cons_zero, List.set_cons_succ, i64_w, i32_w]
                           rfl
                          refine done_ (done_of HT_.out (by kernel_rfl)) ?_
                          try go_wp2
                          have n0_ := Aside0.mk (Kd.S_drew HO_5.out)
                          have n1_ := Aside0.mk (below_drew1 HB.out)
                          clear HO_5
                          clear HB
                          have HO_5 := n0_
                          have HB := n1_
                          clear n0_ n1_
                          have p169 : 0 ≤ (x6_1 : Int) := of_decide_eq_true (by first | (with_reducible assumption) | assumption)
                          have q169 : x6_1 < (x5_2.length : Int) := of_decide_eq_true (by first | (with_reducible assumption) | assumption)
                          obtain ⟨ad169, A169_0, c169_0, e169, hx169_0, hl169_0, hi169_0⟩ := at_L1 (Kd.S_reads' HO_5.out).2.2 x6_1 p169 q169
                          obtain rfl : (⟨go14, 0, none⟩ : Addr) = ad169 := (by injection e169)
                          obtain ⟨ce169, hce169, hMe169, hcc169⟩ := Kd.S_get HO_5.out [] x6_1 p169 (by first | exact q169 | exact of_decide_eq_true (by first | (with_reducible assumption) | assumption) | (have e_ := (Kd.S_reads' HO_5.out).1; omega))
                          obtain ⟨ve169_0, rfl, ge169_0⟩ := hMe169
                          have hv169_0 := hcc169 0 _ rfl
                          rw [Nat.add_zero, show ((Kd.slice 3 (Kd.int .i64))).sz = 1 from rfl, Nat.mul_one] at hv169_0
                          replace hv169_0 := Option.some.inj (hv169_0.symm.trans hx169_0)
                          rw [hv169_0] at ge169_0
                          have HL169_0 := Aside0.mk (show Kd.R (Kd.int .i64) 3 _ _ _ _ (rd_L1 x5_2 x6_1) from ge169_0)
                          clear hv169_0 ge169_0
                          have HX169_0 := Aside0.mk hx169_0
                          clear hcc169 hce169
                          (first | simp only [add_plain] at hx169_0 | simp only [add_at] at hx169_0 | simp only [Addr.add, Nat.zero_add] at hx169_0 | skip)
                          have HR169_0 := Aside0.mk hi169_0
                          have HC169_0 := Aside0.mk hl169_0
                          clear hi169_0 hl169_0
                          replace p169 := eq_true p169
                          replace q169 := eq_true q169
                          have p170 : 0 ≤ ((ji44) : Int) := of_decide_eq_true (by first | (with_reducible assumption) | assumption)
                          have q170 : (ji44) < (x5_2.length : Int) := of_decide_eq_true (by first | (with_reducible assumption) | assumption)
                          obtain ⟨ad170, A170_0, c170_0, e170, hx170_0, hl170_0, hi170_0⟩ := at_L1 (Kd.S_reads' HO_5.out).2.2 (ji44) p170 q170
                          obtain rfl : (⟨go14, 0, none⟩ : Addr) = ad170 := (by injection e170)
                          obtain ⟨ce170, hce170, hMe170, hcc170⟩ := Kd.S_get HO_5.out [] (ji44) p170 (by first | exact q170 | exact of_decide_eq_true (by first | (with_reducible assumption) | assumption) | (have e_ := (Kd.S_reads' HO_5.out).1; omega))
                          obtain ⟨ve170_0, rfl, ge170_0⟩ := hMe170
                          have hv170_0 := hcc170 0 _ rfl
                          rw [Nat.add_zero, show ((Kd.slice 3 (Kd.int .i64))).sz = 1 from rfl, Nat.mul_one] at hv170_0
                          replace hv170_0 := Option.some.inj (hv170_0.symm.trans hx170_0)
                          rw [hv170_0] at ge170_0
                          have HL170_0 := Aside0.mk (show Kd.R (Kd.int .i64) 3 _ _ _ _ (rd_L1 x5_2 (ji44)) from ge170_0)
                          clear hv170_0 ge170_0
                          have HX170_0 := Aside0.mk hx170_0
                          clear hcc170 hce170
                          (first | simp only [add_plain] at hx170_0 | simp only [add_at] at hx170_0 | simp only [Addr.add, Nat.zero_add] at hx170_0 | skip)
                          have HR170_0 := Aside0.mk hi170_0
                          have HC170_0 := Aside0.mk hl170_0
                          clear hi170_0 hl170_0
                          replace p170 := eq_true p170
                          replace q170 := eq_true q170
                          have p171 : 0 ≤ (x7_2 : Int) := of_decide_eq_true (by first | (with_reducible assumption) | assumption)
                          have q171 : x7_2 < ((rd_L1 x5_2 (ji44)).length : Int) := of_decide_eq_true (by first | (with_reducible assumption) | assumption)
                          obtain ⟨ad171, e171, hx171_0⟩ := Kd.at_int (by repeat (first | (with_reducible exact HR170_0.out) | (with_reducible refine Kd.C_alloc ?_ _) | (with_reducible refine Kd.C_drewN ?_ _) | (with_reducible refine Kd.C_drew ?_) | exact HR170_0.out)) x7_2 p171 q171
                          cases e171
                          replace p171 := eq_true p171
                          replace q171 := eq_true q171
                          have p172 : 0 ≤ (x6_1 : Int) := of_decide_eq_true (by first | (with_reducible assumption) | assumption)
                          have q172 : x6_1 < (x5_2.length : Int) := of_decide_eq_true (by first | (with_reducible assumption) | assumption)
                          obtain ⟨ad172, A172_0, c172_0, e172, hx172_0, hl172_0, hi172_0⟩ := at_L1 (Kd.S_reads' HO_5.out).2.2 x6_1 p172 q172
                          obtain rfl : (⟨go14, 0, none⟩ : Addr) = ad172 := (by injection e172)
                          obtain ⟨ce172, hce172, hMe172, hcc172⟩ := Kd.S_get HO_5.out [] x6_1 p172 (by first | exact q172 | exact of_decide_eq_true (by first | (with_reducible assumption) | assumption) | (have e_ := (Kd.S_reads' HO_5.out).1; omega))
                          obtain ⟨ve172_0, rfl, ge172_0⟩ := hMe172
                          have hv172_0 := hcc172 0 _ rfl
                          rw [Nat.add_zero, show ((Kd.slice 3 (Kd.int .i64))).sz = 1 from rfl, Nat.mul_one] at hv172_0
                          replace hv172_0 := Option.some.inj (hv172_0.symm.trans hx172_0)
                          rw [hv172_0] at ge172_0
                          have HL172_0 := Aside0.mk (show Kd.R (Kd.int .i64) 3 _ _ _ _ (rd_L1 x5_2 x6_1) from ge172_0)
                          clear hv172_0 ge172_0
                          have HX172_0 := Aside0.mk hx172_0
                          clear hcc172 hce172
                          (first | simp only [add_plain] at hx172_0 | simp only [add_at] at hx172_0 | simp only [Addr.add, Nat.zero_add] at hx172_0 | skip)
                          have HR172_0 := Aside0.mk hi172_0
                          have HC172_0 := Aside0.mk hl172_0
                          clear hi172_0 hl172_0
                          replace p172 := eq_true p172
                          replace q172 := eq_true q172
                          have ea_ := Option.some.inj (hx169_0.symm.trans hx172_0)
                          injection ea_ with ea_ en_ ec_
                          subst ea_
                          subst ec_
                          clear en_
                          have p173 : 0 ≤ ((ji48) : Int) := of_decide_eq_true (by first | (with_reducible assumption) | assumption)
                          have q173 : (ji48) < ((rd_L1 x5_2 x6_1).length : Int) := of_decide_eq_true (by first | (with_reducible assumption) | assumption)
                          obtain ⟨ad173, e173, hx173_0⟩ := Kd.at_int (by repeat (first | (with_reducible exact HR172_0.out) | (with_reducible refine Kd.C_alloc ?_ _) | (with_reducible refine Kd.C_drewN ?_ _) | (with_reducible refine Kd.C_drew ?_) | exact HR172_0.out)) (ji48) p173 q173
                          cases e173
                          replace p173 := eq_true p173
                          replace q173 := eq_true q173
                          have p53 : 0 ≤ (x7_2 : Int) := of_decide_eq_true (by first | (with_reducible assumption) | assumption)
                          have q53 : (x7_2 : Int) < (((rd_L1 x5_2 x6_1).length : Int) : Int) := of_decide_eq_true (by first | (with_reducible assumption) | assumption)
                          obtain ⟨go53, co53, eo53, gb53, gl53, cl53, HG53⟩ := Kd.R_form HL169_0.out (by omega)
                          (first | cases eo53 | (injection eo53 with ea_ en_ ec_; (first | subst ea_ | (injection ea_ with ea_; subst ea_)); subst ec_; clear en_))
                          have GB53 := Aside0.mk gb53
                          have GG53 := Aside0.mk HG53
                          clear gb53 gl53 HG53
                          (first | simp only [add_plain] at hx173_0 | skip)
                          obtain ⟨hx53_0, hf53_0⟩ := Kd.R_celln 0 HL169_0.out (x7_2 : Int) p53 q53
                          replace p53 := eq_true p53
                          replace q53 := eq_true q53
                          have hq56 : (x6_1 : Int) < (x5_2.length : Int) := (by have h_ : (x6_1 : Int) < ((x5_2.length : Int) : Int) := of_decide_eq_true (by first | (with_reducible assumption) | assumption); first | exact h_ | (have e_ := (Kd.S_reads' HO_5.out).1; omega) | simpa only [List.length_set, List.length_set] using h_)
                          obtain ⟨oki56, ce56, hcl56, hM56, hcc56, hok56, hbk56⟩ := Kd.S_borrow HO_5.out [] (x6_1 : Int) (of_decide_eq_true (by first | (with_reducible assumption) | assumption)) (by first | exact hq56 | exact of_decide_eq_true (by first | (with_reducible assumption) | assumption))
                          obtain ⟨ve56_0, rfl, ge56_0⟩ := hM56
                          have hv56 := hcc56 0 _ rfl
                          rw [Nat.add_zero, show ((Kd.slice 3 (Kd.int .i64))).sz = 1 from rfl, Nat.mul_one] at hv56
                          replace hv56 := Option.some.inj (hv56.symm.trans HX169_0.out)
                          subst hv56
                          clear hcc56 hcl56
                          replace ge56_0 := (show Kd.R (Kd.int .i64) 3 _ _ _ _ (rd_L1 x5_2 x6_1) from ge56_0)
                          have HP56 := Kd.R_putg ge56_0 (x7_2 : Int) ji51
                          rw [← Ny174.out] at HP56
                          have HS56 := hbk56 HP56.2 (fun k_ e_ => by injection e_ with e_; subst e_; exact ge56_0.1 _ rfl) (x' := y174) (Kd.M_row HP56.1)
                          rw [← Ny176.out] at HS56
                          have HQ56 := Aside0.mk HS56
                          clear HP56 HS56 hbk56 hok56
                          refine start_ (n := 24) (S := fun w' => w'.cell? ⟨go14, (x6_1).toNat, none⟩ = some (.slice (some ⟨go53, 0, none⟩) (rd_L1 x5_2 x6_1).length c169_0) ∧ w'.cell? ⟨go14, ((ji44)).toNat, none⟩ = some (.slice (some ad171) (rd_L1 x5_2 (ji44)).length c170_0) ∧ w'.cell? (ad171.add (x7_2).toNat) = some (.int .i64 (rd (rd_L1 x5_2 (ji44)) x7_2)) ∧ w'.cell? ⟨go14, (x6_1).toNat, none⟩ = some (.slice (some ⟨go53, 0, none⟩) (rd_L1 x5_2 x6_1).length c169_0) ∧ w'.cell? ⟨go53, ((ji48)).toNat, none⟩ = some (.int .i64 (rd (rd_L1 x5_2 x6_1) (ji48)))) (ds := [23]) #[false, false, false, false, false, false, false, false, false, false, false, false, false, false, false, false, false, false, false, false, false, false, false, false] (by kernel_rfl) rfl rfl ⟨hx169_0, hx170_0, hx171_0, hx172_0, hx173_0⟩ (fun hHeld => ?_); refine with_tabW impl_common.tab12 impl_common.bits12 (fun HT_ HW_ => ?_)
                          generalize w54.drew = w55 at HO_5 HB GG53 HL169_0 HL170_0 HL172_0 HQ56 HR169_0 HR170_0 HR172_0 HX169_0 HX170_0 HX172_0 hf53_0 hx169_0 hx170_0 hx171_0 hx172_0 hx173_0 hx53_0 hHeld ⊢
                          refine pure_ (i := 0) (N := some 61) (v := ?_) (a' := ?_) #[true, false, false, false, false, false, false, false, false, false, false, false, false, false, false, false, false, false, false, false, false, false, false, false] rfl rfl (any_of HT_.out (by kernel_rfl)) (fun _ _ _ h => h) (Or.inl ⟨by rfl, ?_⟩) ?_ ?_
                          rotate_left
                          ·intro w'
                           go_simp
                           with_reducible rfl
                          rotate_left
                          ·simp only [Act.put, List.setIfInBounds_toArray, List.set_cons_zero, List.set_cons_succ, i64_w, i32_w]
                           rfl
                          refine pure_ (i := 1) (N := some 62) (v := ?_) (a' := ?_) #[true, true, false, false, false, false, false, false, false, false, false, false, false, false, false, false, false, false, false, false, false, false, false, false] rfl rfl (any_of HT_.out (by kernel_rfl)) (fun _ _ _ h => h) (Or.inl ⟨by rfl, ?_⟩) ?_ ?_
                          rotate_left
                          ·intro w'
                           go_simp
                           with_reducible rfl
                          rotate_left
                          ·simp only [Act.put, List.setIfInBounds_toArray, List.set_cons_zero, List.set_cons_succ, i64_w, i32_w]
                           rfl
                          refine pure_ (i := 2) (N := some 63) (v := ?_) (a' := ?_) #[true, true, true, false, false, false, false, false, false, false, false, false, false, false, false, false, false, false, false, false, false, false, false, false] rfl rfl (any_of HT_.out (by kernel_rfl)) (fun _ _ _ h => h) (Or.inl ⟨by rfl, ?_⟩) ?_ ?_
                          rotate_left
                          ·intro w'
                           go_simp
                           with_reducible rfl
                          rotate_left
                          ·simp only [Act.put, List.setIfInBounds_toArray, List.set_cons_zero, List.set_cons_succ, i64_w, i32_w]
                           rfl
                          refine pure_ (i := 4) (N := some 65) (v := ?_) (a' := ?_) #[true, true, true, false, true, false, false, false, false, false, false, false, false, false, false, false, false, false, false, false, false, false, false, false] rfl rfl (any_of HT_.out (by kernel_rfl)) (fun _ _ _ h => h) (Or.inl ⟨by rfl, ?_⟩) ?_ ?_
                          rotate_left
                          ·intro w'
                           go_simp
                           with_reducible rfl
                          rotate_left
                          ·simp only [Act.put, List.setIfInBounds_toArray, List.set_cons_zero, List.set_cons_succ, i64_w, i32_w]
                           rfl
                          refine pure_ (i := 5) (N := some 66) (v := ?_) (a' := ?_) #[true, true, true, false, true, true, false, false, false, false, false, false, false, false, false, false, false, false, false, false, false, false, false, false] rfl rfl (any_of HT_.out (by kernel_rfl)) (fun _ _ _ h => h) (Or.inl ⟨by rfl, ?_⟩) ?_ ?_
                          rotate_left
                          ·intro w'
                           go_simp
                           with_reducible rfl
                          rotate_left
                          ·simp only [Act.put, List.setIfInBounds_toArray, List.set_cons_zero, List.set_cons_succ, i64_w, i32_w]
                           rfl
                          refine pure_ (i := 6) (N := some 67) (v := ?_) (a' := ?_) #[true, true, true, false, true, true, true, false, false, false, false, false, false, false, false, false, false, false, false, false, false, false, false, false] rfl rfl (any_of HT_.out (by kernel_rfl)) (fun _ _ _ h => h) (Or.inl ⟨by rfl, ?_⟩) ?_ ?_
                          rotate_left
                          ·intro w'
                           go_simp
                           with_reducible rfl
                          rotate_left
                          ·simp only [Act.put, List.setIfInBounds_toArray, List.set_cons_zero, List.set_cons_succ, i64_w, i32_w]
                           rfl
                          refine pure_ (i := 7) (N := some 68) (v := ?_) (a' := ?_) #[true, true, true, false, true, true, true, true, false, false, false, false, false, false, false, false, false, false, false, false, false, false, false, false] rfl rfl (any_of HT_.out (by kernel_rfl)) (fun _ _ _ h => h) (Or.inl ⟨by rfl, ?_⟩) ?_ ?_
                          rotate_left
                          ·intro w'
                           go_simp
                           with_reducible rfl
                          rotate_left
                          ·simp only [Act.put, List.setIfInBounds_toArray, List.set_cons_zero, List.set_cons_succ, i64_w, i32_w]
                           rfl
                          refine pure_ (i := 8) (N := some 69) (v := ?_) (a' := ?_) #[true, true, true, false, true, true, true, true, true, false, false, false, false, false, false, false, false, false, false, false, false, false, false, false] rfl rfl (any_of HT_.out (by kernel_rfl)) (fun _ _ _ h => h) (Or.inl ⟨by rfl, ?_⟩) ?_ ?_
                          rotate_left
                          ·intro w'
                           go_simp
                           with_reducible rfl
                          rotate_left
                          ·simp only [Act.put, List.setIfInBounds_toArray, List.set_cons_zero, List.set_cons_succ, i64_w, i32_w]
                           rfl
                          refine pure_ (i := 10) (N := some 71) (v := ?_) (a' := ?_) #[true, true, true, false, true, true, true, true, true, false, true, false, false, false, false, false, false, false, false, false, false, false, false, false] rfl rfl (any_of HT_.out (by kernel_rfl)) (fun _ _ _ h => h) (Or.inl ⟨by rfl, ?_⟩) ?_ ?_
                          rotate_left
                          ·intro w'
                           go_simp
                           with_reducible rfl
                          rotate_left
                          ·simp only [Act.put, List.setIfInBounds_toArray, List.set_cons_zero, List.set_cons_succ, i64_w, i32_w]
                           rfl
                          refine pure_ (i := 13) (N := some 74) (v := ?_) (a' := ?_) #[true, true, true, false, true, true, true, true, true, false, true, false, false, true, false, false, false, false, false, false, false, false, false, false] rfl rfl (any_of HT_.out (by kernel_rfl)) (fun _ _ _ h => h) (Or.inl ⟨by rfl, ?_⟩) ?_ ?_
                          rotate_left
                          ·intro w'
                           go_simp
                           with_reducible rfl
                          rotate_left
                          ·simp only [Act.put, List.setIfInBounds_toArray, List.set_cons_zero, List.set_cons_succ, i64_w, i32_w]
                           rfl
                          refine pure_ (i := 14) (N := some 75) (v := ?_) (a' := ?_) #[true, true, true, false, true, true, true, true, true, false, true, false, false, true, true, false, false, false, false, false, false, false, false, false] rfl rfl (any_of HT_.out (by kernel_rfl)) (fun _ _ _ h => h) (Or.inl ⟨by rfl, ?_⟩) ?_ ?_
                          rotate_left
                          ·intro w'
                           go_simp
                           with_reducible rfl
                          rotate_left
                          ·simp only [Act.put, List.setIfInBounds_toArray, List.set_cons_zero, List.set_cons_succ, i64_w, i32_w]
                           rfl
                          refine pure_ (i := 15) (N := some 76) (v := ?_) (a' := ?_) #[true, true, true, false, true, true, true, true, true, false, true, false, false, true, true, true, false, false, false, false, false, false, false, false] rfl rfl (any_of HT_.out (by kernel_rfl)) (fun _ _ _ h => h) (Or.inl ⟨by rfl, ?_⟩) ?_ ?_
                          rotate_left
                          ·intro w'
                           go_simp
                           with_reducible rfl
                          rotate_left
                          ·simp only [Act.put, List.setIfInBounds_toArray, List.set_cons_zero, List.set_cons_succ, i64_w, i32_w]
                           rfl
                          refine pure_ (i := 17) (N := some 78) (v := ?_) (a' := ?_) #[true, true, true, false, true, true, true, true, true, false, true, false, false, true, true, true, false, true, false, false, false, false, false, false] rfl rfl (any_of HT_.out (by kernel_rfl)) (fun _ _ _ h => h) (Or.inl ⟨by rfl, ?_⟩) ?_ ?_
                          rotate_left
                          ·intro w'
                           go_simp
                           with_reducible rfl
                          rotate_left
                          ·simp only [Act.put, List.setIfInBounds_toArray, List.set_cons_zero, List.set_cons_succ, i64_w, i32_w]
                           rfl
                          refine pure_ (i := 18) (N := some 79) (v := ?_) (a' := ?_) #[true, true, true, false, true, true, true, true, true, false, true, false, false, true, true, true, false, true, true, false, false, false, false, false] rfl rfl (any_of HT_.out (by kernel_rfl)) (fun _ _ _ h => h) (Or.inl ⟨by rfl, ?_⟩) ?_ ?_
                          rotate_left
                          ·intro w'
                           go_simp
                           with_reducible rfl
                          rotate_left
                          ·simp only [Act.put, List.setIfInBounds_toArray, List.set_cons_zero, List.set_cons_succ, i64_w, i32_w]
                           rfl
                          refine take_ (i := 3) (N := some 64) (v := ?_) (a' := ?_) #[true, true, true, true, true, true, true, true, true, false, true, false, false, true, true, true, false, true, true, false, false, false, false, false] rfl rfl (take_ofW HT_.out HW_.out (by kernel_rfl)) (fun _ _ _ h => h) (Or.inl ⟨by rfl, ?_⟩) hHeld ?_ ?_
                          rotate_left
                          ·rintro w' ⟨s0, s1, s2, s3, s4⟩
                           go_simp
                           with_reducible rfl
                          rotate_left
                          ·simp only [Act.put, List.setIfInBounds_toArray, List.set_cons_zero, List.set_cons_succ, i64_w, i32_w]
                           rfl
                          refine take_ (i := 9) (N := some 70) (v := ?_) (a' := ?_) #[true, true, true, true, true, true, true, true, true, true, true, false, false, true, true, true, false, true, true, false, false, false, false, false] rfl rfl (take_ofW HT_.out HW_.out (by kernel_rfl)) (fun _ _ _ h => h) (Or.inl ⟨by rfl, ?_⟩) hHeld ?_ ?_
                          rotate_left
                          ·rintro w' ⟨s0, s1, s2, s3, s4⟩
                           go_simp
                           with_reducible rfl
                          rotate_left
                          ·simp only [Act.put, List.setIfInBounds_toArray, List.set_cons_zero, List.set_cons_succ, i64_w, i32_w]
                           rfl
                          refine pure_ (i := 11) (N := some 72) (v := ?_) (a' := ?_) #[true, true, true, true, true, true, true, true, true, true, true, true, false, true, true, true, false, true, true, false, false, false, false, false] rfl rfl (any_of HT_.out (by kernel_rfl)) (fun _ _ _ h => h) (Or.inl ⟨by rfl, ?_⟩) ?_ ?_
                          rotate_left
                          ·intro w'
                           go_simp
                           with_reducible rfl
                          rotate_left
                          ·simp only [Act.put, List.setIfInBounds_toArray, List.set_cons_zero, List.set_cons_succ, i64_w, i32_w]
                           rfl
                          refine take_ (i := 12) (N := some 73) (v := ?_) (a' := ?_) #[true, true, true, true, true, true, true, true, true, true, true, true, true, true, true, true, false, true, true, false, false, false, false, false] rfl rfl (take_ofW HT_.out HW_.out (by kernel_rfl)) (fun _ _ _ h => h) (Or.inl ⟨by rfl, ?_⟩) hHeld ?_ ?_
                          rotate_left
                          ·rintro w' ⟨s0, s1, s2, s3, s4⟩
                           go_simp
                           with_reducible rfl
                          rotate_left
                          ·simp only [Act.put, List.setIfInBounds_toArray, List.set_cons_zero, List.set_cons_succ, i64_w, i32_w]
                           rfl
                          refine take_ (i := 16) (N := some 77) (v := ?_) (a' := ?_) #[true, true, true, true, true, true, true, true, true, true, true, true, true, true, true, true, true, true, true, false, false, false, false, false] rfl rfl (take_ofW HT_.out HW_.out (by kernel_rfl)) (fun _ _ _ h => h) (Or.inl ⟨by rfl, ?_⟩) hHeld ?_ ?_
                          rotate_left
                          ·rintro w' ⟨s0, s1, s2, s3, s4⟩
                           go_simp
                           with_reducible rfl
                          rotate_left
                          ·simp only [Act.put, List.setIfInBounds_toArray, List.set_cons_zero, List.set_cons_succ, i64_w, i32_w]
                           rfl
                          refine pure_ (i := 19) (N := some 80) (v := ?_) (a' := ?_) #[true, true, true, true, true, true, true, true, true, true, true, true, true, true, true, true, true, true, true, true, false, false, false, false] rfl rfl (any_of HT_.out (by kernel_rfl)) (fun _ _ _ h => h) (Or.inl ⟨by rfl, ?_⟩) ?_ ?_
                          rotate_left
                          ·intro w'
                           go_simp
                           with_reducible rfl
                          rotate_left
                          ·simp only [Act.put, List.setIfInBounds_toArray, List.set_cons_zero, List.set_cons_succ, i64_w, i32_w]
                           rfl
                          refine take_ (i := 20) (N := some 81) (v := ?_) (a' := ?_) #[true, true, true, true, true, true, true, true, true, true, true, true, true, true, true, true, true, true, true, true, true, false, false, false] rfl rfl (take_ofW HT_.out HW_.out (by kernel_rfl)) (fun _ _ _ h => h) (Or.inl ⟨by rfl, ?_⟩) hHeld ?_ ?_
                          rotate_left
                          ·rintro w' ⟨s0, s1, s2, s3, s4⟩
                           go_simp
                           with_reducible rfl
                          rotate_left
                          ·simp only [Act.put, List.setIfInBounds_toArray, List.set_cons_zero, List.set_cons_succ, i64_w, i32_w]
                           rfl
                          refine pure_ (i := 21) (N := some 82) (v := ?_) (a' := ?_) #[true, true, true, true, true, true, true, true, true, true, true, true, true, true, true, true, true, true, true, true, true, true, false, false] rfl rfl (any_of HT_.out (by kernel_rfl)) (fun _ _ _ h => h) (Or.inl ⟨by rfl, ?_⟩) ?_ ?_
                          rotate_left
                          ·intro w'
                           go_simp
                           with_reducible rfl
                          rotate_left
                          ·simp only [Act.put, List.setIfInBounds_toArray, List.set_cons_zero, List.set_cons_succ, i64_w, i32_w]
                           rfl
                          refine pure_ (i := 22) (N := some 83) (v := ?_) (a' := ?_) #[true, true, true, true, true, true, true, true, true, true, true, true, true, true, true, true, true, true, true, true, true, true, true, false] rfl rfl (any_of HT_.out (by kernel_rfl)) (fun _ _ _ h => h) (Or.inl ⟨by rfl, ?_⟩) ?_ ?_
                          rotate_left
                          ·intro w'
                           go_simp
                           with_reducible rfl
                          rotate_left
                          ·simp only [Act.put, List.setIfInBounds_toArray, List.set_cons_zero, List.set_cons_succ, i64_w, i32_w]
                           rfl
                          refine last_ (i := 23) (N := none) #[true, true, true, true, true, true, true, true, true, true, true, true, true, true, true, true, true, true, true, true, true, true, true, true] rfl rfl (one_of HT_.out (by kernel_rfl)) (by decide) (fun K hK => ?_)
                          refine skip_ (w1 := ?_) (by rfl) rfl ?_ ?_
                          rotate_left
                          ·go_simp
                           rfl
                          refine hK.out _ _ ?_
                          clear hK K
                          refine done_ (done_of HT_.out (by kernel_rfl)) ?_
                          try go_wp2
                          (try simp only [← hl5_2])
                          go_roundg k2
                          case measure => have := HK1.out; have := HK2.out; omega
                          case rel => exact ⟨(y176), (wrap64 (x7_2 - 1)), (by first | rfl | (simp; done) | (simp [*]; done)), H', ⟨by have := HK1.out; have := HK2.out; omega⟩, ⟨by (try simp only [hl5_2]); (with_reducible repeat (first | apply Kd.S_alloc | apply Kd.S_drewN | apply Kd.S_drew)); exact HQ56.out⟩, ⟨by repeat (first | (with_reducible first | exact HB.out | apply below_alloc | apply pw_below_drewN | apply below_drew1 | refine below_set ?_ GB53.out) | exact HB.out)⟩⟩
                         ·rw [if_neg c52] at H
                          exact absurd H (by simp)
                        ·rw [if_neg c50] at H
                         exact absurd H (by simp)
                       ·rw [if_neg c49] at H
                        exact absurd H (by simp)
                      ·rw [if_neg c47] at H
                       exact absurd H (by simp)
                     ·rw [if_neg c46] at H
                      exact absurd H (by simp)
                    ·rw [if_neg c45] at H
                     exact absurd H (by simp)
                   ·rw [if_neg c43] at H
                    exact absurd H (by simp)
                 ·rw [if_neg c28] at H
                  exact absurd H (by simp)
                ·rw [if_neg c27] at H
                 exact absurd H (by simp)
               ·rw [if_neg c26] at H
                exact absurd H (by simp)
              ·rw [if_neg c25] at H
               exact absurd H (by simp)
             ·rw [if_neg c24] at H
              have c24b0 : decide (0 ≤ x7_2) = false := decide_eq_false c24
              clear c24
              have H' := Aside0.mk H
              clear H
              go_wp2
              (try simp only [← hl5_2])
              go_roundg k2
              case measure => have := HK1.out; have := HK2.out; omega
              case rel => exact ⟨(x5_2), (wrap64 (x6_1 - 1)), (by first | rfl | (simp; done) | (simp [*]; done)), H', ⟨by have := HK1.out; have := HK2.out; omega⟩, ⟨by (try simp only [hl5_2]); (with_reducible repeat (first | apply Kd.S_alloc | apply Kd.S_drewN | apply Kd.S_drew)); exact HO_5.out⟩, ⟨by repeat (first | (with_reducible first | exact HB.out | apply below_alloc | apply pw_below_drewN | apply below_drew1) | exact HB.out)⟩⟩
         ·rw [if_neg c13] at H
          exact absurd H (by simp)
        ·rw [if_neg c12] at H
         exact absurd H (by simp)
       ·rw [if_neg c11] at H
        exact absurd H (by simp)
      ·rw [if_neg c10] at H
       exact absurd H (by simp)
     ·rw [if_neg c8] at H
      have c8b0 : decide (0 ≤ x6_1) = false := decide_eq_false c8
      clear c8
      obtain rfl := Option.some.inj H
      go_wp2
      go_ret
      exact ⟨_, by first | rfl | (simp [errW_none, errW_some] <;> rfl) | (simp only [← hji3]; first | rfl | (simp [errW_none, errW_some] <;> rfl)) | (simp [*, errW_none, errW_some] <;> rfl), by (with_reducible repeat (first | apply Kd.S_alloc | apply Kd.S_drewN | apply Kd.S_drew)); exact HO_5.out, by repeat (first | (with_reducible first | exact HB.out | apply below_alloc | apply pw_below_drewN | apply below_drew1) | exact HB.out)⟩
  ·rw [if_neg c5] at H
   exact absurd H (by simp)
 ·rw [if_neg c4] at H
  exact absurd H (by simp)

end Go.Proofs.YtdfbdgnapjpblaaDoor.X
