-- written by a program of this session (wip/xprint.py) out of the translation
import Derived.Test.YtbkdfiepdnbeoaaX0
namespace Go.Proofs.Ytbkdfiepdnbeoaa.X
open Go.RowKit Go.Proofs.YtbkdfiepdnbeoaaW.PrintWords Go.Proofs.YtbkdfiepdnbeoaaW.PrintLast Go.Proofs.YtbkdfiepdnbeoaaW.PrintMore
attribute [local go_sem] max2_int min2_int max_two min_two max_three min_three max_four min_four   -- for this text's walks alone
set_option linter.unusedVariables false
set_option linter.unusedSimpArgs false

/-! ### spec_l16Mates: function 43 -/
mutual
def spec_l16Mates.l0 : Nat → ByteArray → List Int → List Int → Int → Option (List Int)
  | 0, _, _, _, _ => none
  | k + 1, x0, x3, x4, x5 => if x5 < (x0.size : Int) then (if x3.length < 17592186044416 then ((some (x3 ++ [(-1)] : List Int)).bind fun y109 => (if 0 ≤ x5 then (if (bt x0 x5) = 40 then (spec_l16Mates.j1 k x0 y109 x4 x5 0 (bt x0 x5) ((bt x0 x5) == 40)) else (if (bt x0 x5) = 91 then (spec_l16Mates.j1 k x0 y109 x4 x5 0 (bt x0 x5) ((bt x0 x5) == 91)) else (spec_l16Mates.j1 k x0 y109 x4 x5 0 (bt x0 x5) ((bt x0 x5) == 123)))) else (none))) else (none)) else (some x3)
def spec_l16Mates.j1 : Nat → ByteArray → List Int → List Int → Int → Int → Int → Bool → Option (List Int)
  | 0, _, _, _, _, _, _, _ => none
  | k + 1, x0, x3, x4, x5, x6, x21, x22 => if x22 = true then (if x4.length < 17592186044416 then ((some (x4 ++ [x5] : List Int)).bind fun y112 => (if x6 = 0 then (spec_l16Mates.l0 k x0 x3 y112 (wrap64 (x5 + 1))) else (if (wrap64 ((y112.length : Int) - 1)) ≥ 0 then (if 0 ≤ (wrap64 ((y112.length : Int) - 1)) then (if (wrap64 ((y112.length : Int) - 1)) < (y112.length : Int) then (if 0 ≤ (rd y112 (wrap64 ((y112.length : Int) - 1))) then (if (rd y112 (wrap64 ((y112.length : Int) - 1))) < (x0.size : Int) then (if (bt x0 (rd y112 (wrap64 ((y112.length : Int) - 1)))) = x6 then (if 0 ≤ x5 then (if x5 < (x3.length : Int) then (if (rd y112 (wrap64 ((y112.length : Int) - 1))) < (x3.length : Int) then (if (wrap64 ((y112.length : Int) - 1)) ≤ (y112.length : Int) then (spec_l16Mates.l0 k x0 ((x3.set (x5 : Int).toNat (rd y112 (wrap64 ((y112.length : Int) - 1)))).set ((rd y112 (wrap64 ((y112.length : Int) - 1))) : Int).toNat x5) (y112.take ((wrap64 ((y112.length : Int) - 1)) : Int).toNat) (wrap64 (x5 + 1))) else (none)) else (none)) else (none)) else (none)) else (spec_l16Mates.l0 k x0 x3 y112 (wrap64 (x5 + 1)))) else (none)) else (none)) else (none)) else (none)) else (spec_l16Mates.l0 k x0 x3 y112 (wrap64 (x5 + 1)))))) else (none)) else (if x21 = 41 then (if (wrap64 ((x4.length : Int) - 1)) ≥ 0 then (if 0 ≤ (wrap64 ((x4.length : Int) - 1)) then (if (wrap64 ((x4.length : Int) - 1)) < (x4.length : Int) then (if 0 ≤ (rd x4 (wrap64 ((x4.length : Int) - 1))) then (if (rd x4 (wrap64 ((x4.length : Int) - 1))) < (x0.size : Int) then (if (bt x0 (rd x4 (wrap64 ((x4.length : Int) - 1)))) = 40 then (if 0 ≤ x5 then (if x5 < (x3.length : Int) then (if (rd x4 (wrap64 ((x4.length : Int) - 1))) < (x3.length : Int) then (if (wrap64 ((x4.length : Int) - 1)) ≤ (x4.length : Int) then (spec_l16Mates.l0 k x0 ((x3.set (x5 : Int).toNat (rd x4 (wrap64 ((x4.length : Int) - 1)))).set ((rd x4 (wrap64 ((x4.length : Int) - 1))) : Int).toNat x5) (x4.take ((wrap64 ((x4.length : Int) - 1)) : Int).toNat) (wrap64 (x5 + 1))) else (none)) else (none)) else (none)) else (none)) else (spec_l16Mates.l0 k x0 x3 x4 (wrap64 (x5 + 1)))) else (none)) else (none)) else (none)) else (none)) else (spec_l16Mates.l0 k x0 x3 x4 (wrap64 (x5 + 1)))) else (if x21 = 93 then (if (wrap64 ((x4.length : Int) - 1)) ≥ 0 then (if 0 ≤ (wrap64 ((x4.length : Int) - 1)) then (if (wrap64 ((x4.length : Int) - 1)) < (x4.length : Int) then (if 0 ≤ (rd x4 (wrap64 ((x4.length : Int) - 1))) then (if (rd x4 (wrap64 ((x4.length : Int) - 1))) < (x0.size : Int) then (if (bt x0 (rd x4 (wrap64 ((x4.length : Int) - 1)))) = 91 then (if 0 ≤ x5 then (if x5 < (x3.length : Int) then (if (rd x4 (wrap64 ((x4.length : Int) - 1))) < (x3.length : Int) then (if (wrap64 ((x4.length : Int) - 1)) ≤ (x4.length : Int) then (spec_l16Mates.l0 k x0 ((x3.set (x5 : Int).toNat (rd x4 (wrap64 ((x4.length : Int) - 1)))).set ((rd x4 (wrap64 ((x4.length : Int) - 1))) : Int).toNat x5) (x4.take ((wrap64 ((x4.length : Int) - 1)) : Int).toNat) (wrap64 (x5 + 1))) else (none)) else (none)) else (none)) else (none)) else (spec_l16Mates.l0 k x0 x3 x4 (wrap64 (x5 + 1)))) else (none)) else (none)) else (none)) else (none)) else (spec_l16Mates.l0 k x0 x3 x4 (wrap64 (x5 + 1)))) else (if x21 = 125 then (if (wrap64 ((x4.length : Int) - 1)) ≥ 0 then (if 0 ≤ (wrap64 ((x4.length : Int) - 1)) then (if (wrap64 ((x4.length : Int) - 1)) < (x4.length : Int) then (if 0 ≤ (rd x4 (wrap64 ((x4.length : Int) - 1))) then (if (rd x4 (wrap64 ((x4.length : Int) - 1))) < (x0.size : Int) then (if (bt x0 (rd x4 (wrap64 ((x4.length : Int) - 1)))) = 123 then (if 0 ≤ x5 then (if x5 < (x3.length : Int) then (if (rd x4 (wrap64 ((x4.length : Int) - 1))) < (x3.length : Int) then (if (wrap64 ((x4.length : Int) - 1)) ≤ (x4.length : Int) then (spec_l16Mates.l0 k x0 ((x3.set (x5 : Int).toNat (rd x4 (wrap64 ((x4.length : Int) - 1)))).set ((rd x4 (wrap64 ((x4.length : Int) - 1))) : Int).toNat x5) (x4.take ((wrap64 ((x4.length : Int) - 1)) : Int).toNat) (wrap64 (x5 + 1))) else (none)) else (none)) else (none)) else (none)) else (spec_l16Mates.l0 k x0 x3 x4 (wrap64 (x5 + 1)))) else (none)) else (none)) else (none)) else (none)) else (spec_l16Mates.l0 k x0 x3 x4 (wrap64 (x5 + 1)))) else (if x6 = 0 then (spec_l16Mates.l0 k x0 x3 x4 (wrap64 (x5 + 1))) else (if (wrap64 ((x4.length : Int) - 1)) ≥ 0 then (if 0 ≤ (wrap64 ((x4.length : Int) - 1)) then (if (wrap64 ((x4.length : Int) - 1)) < (x4.length : Int) then (if 0 ≤ (rd x4 (wrap64 ((x4.length : Int) - 1))) then (if (rd x4 (wrap64 ((x4.length : Int) - 1))) < (x0.size : Int) then (if (bt x0 (rd x4 (wrap64 ((x4.length : Int) - 1)))) = x6 then (if 0 ≤ x5 then (if x5 < (x3.length : Int) then (if (rd x4 (wrap64 ((x4.length : Int) - 1))) < (x3.length : Int) then (if (wrap64 ((x4.length : Int) - 1)) ≤ (x4.length : Int) then (spec_l16Mates.l0 k x0 ((x3.set (x5 : Int).toNat (rd x4 (wrap64 ((x4.length : Int) - 1)))).set ((rd x4 (wrap64 ((x4.length : Int) - 1))) : Int).toNat x5) (x4.take ((wrap64 ((x4.length : Int) - 1)) : Int).toNat) (wrap64 (x5 + 1))) else (none)) else (none)) else (none)) else (none)) else (spec_l16Mates.l0 k x0 x3 x4 (wrap64 (x5 + 1)))) else (none)) else (none)) else (none)) else (none)) else (spec_l16Mates.l0 k x0 x3 x4 (wrap64 (x5 + 1))))))))
end
def spec_l16Mates.f (k : Nat) (a0 : ByteArray) : Option (List Int) := spec_l16Mates.l0 k a0 (([] : List Int)) (([] : List Int)) 0
theorem spec_l16Mates.mono_l : ∀ k, (∀ y0 y1 y2 y3, LeO (spec_l16Mates.l0 k y0 y1 y2 y3) (spec_l16Mates.l0 (k + 1) y0 y1 y2 y3)) ∧ (∀ y0 y1 y2 y3 y4 y5 y6, LeO (spec_l16Mates.j1 k y0 y1 y2 y3 y4 y5 y6) (spec_l16Mates.j1 (k + 1) y0 y1 y2 y3 y4 y5 y6))
  | 0 => ⟨fun _ _ _ _ r h => by simp [spec_l16Mates.l0] at h, fun _ _ _ _ _ _ _ r h => by simp [spec_l16Mates.j1] at h⟩
  | k + 1 => by
    obtain ⟨ih0, ih1⟩ := spec_l16Mates.mono_l k
    refine ⟨?_, ?_⟩
    · intro y0 y1 y2 y3
      unfold spec_l16Mates.l0
      repeat' first
      | (with_reducible exact ih0 _ _ _ _)
      | (with_reducible exact ih1 _ _ _ _ _ _ _)
      | (with_reducible exact LeO.refl _)
      | (with_reducible exact LeO.none _)
      | (with_reducible refine LeO.ite ?_ ?_)
      | (with_reducible refine LeO.bind ?_ (fun _ => ?_))
      | exact ih0 _ _ _ _
      | exact ih1 _ _ _ _ _ _ _
      | exact LeO.none _
      | refine LeO.ite ?_ ?_
      | refine LeO.bind ?_ (fun _ => ?_)
    · intro y0 y1 y2 y3 y4 y5 y6
      unfold spec_l16Mates.j1
      repeat' first
      | (with_reducible exact ih0 _ _ _ _)
      | (with_reducible exact ih1 _ _ _ _ _ _ _)
      | (with_reducible exact LeO.refl _)
      | (with_reducible exact LeO.none _)
      | (with_reducible refine LeO.ite ?_ ?_)
      | (with_reducible refine LeO.bind ?_ (fun _ => ?_))
      | exact ih0 _ _ _ _
      | exact ih1 _ _ _ _ _ _ _
      | exact LeO.none _
      | refine LeO.ite ?_ ?_
      | refine LeO.bind ?_ (fun _ => ?_)
theorem spec_l16Mates.mono : ∀ a0 k, LeO (spec_l16Mates.f k a0) (spec_l16Mates.f (k + 1) a0) := by
  intro a0 k
  obtain ⟨ih0, ih1⟩ := spec_l16Mates.mono_l k
  unfold spec_l16Mates.f
  repeat' first
      | (with_reducible exact ih0 _ _ _ _)
      | (with_reducible exact ih1 _ _ _ _ _ _ _)
      | (with_reducible exact LeO.refl _)
      | (with_reducible exact LeO.none _)
      | (with_reducible refine LeO.ite ?_ ?_)
      | (with_reducible refine LeO.bind ?_ (fun _ => ?_))
      | exact ih0 _ _ _ _
      | exact ih1 _ _ _ _ _ _ _
      | exact LeO.none _
      | refine LeO.ite ?_ ?_
      | refine LeO.bind ?_ (fun _ => ?_)
set_option maxHeartbeats 8000000 in
set_option maxRecDepth 100000 in
theorem spec_l16Mates.calls (k : Nat) (a0 : ByteArray) (r : List Int) (w : World) (h : spec_l16Mates.f k a0 = some r) :
    Calls Try.prog 43 #[.string a0] w fun e w' => ∃ v0_ : Value, e = .returned (v0_) ∧ Kd.R (Kd.int .i64) 3 w' w.heap.size (fun _ => True) v0_ r ∧ Below w.heap.size w w' := by
  have HB := Aside0.mk (Below.refl w.heap.size w)
  have H : (spec_l16Mates.l0 k a0 (([] : List Int)) (([] : List Int)) 0) = some r := h
  clear h
  obtain ⟨y103, hy103⟩ : ∃ y_ : List Int, y_ = (([] : List Int)) := ⟨_, rfl⟩
  replace H : (spec_l16Mates.l0 k a0 y103 (([] : List Int)) 0) = some r := by first | (rw [hy103]; with_reducible exact H) | (have H2_ := (Option.bind_some _ _).symm.trans H; rw [hy103]; with_reducible exact H2_) | (have H2_ := (Option.bind_some _ _).symm.trans H; with_reducible exact H2_) | with_reducible exact H | (rw [hy103]; exact H) | exact H
  have Ny103 := Aside0.mk hy103
  clear hy103
  obtain ⟨y106, hy106⟩ : ∃ y_ : List Int, y_ = (([] : List Int)) := ⟨_, rfl⟩
  replace H : (spec_l16Mates.l0 k a0 y103 y106 0) = some r := by first | (rw [hy106]; with_reducible exact H) | (have H2_ := (Option.bind_some _ _).symm.trans H; rw [hy106]; with_reducible exact H2_) | (have H2_ := (Option.bind_some _ _).symm.trans H; with_reducible exact H2_) | with_reducible exact H | (rw [hy106]; exact H) | exact H
  have Ny106 := Aside0.mk hy106
  clear hy106
  have H' := Aside0.mk H
  clear H
  go_enter Try.func43, Try.ntmps43
  go_wp2_with (first | ((with_reducible refine gate_dst (N := 8) rfl ?_); refine Kd.R_lit (Kd.int .i64) _ 3 ?hg (N := 8) ?hd (xs := ([] : List Int)) (inner := []) (ok := fun _ => True) (okp := fun _ => True) ?hr ?hp (fun _ hk => hk) trivial (Below.refl _ _) (Nat.le_refl _) (by simp) ?_; (case hd => rfl); (case hg => rfl); (case hr => first | (go_simp; done) | (go_simp; rfl)); (case hp => exact (Reps.none _ _)); intro v104 w2 ho3 hb hg_ hnew_; clear hg_ hnew_; (first | rw [← Ny103.out] at ho3 | (simp only [Int.reduceToNat] at ho3; rw [← Ny103.out] at ho3)); have n0_ := Aside0.mk (Kd.R_lower ho3 (below_size (by repeat (first | (with_reducible first | exact HB.out | apply below_alloc | apply pw_below_drewN | apply below_drew1) | exact HB.out)))); have n1_ := Aside0.mk (below_step (by repeat (first | (with_reducible first | exact HB.out | apply below_alloc | apply pw_below_drewN | apply below_drew1) | exact HB.out)) hb); clear HB; have HO105 := n0_; have HB := n1_; clear n0_ n1_; clear hb ho3) | ((with_reducible refine gate_dst (N := 9) rfl ?_); refine Kd.R_lit (Kd.int .i64) _ 3 ?hg (N := 9) ?hd (xs := ([] : List Int)) (inner := []) (ok := fun _ => True) (okp := fun _ => True) ?hr ?hp (fun _ hk => hk) trivial (Below.refl _ _) (Nat.le_refl _) (by simp) ?_; (case hd => rfl); (case hg => rfl); (case hr => first | (go_simp; done) | (go_simp; rfl)); (case hp => exact (Reps.none _ _)); intro v107 w4 ho5 hb hg_ hnew_; clear hg_ hnew_; (first | rw [← Ny106.out] at ho5 | (simp only [Int.reduceToNat] at ho5; rw [← Ny106.out] at ho5)); have n0_ := Aside0.mk (Kd.R_elder' (by (with_reducible repeat (first | apply Kd.R_alloc | apply Kd.R_drewN | apply Kd.R_drew)); exact HO105.out) (Kd.R_base ho5) hb); have n1_ := Aside0.mk (Kd.R_lower (Kd.R_new' ho5 (Kd.R_lt (by (with_reducible repeat (first | apply Kd.R_alloc | apply Kd.R_drewN | apply Kd.R_drew)); exact HO105.out))) (below_size (by repeat (first | (with_reducible first | exact HB.out | apply below_alloc | apply pw_below_drewN | apply below_drew1) | exact HB.out)))); have n2_ := Aside0.mk (below_step (by repeat (first | (with_reducible first | exact HB.out | apply below_alloc | apply pw_below_drewN | apply below_drew1) | exact HB.out)) hb); clear HO105; clear HB; have HO105 := n0_; have HO108 := n1_; have HB := n2_; clear n0_ n1_ n2_; clear hb ho5))
  go_loopg [3, 4, 5] k (fun kq v3 v4 v5 w' => ∃ (x3_1 : List Int) (x4_1 : List Int) (x5_1 : Int), v5 = .int .i64 x5_1 ∧ Aside0 (spec_l16Mates.l0 kq a0 x3_1 x4_1 x5_1 = some r) ∧ Aside0 (kq ≤ k) ∧ Aside0 (Kd.R (Kd.int .i64) 3 w' w.heap.size (fun k_ => some k_ ≠ (v4 : Value).ownBlock) v3 x3_1) ∧ Aside0 (Kd.R (Kd.int .i64) 3 w' w.heap.size (fun k_ => some k_ ≠ (v3 : Value).ownBlock) v4 x4_1) ∧ Aside0 (Below w.heap.size w w'))
  case atStart => exact ⟨(y103), (y106), (0), (by first | rfl | (simp; done) | (simp [*]; done)), H', ⟨Nat.le_refl _⟩, ⟨by (with_reducible repeat (first | apply Kd.R_alloc | apply Kd.R_drewN | apply Kd.R_drew)); exact Kd.R_mono HO105.out (fun _ hk => hk.2)⟩, ⟨by (with_reducible repeat (first | apply Kd.R_alloc | apply Kd.R_drewN | apply Kd.R_drew)); exact Kd.R_mono HO108.out (fun _ hk => hk.2)⟩, ⟨by repeat (first | (with_reducible first | exact HB.out | apply below_alloc | apply pw_below_drewN | apply below_drew1) | exact HB.out)⟩⟩
  case round =>
    clear H'
    try clear p2
    try clear c4
    obtain ⟨x3_1, x4_1, x5_1, rfl, HA, HK1, HO_3, HO_4, HB⟩ := hrel
    cases gk with
    | zero => exact absurd HA.out (by simp [spec_l16Mates.l0])
    | succ k1 =>
      have H := HA.out
      clear HA
      simp only [spec_l16Mates.l0] at H
      by_cases c6 : x5_1 < (a0.size : Int)
      · rw [if_pos c6] at H
        have c6b0 : decide (x5_1 < (a0.size : Int)) = true := decide_eq_true c6
        clear c6
        by_cases c7 : x3_1.length < 17592186044416
        · rw [if_pos c7] at H
          have LMc7 := Aside0.mk c7
          clear c7
          obtain ⟨y109, hy109⟩ : ∃ y_ : List Int, y_ = (x3_1 ++ [(-1)]) := ⟨_, rfl⟩
          replace H : (if 0 ≤ x5_1 then (if (bt a0 x5_1) = 40 then (spec_l16Mates.j1 k1 a0 y109 x4_1 x5_1 0 (bt a0 x5_1) ((bt a0 x5_1) == 40)) else (if (bt a0 x5_1) = 91 then (spec_l16Mates.j1 k1 a0 y109 x4_1 x5_1 0 (bt a0 x5_1) ((bt a0 x5_1) == 91)) else (spec_l16Mates.j1 k1 a0 y109 x4_1 x5_1 0 (bt a0 x5_1) ((bt a0 x5_1) == 123)))) else (none)) = some r := by first | (rw [hy109]; with_reducible exact H) | (have H2_ := (Option.bind_some _ _).symm.trans H; rw [hy109]; with_reducible exact H2_) | (have H2_ := (Option.bind_some _ _).symm.trans H; with_reducible exact H2_) | with_reducible exact H | (rw [hy109]; exact H) | exact H
          have Ny109 := Aside0.mk hy109
          clear hy109
          by_cases c8 : 0 ≤ x5_1
          · rw [if_pos c8] at H
            have c8b0 : decide (0 ≤ x5_1) = true := decide_eq_true c8
            clear c8
            have HC10 := Aside0.mk H
            clear H
            go_upto_if 22 with (first | ((with_reducible refine gate_builtin (b := .append) (xs := #[.tmp 16, .tmp 17]) rfl ?_); at_builtin; refine Kd.R_append (Kd.int .i64) (w0 := w) w.heap.size rfl (.tmp 16) (.tmp 17) 26 3 (.int .i64 0) 8 rfl Try.underlying26 info3 rfl (by decide) (by omega) u3 x3_1 (-1) [.int .i64 (-1)] (fun k_ => some k_ ≠ (u4 : Value).ownBlock) (fun _ => False) rfl rfl ?aP (fun _ hk => hk.elim) ?aF ?aO ?aB ?aS ?aL ?_; (case aP => exact rfl); (case aB => exact (by repeat (first | (with_reducible first | exact HB.out | apply below_alloc | apply pw_below_drewN | apply below_drew1) | exact HB.out))); (case aF => exact (fun k_ hk => Kd.fresh' (Kd.R_lt (by (with_reducible repeat (first | apply Kd.R_alloc | apply Kd.R_drewN | apply Kd.R_drew)); exact HO_4.out)) k_ hk)); (case aO => exact (by (with_reducible repeat (first | apply Kd.R_alloc | apply Kd.R_drewN | apply Kd.R_drew)); exact HO_3.out)); (case aS => exact (below_size (by repeat (first | (with_reducible first | exact HB.out | apply below_alloc | apply pw_below_drewN | apply below_drew1) | exact HB.out)))); (case aL => have := LMc7.out; omega); intro v110 w11 ho hb hg hat; rw [← Ny109.out] at ho; have n0_ := Aside0.mk (Kd.R_after (ok := (fun _ => True)) (by (with_reducible repeat (first | apply Kd.R_alloc | apply Kd.R_drewN | apply Kd.R_drew)); exact Kd.R_mono HO_4.out (fun _ hk => ⟨trivial, hk⟩)) hg hat); have n1_ := Aside0.mk (hb); have n2_ := Aside0.mk (ho); clear HO_4; clear HB; clear HO_3; have HO_4 := n0_; have HB := n1_; have HO111 := n2_; clear n0_ n1_ n2_; clear ho hb hg hat; have p9 : 0 ≤ (x5_1 : Int) := of_decide_eq_true (by first | (with_reducible assumption) | assumption); have q9 : x5_1 < (a0.size : Int) := of_decide_eq_true (by first | (with_reducible assumption) | assumption); have hx9 := bt_at a0 x5_1; replace p9 := eq_true p9; replace q9 := eq_true q9))
            (try simp only [Act.put, List.setIfInBounds_toArray, List.set_cons_zero, List.set_cons_succ])
            go_cut [22] (fun v22 wc => ∃ (kq : Nat) (x22_9 : Bool), v22 = .bool x22_9 ∧ Aside0 (spec_l16Mates.j1 kq a0 y109 x4_1 x5_1 0 (bt a0 x5_1) x22_9 = some r) ∧ Aside0 (kq ≤ k1) ∧ Aside0 (Kd.R (Kd.int .i64) 3 wc w.heap.size (fun k_ => some k_ ≠ (u4 : Value).ownBlock) v110 y109) ∧ Aside0 (Kd.R (Kd.int .i64) 3 wc w.heap.size (fun k_ => some k_ ≠ (v110 : Value).ownBlock) u4 x4_1) ∧ Aside0 (Below w.heap.size w wc))
            case first =>
              have H := HC10.out
              clear HC10
              by_cases c12 : (bt a0 x5_1) = 40
              · rw [if_pos c12] at H
                have c12b0 : ((bt a0 x5_1) == 40) = true := beq_iff_eq.mpr c12
                have c12b1 : ((bt a0 x5_1) != 40) = false := bne_eq_false_iff_eq.mpr c12
                clear c12
                (first | rw [c12b0] | (simp only [i64_w, i32_w]; rw [c12b0]) | skip)
                have H' := Aside0.mk H
                clear H
                go_wp2
                go_meet
                case rel => exact ⟨_, (((bt a0 x5_1) == 40)), (by first | rfl | (simp; done) | (simp [*]; done)), H', ⟨by have := HK1.out; first | omega | exact Nat.le_refl _⟩, ⟨by (with_reducible repeat (first | apply Kd.R_alloc | apply Kd.R_drewN | apply Kd.R_drew)); exact HO111.out⟩, ⟨by (with_reducible repeat (first | apply Kd.R_alloc | apply Kd.R_drewN | apply Kd.R_drew)); exact Kd.R_mono HO_4.out (fun _ hk => hk.2)⟩, ⟨by repeat (first | (with_reducible first | exact HB.out | apply below_alloc | apply pw_below_drewN | apply below_drew1) | exact HB.out)⟩⟩
              · rw [if_neg c12] at H
                have c12b0 : ((bt a0 x5_1) == 40) = false := beq_eq_false_iff_ne.mpr c12
                have c12b1 : ((bt a0 x5_1) != 40) = true := bne_iff_ne.mpr c12
                (first | rw [c12b0] | (simp only [i64_w, i32_w]; rw [c12b0]) | skip)
                by_cases c13 : (bt a0 x5_1) = 91
                · rw [if_pos c13] at H
                  have c13b0 : ((bt a0 x5_1) == 91) = true := beq_iff_eq.mpr c13
                  have c13b1 : ((bt a0 x5_1) != 91) = false := bne_eq_false_iff_eq.mpr c13
                  clear c13
                  have H' := Aside0.mk H
                  clear H
                  go_wp2
                  go_meet
                  case rel => exact ⟨_, (((bt a0 x5_1) == 91)), (by first | rfl | (simp; done) | (simp [*]; done)), H', ⟨by have := HK1.out; first | omega | exact Nat.le_refl _⟩, ⟨by (with_reducible repeat (first | apply Kd.R_alloc | apply Kd.R_drewN | apply Kd.R_drew)); exact HO111.out⟩, ⟨by (with_reducible repeat (first | apply Kd.R_alloc | apply Kd.R_drewN | apply Kd.R_drew)); exact Kd.R_mono HO_4.out (fun _ hk => hk.2)⟩, ⟨by repeat (first | (with_reducible first | exact HB.out | apply below_alloc | apply pw_below_drewN | apply below_drew1) | exact HB.out)⟩⟩
                · rw [if_neg c13] at H
                  have c13b0 : ((bt a0 x5_1) == 91) = false := beq_eq_false_iff_ne.mpr c13
                  have c13b1 : ((bt a0 x5_1) != 91) = true := bne_iff_ne.mpr c13
                  have H' := Aside0.mk H
                  clear H
                  go_wp2
                  go_meet
                  case rel => exact ⟨_, (((bt a0 x5_1) == 123)), (by first | rfl | (simp; done) | (simp [*]; done)), H', ⟨by have := HK1.out; first | omega | exact Nat.le_refl _⟩, ⟨by (with_reducible repeat (first | apply Kd.R_alloc | apply Kd.R_drewN | apply Kd.R_drew)); exact HO111.out⟩, ⟨by (with_reducible repeat (first | apply Kd.R_alloc | apply Kd.R_drewN | apply Kd.R_drew)); exact Kd.R_mono HO_4.out (fun _ hk => hk.2)⟩, ⟨by repeat (first | (with_reducible first | exact HB.out | apply below_alloc | apply pw_below_drewN | apply below_drew1) | exact HB.out)⟩⟩
            case rest =>
              clear HC10
              try clear c1
              try clear p2
              try clear c4
              try clear c6
              try clear c6b0
              try clear c7
              try clear c8
              try clear c8b0
              try clear p9
              try clear q9
              try clear hx9
              try clear c12
              try clear c12b0
              try clear c12b1
              try clear c13
              try clear c13b0
              try clear c13b1
              try clear p2
              try clear p9
              try clear q9
              obtain ⟨kq, x22_9, rfl, HA, HJ9, HO_3, HO_4, HB⟩ := hcut
              cases kq with
              | zero => exact absurd HA.out (by simp [spec_l16Mates.j1])
              | succ kj9 =>
                have H := HA.out
                clear HA
                simp only [spec_l16Mates.j1] at H
                by_cases c14 : x22_9 = true
                · subst c14
                  have H1 : (if x4_1.length < 17592186044416 then ((some (x4_1 ++ [x5_1] : List Int)).bind fun y112 => (if 0 = 0 then (spec_l16Mates.l0 kj9 a0 y109 y112 (wrap64 (x5_1 + 1))) else (if (wrap64 ((y112.length : Int) - 1)) ≥ 0 then (if 0 ≤ (wrap64 ((y112.length : Int) - 1)) then (if (wrap64 ((y112.length : Int) - 1)) < (y112.length : Int) then (if 0 ≤ (rd y112 (wrap64 ((y112.length : Int) - 1))) then (if (rd y112 (wrap64 ((y112.length : Int) - 1))) < (a0.size : Int) then (if (bt a0 (rd y112 (wrap64 ((y112.length : Int) - 1)))) = 0 then (if 0 ≤ x5_1 then (if x5_1 < (y109.length : Int) then (if (rd y112 (wrap64 ((y112.length : Int) - 1))) < (y109.length : Int) then (if (wrap64 ((y112.length : Int) - 1)) ≤ (y112.length : Int) then (spec_l16Mates.l0 kj9 a0 ((y109.set (x5_1 : Int).toNat (rd y112 (wrap64 ((y112.length : Int) - 1)))).set ((rd y112 (wrap64 ((y112.length : Int) - 1))) : Int).toNat x5_1) (y112.take ((wrap64 ((y112.length : Int) - 1)) : Int).toNat) (wrap64 (x5_1 + 1))) else (none)) else (none)) else (none)) else (none)) else (spec_l16Mates.l0 kj9 a0 y109 y112 (wrap64 (x5_1 + 1)))) else (none)) else (none)) else (none)) else (none)) else (spec_l16Mates.l0 kj9 a0 y109 y112 (wrap64 (x5_1 + 1)))))) else (none)) = some r := by rw [if_pos rfl] at H; exact H
                  clear H
                  have H := H1
                  clear H1
                  by_cases c15 : x4_1.length < 17592186044416
                  · rw [if_pos c15] at H
                    have LMc15 := Aside0.mk c15
                    clear c15
                    obtain ⟨y112, hy112⟩ : ∃ y_ : List Int, y_ = (x4_1 ++ [x5_1]) := ⟨_, rfl⟩
                    replace H : (if 0 = 0 then (spec_l16Mates.l0 kj9 a0 y109 y112 (wrap64 (x5_1 + 1))) else (if (wrap64 ((y112.length : Int) - 1)) ≥ 0 then (if 0 ≤ (wrap64 ((y112.length : Int) - 1)) then (if (wrap64 ((y112.length : Int) - 1)) < (y112.length : Int) then (if 0 ≤ (rd y112 (wrap64 ((y112.length : Int) - 1))) then (if (rd y112 (wrap64 ((y112.length : Int) - 1))) < (a0.size : Int) then (if (bt a0 (rd y112 (wrap64 ((y112.length : Int) - 1)))) = 0 then (if 0 ≤ x5_1 then (if x5_1 < (y109.length : Int) then (if (rd y112 (wrap64 ((y112.length : Int) - 1))) < (y109.length : Int) then (if (wrap64 ((y112.length : Int) - 1)) ≤ (y112.length : Int) then (spec_l16Mates.l0 kj9 a0 ((y109.set (x5_1 : Int).toNat (rd y112 (wrap64 ((y112.length : Int) - 1)))).set ((rd y112 (wrap64 ((y112.length : Int) - 1))) : Int).toNat x5_1) (y112.take ((wrap64 ((y112.length : Int) - 1)) : Int).toNat) (wrap64 (x5_1 + 1))) else (none)) else (none)) else (none)) else (none)) else (spec_l16Mates.l0 kj9 a0 y109 y112 (wrap64 (x5_1 + 1)))) else (none)) else (none)) else (none)) else (none)) else (spec_l16Mates.l0 kj9 a0 y109 y112 (wrap64 (x5_1 + 1))))) = some r := by first | (rw [hy112]; with_reducible exact H) | (have H2_ := (Option.bind_some _ _).symm.trans H; rw [hy112]; with_reducible exact H2_) | (have H2_ := (Option.bind_some _ _).symm.trans H; with_reducible exact H2_) | with_reducible exact H | (rw [hy112]; exact H) | exact H
                    have Ny112 := Aside0.mk hy112
                    clear hy112
                    have H1 : (spec_l16Mates.l0 kj9 a0 y109 y112 (wrap64 (x5_1 + 1))) = some r := by first | exact H | simpa using H
                    clear H
                    have H := H1
                    clear H1
                    have H' := Aside0.mk H
                    clear H
                    go_wp2_with (first | ((with_reducible refine gate_builtin (b := .append) (xs := #[.tmp 26, .tmp 28]) rfl ?_); at_builtin; refine Kd.R_append (Kd.int .i64) (w0 := w) w.heap.size rfl (.tmp 26) (.tmp 28) 26 3 (.int .i64 0) 8 rfl Try.underlying26 info3 rfl (by decide) (by omega) u4 x4_1 x5_1 [.int .i64 x5_1] (fun k_ => some k_ ≠ (v110 : Value).ownBlock) (fun _ => False) rfl rfl ?aP (fun _ hk => hk.elim) ?aF ?aO ?aB ?aS ?aL ?_; (case aP => exact rfl); (case aB => exact (by repeat (first | (with_reducible first | exact HB.out | apply below_alloc | apply pw_below_drewN | apply below_drew1) | exact HB.out))); (case aF => exact (fun k_ hk => Kd.fresh' (Kd.R_lt (by (with_reducible repeat (first | apply Kd.R_alloc | apply Kd.R_drewN | apply Kd.R_drew)); exact HO_3.out)) k_ hk)); (case aO => exact (by (with_reducible repeat (first | apply Kd.R_alloc | apply Kd.R_drewN | apply Kd.R_drew)); exact HO_4.out)); (case aS => exact (below_size (by repeat (first | (with_reducible first | exact HB.out | apply below_alloc | apply pw_below_drewN | apply below_drew1) | exact HB.out)))); (case aL => have := LMc15.out; omega); intro v113 w16 ho hb hg hat; rw [← Ny112.out] at ho; have n0_ := Aside0.mk (Kd.R_after (ok := (fun _ => True)) (by (with_reducible repeat (first | apply Kd.R_alloc | apply Kd.R_drewN | apply Kd.R_drew)); exact Kd.R_mono HO_3.out (fun _ hk => ⟨trivial, hk⟩)) hg hat); have n1_ := Aside0.mk (hb); have n2_ := Aside0.mk (ho); clear HO_3; clear HB; clear HO_4; have HO_3 := n0_; have HB := n1_; have HO114 := n2_; clear n0_ n1_ n2_; clear ho hb hg hat; obtain ⟨Ao17, co17, eo17⟩ := Kd.R_slice HO114.out; subst eo17))
                    go_roundg kj9
                    case measure => have := HK1.out; have := HJ9.out; omega
                    case rel => exact ⟨(y109), (y112), (wrap64 (x5_1 + 1)), (by first | rfl | (simp; done) | (simp [*]; done)), H', ⟨by have := HK1.out; have := HJ9.out; omega⟩, ⟨by (with_reducible repeat (first | apply Kd.R_alloc | apply Kd.R_drewN | apply Kd.R_drew)); exact Kd.R_mono HO_3.out (fun _ hk => hk.2)⟩, ⟨by (with_reducible repeat (first | apply Kd.R_alloc | apply Kd.R_drewN | apply Kd.R_drew)); exact HO114.out⟩, ⟨by repeat (first | (with_reducible first | exact HB.out | apply below_alloc | apply pw_below_drewN | apply below_drew1) | exact HB.out)⟩⟩
                  · rw [if_neg c15] at H
                    exact absurd H (by simp)
                · replace c14 := Bool.eq_false_iff.mpr c14
                  subst c14
                  have H1 : (if (bt a0 x5_1) = 41 then (if (wrap64 ((x4_1.length : Int) - 1)) ≥ 0 then (if 0 ≤ (wrap64 ((x4_1.length : Int) - 1)) then (if (wrap64 ((x4_1.length : Int) - 1)) < (x4_1.length : Int) then (if 0 ≤ (rd x4_1 (wrap64 ((x4_1.length : Int) - 1))) then (if (rd x4_1 (wrap64 ((x4_1.length : Int) - 1))) < (a0.size : Int) then (if (bt a0 (rd x4_1 (wrap64 ((x4_1.length : Int) - 1)))) = 40 then (if 0 ≤ x5_1 then (if x5_1 < (y109.length : Int) then (if (rd x4_1 (wrap64 ((x4_1.length : Int) - 1))) < (y109.length : Int) then (if (wrap64 ((x4_1.length : Int) - 1)) ≤ (x4_1.length : Int) then (spec_l16Mates.l0 kj9 a0 ((y109.set (x5_1 : Int).toNat (rd x4_1 (wrap64 ((x4_1.length : Int) - 1)))).set ((rd x4_1 (wrap64 ((x4_1.length : Int) - 1))) : Int).toNat x5_1) (x4_1.take ((wrap64 ((x4_1.length : Int) - 1)) : Int).toNat) (wrap64 (x5_1 + 1))) else (none)) else (none)) else (none)) else (none)) else (spec_l16Mates.l0 kj9 a0 y109 x4_1 (wrap64 (x5_1 + 1)))) else (none)) else (none)) else (none)) else (none)) else (spec_l16Mates.l0 kj9 a0 y109 x4_1 (wrap64 (x5_1 + 1)))) else (if (bt a0 x5_1) = 93 then (if (wrap64 ((x4_1.length : Int) - 1)) ≥ 0 then (if 0 ≤ (wrap64 ((x4_1.length : Int) - 1)) then (if (wrap64 ((x4_1.length : Int) - 1)) < (x4_1.length : Int) then (if 0 ≤ (rd x4_1 (wrap64 ((x4_1.length : Int) - 1))) then (if (rd x4_1 (wrap64 ((x4_1.length : Int) - 1))) < (a0.size : Int) then (if (bt a0 (rd x4_1 (wrap64 ((x4_1.length : Int) - 1)))) = 91 then (if 0 ≤ x5_1 then (if x5_1 < (y109.length : Int) then (if (rd x4_1 (wrap64 ((x4_1.length : Int) - 1))) < (y109.length : Int) then (if (wrap64 ((x4_1.length : Int) - 1)) ≤ (x4_1.length : Int) then (spec_l16Mates.l0 kj9 a0 ((y109.set (x5_1 : Int).toNat (rd x4_1 (wrap64 ((x4_1.length : Int) - 1)))).set ((rd x4_1 (wrap64 ((x4_1.length : Int) - 1))) : Int).toNat x5_1) (x4_1.take ((wrap64 ((x4_1.length : Int) - 1)) : Int).toNat) (wrap64 (x5_1 + 1))) else (none)) else (none)) else (none)) else (none)) else (spec_l16Mates.l0 kj9 a0 y109 x4_1 (wrap64 (x5_1 + 1)))) else (none)) else (none)) else (none)) else (none)) else (spec_l16Mates.l0 kj9 a0 y109 x4_1 (wrap64 (x5_1 + 1)))) else (if (bt a0 x5_1) = 125 then (if (wrap64 ((x4_1.length : Int) - 1)) ≥ 0 then (if 0 ≤ (wrap64 ((x4_1.length : Int) - 1)) then (if (wrap64 ((x4_1.length : Int) - 1)) < (x4_1.length : Int) then (if 0 ≤ (rd x4_1 (wrap64 ((x4_1.length : Int) - 1))) then (if (rd x4_1 (wrap64 ((x4_1.length : Int) - 1))) < (a0.size : Int) then (if (bt a0 (rd x4_1 (wrap64 ((x4_1.length : Int) - 1)))) = 123 then (if 0 ≤ x5_1 then (if x5_1 < (y109.length : Int) then (if (rd x4_1 (wrap64 ((x4_1.length : Int) - 1))) < (y109.length : Int) then (if (wrap64 ((x4_1.length : Int) - 1)) ≤ (x4_1.length : Int) then (spec_l16Mates.l0 kj9 a0 ((y109.set (x5_1 : Int).toNat (rd x4_1 (wrap64 ((x4_1.length : Int) - 1)))).set ((rd x4_1 (wrap64 ((x4_1.length : Int) - 1))) : Int).toNat x5_1) (x4_1.take ((wrap64 ((x4_1.length : Int) - 1)) : Int).toNat) (wrap64 (x5_1 + 1))) else (none)) else (none)) else (none)) else (none)) else (spec_l16Mates.l0 kj9 a0 y109 x4_1 (wrap64 (x5_1 + 1)))) else (none)) else (none)) else (none)) else (none)) else (spec_l16Mates.l0 kj9 a0 y109 x4_1 (wrap64 (x5_1 + 1)))) else (if 0 = 0 then (spec_l16Mates.l0 kj9 a0 y109 x4_1 (wrap64 (x5_1 + 1))) else (if (wrap64 ((x4_1.length : Int) - 1)) ≥ 0 then (if 0 ≤ (wrap64 ((x4_1.length : Int) - 1)) then (if (wrap64 ((x4_1.length : Int) - 1)) < (x4_1.length : Int) then (if 0 ≤ (rd x4_1 (wrap64 ((x4_1.length : Int) - 1))) then (if (rd x4_1 (wrap64 ((x4_1.length : Int) - 1))) < (a0.size : Int) then (if (bt a0 (rd x4_1 (wrap64 ((x4_1.length : Int) - 1)))) = 0 then (if 0 ≤ x5_1 then (if x5_1 < (y109.length : Int) then (if (rd x4_1 (wrap64 ((x4_1.length : Int) - 1))) < (y109.length : Int) then (if (wrap64 ((x4_1.length : Int) - 1)) ≤ (x4_1.length : Int) then (spec_l16Mates.l0 kj9 a0 ((y109.set (x5_1 : Int).toNat (rd x4_1 (wrap64 ((x4_1.length : Int) - 1)))).set ((rd x4_1 (wrap64 ((x4_1.length : Int) - 1))) : Int).toNat x5_1) (x4_1.take ((wrap64 ((x4_1.length : Int) - 1)) : Int).toNat) (wrap64 (x5_1 + 1))) else (none)) else (none)) else (none)) else (none)) else (spec_l16Mates.l0 kj9 a0 y109 x4_1 (wrap64 (x5_1 + 1)))) else (none)) else (none)) else (none)) else (none)) else (spec_l16Mates.l0 kj9 a0 y109 x4_1 (wrap64 (x5_1 + 1)))))))) = some r := by rw [if_neg (show ¬ (false = true) by decide)] at H; exact H
                  clear H
                  have H := H1
                  clear H1
                  by_cases c18 : (bt a0 x5_1) = 41
                  · rw [if_pos c18] at H
                    have c18b0 : ((bt a0 x5_1) == 41) = true := beq_iff_eq.mpr c18
                    have c18b1 : ((bt a0 x5_1) != 41) = false := bne_eq_false_iff_eq.mpr c18
                    clear c18
                    by_cases c19 : (wrap64 ((x4_1.length : Int) - 1)) ≥ 0
                    · rw [if_pos c19] at H
                      have c19b0 : decide (0 ≤ (wrap64 ((x4_1.length : Int) - 1))) = true := decide_eq_true c19
                      clear c19
                      obtain ⟨ji20, hji20⟩ : ∃ j_ : Int, (wrap64 ((x4_1.length : Int) - 1)) = j_ := ⟨_, rfl⟩
                      replace H : (if 0 ≤ (ji20) then (if (ji20) < (x4_1.length : Int) then (if 0 ≤ (rd x4_1 (ji20)) then (if (rd x4_1 (ji20)) < (a0.size : Int) then (if (bt a0 (rd x4_1 (ji20))) = 40 then (if 0 ≤ x5_1 then (if x5_1 < (y109.length : Int) then (if (rd x4_1 (ji20)) < (y109.length : Int) then (if (ji20) ≤ (x4_1.length : Int) then (spec_l16Mates.l0 kj9 a0 ((y109.set (x5_1 : Int).toNat (rd x4_1 (ji20))).set ((rd x4_1 (ji20)) : Int).toNat x5_1) (x4_1.take ((ji20) : Int).toNat) (wrap64 (x5_1 + 1))) else (none)) else (none)) else (none)) else (none)) else (spec_l16Mates.l0 kj9 a0 y109 x4_1 (wrap64 (x5_1 + 1)))) else (none)) else (none)) else (none)) else (none)) = some r := by first | (rw [hji20] at H; exact H) | (simp only [hji20] at H ⊢; exact H)
                      (try rw [hji20] at c19b0)
                      have hji20w : (IntKind.i64.wrap ((x4_1.length : Int) - 1)) = ji20 := (i64_w _).trans hji20
                      by_cases c21 : 0 ≤ (ji20)
                      · rw [if_pos c21] at H
                        have c21b0 : decide (0 ≤ (ji20)) = true := decide_eq_true c21
                        clear c21
                        by_cases c22 : (ji20) < (x4_1.length : Int)
                        · rw [if_pos c22] at H
                          have c22b0 : decide ((ji20) < (x4_1.length : Int)) = true := decide_eq_true c22
                          clear c22
                          by_cases c23 : 0 ≤ (rd x4_1 (ji20))
                          · rw [if_pos c23] at H
                            have c23b0 : decide (0 ≤ (rd x4_1 (ji20))) = true := decide_eq_true c23
                            clear c23
                            by_cases c24 : (rd x4_1 (ji20)) < (a0.size : Int)
                            · rw [if_pos c24] at H
                              have c24b0 : decide ((rd x4_1 (ji20)) < (a0.size : Int)) = true := decide_eq_true c24
                              clear c24
                              by_cases c26 : (bt a0 (rd x4_1 (ji20))) = 40
                              · rw [if_pos c26] at H
                                have c26b0 : ((bt a0 (rd x4_1 (ji20))) == 40) = true := beq_iff_eq.mpr c26
                                have c26b1 : ((bt a0 (rd x4_1 (ji20))) != 40) = false := bne_eq_false_iff_eq.mpr c26
                                clear c26
                                by_cases c27 : 0 ≤ x5_1
                                · rw [if_pos c27] at H
                                  have c27b0 : decide (0 ≤ x5_1) = true := decide_eq_true c27
                                  clear c27
                                  by_cases c28 : x5_1 < (y109.length : Int)
                                  · rw [if_pos c28] at H
                                    have c28b0 : decide (x5_1 < (y109.length : Int)) = true := decide_eq_true c28
                                    clear c28
                                    obtain ⟨y125, hy125⟩ : ∃ y_ : List Int, y_ = (y109.set (x5_1 : Int).toNat (rd x4_1 (ji20))) := ⟨_, rfl⟩
                                    replace H : (if (rd x4_1 (ji20)) < (y109.length : Int) then (if (ji20) ≤ (x4_1.length : Int) then (spec_l16Mates.l0 kj9 a0 (y125.set ((rd x4_1 (ji20)) : Int).toNat x5_1) (x4_1.take ((ji20) : Int).toNat) (wrap64 (x5_1 + 1))) else (none)) else (none)) = some r := by first | (rw [hy125]; with_reducible exact H) | (have H2_ := (Option.bind_some _ _).symm.trans H; rw [hy125]; with_reducible exact H2_) | (have H2_ := (Option.bind_some _ _).symm.trans H; with_reducible exact H2_) | with_reducible exact H | (rw [hy125]; exact H) | exact H
                                    have Ny125 := Aside0.mk hy125
                                    clear hy125
                                    by_cases c30 : (rd x4_1 (ji20)) < (y109.length : Int)
                                    · rw [if_pos c30] at H
                                      have c30b0 : decide ((rd x4_1 (ji20)) < (y109.length : Int)) = true := decide_eq_true c30
                                      clear c30
                                      obtain ⟨y127, hy127⟩ : ∃ y_ : List Int, y_ = (y125.set ((rd x4_1 (ji20)) : Int).toNat x5_1) := ⟨_, rfl⟩
                                      replace H : (if (ji20) ≤ (x4_1.length : Int) then (spec_l16Mates.l0 kj9 a0 y127 (x4_1.take ((ji20) : Int).toNat) (wrap64 (x5_1 + 1))) else (none)) = some r := by first | (rw [hy127]; with_reducible exact H) | (have H2_ := (Option.bind_some _ _).symm.trans H; rw [hy127]; with_reducible exact H2_) | (have H2_ := (Option.bind_some _ _).symm.trans H; with_reducible exact H2_) | with_reducible exact H | (rw [hy127]; exact H) | exact H
                                      have Ny127 := Aside0.mk hy127
                                      clear hy127
                                      by_cases c32 : (ji20) ≤ (x4_1.length : Int)
                                      · rw [if_pos c32] at H
                                        have c32b0 := eq_true c32
                                        have c32b1 : decide ((ji20) ≤ (x4_1.length : Int)) = true := decide_eq_true c32
                                        clear c32
                                        obtain ⟨y128, hy128⟩ : ∃ y_ : List Int, y_ = (x4_1.take ((ji20) : Int).toNat) := ⟨_, rfl⟩
                                        replace H : (spec_l16Mates.l0 kj9 a0 y127 y128 (wrap64 (x5_1 + 1))) = some r := by first | (rw [hy128]; with_reducible exact H) | (have H2_ := (Option.bind_some _ _).symm.trans H; rw [hy128]; with_reducible exact H2_) | (have H2_ := (Option.bind_some _ _).symm.trans H; with_reducible exact H2_) | with_reducible exact H | (rw [hy128]; exact H) | exact H
                                        have Ny128 := Aside0.mk hy128
                                        clear hy128
                                        have H' := Aside0.mk H
                                        clear H
                                        obtain ⟨Ao33, co33, eo33⟩ := Kd.R_slice HO_4.out
                                        subst eo33
                                        have p123 : 0 ≤ ((ji20) : Int) := of_decide_eq_true (by first | (with_reducible assumption) | assumption)
                                        have q123 : (ji20) < (x4_1.length : Int) := of_decide_eq_true (by first | (with_reducible assumption) | assumption)
                                        obtain ⟨ad123, e123, hx123_0⟩ := Kd.at_int (Kd.R_reads' HO_4.out).2.2 (ji20) p123 q123
                                        cases e123
                                        replace p123 := eq_true p123
                                        replace q123 := eq_true q123
                                        have p25 : 0 ≤ ((rd x4_1 (ji20)) : Int) := of_decide_eq_true (by first | (with_reducible assumption) | assumption)
                                        have q25 : (rd x4_1 (ji20)) < (a0.size : Int) := of_decide_eq_true (by first | (with_reducible assumption) | assumption)
                                        have hx25 := bt_at a0 (rd x4_1 (ji20))
                                        replace p25 := eq_true p25
                                        replace q25 := eq_true q25
                                        have p124 : 0 ≤ ((ji20) : Int) := of_decide_eq_true (by first | (with_reducible assumption) | assumption)
                                        have q124 : (ji20) < (x4_1.length : Int) := of_decide_eq_true (by first | (with_reducible assumption) | assumption)
                                        obtain ⟨ad124, e124, hx124_0⟩ := Kd.at_int (Kd.R_reads' HO_4.out).2.2 (ji20) p124 q124
                                        obtain rfl : ad123 = ad124 := (by injection e124)
                                        replace p124 := eq_true p124
                                        replace q124 := eq_true q124
                                        have p29 : 0 ≤ (x5_1 : Int) := of_decide_eq_true (by first | (with_reducible assumption) | assumption)
                                        have q29 : (x5_1 : Int) < ((y109.length : Int) : Int) := of_decide_eq_true (by first | (with_reducible assumption) | assumption)
                                        obtain ⟨go29, co29, eo29, gb29, gl29, cl29, HG29⟩ := Kd.R_form HO_3.out (by omega)
                                        (first | cases eo29 | (injection eo29 with ea_ en_ ec_; (first | subst ea_ | (injection ea_ with ea_; subst ea_)); subst ec_; clear en_))
                                        have GB29 := Aside0.mk gb29
                                        have GG29 := Aside0.mk HG29
                                        clear gb29 gl29 HG29
                                        obtain ⟨hx29_0, hf29_0⟩ := Kd.R_celln 0 HO_3.out (x5_1 : Int) p29 q29
                                        replace p29 := eq_true p29
                                        replace q29 := eq_true q29
                                        have HP34 := Kd.R_putg HO_3.out (x5_1 : Int) (rd x4_1 (ji20))
                                        go_wp2_with (first | ((with_reducible refine gate_store (t := 3) (p := 61) rfl ?_); refine store_event (t := 3) (p := 61) (v := ?vo_w35) (w1 := (wc.setCell ⟨go29, (x5_1 : Int).toNat, none⟩ (.int .i64 (rd x4_1 (ji20))))) ?hg ?ho ?hn ?hr ?_; (case ho => rfl); (case hg => rfl); (case hn => rfl); (case hr => first | (go_simp; done) | (go_simp; rfl)); intro w35 hw; have hg : wc.grownBy w35 (some go29) := (by rw [hw]; exact HP34.2); have hp_ : Kd.R (Kd.int .i64) 3 w35 w.heap.size (fun k_ => some k_ ≠ (.slice (some ad123) x4_1.length co33 : Value).ownBlock) (.slice (some ⟨go29, 0, none⟩) y109.length co29) y125 := (by rw [hw, Ny125.out]; exact HP34.1); clear HP34; have n0_ := Aside0.mk (hp_); have n1_ := Aside0.mk (Kd.R_after (v := (.slice (some ⟨go29, 0, none⟩) y109.length co29)) (v1 := (.slice (some ⟨go29, 0, none⟩) y109.length co29)) (ok := (fun _ => True)) (by (with_reducible repeat (first | apply Kd.R_alloc | apply Kd.R_drewN | apply Kd.R_drew)); exact Kd.R_mono HO_4.out (fun _ hk => ⟨trivial, hk⟩)) hg (.inl rfl)); have n2_ := Aside0.mk ((by rw [hw]; exact below_set (HB.out) GB29.out : Below w.heap.size w w35)); clear HO_3; clear HO_4; clear HB; have HO_3 := n0_; have HO_4 := n1_; have HB := n2_; clear n0_ n1_ n2_; clear hg hw hp_; have p126 : 0 ≤ ((ji20) : Int) := of_decide_eq_true (by first | (with_reducible assumption) | assumption); have q126 : (ji20) < (x4_1.length : Int) := of_decide_eq_true (by first | (with_reducible assumption) | assumption); obtain ⟨ad126, e126, hx126_0⟩ := Kd.at_int (Kd.R_reads' HO_4.out).2.2 (ji20) p126 q126; obtain rfl : ad123 = ad126 := (by injection e126); replace p126 := eq_true p126; replace q126 := eq_true q126; have p31 : 0 ≤ ((rd x4_1 (ji20)) : Int) := of_decide_eq_true (by first | (with_reducible assumption) | assumption); have q31 : ((rd x4_1 (ji20)) : Int) < ((y109.length : Int) : Int) := of_decide_eq_true (by first | (with_reducible assumption) | assumption); obtain ⟨hx31_0, hf31_0⟩ := Kd.R_celln 0 HO_3.out ((rd x4_1 (ji20)) : Int) p31 q31; replace p31 := eq_true p31; replace q31 := eq_true q31; obtain ⟨hy36_, hz36_⟩ := Kd.R_celln 0 HO_3.out ((rd x4_1 (ji20)) : Int) (of_decide_eq_true (by first | (with_reducible assumption) | assumption)) (of_decide_eq_true (by first | (with_reducible assumption) | assumption)); have HP36 := Kd.R_putg HO_3.out ((rd x4_1 (ji20)) : Int) x5_1) | ((with_reducible refine gate_store (t := 3) (p := 68) rfl ?_); refine store_event (t := 3) (p := 68) (v := ?vo_w37) (w1 := (w35.setCell ⟨go29, ((rd x4_1 (ji20)) : Int).toNat, none⟩ (.int .i64 x5_1))) ?hg ?ho ?hn ?hr ?_; (case ho => rfl); (case hg => rfl); (case hn => rfl); (case hr => first | (go_simp; done) | (go_simp; rfl)); intro w37 hw; have hg : w35.grownBy w37 (some go29) := (by rw [hw]; exact HP36.2); have hp_ : Kd.R (Kd.int .i64) 3 w37 w.heap.size (fun k_ => some k_ ≠ (.slice (some ad123) x4_1.length co33 : Value).ownBlock) (.slice (some ⟨go29, 0, none⟩) y109.length co29) y127 := (by rw [hw, Ny127.out]; exact HP36.1); clear HP36; have n0_ := Aside0.mk (hp_); have n1_ := Aside0.mk (Kd.R_after (v := (.slice (some ⟨go29, 0, none⟩) y109.length co29)) (v1 := (.slice (some ⟨go29, 0, none⟩) y109.length co29)) (ok := (fun _ => True)) (by (with_reducible repeat (first | apply Kd.R_alloc | apply Kd.R_drewN | apply Kd.R_drew)); exact HO_4.out) hg (.inl rfl)); have n2_ := Aside0.mk ((by rw [hw]; exact below_set (HB.out) GB29.out : Below w.heap.size w w37)); clear HO_3; clear HO_4; clear HB; have HO_3 := n0_; have HO_4 := n1_; have HB := n2_; clear n0_ n1_ n2_; clear hg hw hp_; have q38 : ((ji20) : Int) ≤ ((x4_1.length : Int) : Int) := of_decide_eq_true (by first | (with_reducible assumption) | assumption); obtain ⟨i038, hi038, _, hsz38, _⟩ := info_parts info3; have hcut38 := cut_to (P := Try.prog) 26 3 .i64 Try.underlying26 hi038 (some ad123) x4_1.length co33 (ji20) (of_decide_eq_true (by first | (with_reducible assumption) | assumption)) q38 (Kd.R_reads' HO_4.out).2.1; have hr38 := Kd.R_take (m := ((ji20) : Int).toNat) HO_4.out (by omega); have hy38 : y128.length = ((ji20) : Int).toNat := (by rw [Ny128.out, List.length_take]; omega); rw [← Ny128.out] at hr38; rw [← hy38] at hr38 hcut38; clear hy38 hi038 hsz38 HO_4; have HO130 := Aside0.mk hr38; clear hr38; replace q38 := eq_true q38))
                                        go_roundg kj9
                                        case measure => have := HK1.out; have := HJ9.out; omega
                                        case rel => exact ⟨(y127), (y128), (wrap64 (x5_1 + 1)), (by first | rfl | (simp; done) | (simp [*]; done)), H', ⟨by have := HK1.out; have := HJ9.out; omega⟩, ⟨by (with_reducible repeat (first | apply Kd.R_alloc | apply Kd.R_drewN | apply Kd.R_drew)); exact HO_3.out⟩, ⟨by (with_reducible repeat (first | apply Kd.R_alloc | apply Kd.R_drewN | apply Kd.R_drew)); exact Kd.R_mono HO130.out (fun _ hk => hk.2)⟩, ⟨by repeat (first | (with_reducible first | exact HB.out | apply below_alloc | apply pw_below_drewN | apply below_drew1) | exact HB.out)⟩⟩
                                      · rw [if_neg c32] at H
                                        exact absurd H (by simp)
                                    · rw [if_neg c30] at H
                                      exact absurd H (by simp)
                                  · rw [if_neg c28] at H
                                    exact absurd H (by simp)
                                · rw [if_neg c27] at H
                                  exact absurd H (by simp)
                              · rw [if_neg c26] at H
                                have c26b0 : ((bt a0 (rd x4_1 (ji20))) == 40) = false := beq_eq_false_iff_ne.mpr c26
                                have c26b1 : ((bt a0 (rd x4_1 (ji20))) != 40) = true := bne_iff_ne.mpr c26
                                have H' := Aside0.mk H
                                clear H
                                obtain ⟨Ao39, co39, eo39⟩ := Kd.R_slice HO_4.out
                                subst eo39
                                have p123 : 0 ≤ ((ji20) : Int) := of_decide_eq_true (by first | (with_reducible assumption) | assumption)
                                have q123 : (ji20) < (x4_1.length : Int) := of_decide_eq_true (by first | (with_reducible assumption) | assumption)
                                obtain ⟨ad123, e123, hx123_0⟩ := Kd.at_int (Kd.R_reads' HO_4.out).2.2 (ji20) p123 q123
                                cases e123
                                replace p123 := eq_true p123
                                replace q123 := eq_true q123
                                have p25 : 0 ≤ ((rd x4_1 (ji20)) : Int) := of_decide_eq_true (by first | (with_reducible assumption) | assumption)
                                have q25 : (rd x4_1 (ji20)) < (a0.size : Int) := of_decide_eq_true (by first | (with_reducible assumption) | assumption)
                                have hx25 := bt_at a0 (rd x4_1 (ji20))
                                replace p25 := eq_true p25
                                replace q25 := eq_true q25
                                go_wp2
                                go_roundg kj9
                                case measure => have := HK1.out; have := HJ9.out; omega
                                case rel => exact ⟨(y109), (x4_1), (wrap64 (x5_1 + 1)), (by first | rfl | (simp; done) | (simp [*]; done)), H', ⟨by have := HK1.out; have := HJ9.out; omega⟩, ⟨by (with_reducible repeat (first | apply Kd.R_alloc | apply Kd.R_drewN | apply Kd.R_drew)); exact HO_3.out⟩, ⟨by (with_reducible repeat (first | apply Kd.R_alloc | apply Kd.R_drewN | apply Kd.R_drew)); exact HO_4.out⟩, ⟨by repeat (first | (with_reducible first | exact HB.out | apply below_alloc | apply pw_below_drewN | apply below_drew1) | exact HB.out)⟩⟩
                            · rw [if_neg c24] at H
                              exact absurd H (by simp)
                          · rw [if_neg c23] at H
                            exact absurd H (by simp)
                        · rw [if_neg c22] at H
                          exact absurd H (by simp)
                      · rw [if_neg c21] at H
                        exact absurd H (by simp)
                    · rw [if_neg c19] at H
                      have c19b0 : decide (0 ≤ (wrap64 ((x4_1.length : Int) - 1))) = false := decide_eq_false c19
                      clear c19
                      have H' := Aside0.mk H
                      clear H
                      obtain ⟨Ao40, co40, eo40⟩ := Kd.R_slice HO_4.out
                      subst eo40
                      go_wp2
                      go_roundg kj9
                      case measure => have := HK1.out; have := HJ9.out; omega
                      case rel => exact ⟨(y109), (x4_1), (wrap64 (x5_1 + 1)), (by first | rfl | (simp; done) | (simp [*]; done)), H', ⟨by have := HK1.out; have := HJ9.out; omega⟩, ⟨by (with_reducible repeat (first | apply Kd.R_alloc | apply Kd.R_drewN | apply Kd.R_drew)); exact HO_3.out⟩, ⟨by (with_reducible repeat (first | apply Kd.R_alloc | apply Kd.R_drewN | apply Kd.R_drew)); exact HO_4.out⟩, ⟨by repeat (first | (with_reducible first | exact HB.out | apply below_alloc | apply pw_below_drewN | apply below_drew1) | exact HB.out)⟩⟩
                  · rw [if_neg c18] at H
                    have c18b0 : ((bt a0 x5_1) == 41) = false := beq_eq_false_iff_ne.mpr c18
                    have c18b1 : ((bt a0 x5_1) != 41) = true := bne_iff_ne.mpr c18
                    by_cases c41 : (bt a0 x5_1) = 93
                    · rw [if_pos c41] at H
                      have c41b0 : ((bt a0 x5_1) == 93) = true := beq_iff_eq.mpr c41
                      have c41b1 : ((bt a0 x5_1) != 93) = false := bne_eq_false_iff_eq.mpr c41
                      clear c41
                      by_cases c42 : (wrap64 ((x4_1.length : Int) - 1)) ≥ 0
                      · rw [if_pos c42] at H
                        have c42b0 : decide (0 ≤ (wrap64 ((x4_1.length : Int) - 1))) = true := decide_eq_true c42
                        clear c42
                        obtain ⟨ji43, hji43⟩ : ∃ j_ : Int, (wrap64 ((x4_1.length : Int) - 1)) = j_ := ⟨_, rfl⟩
                        replace H : (if 0 ≤ (ji43) then (if (ji43) < (x4_1.length : Int) then (if 0 ≤ (rd x4_1 (ji43)) then (if (rd x4_1 (ji43)) < (a0.size : Int) then (if (bt a0 (rd x4_1 (ji43))) = 91 then (if 0 ≤ x5_1 then (if x5_1 < (y109.length : Int) then (if (rd x4_1 (ji43)) < (y109.length : Int) then (if (ji43) ≤ (x4_1.length : Int) then (spec_l16Mates.l0 kj9 a0 ((y109.set (x5_1 : Int).toNat (rd x4_1 (ji43))).set ((rd x4_1 (ji43)) : Int).toNat x5_1) (x4_1.take ((ji43) : Int).toNat) (wrap64 (x5_1 + 1))) else (none)) else (none)) else (none)) else (none)) else (spec_l16Mates.l0 kj9 a0 y109 x4_1 (wrap64 (x5_1 + 1)))) else (none)) else (none)) else (none)) else (none)) = some r := by first | (rw [hji43] at H; exact H) | (simp only [hji43] at H ⊢; exact H)
                        (try rw [hji43] at c42b0)
                        have hji43w : (IntKind.i64.wrap ((x4_1.length : Int) - 1)) = ji43 := (i64_w _).trans hji43
                        by_cases c44 : 0 ≤ (ji43)
                        · rw [if_pos c44] at H
                          have c44b0 : decide (0 ≤ (ji43)) = true := decide_eq_true c44
                          clear c44
                          by_cases c45 : (ji43) < (x4_1.length : Int)
                          · rw [if_pos c45] at H
                            have c45b0 : decide ((ji43) < (x4_1.length : Int)) = true := decide_eq_true c45
                            clear c45
                            by_cases c46 : 0 ≤ (rd x4_1 (ji43))
                            · rw [if_pos c46] at H
                              have c46b0 : decide (0 ≤ (rd x4_1 (ji43))) = true := decide_eq_true c46
                              clear c46
                              by_cases c47 : (rd x4_1 (ji43)) < (a0.size : Int)
                              · rw [if_pos c47] at H
                                have c47b0 : decide ((rd x4_1 (ji43)) < (a0.size : Int)) = true := decide_eq_true c47
                                clear c47
                                by_cases c49 : (bt a0 (rd x4_1 (ji43))) = 91
                                · rw [if_pos c49] at H
                                  have c49b0 : ((bt a0 (rd x4_1 (ji43))) == 91) = true := beq_iff_eq.mpr c49
                                  have c49b1 : ((bt a0 (rd x4_1 (ji43))) != 91) = false := bne_eq_false_iff_eq.mpr c49
                                  clear c49
                                  by_cases c50 : 0 ≤ x5_1
                                  · rw [if_pos c50] at H
                                    have c50b0 : decide (0 ≤ x5_1) = true := decide_eq_true c50
                                    clear c50
                                    by_cases c51 : x5_1 < (y109.length : Int)
                                    · rw [if_pos c51] at H
                                      have c51b0 : decide (x5_1 < (y109.length : Int)) = true := decide_eq_true c51
                                      clear c51
                                      obtain ⟨y133, hy133⟩ : ∃ y_ : List Int, y_ = (y109.set (x5_1 : Int).toNat (rd x4_1 (ji43))) := ⟨_, rfl⟩
                                      replace H : (if (rd x4_1 (ji43)) < (y109.length : Int) then (if (ji43) ≤ (x4_1.length : Int) then (spec_l16Mates.l0 kj9 a0 (y133.set ((rd x4_1 (ji43)) : Int).toNat x5_1) (x4_1.take ((ji43) : Int).toNat) (wrap64 (x5_1 + 1))) else (none)) else (none)) = some r := by first | (rw [hy133]; with_reducible exact H) | (have H2_ := (Option.bind_some _ _).symm.trans H; rw [hy133]; with_reducible exact H2_) | (have H2_ := (Option.bind_some _ _).symm.trans H; with_reducible exact H2_) | with_reducible exact H | (rw [hy133]; exact H) | exact H
                                      have Ny133 := Aside0.mk hy133
                                      clear hy133
                                      by_cases c53 : (rd x4_1 (ji43)) < (y109.length : Int)
                                      · rw [if_pos c53] at H
                                        have c53b0 : decide ((rd x4_1 (ji43)) < (y109.length : Int)) = true := decide_eq_true c53
                                        clear c53
                                        obtain ⟨y135, hy135⟩ : ∃ y_ : List Int, y_ = (y133.set ((rd x4_1 (ji43)) : Int).toNat x5_1) := ⟨_, rfl⟩
                                        replace H : (if (ji43) ≤ (x4_1.length : Int) then (spec_l16Mates.l0 kj9 a0 y135 (x4_1.take ((ji43) : Int).toNat) (wrap64 (x5_1 + 1))) else (none)) = some r := by first | (rw [hy135]; with_reducible exact H) | (have H2_ := (Option.bind_some _ _).symm.trans H; rw [hy135]; with_reducible exact H2_) | (have H2_ := (Option.bind_some _ _).symm.trans H; with_reducible exact H2_) | with_reducible exact H | (rw [hy135]; exact H) | exact H
                                        have Ny135 := Aside0.mk hy135
                                        clear hy135
                                        by_cases c55 : (ji43) ≤ (x4_1.length : Int)
                                        · rw [if_pos c55] at H
                                          have c55b0 := eq_true c55
                                          have c55b1 : decide ((ji43) ≤ (x4_1.length : Int)) = true := decide_eq_true c55
                                          clear c55
                                          obtain ⟨y136, hy136⟩ : ∃ y_ : List Int, y_ = (x4_1.take ((ji43) : Int).toNat) := ⟨_, rfl⟩
                                          replace H : (spec_l16Mates.l0 kj9 a0 y135 y136 (wrap64 (x5_1 + 1))) = some r := by first | (rw [hy136]; with_reducible exact H) | (have H2_ := (Option.bind_some _ _).symm.trans H; rw [hy136]; with_reducible exact H2_) | (have H2_ := (Option.bind_some _ _).symm.trans H; with_reducible exact H2_) | with_reducible exact H | (rw [hy136]; exact H) | exact H
                                          have Ny136 := Aside0.mk hy136
                                          clear hy136
                                          have H' := Aside0.mk H
                                          clear H
                                          obtain ⟨Ao56, co56, eo56⟩ := Kd.R_slice HO_4.out
                                          subst eo56
                                          have p131 : 0 ≤ ((ji43) : Int) := of_decide_eq_true (by first | (with_reducible assumption) | assumption)
                                          have q131 : (ji43) < (x4_1.length : Int) := of_decide_eq_true (by first | (with_reducible assumption) | assumption)
                                          obtain ⟨ad131, e131, hx131_0⟩ := Kd.at_int (Kd.R_reads' HO_4.out).2.2 (ji43) p131 q131
                                          cases e131
                                          replace p131 := eq_true p131
                                          replace q131 := eq_true q131
                                          have p48 : 0 ≤ ((rd x4_1 (ji43)) : Int) := of_decide_eq_true (by first | (with_reducible assumption) | assumption)
                                          have q48 : (rd x4_1 (ji43)) < (a0.size : Int) := of_decide_eq_true (by first | (with_reducible assumption) | assumption)
                                          have hx48 := bt_at a0 (rd x4_1 (ji43))
                                          replace p48 := eq_true p48
                                          replace q48 := eq_true q48
                                          have p132 : 0 ≤ ((ji43) : Int) := of_decide_eq_true (by first | (with_reducible assumption) | assumption)
                                          have q132 : (ji43) < (x4_1.length : Int) := of_decide_eq_true (by first | (with_reducible assumption) | assumption)
                                          obtain ⟨ad132, e132, hx132_0⟩ := Kd.at_int (Kd.R_reads' HO_4.out).2.2 (ji43) p132 q132
                                          obtain rfl : ad131 = ad132 := (by injection e132)
                                          replace p132 := eq_true p132
                                          replace q132 := eq_true q132
                                          have p52 : 0 ≤ (x5_1 : Int) := of_decide_eq_true (by first | (with_reducible assumption) | assumption)
                                          have q52 : (x5_1 : Int) < ((y109.length : Int) : Int) := of_decide_eq_true (by first | (with_reducible assumption) | assumption)
                                          obtain ⟨go52, co52, eo52, gb52, gl52, cl52, HG52⟩ := Kd.R_form HO_3.out (by omega)
                                          (first | cases eo52 | (injection eo52 with ea_ en_ ec_; (first | subst ea_ | (injection ea_ with ea_; subst ea_)); subst ec_; clear en_))
                                          have GB52 := Aside0.mk gb52
                                          have GG52 := Aside0.mk HG52
                                          clear gb52 gl52 HG52
                                          obtain ⟨hx52_0, hf52_0⟩ := Kd.R_celln 0 HO_3.out (x5_1 : Int) p52 q52
                                          replace p52 := eq_true p52
                                          replace q52 := eq_true q52
                                          have HP57 := Kd.R_putg HO_3.out (x5_1 : Int) (rd x4_1 (ji43))
                                          go_wp2_with (first | ((with_reducible refine gate_store (t := 3) (p := 61) rfl ?_); refine store_event (t := 3) (p := 61) (v := ?vo_w58) (w1 := (wc.setCell ⟨go52, (x5_1 : Int).toNat, none⟩ (.int .i64 (rd x4_1 (ji43))))) ?hg ?ho ?hn ?hr ?_; (case ho => rfl); (case hg => rfl); (case hn => rfl); (case hr => first | (go_simp; done) | (go_simp; rfl)); intro w58 hw; have hg : wc.grownBy w58 (some go52) := (by rw [hw]; exact HP57.2); have hp_ : Kd.R (Kd.int .i64) 3 w58 w.heap.size (fun k_ => some k_ ≠ (.slice (some ad131) x4_1.length co56 : Value).ownBlock) (.slice (some ⟨go52, 0, none⟩) y109.length co52) y133 := (by rw [hw, Ny133.out]; exact HP57.1); clear HP57; have n0_ := Aside0.mk (hp_); have n1_ := Aside0.mk (Kd.R_after (v := (.slice (some ⟨go52, 0, none⟩) y109.length co52)) (v1 := (.slice (some ⟨go52, 0, none⟩) y109.length co52)) (ok := (fun _ => True)) (by (with_reducible repeat (first | apply Kd.R_alloc | apply Kd.R_drewN | apply Kd.R_drew)); exact Kd.R_mono HO_4.out (fun _ hk => ⟨trivial, hk⟩)) hg (.inl rfl)); have n2_ := Aside0.mk ((by rw [hw]; exact below_set (HB.out) GB52.out : Below w.heap.size w w58)); clear HO_3; clear HO_4; clear HB; have HO_3 := n0_; have HO_4 := n1_; have HB := n2_; clear n0_ n1_ n2_; clear hg hw hp_; have p134 : 0 ≤ ((ji43) : Int) := of_decide_eq_true (by first | (with_reducible assumption) | assumption); have q134 : (ji43) < (x4_1.length : Int) := of_decide_eq_true (by first | (with_reducible assumption) | assumption); obtain ⟨ad134, e134, hx134_0⟩ := Kd.at_int (Kd.R_reads' HO_4.out).2.2 (ji43) p134 q134; obtain rfl : ad131 = ad134 := (by injection e134); replace p134 := eq_true p134; replace q134 := eq_true q134; have p54 : 0 ≤ ((rd x4_1 (ji43)) : Int) := of_decide_eq_true (by first | (with_reducible assumption) | assumption); have q54 : ((rd x4_1 (ji43)) : Int) < ((y109.length : Int) : Int) := of_decide_eq_true (by first | (with_reducible assumption) | assumption); obtain ⟨hx54_0, hf54_0⟩ := Kd.R_celln 0 HO_3.out ((rd x4_1 (ji43)) : Int) p54 q54; replace p54 := eq_true p54; replace q54 := eq_true q54; obtain ⟨hy59_, hz59_⟩ := Kd.R_celln 0 HO_3.out ((rd x4_1 (ji43)) : Int) (of_decide_eq_true (by first | (with_reducible assumption) | assumption)) (of_decide_eq_true (by first | (with_reducible assumption) | assumption)); have HP59 := Kd.R_putg HO_3.out ((rd x4_1 (ji43)) : Int) x5_1) | ((with_reducible refine gate_store (t := 3) (p := 68) rfl ?_); refine store_event (t := 3) (p := 68) (v := ?vo_w60) (w1 := (w58.setCell ⟨go52, ((rd x4_1 (ji43)) : Int).toNat, none⟩ (.int .i64 x5_1))) ?hg ?ho ?hn ?hr ?_; (case ho => rfl); (case hg => rfl); (case hn => rfl); (case hr => first | (go_simp; done) | (go_simp; rfl)); intro w60 hw; have hg : w58.grownBy w60 (some go52) := (by rw [hw]; exact HP59.2); have hp_ : Kd.R (Kd.int .i64) 3 w60 w.heap.size (fun k_ => some k_ ≠ (.slice (some ad131) x4_1.length co56 : Value).ownBlock) (.slice (some ⟨go52, 0, none⟩) y109.length co52) y135 := (by rw [hw, Ny135.out]; exact HP59.1); clear HP59; have n0_ := Aside0.mk (hp_); have n1_ := Aside0.mk (Kd.R_after (v := (.slice (some ⟨go52, 0, none⟩) y109.length co52)) (v1 := (.slice (some ⟨go52, 0, none⟩) y109.length co52)) (ok := (fun _ => True)) (by (with_reducible repeat (first | apply Kd.R_alloc | apply Kd.R_drewN | apply Kd.R_drew)); exact HO_4.out) hg (.inl rfl)); have n2_ := Aside0.mk ((by rw [hw]; exact below_set (HB.out) GB52.out : Below w.heap.size w w60)); clear HO_3; clear HO_4; clear HB; have HO_3 := n0_; have HO_4 := n1_; have HB := n2_; clear n0_ n1_ n2_; clear hg hw hp_; have q61 : ((ji43) : Int) ≤ ((x4_1.length : Int) : Int) := of_decide_eq_true (by first | (with_reducible assumption) | assumption); obtain ⟨i061, hi061, _, hsz61, _⟩ := info_parts info3; have hcut61 := cut_to (P := Try.prog) 26 3 .i64 Try.underlying26 hi061 (some ad131) x4_1.length co56 (ji43) (of_decide_eq_true (by first | (with_reducible assumption) | assumption)) q61 (Kd.R_reads' HO_4.out).2.1; have hr61 := Kd.R_take (m := ((ji43) : Int).toNat) HO_4.out (by omega); have hy61 : y136.length = ((ji43) : Int).toNat := (by rw [Ny136.out, List.length_take]; omega); rw [← Ny136.out] at hr61; rw [← hy61] at hr61 hcut61; clear hy61 hi061 hsz61 HO_4; have HO138 := Aside0.mk hr61; clear hr61; replace q61 := eq_true q61))
                                          go_roundg kj9
                                          case measure => have := HK1.out; have := HJ9.out; omega
                                          case rel => exact ⟨(y135), (y136), (wrap64 (x5_1 + 1)), (by first | rfl | (simp; done) | (simp [*]; done)), H', ⟨by have := HK1.out; have := HJ9.out; omega⟩, ⟨by (with_reducible repeat (first | apply Kd.R_alloc | apply Kd.R_drewN | apply Kd.R_drew)); exact HO_3.out⟩, ⟨by (with_reducible repeat (first | apply Kd.R_alloc | apply Kd.R_drewN | apply Kd.R_drew)); exact Kd.R_mono HO138.out (fun _ hk => hk.2)⟩, ⟨by repeat (first | (with_reducible first | exact HB.out | apply below_alloc | apply pw_below_drewN | apply below_drew1) | exact HB.out)⟩⟩
                                        · rw [if_neg c55] at H
                                          exact absurd H (by simp)
                                      · rw [if_neg c53] at H
                                        exact absurd H (by simp)
                                    · rw [if_neg c51] at H
                                      exact absurd H (by simp)
                                  · rw [if_neg c50] at H
                                    exact absurd H (by simp)
                                · rw [if_neg c49] at H
                                  have c49b0 : ((bt a0 (rd x4_1 (ji43))) == 91) = false := beq_eq_false_iff_ne.mpr c49
                                  have c49b1 : ((bt a0 (rd x4_1 (ji43))) != 91) = true := bne_iff_ne.mpr c49
                                  have H' := Aside0.mk H
                                  clear H
                                  obtain ⟨Ao62, co62, eo62⟩ := Kd.R_slice HO_4.out
                                  subst eo62
                                  have p131 : 0 ≤ ((ji43) : Int) := of_decide_eq_true (by first | (with_reducible assumption) | assumption)
                                  have q131 : (ji43) < (x4_1.length : Int) := of_decide_eq_true (by first | (with_reducible assumption) | assumption)
                                  obtain ⟨ad131, e131, hx131_0⟩ := Kd.at_int (Kd.R_reads' HO_4.out).2.2 (ji43) p131 q131
                                  cases e131
                                  replace p131 := eq_true p131
                                  replace q131 := eq_true q131
                                  have p48 : 0 ≤ ((rd x4_1 (ji43)) : Int) := of_decide_eq_true (by first | (with_reducible assumption) | assumption)
                                  have q48 : (rd x4_1 (ji43)) < (a0.size : Int) := of_decide_eq_true (by first | (with_reducible assumption) | assumption)
                                  have hx48 := bt_at a0 (rd x4_1 (ji43))
                                  replace p48 := eq_true p48
                                  replace q48 := eq_true q48
                                  go_wp2
                                  go_roundg kj9
                                  case measure => have := HK1.out; have := HJ9.out; omega
                                  case rel => exact ⟨(y109), (x4_1), (wrap64 (x5_1 + 1)), (by first | rfl | (simp; done) | (simp [*]; done)), H', ⟨by have := HK1.out; have := HJ9.out; omega⟩, ⟨by (with_reducible repeat (first | apply Kd.R_alloc | apply Kd.R_drewN | apply Kd.R_drew)); exact HO_3.out⟩, ⟨by (with_reducible repeat (first | apply Kd.R_alloc | apply Kd.R_drewN | apply Kd.R_drew)); exact HO_4.out⟩, ⟨by repeat (first | (with_reducible first | exact HB.out | apply below_alloc | apply pw_below_drewN | apply below_drew1) | exact HB.out)⟩⟩
                              · rw [if_neg c47] at H
                                exact absurd H (by simp)
                            · rw [if_neg c46] at H
                              exact absurd H (by simp)
                          · rw [if_neg c45] at H
                            exact absurd H (by simp)
                        · rw [if_neg c44] at H
                          exact absurd H (by simp)
                      · rw [if_neg c42] at H
                        have c42b0 : decide (0 ≤ (wrap64 ((x4_1.length : Int) - 1))) = false := decide_eq_false c42
                        clear c42
                        have H' := Aside0.mk H
                        clear H
                        obtain ⟨Ao63, co63, eo63⟩ := Kd.R_slice HO_4.out
                        subst eo63
                        go_wp2
                        go_roundg kj9
                        case measure => have := HK1.out; have := HJ9.out; omega
                        case rel => exact ⟨(y109), (x4_1), (wrap64 (x5_1 + 1)), (by first | rfl | (simp; done) | (simp [*]; done)), H', ⟨by have := HK1.out; have := HJ9.out; omega⟩, ⟨by (with_reducible repeat (first | apply Kd.R_alloc | apply Kd.R_drewN | apply Kd.R_drew)); exact HO_3.out⟩, ⟨by (with_reducible repeat (first | apply Kd.R_alloc | apply Kd.R_drewN | apply Kd.R_drew)); exact HO_4.out⟩, ⟨by repeat (first | (with_reducible first | exact HB.out | apply below_alloc | apply pw_below_drewN | apply below_drew1) | exact HB.out)⟩⟩
                    · rw [if_neg c41] at H
                      have c41b0 : ((bt a0 x5_1) == 93) = false := beq_eq_false_iff_ne.mpr c41
                      have c41b1 : ((bt a0 x5_1) != 93) = true := bne_iff_ne.mpr c41
                      by_cases c64 : (bt a0 x5_1) = 125
                      · rw [if_pos c64] at H
                        have c64b0 : ((bt a0 x5_1) == 125) = true := beq_iff_eq.mpr c64
                        have c64b1 : ((bt a0 x5_1) != 125) = false := bne_eq_false_iff_eq.mpr c64
                        clear c64
                        by_cases c65 : (wrap64 ((x4_1.length : Int) - 1)) ≥ 0
                        · rw [if_pos c65] at H
                          have c65b0 : decide (0 ≤ (wrap64 ((x4_1.length : Int) - 1))) = true := decide_eq_true c65
                          clear c65
                          obtain ⟨ji66, hji66⟩ : ∃ j_ : Int, (wrap64 ((x4_1.length : Int) - 1)) = j_ := ⟨_, rfl⟩
                          replace H : (if 0 ≤ (ji66) then (if (ji66) < (x4_1.length : Int) then (if 0 ≤ (rd x4_1 (ji66)) then (if (rd x4_1 (ji66)) < (a0.size : Int) then (if (bt a0 (rd x4_1 (ji66))) = 123 then (if 0 ≤ x5_1 then (if x5_1 < (y109.length : Int) then (if (rd x4_1 (ji66)) < (y109.length : Int) then (if (ji66) ≤ (x4_1.length : Int) then (spec_l16Mates.l0 kj9 a0 ((y109.set (x5_1 : Int).toNat (rd x4_1 (ji66))).set ((rd x4_1 (ji66)) : Int).toNat x5_1) (x4_1.take ((ji66) : Int).toNat) (wrap64 (x5_1 + 1))) else (none)) else (none)) else (none)) else (none)) else (spec_l16Mates.l0 kj9 a0 y109 x4_1 (wrap64 (x5_1 + 1)))) else (none)) else (none)) else (none)) else (none)) = some r := by first | (rw [hji66] at H; exact H) | (simp only [hji66] at H ⊢; exact H)
                          (try rw [hji66] at c65b0)
                          have hji66w : (IntKind.i64.wrap ((x4_1.length : Int) - 1)) = ji66 := (i64_w _).trans hji66
                          by_cases c67 : 0 ≤ (ji66)
                          · rw [if_pos c67] at H
                            have c67b0 : decide (0 ≤ (ji66)) = true := decide_eq_true c67
                            clear c67
                            by_cases c68 : (ji66) < (x4_1.length : Int)
                            · rw [if_pos c68] at H
                              have c68b0 : decide ((ji66) < (x4_1.length : Int)) = true := decide_eq_true c68
                              clear c68
                              by_cases c69 : 0 ≤ (rd x4_1 (ji66))
                              · rw [if_pos c69] at H
                                have c69b0 : decide (0 ≤ (rd x4_1 (ji66))) = true := decide_eq_true c69
                                clear c69
                                by_cases c70 : (rd x4_1 (ji66)) < (a0.size : Int)
                                · rw [if_pos c70] at H
                                  have c70b0 : decide ((rd x4_1 (ji66)) < (a0.size : Int)) = true := decide_eq_true c70
                                  clear c70
                                  by_cases c72 : (bt a0 (rd x4_1 (ji66))) = 123
                                  · rw [if_pos c72] at H
                                    have c72b0 : ((bt a0 (rd x4_1 (ji66))) == 123) = true := beq_iff_eq.mpr c72
                                    have c72b1 : ((bt a0 (rd x4_1 (ji66))) != 123) = false := bne_eq_false_iff_eq.mpr c72
                                    clear c72
                                    by_cases c73 : 0 ≤ x5_1
                                    · rw [if_pos c73] at H
                                      have c73b0 : decide (0 ≤ x5_1) = true := decide_eq_true c73
                                      clear c73
                                      by_cases c74 : x5_1 < (y109.length : Int)
                                      · rw [if_pos c74] at H
                                        have c74b0 : decide (x5_1 < (y109.length : Int)) = true := decide_eq_true c74
                                        clear c74
                                        obtain ⟨y141, hy141⟩ : ∃ y_ : List Int, y_ = (y109.set (x5_1 : Int).toNat (rd x4_1 (ji66))) := ⟨_, rfl⟩
                                        replace H : (if (rd x4_1 (ji66)) < (y109.length : Int) then (if (ji66) ≤ (x4_1.length : Int) then (spec_l16Mates.l0 kj9 a0 (y141.set ((rd x4_1 (ji66)) : Int).toNat x5_1) (x4_1.take ((ji66) : Int).toNat) (wrap64 (x5_1 + 1))) else (none)) else (none)) = some r := by first | (rw [hy141]; with_reducible exact H) | (have H2_ := (Option.bind_some _ _).symm.trans H; rw [hy141]; with_reducible exact H2_) | (have H2_ := (Option.bind_some _ _).symm.trans H; with_reducible exact H2_) | with_reducible exact H | (rw [hy141]; exact H) | exact H
                                        have Ny141 := Aside0.mk hy141
                                        clear hy141
                                        by_cases c76 : (rd x4_1 (ji66)) < (y109.length : Int)
                                        · rw [if_pos c76] at H
                                          have c76b0 : decide ((rd x4_1 (ji66)) < (y109.length : Int)) = true := decide_eq_true c76
                                          clear c76
                                          obtain ⟨y143, hy143⟩ : ∃ y_ : List Int, y_ = (y141.set ((rd x4_1 (ji66)) : Int).toNat x5_1) := ⟨_, rfl⟩
                                          replace H : (if (ji66) ≤ (x4_1.length : Int) then (spec_l16Mates.l0 kj9 a0 y143 (x4_1.take ((ji66) : Int).toNat) (wrap64 (x5_1 + 1))) else (none)) = some r := by first | (rw [hy143]; with_reducible exact H) | (have H2_ := (Option.bind_some _ _).symm.trans H; rw [hy143]; with_reducible exact H2_) | (have H2_ := (Option.bind_some _ _).symm.trans H; with_reducible exact H2_) | with_reducible exact H | (rw [hy143]; exact H) | exact H
                                          have Ny143 := Aside0.mk hy143
                                          clear hy143
                                          by_cases c78 : (ji66) ≤ (x4_1.length : Int)
                                          · rw [if_pos c78] at H
                                            have c78b0 := eq_true c78
                                            have c78b1 : decide ((ji66) ≤ (x4_1.length : Int)) = true := decide_eq_true c78
                                            clear c78
                                            obtain ⟨y144, hy144⟩ : ∃ y_ : List Int, y_ = (x4_1.take ((ji66) : Int).toNat) := ⟨_, rfl⟩
                                            replace H : (spec_l16Mates.l0 kj9 a0 y143 y144 (wrap64 (x5_1 + 1))) = some r := by first | (rw [hy144]; with_reducible exact H) | (have H2_ := (Option.bind_some _ _).symm.trans H; rw [hy144]; with_reducible exact H2_) | (have H2_ := (Option.bind_some _ _).symm.trans H; with_reducible exact H2_) | with_reducible exact H | (rw [hy144]; exact H) | exact H
                                            have Ny144 := Aside0.mk hy144
                                            clear hy144
                                            have H' := Aside0.mk H
                                            clear H
                                            obtain ⟨Ao79, co79, eo79⟩ := Kd.R_slice HO_4.out
                                            subst eo79
                                            have p139 : 0 ≤ ((ji66) : Int) := of_decide_eq_true (by first | (with_reducible assumption) | assumption)
                                            have q139 : (ji66) < (x4_1.length : Int) := of_decide_eq_true (by first | (with_reducible assumption) | assumption)
                                            obtain ⟨ad139, e139, hx139_0⟩ := Kd.at_int (Kd.R_reads' HO_4.out).2.2 (ji66) p139 q139
                                            cases e139
                                            replace p139 := eq_true p139
                                            replace q139 := eq_true q139
                                            have p71 : 0 ≤ ((rd x4_1 (ji66)) : Int) := of_decide_eq_true (by first | (with_reducible assumption) | assumption)
                                            have q71 : (rd x4_1 (ji66)) < (a0.size : Int) := of_decide_eq_true (by first | (with_reducible assumption) | assumption)
                                            have hx71 := bt_at a0 (rd x4_1 (ji66))
                                            replace p71 := eq_true p71
                                            replace q71 := eq_true q71
                                            have p140 : 0 ≤ ((ji66) : Int) := of_decide_eq_true (by first | (with_reducible assumption) | assumption)
                                            have q140 : (ji66) < (x4_1.length : Int) := of_decide_eq_true (by first | (with_reducible assumption) | assumption)
                                            obtain ⟨ad140, e140, hx140_0⟩ := Kd.at_int (Kd.R_reads' HO_4.out).2.2 (ji66) p140 q140
                                            obtain rfl : ad139 = ad140 := (by injection e140)
                                            replace p140 := eq_true p140
                                            replace q140 := eq_true q140
                                            have p75 : 0 ≤ (x5_1 : Int) := of_decide_eq_true (by first | (with_reducible assumption) | assumption)
                                            have q75 : (x5_1 : Int) < ((y109.length : Int) : Int) := of_decide_eq_true (by first | (with_reducible assumption) | assumption)
                                            obtain ⟨go75, co75, eo75, gb75, gl75, cl75, HG75⟩ := Kd.R_form HO_3.out (by omega)
                                            (first | cases eo75 | (injection eo75 with ea_ en_ ec_; (first | subst ea_ | (injection ea_ with ea_; subst ea_)); subst ec_; clear en_))
                                            have GB75 := Aside0.mk gb75
                                            have GG75 := Aside0.mk HG75
                                            clear gb75 gl75 HG75
                                            obtain ⟨hx75_0, hf75_0⟩ := Kd.R_celln 0 HO_3.out (x5_1 : Int) p75 q75
                                            replace p75 := eq_true p75
                                            replace q75 := eq_true q75
                                            have HP80 := Kd.R_putg HO_3.out (x5_1 : Int) (rd x4_1 (ji66))
                                            go_wp2_with (first | ((with_reducible refine gate_store (t := 3) (p := 61) rfl ?_); refine store_event (t := 3) (p := 61) (v := ?vo_w81) (w1 := (wc.setCell ⟨go75, (x5_1 : Int).toNat, none⟩ (.int .i64 (rd x4_1 (ji66))))) ?hg ?ho ?hn ?hr ?_; (case ho => rfl); (case hg => rfl); (case hn => rfl); (case hr => first | (go_simp; done) | (go_simp; rfl)); intro w81 hw; have hg : wc.grownBy w81 (some go75) := (by rw [hw]; exact HP80.2); have hp_ : Kd.R (Kd.int .i64) 3 w81 w.heap.size (fun k_ => some k_ ≠ (.slice (some ad139) x4_1.length co79 : Value).ownBlock) (.slice (some ⟨go75, 0, none⟩) y109.length co75) y141 := (by rw [hw, Ny141.out]; exact HP80.1); clear HP80; have n0_ := Aside0.mk (hp_); have n1_ := Aside0.mk (Kd.R_after (v := (.slice (some ⟨go75, 0, none⟩) y109.length co75)) (v1 := (.slice (some ⟨go75, 0, none⟩) y109.length co75)) (ok := (fun _ => True)) (by (with_reducible repeat (first | apply Kd.R_alloc | apply Kd.R_drewN | apply Kd.R_drew)); exact Kd.R_mono HO_4.out (fun _ hk => ⟨trivial, hk⟩)) hg (.inl rfl)); have n2_ := Aside0.mk ((by rw [hw]; exact below_set (HB.out) GB75.out : Below w.heap.size w w81)); clear HO_3; clear HO_4; clear HB; have HO_3 := n0_; have HO_4 := n1_; have HB := n2_; clear n0_ n1_ n2_; clear hg hw hp_; have p142 : 0 ≤ ((ji66) : Int) := of_decide_eq_true (by first | (with_reducible assumption) | assumption); have q142 : (ji66) < (x4_1.length : Int) := of_decide_eq_true (by first | (with_reducible assumption) | assumption); obtain ⟨ad142, e142, hx142_0⟩ := Kd.at_int (Kd.R_reads' HO_4.out).2.2 (ji66) p142 q142; obtain rfl : ad139 = ad142 := (by injection e142); replace p142 := eq_true p142; replace q142 := eq_true q142; have p77 : 0 ≤ ((rd x4_1 (ji66)) : Int) := of_decide_eq_true (by first | (with_reducible assumption) | assumption); have q77 : ((rd x4_1 (ji66)) : Int) < ((y109.length : Int) : Int) := of_decide_eq_true (by first | (with_reducible assumption) | assumption); obtain ⟨hx77_0, hf77_0⟩ := Kd.R_celln 0 HO_3.out ((rd x4_1 (ji66)) : Int) p77 q77; replace p77 := eq_true p77; replace q77 := eq_true q77; obtain ⟨hy82_, hz82_⟩ := Kd.R_celln 0 HO_3.out ((rd x4_1 (ji66)) : Int) (of_decide_eq_true (by first | (with_reducible assumption) | assumption)) (of_decide_eq_true (by first | (with_reducible assumption) | assumption)); have HP82 := Kd.R_putg HO_3.out ((rd x4_1 (ji66)) : Int) x5_1) | ((with_reducible refine gate_store (t := 3) (p := 68) rfl ?_); refine store_event (t := 3) (p := 68) (v := ?vo_w83) (w1 := (w81.setCell ⟨go75, ((rd x4_1 (ji66)) : Int).toNat, none⟩ (.int .i64 x5_1))) ?hg ?ho ?hn ?hr ?_; (case ho => rfl); (case hg => rfl); (case hn => rfl); (case hr => first | (go_simp; done) | (go_simp; rfl)); intro w83 hw; have hg : w81.grownBy w83 (some go75) := (by rw [hw]; exact HP82.2); have hp_ : Kd.R (Kd.int .i64) 3 w83 w.heap.size (fun k_ => some k_ ≠ (.slice (some ad139) x4_1.length co79 : Value).ownBlock) (.slice (some ⟨go75, 0, none⟩) y109.length co75) y143 := (by rw [hw, Ny143.out]; exact HP82.1); clear HP82; have n0_ := Aside0.mk (hp_); have n1_ := Aside0.mk (Kd.R_after (v := (.slice (some ⟨go75, 0, none⟩) y109.length co75)) (v1 := (.slice (some ⟨go75, 0, none⟩) y109.length co75)) (ok := (fun _ => True)) (by (with_reducible repeat (first | apply Kd.R_alloc | apply Kd.R_drewN | apply Kd.R_drew)); exact HO_4.out) hg (.inl rfl)); have n2_ := Aside0.mk ((by rw [hw]; exact below_set (HB.out) GB75.out : Below w.heap.size w w83)); clear HO_3; clear HO_4; clear HB; have HO_3 := n0_; have HO_4 := n1_; have HB := n2_; clear n0_ n1_ n2_; clear hg hw hp_; have q84 : ((ji66) : Int) ≤ ((x4_1.length : Int) : Int) := of_decide_eq_true (by first | (with_reducible assumption) | assumption); obtain ⟨i084, hi084, _, hsz84, _⟩ := info_parts info3; have hcut84 := cut_to (P := Try.prog) 26 3 .i64 Try.underlying26 hi084 (some ad139) x4_1.length co79 (ji66) (of_decide_eq_true (by first | (with_reducible assumption) | assumption)) q84 (Kd.R_reads' HO_4.out).2.1; have hr84 := Kd.R_take (m := ((ji66) : Int).toNat) HO_4.out (by omega); have hy84 : y144.length = ((ji66) : Int).toNat := (by rw [Ny144.out, List.length_take]; omega); rw [← Ny144.out] at hr84; rw [← hy84] at hr84 hcut84; clear hy84 hi084 hsz84 HO_4; have HO146 := Aside0.mk hr84; clear hr84; replace q84 := eq_true q84))
                                            go_roundg kj9
                                            case measure => have := HK1.out; have := HJ9.out; omega
                                            case rel => exact ⟨(y143), (y144), (wrap64 (x5_1 + 1)), (by first | rfl | (simp; done) | (simp [*]; done)), H', ⟨by have := HK1.out; have := HJ9.out; omega⟩, ⟨by (with_reducible repeat (first | apply Kd.R_alloc | apply Kd.R_drewN | apply Kd.R_drew)); exact HO_3.out⟩, ⟨by (with_reducible repeat (first | apply Kd.R_alloc | apply Kd.R_drewN | apply Kd.R_drew)); exact Kd.R_mono HO146.out (fun _ hk => hk.2)⟩, ⟨by repeat (first | (with_reducible first | exact HB.out | apply below_alloc | apply pw_below_drewN | apply below_drew1) | exact HB.out)⟩⟩
                                          · rw [if_neg c78] at H
                                            exact absurd H (by simp)
                                        · rw [if_neg c76] at H
                                          exact absurd H (by simp)
                                      · rw [if_neg c74] at H
                                        exact absurd H (by simp)
                                    · rw [if_neg c73] at H
                                      exact absurd H (by simp)
                                  · rw [if_neg c72] at H
                                    have c72b0 : ((bt a0 (rd x4_1 (ji66))) == 123) = false := beq_eq_false_iff_ne.mpr c72
                                    have c72b1 : ((bt a0 (rd x4_1 (ji66))) != 123) = true := bne_iff_ne.mpr c72
                                    have H' := Aside0.mk H
                                    clear H
                                    obtain ⟨Ao85, co85, eo85⟩ := Kd.R_slice HO_4.out
                                    subst eo85
                                    have p139 : 0 ≤ ((ji66) : Int) := of_decide_eq_true (by first | (with_reducible assumption) | assumption)
                                    have q139 : (ji66) < (x4_1.length : Int) := of_decide_eq_true (by first | (with_reducible assumption) | assumption)
                                    obtain ⟨ad139, e139, hx139_0⟩ := Kd.at_int (Kd.R_reads' HO_4.out).2.2 (ji66) p139 q139
                                    cases e139
                                    replace p139 := eq_true p139
                                    replace q139 := eq_true q139
                                    have p71 : 0 ≤ ((rd x4_1 (ji66)) : Int) := of_decide_eq_true (by first | (with_reducible assumption) | assumption)
                                    have q71 : (rd x4_1 (ji66)) < (a0.size : Int) := of_decide_eq_true (by first | (with_reducible assumption) | assumption)
                                    have hx71 := bt_at a0 (rd x4_1 (ji66))
                                    replace p71 := eq_true p71
                                    replace q71 := eq_true q71
                                    go_wp2
                                    go_roundg kj9
                                    case measure => have := HK1.out; have := HJ9.out; omega
                                    case rel => exact ⟨(y109), (x4_1), (wrap64 (x5_1 + 1)), (by first | rfl | (simp; done) | (simp [*]; done)), H', ⟨by have := HK1.out; have := HJ9.out; omega⟩, ⟨by (with_reducible repeat (first | apply Kd.R_alloc | apply Kd.R_drewN | apply Kd.R_drew)); exact HO_3.out⟩, ⟨by (with_reducible repeat (first | apply Kd.R_alloc | apply Kd.R_drewN | apply Kd.R_drew)); exact HO_4.out⟩, ⟨by repeat (first | (with_reducible first | exact HB.out | apply below_alloc | apply pw_below_drewN | apply below_drew1) | exact HB.out)⟩⟩
                                · rw [if_neg c70] at H
                                  exact absurd H (by simp)
                              · rw [if_neg c69] at H
                                exact absurd H (by simp)
                            · rw [if_neg c68] at H
                              exact absurd H (by simp)
                          · rw [if_neg c67] at H
                            exact absurd H (by simp)
                        · rw [if_neg c65] at H
                          have c65b0 : decide (0 ≤ (wrap64 ((x4_1.length : Int) - 1))) = false := decide_eq_false c65
                          clear c65
                          have H' := Aside0.mk H
                          clear H
                          obtain ⟨Ao86, co86, eo86⟩ := Kd.R_slice HO_4.out
                          subst eo86
                          go_wp2
                          go_roundg kj9
                          case measure => have := HK1.out; have := HJ9.out; omega
                          case rel => exact ⟨(y109), (x4_1), (wrap64 (x5_1 + 1)), (by first | rfl | (simp; done) | (simp [*]; done)), H', ⟨by have := HK1.out; have := HJ9.out; omega⟩, ⟨by (with_reducible repeat (first | apply Kd.R_alloc | apply Kd.R_drewN | apply Kd.R_drew)); exact HO_3.out⟩, ⟨by (with_reducible repeat (first | apply Kd.R_alloc | apply Kd.R_drewN | apply Kd.R_drew)); exact HO_4.out⟩, ⟨by repeat (first | (with_reducible first | exact HB.out | apply below_alloc | apply pw_below_drewN | apply below_drew1) | exact HB.out)⟩⟩
                      · rw [if_neg c64] at H
                        have c64b0 : ((bt a0 x5_1) == 125) = false := beq_eq_false_iff_ne.mpr c64
                        have c64b1 : ((bt a0 x5_1) != 125) = true := bne_iff_ne.mpr c64
                        have H1 : (spec_l16Mates.l0 kj9 a0 y109 x4_1 (wrap64 (x5_1 + 1))) = some r := by first | exact H | simpa using H
                        clear H
                        have H := H1
                        clear H1
                        have H' := Aside0.mk H
                        clear H
                        obtain ⟨Ao87, co87, eo87⟩ := Kd.R_slice HO_4.out
                        subst eo87
                        go_wp2
                        go_roundg kj9
                        case measure => have := HK1.out; have := HJ9.out; omega
                        case rel => exact ⟨(y109), (x4_1), (wrap64 (x5_1 + 1)), (by first | rfl | (simp; done) | (simp [*]; done)), H', ⟨by have := HK1.out; have := HJ9.out; omega⟩, ⟨by (with_reducible repeat (first | apply Kd.R_alloc | apply Kd.R_drewN | apply Kd.R_drew)); exact HO_3.out⟩, ⟨by (with_reducible repeat (first | apply Kd.R_alloc | apply Kd.R_drewN | apply Kd.R_drew)); exact HO_4.out⟩, ⟨by repeat (first | (with_reducible first | exact HB.out | apply below_alloc | apply pw_below_drewN | apply below_drew1) | exact HB.out)⟩⟩
          · rw [if_neg c8] at H
            exact absurd H (by simp)
        · rw [if_neg c7] at H
          exact absurd H (by simp)
      · rw [if_neg c6] at H
        have c6b0 : decide (x5_1 < (a0.size : Int)) = false := decide_eq_false c6
        clear c6
        obtain rfl := Option.some.inj H
        go_wp2
        go_ret
        exact ⟨_, by first | rfl | (simp [errW_none, errW_some] <;> rfl) | (simp [*, errW_none, errW_some] <;> rfl), by (with_reducible repeat (first | apply Kd.R_alloc | apply Kd.R_drewN | apply Kd.R_drew)); exact Kd.R_mono HO_3.out (fun _ hk => trivial), by repeat (first | (with_reducible first | exact HB.out | apply below_alloc | apply pw_below_drewN | apply below_drew1) | exact HB.out)⟩

end Go.Proofs.Ytbkdfiepdnbeoaa.X
