-- written by a program of this session (wip/xprint.py) out of the translation
import Derived.Test.YtdpnfdoplahfgaaDoorX0
import Derived.Test.YtdpnfdoplahfgaaDoorX2
import Derived.Test.YtdpnfdoplahfgaaDoorX5
namespace Go.Proofs.YtdpnfdoplahfgaaDoor.X
open Go.RowKit Go.Proofs.YtdpnfdoplahfgaaDoorW.PrintWords Go.Proofs.YtdpnfdoplahfgaaDoorW.PrintLast Go.Proofs.YtdpnfdoplahfgaaDoorW.PrintMore
attribute [local go_sem] max2_int min2_int max_two min_two max_three min_three max_four min_four   -- for this text's walks alone
set_option linter.unusedVariables false
set_option linter.unusedSimpArgs false

/-! ### impl_VisibleLines: function 24 -/
mutual
def impl_VisibleLines.j0 : Nat → ByteArray → List Int → Bool → Option (List Int)
  | 0, _, _, _ => none
  | k + 1, x0, x1, x20 => if x20 = true then (some ([] : List Int)) else ((impl_foldEnds.f k x0).bind fun t253 => (if 0 ≤ (t253.length : Int) then (if ((t253.length : Int) : Int).toNat ≤ 281474976710656 then (impl_VisibleLines.l0 k x0 t253 (List.replicate ((t253.length : Int) : Int).toNat false) x1 (x1.length : Int) 0) else (none)) else (none)))
def impl_VisibleLines.l0 : Nat → ByteArray → List Int → List Bool → List Int → Int → Int → Option (List Int)
  | 0, _, _, _, _, _, _ => none
  | k + 1, x0, x5, x6, x26, x27, x28 => if x28 < x27 then (if 0 ≤ x28 then (if x28 < (x26.length : Int) then ((impl_isLine.f k x0 (rd x26 x28)).bind fun t260 => (if t260 = true then (impl_VisibleLines.l1 k x0 x5 x6 (rd x26 x28) (wrap64 ((rd x26 x28) + 1)) x26 x27 x28) else (impl_VisibleLines.l0 k x0 x5 x6 x26 x27 (wrap64 (x28 + 1))))) else (none)) else (none)) else (impl_VisibleLines.l2 k ([] : List Int) x6 (x6.length : Int) 0)
def impl_VisibleLines.l1 : Nat → ByteArray → List Int → List Bool → Int → Int → List Int → Int → Int → Option (List Int)
  | 0, _, _, _, _, _, _, _, _ => none
  | k + 1, x0, x5, x6, x8, x9, x26, x27, x28 => if 0 ≤ x8 then (if x8 < (x5.length : Int) then (if x9 ≤ (rd x5 x8) then (if 0 ≤ x9 then (if x9 < (x6.length : Int) then (impl_VisibleLines.l1 k x0 x5 (x6.set (x9 : Int).toNat true) x8 (wrap64 (x9 + 1)) x26 x27 x28) else (none)) else (none)) else (impl_VisibleLines.l0 k x0 x5 x6 x26 x27 (wrap64 (x28 + 1)))) else (none)) else (none)
def impl_VisibleLines.l2 : Nat → List Int → List Bool → Int → Int → Option (List Int)
  | 0, _, _, _, _ => none
  | k + 1, x10, x50, x51, x52 => if x52 < x51 then (if 0 ≤ x52 then (if x52 < (x50.length : Int) then (if rdOf false x50 x52 = true then (impl_VisibleLines.l2 k x10 x50 x51 (wrap64 (x52 + 1))) else (if x10.length < 17592186044416 then (impl_VisibleLines.l2 k (x10 ++ [x52]) x50 x51 (wrap64 (x52 + 1))) else (none))) else (none)) else (none)) else (some x10)
end
def impl_VisibleLines.f (k : Nat) (a0 : ByteArray) (l1 : List Int) : Option (List Int) := (impl_TextValid.f k a0).bind fun t252 => (if t252 = true then (impl_VisibleLines.j0 k a0 l1 (decide ((l1.length : Int) > 120))) else (impl_VisibleLines.j0 k a0 l1 true))
theorem impl_VisibleLines.mono_l : ∀ k, (∀ y0 y1 y2, LeO (impl_VisibleLines.j0 k y0 y1 y2) (impl_VisibleLines.j0 (k + 1) y0 y1 y2)) ∧ (∀ y0 y1 y2 y3 y4 y5, LeO (impl_VisibleLines.l0 k y0 y1 y2 y3 y4 y5) (impl_VisibleLines.l0 (k + 1) y0 y1 y2 y3 y4 y5)) ∧ (∀ y0 y1 y2 y3 y4 y5 y6 y7, LeO (impl_VisibleLines.l1 k y0 y1 y2 y3 y4 y5 y6 y7) (impl_VisibleLines.l1 (k + 1) y0 y1 y2 y3 y4 y5 y6 y7)) ∧ (∀ y0 y1 y2 y3, LeO (impl_VisibleLines.l2 k y0 y1 y2 y3) (impl_VisibleLines.l2 (k + 1) y0 y1 y2 y3))
  | 0 => ⟨fun _ _ _ r h => by simp [impl_VisibleLines.j0] at h, fun _ _ _ _ _ _ r h => by simp [impl_VisibleLines.l0] at h, fun _ _ _ _ _ _ _ _ r h => by simp [impl_VisibleLines.l1] at h, fun _ _ _ _ r h => by simp [impl_VisibleLines.l2] at h⟩
  | k + 1 => by
    obtain ⟨ih0, ih1, ih2, ih3⟩ := impl_VisibleLines.mono_l k
    refine ⟨?_, ?_, ?_, ?_⟩
    · intro y0 y1 y2
      unfold impl_VisibleLines.j0
      repeat' first
      | (with_reducible exact ih0 _ _ _)
      | (with_reducible exact ih1 _ _ _ _ _ _)
      | (with_reducible exact ih2 _ _ _ _ _ _ _ _)
      | (with_reducible exact ih3 _ _ _ _)
      | (with_reducible exact impl_TextValid.mono _ _)
      | (with_reducible exact impl_foldEnds.mono _ _)
      | (with_reducible exact impl_isLine.mono _ _ _)
      | (with_reducible exact LeO.refl _)
      | (with_reducible exact LeO.none _)
      | (with_reducible refine LeO.ite ?_ ?_)
      | (with_reducible refine LeO.bind ?_ (fun _ => ?_))
      | exact ih0 _ _ _
      | exact ih1 _ _ _ _ _ _
      | exact ih2 _ _ _ _ _ _ _ _
      | exact ih3 _ _ _ _
      | exact impl_TextValid.mono _ _
      | exact impl_foldEnds.mono _ _
      | exact impl_isLine.mono _ _ _
      | exact LeO.none _
      | refine LeO.ite ?_ ?_
      | refine LeO.bind ?_ (fun _ => ?_)
    · intro y0 y1 y2 y3 y4 y5
      unfold impl_VisibleLines.l0
      repeat' first
      | (with_reducible exact ih0 _ _ _)
      | (with_reducible exact ih1 _ _ _ _ _ _)
      | (with_reducible exact ih2 _ _ _ _ _ _ _ _)
      | (with_reducible exact ih3 _ _ _ _)
      | (with_reducible exact impl_TextValid.mono _ _)
      | (with_reducible exact impl_foldEnds.mono _ _)
      | (with_reducible exact impl_isLine.mono _ _ _)
      | (with_reducible exact LeO.refl _)
      | (with_reducible exact LeO.none _)
      | (with_reducible refine LeO.ite ?_ ?_)
      | (with_reducible refine LeO.bind ?_ (fun _ => ?_))
      | exact ih0 _ _ _
      | exact ih1 _ _ _ _ _ _
      | exact ih2 _ _ _ _ _ _ _ _
      | exact ih3 _ _ _ _
      | exact impl_TextValid.mono _ _
      | exact impl_foldEnds.mono _ _
      | exact impl_isLine.mono _ _ _
      | exact LeO.none _
      | refine LeO.ite ?_ ?_
      | refine LeO.bind ?_ (fun _ => ?_)
    · intro y0 y1 y2 y3 y4 y5 y6 y7
      unfold impl_VisibleLines.l1
      repeat' first
      | (with_reducible exact ih0 _ _ _)
      | (with_reducible exact ih1 _ _ _ _ _ _)
      | (with_reducible exact ih2 _ _ _ _ _ _ _ _)
      | (with_reducible exact ih3 _ _ _ _)
      | (with_reducible exact impl_TextValid.mono _ _)
      | (with_reducible exact impl_foldEnds.mono _ _)
      | (with_reducible exact impl_isLine.mono _ _ _)
      | (with_reducible exact LeO.refl _)
      | (with_reducible exact LeO.none _)
      | (with_reducible refine LeO.ite ?_ ?_)
      | (with_reducible refine LeO.bind ?_ (fun _ => ?_))
      | exact ih0 _ _ _
      | exact ih1 _ _ _ _ _ _
      | exact ih2 _ _ _ _ _ _ _ _
      | exact ih3 _ _ _ _
      | exact impl_TextValid.mono _ _
      | exact impl_foldEnds.mono _ _
      | exact impl_isLine.mono _ _ _
      | exact LeO.none _
      | refine LeO.ite ?_ ?_
      | refine LeO.bind ?_ (fun _ => ?_)
    · intro y0 y1 y2 y3
      unfold impl_VisibleLines.l2
      repeat' first
      | (with_reducible exact ih0 _ _ _)
      | (with_reducible exact ih1 _ _ _ _ _ _)
      | (with_reducible exact ih2 _ _ _ _ _ _ _ _)
      | (with_reducible exact ih3 _ _ _ _)
      | (with_reducible exact impl_TextValid.mono _ _)
      | (with_reducible exact impl_foldEnds.mono _ _)
      | (with_reducible exact impl_isLine.mono _ _ _)
      | (with_reducible exact LeO.refl _)
      | (with_reducible exact LeO.none _)
      | (with_reducible refine LeO.ite ?_ ?_)
      | (with_reducible refine LeO.bind ?_ (fun _ => ?_))
      | exact ih0 _ _ _
      | exact ih1 _ _ _ _ _ _
      | exact ih2 _ _ _ _ _ _ _ _
      | exact ih3 _ _ _ _
      | exact impl_TextValid.mono _ _
      | exact impl_foldEnds.mono _ _
      | exact impl_isLine.mono _ _ _
      | exact LeO.none _
      | refine LeO.ite ?_ ?_
      | refine LeO.bind ?_ (fun _ => ?_)
theorem impl_VisibleLines.mono : ∀ a0 a1 k, LeO (impl_VisibleLines.f k a0 a1) (impl_VisibleLines.f (k + 1) a0 a1) := by
  intro a0 a1 k
  obtain ⟨ih0, ih1, ih2, ih3⟩ := impl_VisibleLines.mono_l k
  unfold impl_VisibleLines.f
  repeat' first
      | (with_reducible exact ih0 _ _ _)
      | (with_reducible exact ih1 _ _ _ _ _ _)
      | (with_reducible exact ih2 _ _ _ _ _ _ _ _)
      | (with_reducible exact ih3 _ _ _ _)
      | (with_reducible exact impl_TextValid.mono _ _)
      | (with_reducible exact impl_foldEnds.mono _ _)
      | (with_reducible exact impl_isLine.mono _ _ _)
      | (with_reducible exact LeO.refl _)
      | (with_reducible exact LeO.none _)
      | (with_reducible refine LeO.ite ?_ ?_)
      | (with_reducible refine LeO.bind ?_ (fun _ => ?_))
      | exact ih0 _ _ _
      | exact ih1 _ _ _ _ _ _
      | exact ih2 _ _ _ _ _ _ _ _
      | exact ih3 _ _ _ _
      | exact impl_TextValid.mono _ _
      | exact impl_foldEnds.mono _ _
      | exact impl_isLine.mono _ _ _
      | exact LeO.none _
      | refine LeO.ite ?_ ?_
      | refine LeO.bind ?_ (fun _ => ?_)
set_option maxHeartbeats 8000000 in
set_option maxRecDepth 100000 in
theorem impl_VisibleLines.calls (k : Nat) (a0 : ByteArray) (A1 : Option Addr) (c1 : Nat) (l1 : List Int) (r : List Int) (w : World) (hr1 : Kd.C (Kd.int .i64) w A1 l1.length l1) (hc1 : l1.length ≤ c1) (h : impl_VisibleLines.f k a0 l1 = some r) :
    Calls Tryd.prog 24 #[.string a0, .slice A1 l1.length c1] w fun e w' => ∃ v0_ : Value, e = .returned (v0_) ∧ Kd.R (Kd.int .i64) 3 w' w.heap.size (fun _ => True) v0_ r ∧ Below w.heap.size w w' := by
  have HR1 := Aside0.mk hr1
  have HC1 := Aside0.mk hc1
  clear hr1 hc1
  have HB := Aside0.mk (Below.refl w.heap.size w)
  have H : ((impl_TextValid.f k a0).bind fun t252 => (if t252 = true then (impl_VisibleLines.j0 k a0 l1 (decide ((l1.length : Int) > 120))) else (impl_VisibleLines.j0 k a0 l1 true))) = some r := h
  clear h
  have HC3 := Aside0.mk H
  clear H
  go_enter Tryd.func24, Tryd.ntmps24
  go_upto_region 1 with (fail)
  go_cut [20] (fun v20 wc => ∃ (kq : Nat) (x20_2 : Bool), v20 = .bool x20_2 ∧ Aside0 (impl_VisibleLines.j0 kq a0 l1 x20_2 = some r) ∧ Aside0 (kq ≤ k) ∧ Aside0 (Below w.heap.size w wc))
  case first =>
    have H := HC3.out
    clear HC3
    replace H := Option.bind_eq_some_iff.mp H
    obtain ⟨t252, A40, H⟩ := H
    replace H : (if t252 = true then (impl_VisibleLines.j0 k a0 l1 (decide ((l1.length : Int) > 120))) else (impl_VisibleLines.j0 k a0 l1 true)) = some r := H
    have A4 := Aside0.mk A40
    clear A40
    by_cases c5 : t252 = true
    · subst c5
      have H1 : (impl_VisibleLines.j0 k a0 l1 (decide ((l1.length : Int) > 120))) = some r := by rw [if_pos rfl] at H; exact H
      clear H
      have H := H1
      clear H1
      have H' := Aside0.mk H
      clear H
      go_wp2_with (first | ((with_reducible refine gate_callee (f := 45) rfl ?_); refine goesL_ (some 14) rfl rfl Tryd.func45 (by kernel_rfl) rfl #[.string a0] rfl (by (try simp only [List.map_toArray, List.map_cons, List.map_nil]); first | done | rfl | (simp only [List.length_drop, List.length_take]; rfl)) ?_; (with_reducible refine (impl_TextValid.calls k a0 true _ A4.out).mono ?_); rintro e w' ⟨rfl, ⟨nd, rfl⟩⟩; refine ⟨_, rfl, ?_⟩))
      go_meet
      case rel => exact ⟨_, (decide ((l1.length : Int) > 120)), (by first | rfl | (simp; done) | (simp [*]; done)), H', ⟨by first | omega | exact Nat.le_refl _⟩, ⟨by repeat (first | (with_reducible first | exact HB.out | apply below_alloc | apply pw_below_drewN | apply below_drew1) | exact HB.out)⟩⟩
    · replace c5 := Bool.eq_false_iff.mpr c5
      subst c5
      have H1 : (impl_VisibleLines.j0 k a0 l1 true) = some r := by rw [if_neg (show ¬ (false = true) by decide)] at H; exact H
      clear H
      have H := H1
      clear H1
      have H' := Aside0.mk H
      clear H
      go_wp2_with (first | ((with_reducible refine gate_callee (f := 45) rfl ?_); refine goesL_ (some 14) rfl rfl Tryd.func45 (by kernel_rfl) rfl #[.string a0] rfl (by (try simp only [List.map_toArray, List.map_cons, List.map_nil]); first | done | rfl | (simp only [List.length_drop, List.length_take]; rfl)) ?_; (with_reducible refine (impl_TextValid.calls k a0 false _ A4.out).mono ?_); rintro e w' ⟨rfl, ⟨nd, rfl⟩⟩; refine ⟨_, rfl, ?_⟩))
      go_meet
      case rel => exact ⟨_, (true), (by first | rfl | (simp; done) | (simp [*]; done)), H', ⟨by first | omega | exact Nat.le_refl _⟩, ⟨by repeat (first | (with_reducible first | exact HB.out | apply below_alloc | apply pw_below_drewN | apply below_drew1) | exact HB.out)⟩⟩
  case rest =>
    clear HC3
    try clear c1
    try clear c2
    try clear p2
    try clear c4
    try clear c5
    obtain ⟨kq, x20_2, rfl, HA, HJ2, HB⟩ := hcut
    cases kq with
    | zero => exact absurd HA.out (by simp [impl_VisibleLines.j0])
    | succ kj2 =>
      have H := HA.out
      clear HA
      simp only [impl_VisibleLines.j0] at H
      by_cases c6 : x20_2 = true
      · subst c6
        have H1 : (some ([] : List Int)) = some r := by rw [if_pos rfl] at H; exact H
        clear H
        have H := H1
        clear H1
        obtain rfl := Option.some.inj H
        go_wp2
        go_ret
        exact ⟨_, by first | rfl | (simp [errW_none, errW_some] <;> rfl) | (simp [*, errW_none, errW_some] <;> rfl), by first | exact Kd.R_nil _ _ _ _ _ | exact Kd.N_nil _ _ _ _ _ | exact Kd.V_nil _ _ _ _ _ | exact Kd.Q_nil _ _ _ _ _ | exact Kd.S_nil _ _ _ _ _, by repeat (first | (with_reducible first | exact HB.out | apply below_alloc | apply pw_below_drewN | apply below_drew1) | exact HB.out)⟩
      · replace c6 := Bool.eq_false_iff.mpr c6
        subst c6
        have H1 : ((impl_foldEnds.f kj2 a0).bind fun t253 => (if 0 ≤ (t253.length : Int) then (if ((t253.length : Int) : Int).toNat ≤ 281474976710656 then (impl_VisibleLines.l0 kj2 a0 t253 (List.replicate ((t253.length : Int) : Int).toNat false) l1 (l1.length : Int) 0) else (none)) else (none))) = some r := by rw [if_neg (show ¬ (false = true) by decide)] at H; exact H
        clear H
        have H := H1
        clear H1
        replace H := Option.bind_eq_some_iff.mp H
        obtain ⟨t253, A70, H⟩ := H
        replace H : (if 0 ≤ (t253.length : Int) then (if ((t253.length : Int) : Int).toNat ≤ 281474976710656 then (impl_VisibleLines.l0 kj2 a0 t253 (List.replicate ((t253.length : Int) : Int).toNat false) l1 (l1.length : Int) 0) else (none)) else (none)) = some r := H
        have A7 := Aside0.mk A70
        clear A70
        by_cases c8 : 0 ≤ (t253.length : Int)
        · rw [if_pos c8] at H
          have c8b0 := eq_true c8
          have c8b1 : decide (0 ≤ (t253.length : Int)) = true := decide_eq_true c8
          clear c8
          by_cases c9 : ((t253.length : Int) : Int).toNat ≤ 281474976710656
          · rw [if_pos c9] at H
            have c9b0 := eq_true c9
            have c9b1 : decide (((t253.length : Int) : Int).toNat ≤ 281474976710656) = true := decide_eq_true c9
            clear c9
            obtain ⟨y256, hy256⟩ : ∃ y_ : List Bool, y_ = (List.replicate ((t253.length : Int) : Int).toNat false) := ⟨_, rfl⟩
            replace H : (impl_VisibleLines.l0 kj2 a0 t253 y256 l1 (l1.length : Int) 0) = some r := by first | (rw [hy256]; with_reducible exact H) | (have H2_ := (Option.bind_some _ _).symm.trans H; rw [hy256]; with_reducible exact H2_) | (have H2_ := (Option.bind_some _ _).symm.trans H; with_reducible exact H2_) | with_reducible exact H | (rw [hy256]; exact H) | exact H
            have Ny256 := Aside0.mk hy256
            clear hy256
            have H' := Aside0.mk H
            clear H
            go_wp2_with (first | ((with_reducible refine gate_callee (f := 40) rfl ?_); refine goesL_ (some 22) rfl rfl Tryd.func40 (by kernel_rfl) rfl #[.string a0] rfl (by (try simp only [List.map_toArray, List.map_cons, List.map_nil]); first | done | rfl | (simp only [List.length_drop, List.length_take]; rfl)) ?_; (with_reducible refine (impl_foldEnds.calls kj2 a0 t253 _ A7.out).mono ?_); rintro e w10 ⟨v254, rfl, ho0, hb⟩; refine ⟨_, rfl, ?_⟩; have n0_ := Aside0.mk (Kd.R_lower ho0 (below_size (by repeat (first | (with_reducible first | exact HB.out | apply below_alloc | apply pw_below_drewN | apply below_drew1) | exact HB.out)))); have n1_ := Aside0.mk (below_step (by repeat (first | (with_reducible first | exact HB.out | apply below_alloc | apply pw_below_drewN | apply below_drew1) | exact HB.out)) hb); clear HB; have HO255 := n0_; have HB := n1_; clear n0_ n1_; (try clear hb); (try clear hb2); (try clear hk); (try clear hi); (try clear ho0); obtain ⟨Ao11, co11, eo11⟩ := Kd.R_slice HO255.out; subst eo11) | ((with_reducible refine gate_dst (N := 25) rfl ?_); (try (refine gate_guard (by rfl) ?_; dsimp only)); refine Kd.R_make Kd.bool _ 4 rfl (N := 25) rfl 47 _ _ rfl (t253.length : Int) rfl rfl Tryd.underlying47 (.bool false) 1 info4 rfl (by decide) (by omega) false (ok := fun _ => True) (okp := fun _ => True) rfl (fun _ hk => hk) trivial (of_decide_eq_true (by first | (with_reducible assumption) | assumption)) (Nat.le_trans (Nat.mul_le_mul_right _ (of_decide_eq_true (by first | (with_reducible assumption) | assumption) : (t253.length : Int).toNat ≤ 281474976710656)) (by omega)) (Below.refl _ _) (Nat.le_refl _) ?_; intro v257 w12 ho13 hb hg_ hnew_; clear hg_ hnew_; (first | rw [← Ny256.out] at ho13 | (simp only [Int.reduceToNat] at ho13; rw [← Ny256.out] at ho13)); have n0_ := Aside0.mk (Kd.R_below (by (with_reducible repeat (first | apply Kd.R_alloc | apply Kd.R_drewN | apply Kd.R_drew)); exact HO255.out) hb); have n1_ := Aside0.mk (Kd.R_lower ho13 (below_size (by repeat (first | (with_reducible first | exact HB.out | apply below_alloc | apply pw_below_drewN | apply below_drew1) | exact HB.out)))); have n2_ := Aside0.mk (below_step (by repeat (first | (with_reducible first | exact HB.out | apply below_alloc | apply pw_below_drewN | apply below_drew1) | exact HB.out)) hb); clear HO255; clear HB; have HO255 := n0_; have HO258 := n1_; have HB := n2_; clear n0_ n1_ n2_; clear hb ho13))
            go_loopg [28] kj2 (fun kq v28 w' => ∃ (x6_2 : List Bool) (x28_2 : Int), v28 = .int .i64 x28_2 ∧ Aside0 (impl_VisibleLines.l0 kq a0 t253 x6_2 l1 (l1.length : Int) x28_2 = some r) ∧ Aside0 (kq ≤ kj2) ∧ Aside0 (Kd.R (Kd.int .i64) 3 w' w.heap.size (fun _ => True) (.slice Ao11 t253.length co11) t253) ∧ Aside0 (Kd.R Kd.bool 4 w' w.heap.size (fun _ => True) v257 x6_2) ∧ Aside0 (Below w.heap.size w w'))
            case atStart => exact ⟨(y256), (0), (by first | rfl | (simp; done) | (simp [*]; done)), H', ⟨Nat.le_refl _⟩, ⟨by (with_reducible repeat (first | apply Kd.R_alloc | apply Kd.R_drewN | apply Kd.R_drew)); exact HO255.out⟩, ⟨by (with_reducible repeat (first | apply Kd.R_alloc | apply Kd.R_drewN | apply Kd.R_drew)); exact HO258.out⟩, ⟨by repeat (first | (with_reducible first | exact HB.out | apply below_alloc | apply pw_below_drewN | apply below_drew1) | exact HB.out)⟩⟩
            case round =>
              clear H'
              try clear c1
              try clear c2
              try clear p2
              try clear c4
              try clear c5
              try clear c6
              try clear c8
              try clear c8b0
              try clear c8b1
              try clear c9
              try clear c9b0
              try clear c9b1
              try clear p2
              obtain ⟨x6_2, x28_2, rfl, HA, HK2, HO_5, HO_6, HB⟩ := hrel
              cases gk with
              | zero => exact absurd HA.out (by simp [impl_VisibleLines.l0])
              | succ k2 =>
                have H := HA.out
                clear HA
                simp only [impl_VisibleLines.l0] at H
                by_cases c14 : x28_2 < (l1.length : Int)
                · rw [if_pos c14] at H
                  have c14b0 : decide (x28_2 < (l1.length : Int)) = true := decide_eq_true c14
                  clear c14
                  by_cases c15 : 0 ≤ x28_2
                  · rw [if_pos c15] at H
                    have c15b0 : decide (0 ≤ x28_2) = true := decide_eq_true c15
                    clear c15
                    by_cases c16 : x28_2 < (l1.length : Int)
                    · rw [if_pos c16] at H
                      have c16b0 : decide (x28_2 < (l1.length : Int)) = true := decide_eq_true c16
                      clear c16
                      replace H := Option.bind_eq_some_iff.mp H
                      obtain ⟨t260, A170, H⟩ := H
                      replace H : (if t260 = true then (impl_VisibleLines.l1 k2 a0 t253 x6_2 (rd l1 x28_2) (wrap64 ((rd l1 x28_2) + 1)) l1 (l1.length : Int) x28_2) else (impl_VisibleLines.l0 k2 a0 t253 x6_2 l1 (l1.length : Int) (wrap64 (x28_2 + 1)))) = some r := H
                      have A17 := Aside0.mk A170
                      clear A170
                      by_cases c18 : t260 = true
                      · subst c18
                        have H1 : (impl_VisibleLines.l1 k2 a0 t253 x6_2 (rd l1 x28_2) (wrap64 ((rd l1 x28_2) + 1)) l1 (l1.length : Int) x28_2) = some r := by rw [if_pos rfl] at H; exact H
                        clear H
                        have H := H1
                        clear H1
                        have H' := Aside0.mk H
                        clear H
                        have p259 : 0 ≤ (x28_2 : Int) := of_decide_eq_true (by first | (with_reducible assumption) | assumption)
                        have q259 : x28_2 < (l1.length : Int) := of_decide_eq_true (by first | (with_reducible assumption) | assumption)
                        obtain ⟨ad259, e259, hx259_0⟩ := Kd.at_int HR1.out x28_2 p259 q259
                        cases e259
                        replace hx259_0 := (HB.out.cell (World.block_lt_of_cell? w _ hx259_0)).trans hx259_0
                        replace p259 := eq_true p259
                        replace q259 := eq_true q259
                        go_wp2_with (first | ((with_reducible refine gate_callee (f := 36) rfl ?_); refine goesL_ (some 34) rfl rfl Tryd.func36 (by kernel_rfl) rfl #[.string a0, .int .i64 (rd l1 x28_2)] rfl (by (try simp only [List.map_toArray, List.map_cons, List.map_nil]); first | done | rfl | (simp only [List.length_drop, List.length_take]; rfl)) ?_; (with_reducible refine (impl_isLine.calls k2 a0 (rd l1 x28_2) true _ A17.out).mono ?_); rintro e w' ⟨rfl, ⟨nd, rfl⟩⟩; refine ⟨_, rfl, ?_⟩))
                        go_loopg [9] k2 (fun kq v9 w' => ∃ (x6_3 : List Bool) (x9_3 : Int), v9 = .int .i64 x9_3 ∧ Aside0 (impl_VisibleLines.l1 kq a0 t253 x6_3 (rd l1 x28_2) x9_3 l1 (l1.length : Int) x28_2 = some r) ∧ Aside0 (kq ≤ k2) ∧ Aside0 (Kd.R (Kd.int .i64) 3 w' w.heap.size (fun _ => True) (.slice Ao11 t253.length co11) t253) ∧ Aside0 (Kd.R Kd.bool 4 w' w.heap.size (fun _ => True) v257 x6_3) ∧ Aside0 (Below w.heap.size w w'))
                        case atStart => exact ⟨(x6_2), (wrap64 ((rd l1 x28_2) + 1)), (by first | rfl | (simp; done) | (simp [*]; done)), H', ⟨Nat.le_refl _⟩, ⟨by (with_reducible repeat (first | apply Kd.R_alloc | apply Kd.R_drewN | apply Kd.R_drew)); exact HO_5.out⟩, ⟨by (with_reducible repeat (first | apply Kd.R_alloc | apply Kd.R_drewN | apply Kd.R_drew)); exact HO_6.out⟩, ⟨by repeat (first | (with_reducible first | exact HB.out | apply below_alloc | apply pw_below_drewN | apply below_drew1) | exact HB.out)⟩⟩
                        case round =>
                          clear H'
                          try clear c1
                          try clear c2
                          try clear p2
                          try clear q2
                          try clear hx2
                          try clear c3
                          try clear c4
                          try clear c5
                          try clear c6
                          try clear p6
                          try clear c8
                          try clear c8b0
                          try clear c8b1
                          try clear c9
                          try clear c9b0
                          try clear c9b1
                          try clear c14
                          try clear c14b0
                          try clear c15
                          try clear c15b0
                          try clear c16
                          try clear c16b0
                          try clear c18
                          try clear hx259_0
                          try clear p2
                          try clear p259
                          try clear q259
                          obtain ⟨x6_3, x9_3, rfl, HA, HK3, HO_5, HO_6, HB⟩ := hrel
                          cases gk with
                          | zero => exact absurd HA.out (by simp [impl_VisibleLines.l1])
                          | succ k3 =>
                            have H := HA.out
                            clear HA
                            simp only [impl_VisibleLines.l1] at H
                            by_cases c19 : 0 ≤ (rd l1 x28_2)
                            · rw [if_pos c19] at H
                              have c19b0 : decide (0 ≤ (rd l1 x28_2)) = true := decide_eq_true c19
                              clear c19
                              by_cases c20 : (rd l1 x28_2) < (t253.length : Int)
                              · rw [if_pos c20] at H
                                have c20b0 : decide ((rd l1 x28_2) < (t253.length : Int)) = true := decide_eq_true c20
                                clear c20
                                by_cases c21 : x9_3 ≤ (rd t253 (rd l1 x28_2))
                                · rw [if_pos c21] at H
                                  have c21b0 : decide (x9_3 ≤ (rd t253 (rd l1 x28_2))) = true := decide_eq_true c21
                                  clear c21
                                  by_cases c22 : 0 ≤ x9_3
                                  · rw [if_pos c22] at H
                                    have c22b0 : decide (0 ≤ x9_3) = true := decide_eq_true c22
                                    clear c22
                                    by_cases c23 : x9_3 < (x6_3.length : Int)
                                    · rw [if_pos c23] at H
                                      have c23b0 : decide (x9_3 < (x6_3.length : Int)) = true := decide_eq_true c23
                                      clear c23
                                      obtain ⟨y262, hy262⟩ : ∃ y_ : List Bool, y_ = (x6_3.set (x9_3 : Int).toNat true) := ⟨_, rfl⟩
                                      replace H : (impl_VisibleLines.l1 k3 a0 t253 y262 (rd l1 x28_2) (wrap64 (x9_3 + 1)) l1 (l1.length : Int) x28_2) = some r := by first | (rw [hy262]; with_reducible exact H) | (have H2_ := (Option.bind_some _ _).symm.trans H; rw [hy262]; with_reducible exact H2_) | (have H2_ := (Option.bind_some _ _).symm.trans H; with_reducible exact H2_) | with_reducible exact H | (rw [hy262]; exact H) | exact H
                                      have Ny262 := Aside0.mk hy262
                                      clear hy262
                                      have H' := Aside0.mk H
                                      clear H
                                      have p261 : 0 ≤ ((rd l1 x28_2) : Int) := of_decide_eq_true (by first | (with_reducible assumption) | assumption)
                                      have q261 : (rd l1 x28_2) < (t253.length : Int) := of_decide_eq_true (by first | (with_reducible assumption) | assumption)
                                      obtain ⟨ad261, e261, hx261_0⟩ := Kd.at_int (Kd.R_reads' HO_5.out).2.2 (rd l1 x28_2) p261 q261
                                      cases e261
                                      replace p261 := eq_true p261
                                      replace q261 := eq_true q261
                                      have p24 : 0 ≤ (x9_3 : Int) := of_decide_eq_true (by first | (with_reducible assumption) | assumption)
                                      have q24 : (x9_3 : Int) < ((x6_3.length : Int) : Int) := of_decide_eq_true (by first | (with_reducible assumption) | assumption)
                                      obtain ⟨go24, co24, eo24, gb24, gl24, cl24, HG24⟩ := Kd.R_form HO_6.out (by omega)
                                      (first | cases eo24 | (injection eo24 with ea_ en_ ec_; (first | subst ea_ | (injection ea_ with ea_; subst ea_)); subst ec_; clear en_))
                                      have GB24 := Aside0.mk gb24
                                      have GG24 := Aside0.mk HG24
                                      clear gb24 gl24 HG24
                                      obtain ⟨hx24_0, hf24_0⟩ := Kd.R_celln false HO_6.out (x9_3 : Int) p24 q24
                                      replace p24 := eq_true p24
                                      replace q24 := eq_true q24
                                      have HP25 := Kd.R_putg HO_6.out (x9_3 : Int) true
                                      go_wp2_with (first | ((with_reducible refine gate_store (t := 4) (p := 48) rfl ?_); refine store_event (t := 4) (p := 48) (v := ?vo_w26) (w1 := (wr.setCell ⟨go24, (x9_3 : Int).toNat, none⟩ (.bool true))) ?hg ?ho ?hn ?hr ?_; (case ho => rfl); (case hg => rfl); (case hn => rfl); (case hr => first | (go_simp; done) | (go_simp; rfl)); intro w26 hw; have hg : wr.grownBy w26 (some go24) := (by rw [hw]; exact HP25.2); have hp_ : Kd.R Kd.bool 4 w26 w.heap.size (fun _ => True) (.slice (some ⟨go24, 0, none⟩) x6_3.length co24) y262 := (by rw [hw, Ny262.out]; exact HP25.1); clear HP25; have n0_ := Aside0.mk (Kd.R_over' (v := (.slice (some ⟨go24, 0, none⟩) x6_3.length co24)) (by (with_reducible repeat (first | apply Kd.R_alloc | apply Kd.R_drewN | apply Kd.R_drew)); exact HO_5.out) (Kd.R_typed HO_6.out) (by decide) hg); have n1_ := Aside0.mk (hp_); have n2_ := Aside0.mk ((by rw [hw]; exact below_set (HB.out) GB24.out : Below w.heap.size w w26)); clear HO_5; clear HO_6; clear HB; have HO_5 := n0_; have HO_6 := n1_; have HB := n2_; clear n0_ n1_ n2_; clear hg hw hp_))
                                      go_roundg k3
                                      case measure => have := HJ2.out; have := HK2.out; have := HK3.out; omega
                                      case rel => exact ⟨(y262), (wrap64 (x9_3 + 1)), (by first | rfl | (simp; done) | (simp [*]; done)), H', ⟨by have := HJ2.out; have := HK2.out; have := HK3.out; omega⟩, ⟨by (with_reducible repeat (first | apply Kd.R_alloc | apply Kd.R_drewN | apply Kd.R_drew)); exact HO_5.out⟩, ⟨by (with_reducible repeat (first | apply Kd.R_alloc | apply Kd.R_drewN | apply Kd.R_drew)); exact HO_6.out⟩, ⟨by repeat (first | (with_reducible first | exact HB.out | apply below_alloc | apply pw_below_drewN | apply below_drew1) | exact HB.out)⟩⟩
                                    · rw [if_neg c23] at H
                                      exact absurd H (by simp)
                                  · rw [if_neg c22] at H
                                    exact absurd H (by simp)
                                · rw [if_neg c21] at H
                                  have c21b0 : decide (x9_3 ≤ (rd t253 (rd l1 x28_2))) = false := decide_eq_false c21
                                  clear c21
                                  have H' := Aside0.mk H
                                  clear H
                                  have p261 : 0 ≤ ((rd l1 x28_2) : Int) := of_decide_eq_true (by first | (with_reducible assumption) | assumption)
                                  have q261 : (rd l1 x28_2) < (t253.length : Int) := of_decide_eq_true (by first | (with_reducible assumption) | assumption)
                                  obtain ⟨ad261, e261, hx261_0⟩ := Kd.at_int (Kd.R_reads' HO_5.out).2.2 (rd l1 x28_2) p261 q261
                                  cases e261
                                  replace p261 := eq_true p261
                                  replace q261 := eq_true q261
                                  go_wp2
                                  go_roundg k3
                                  case measure => have := HJ2.out; have := HK2.out; have := HK3.out; omega
                                  case rel => exact ⟨(x6_3), (wrap64 (x28_2 + 1)), (by first | rfl | (simp; done) | (simp [*]; done)), H', ⟨by have := HJ2.out; have := HK2.out; have := HK3.out; omega⟩, ⟨by (with_reducible repeat (first | apply Kd.R_alloc | apply Kd.R_drewN | apply Kd.R_drew)); exact HO_5.out⟩, ⟨by (with_reducible repeat (first | apply Kd.R_alloc | apply Kd.R_drewN | apply Kd.R_drew)); exact HO_6.out⟩, ⟨by repeat (first | (with_reducible first | exact HB.out | apply below_alloc | apply pw_below_drewN | apply below_drew1) | exact HB.out)⟩⟩
                              · rw [if_neg c20] at H
                                exact absurd H (by simp)
                            · rw [if_neg c19] at H
                              exact absurd H (by simp)
                      · replace c18 := Bool.eq_false_iff.mpr c18
                        subst c18
                        have H1 : (impl_VisibleLines.l0 k2 a0 t253 x6_2 l1 (l1.length : Int) (wrap64 (x28_2 + 1))) = some r := by rw [if_neg (show ¬ (false = true) by decide)] at H; exact H
                        clear H
                        have H := H1
                        clear H1
                        have H' := Aside0.mk H
                        clear H
                        have p259 : 0 ≤ (x28_2 : Int) := of_decide_eq_true (by first | (with_reducible assumption) | assumption)
                        have q259 : x28_2 < (l1.length : Int) := of_decide_eq_true (by first | (with_reducible assumption) | assumption)
                        obtain ⟨ad259, e259, hx259_0⟩ := Kd.at_int HR1.out x28_2 p259 q259
                        cases e259
                        replace hx259_0 := (HB.out.cell (World.block_lt_of_cell? w _ hx259_0)).trans hx259_0
                        replace p259 := eq_true p259
                        replace q259 := eq_true q259
                        go_wp2_with (first | ((with_reducible refine gate_callee (f := 36) rfl ?_); refine goesL_ (some 34) rfl rfl Tryd.func36 (by kernel_rfl) rfl #[.string a0, .int .i64 (rd l1 x28_2)] rfl (by (try simp only [List.map_toArray, List.map_cons, List.map_nil]); first | done | rfl | (simp only [List.length_drop, List.length_take]; rfl)) ?_; (with_reducible refine (impl_isLine.calls k2 a0 (rd l1 x28_2) false _ A17.out).mono ?_); rintro e w' ⟨rfl, ⟨nd, rfl⟩⟩; refine ⟨_, rfl, ?_⟩))
                        go_roundg k2
                        case measure => have := HJ2.out; have := HK2.out; omega
                        case rel => exact ⟨(x6_2), (wrap64 (x28_2 + 1)), (by first | rfl | (simp; done) | (simp [*]; done)), H', ⟨by have := HJ2.out; have := HK2.out; omega⟩, ⟨by (with_reducible repeat (first | apply Kd.R_alloc | apply Kd.R_drewN | apply Kd.R_drew)); exact HO_5.out⟩, ⟨by (with_reducible repeat (first | apply Kd.R_alloc | apply Kd.R_drewN | apply Kd.R_drew)); exact HO_6.out⟩, ⟨by repeat (first | (with_reducible first | exact HB.out | apply below_alloc | apply pw_below_drewN | apply below_drew1) | exact HB.out)⟩⟩
                    · rw [if_neg c16] at H
                      exact absurd H (by simp)
                  · rw [if_neg c15] at H
                    exact absurd H (by simp)
                · rw [if_neg c14] at H
                  have c14b0 : decide (x28_2 < (l1.length : Int)) = false := decide_eq_false c14
                  clear c14
                  have H' := Aside0.mk H
                  clear H
                  obtain ⟨Ao27, co27, eo27⟩ := Kd.R_slice HO_6.out
                  subst eo27
                  go_wp2
                  go_loopg [10, 52] k2 (fun kq v10 v52 w' => ∃ (x10_3 : List Int) (x52_3 : Int), v52 = .int .i64 x52_3 ∧ Aside0 (impl_VisibleLines.l2 kq x10_3 x6_2 (x6_2.length : Int) x52_3 = some r) ∧ Aside0 (kq ≤ k2) ∧ Aside0 (Kd.R (Kd.int .i64) 3 w' w.heap.size (fun _ => True) v10 x10_3) ∧ Aside0 (Kd.R Kd.bool 4 w' w.heap.size (fun _ => True) (.slice Ao27 x6_2.length co27) x6_2) ∧ Aside0 (Below w.heap.size w w'))
                  case atStart => exact ⟨(([] : List Int)), (0), (by first | rfl | (simp; done) | (simp [*]; done)), H', ⟨Nat.le_refl _⟩, ⟨by first | exact Kd.R_nil _ _ _ _ _ | exact Kd.N_nil _ _ _ _ _ | exact Kd.V_nil _ _ _ _ _ | exact Kd.Q_nil _ _ _ _ _ | exact Kd.S_nil _ _ _ _ _⟩, ⟨by (with_reducible repeat (first | apply Kd.R_alloc | apply Kd.R_drewN | apply Kd.R_drew)); exact HO_6.out⟩, ⟨by repeat (first | (with_reducible first | exact HB.out | apply below_alloc | apply pw_below_drewN | apply below_drew1) | exact HB.out)⟩⟩
                  case round =>
                    clear H'
                    try clear c1
                    try clear c2
                    try clear p2
                    try clear q2
                    try clear hx2
                    try clear hf2
                    try clear c3
                    try clear c4
                    try clear c5
                    try clear c6
                    try clear p6
                    try clear c8
                    try clear c8b0
                    try clear c8b1
                    try clear c9
                    try clear c9b0
                    try clear c9b1
                    try clear c14
                    try clear c14b0
                    try clear c15
                    try clear c15b0
                    try clear c16
                    try clear c16b0
                    try clear c18
                    try clear c19
                    try clear c19b0
                    try clear c20
                    try clear c20b0
                    try clear c21
                    try clear c21b0
                    try clear c22
                    try clear c22b0
                    try clear c23
                    try clear c23b0
                    try clear c24
                    try clear p24
                    try clear q24
                    try clear hx24
                    try clear hf24
                    try clear p25
                    try clear q25
                    try clear hx25
                    try clear p26
                    try clear q26
                    try clear hx26
                    try clear hx24_0
                    try clear hx259_0
                    try clear hx261_0
                    try clear p2
                    try clear p24
                    try clear p259
                    try clear p261
                    try clear p6
                    try clear q2
                    try clear q24
                    try clear q259
                    try clear q261
                    obtain ⟨x10_3, x52_3, rfl, HA, HK3, HO_10, HO_50, HB⟩ := hrel
                    cases gk with
                    | zero => exact absurd HA.out (by simp [impl_VisibleLines.l2])
                    | succ k3 =>
                      have H := HA.out
                      clear HA
                      simp only [impl_VisibleLines.l2] at H
                      by_cases c28 : x52_3 < (x6_2.length : Int)
                      · rw [if_pos c28] at H
                        have c28b0 : decide (x52_3 < (x6_2.length : Int)) = true := decide_eq_true c28
                        clear c28
                        by_cases c29 : 0 ≤ x52_3
                        · rw [if_pos c29] at H
                          have c29b0 : decide (0 ≤ x52_3) = true := decide_eq_true c29
                          clear c29
                          by_cases c30 : x52_3 < (x6_2.length : Int)
                          · rw [if_pos c30] at H
                            have c30b0 : decide (x52_3 < (x6_2.length : Int)) = true := decide_eq_true c30
                            clear c30
                            obtain ⟨bq31, hbq31⟩ : ∃ b_ : Bool, b_ = (rdOf false x6_2 x52_3) := ⟨_, rfl⟩
                            replace H : (if bq31 = true then (impl_VisibleLines.l2 k3 x10_3 x6_2 (x6_2.length : Int) (wrap64 (x52_3 + 1))) else (if x10_3.length < 17592186044416 then (impl_VisibleLines.l2 k3 (x10_3 ++ [x52_3]) x6_2 (x6_2.length : Int) (wrap64 (x52_3 + 1))) else (none))) = some r := by rw [← hbq31] at H; exact H
                            have Nbq31 := Aside0.mk hbq31
                            clear hbq31
                            by_cases c32 : bq31 = true
                            · subst c32
                              have H1 : (impl_VisibleLines.l2 k3 x10_3 x6_2 (x6_2.length : Int) (wrap64 (x52_3 + 1))) = some r := by rw [if_pos rfl] at H; exact H
                              clear H
                              have H := H1
                              clear H1
                              have H' := Aside0.mk H
                              clear H
                              have p263 : 0 ≤ (x52_3 : Int) := of_decide_eq_true (by first | (with_reducible assumption) | assumption)
                              have q263 : x52_3 < (x6_2.length : Int) := of_decide_eq_true (by first | (with_reducible assumption) | assumption)
                              obtain ⟨ad263, e263, hx263_0⟩ := Kd.at_bool (Kd.R_reads' HO_50.out).2.2 x52_3 p263 q263
                              (try rw [← Nbq31.out] at hx263_0)
                              cases e263
                              replace p263 := eq_true p263
                              replace q263 := eq_true q263
                              go_wp2
                              go_roundg k3
                              case measure => have := HJ2.out; have := HK2.out; have := HK3.out; omega
                              case rel => exact ⟨(x10_3), (wrap64 (x52_3 + 1)), (by first | rfl | (simp; done) | (simp [*]; done)), H', ⟨by have := HJ2.out; have := HK2.out; have := HK3.out; omega⟩, ⟨by (with_reducible repeat (first | apply Kd.R_alloc | apply Kd.R_drewN | apply Kd.R_drew)); exact HO_10.out⟩, ⟨by (with_reducible repeat (first | apply Kd.R_alloc | apply Kd.R_drewN | apply Kd.R_drew)); exact HO_50.out⟩, ⟨by repeat (first | (with_reducible first | exact HB.out | apply below_alloc | apply pw_below_drewN | apply below_drew1) | exact HB.out)⟩⟩
                            · replace c32 := Bool.eq_false_iff.mpr c32
                              subst c32
                              have H1 : (if x10_3.length < 17592186044416 then (impl_VisibleLines.l2 k3 (x10_3 ++ [x52_3]) x6_2 (x6_2.length : Int) (wrap64 (x52_3 + 1))) else (none)) = some r := by rw [if_neg (show ¬ (false = true) by decide)] at H; exact H
                              clear H
                              have H := H1
                              clear H1
                              by_cases c33 : x10_3.length < 17592186044416
                              · rw [if_pos c33] at H
                                have LMc33 := Aside0.mk c33
                                clear c33
                                obtain ⟨y264, hy264⟩ : ∃ y_ : List Int, y_ = (x10_3 ++ [x52_3]) := ⟨_, rfl⟩
                                replace H : (impl_VisibleLines.l2 k3 y264 x6_2 (x6_2.length : Int) (wrap64 (x52_3 + 1))) = some r := by first | (rw [hy264]; with_reducible exact H) | (have H2_ := (Option.bind_some _ _).symm.trans H; rw [hy264]; with_reducible exact H2_) | (have H2_ := (Option.bind_some _ _).symm.trans H; with_reducible exact H2_) | with_reducible exact H | (rw [hy264]; exact H) | exact H
                                have Ny264 := Aside0.mk hy264
                                clear hy264
                                have H' := Aside0.mk H
                                clear H
                                have p263 : 0 ≤ (x52_3 : Int) := of_decide_eq_true (by first | (with_reducible assumption) | assumption)
                                have q263 : x52_3 < (x6_2.length : Int) := of_decide_eq_true (by first | (with_reducible assumption) | assumption)
                                obtain ⟨ad263, e263, hx263_0⟩ := Kd.at_bool (Kd.R_reads' HO_50.out).2.2 x52_3 p263 q263
                                (try rw [← Nbq31.out] at hx263_0)
                                cases e263
                                replace p263 := eq_true p263
                                replace q263 := eq_true q263
                                go_wp2_with (first | ((with_reducible refine gate_builtin (b := .append) (xs := #[.tmp 59, .tmp 61]) rfl ?_); (try (refine gate_guard (by rfl) ?_; dsimp only)); at_builtin; refine Kd.R_append (Kd.int .i64) (w0 := w) w.heap.size rfl (.tmp 59) (.tmp 61) 29 3 (.int .i64 0) 8 rfl Tryd.underlying29 info3 rfl (by decide) (by omega) u10 x10_3 x52_3 [.int .i64 x52_3] (fun _ => True) (fun _ => False) rfl rfl ?aP (fun _ hk => hk.elim) ?aF ?aO ?aB ?aS ?aL ?_; (case aP => exact rfl); (case aB => exact (by repeat (first | (with_reducible first | exact HB.out | apply below_alloc | apply pw_below_drewN | apply below_drew1) | exact HB.out))); (case aF => exact (fun _ _ => trivial)); (case aO => exact (by (with_reducible repeat (first | apply Kd.R_alloc | apply Kd.R_drewN | apply Kd.R_drew)); exact HO_10.out)); (case aS => exact (below_size (by repeat (first | (with_reducible first | exact HB.out | apply below_alloc | apply pw_below_drewN | apply below_drew1) | exact HB.out)))); (case aL => have := LMc33.out; omega); intro v265 w34 ho hb hg hat; rw [← Ny264.out] at ho; have n0_ := Aside0.mk (Kd.R_over' (by (with_reducible repeat (first | apply Kd.R_alloc | apply Kd.R_drewN | apply Kd.R_drew)); exact HO_50.out) (Kd.R_typed (by (with_reducible repeat (first | apply Kd.R_alloc | apply Kd.R_drewN | apply Kd.R_drew)); exact HO_10.out)) (by decide) hg); have n1_ := Aside0.mk (hb); have n2_ := Aside0.mk (ho); clear HO_50; clear HB; clear HO_10; have HO_50 := n0_; have HB := n1_; have HO266 := n2_; clear n0_ n1_ n2_; clear ho hb hg hat))
                                go_roundg k3
                                case measure => have := HJ2.out; have := HK2.out; have := HK3.out; omega
                                case rel => exact ⟨(y264), (wrap64 (x52_3 + 1)), (by first | rfl | (simp; done) | (simp [*]; done)), H', ⟨by have := HJ2.out; have := HK2.out; have := HK3.out; omega⟩, ⟨by (with_reducible repeat (first | apply Kd.R_alloc | apply Kd.R_drewN | apply Kd.R_drew)); exact HO266.out⟩, ⟨by (with_reducible repeat (first | apply Kd.R_alloc | apply Kd.R_drewN | apply Kd.R_drew)); exact HO_50.out⟩, ⟨by repeat (first | (with_reducible first | exact HB.out | apply below_alloc | apply pw_below_drewN | apply below_drew1) | exact HB.out)⟩⟩
                              · rw [if_neg c33] at H
                                exact absurd H (by simp)
                          · rw [if_neg c30] at H
                            exact absurd H (by simp)
                        · rw [if_neg c29] at H
                          exact absurd H (by simp)
                      · rw [if_neg c28] at H
                        have c28b0 : decide (x52_3 < (x6_2.length : Int)) = false := decide_eq_false c28
                        clear c28
                        obtain rfl := Option.some.inj H
                        go_wp2
                        go_ret
                        exact ⟨_, by first | rfl | (simp [errW_none, errW_some] <;> rfl) | (simp [*, errW_none, errW_some] <;> rfl), by (with_reducible repeat (first | apply Kd.R_alloc | apply Kd.R_drewN | apply Kd.R_drew)); exact HO_10.out, by repeat (first | (with_reducible first | exact HB.out | apply below_alloc | apply pw_below_drewN | apply below_drew1) | exact HB.out)⟩
          · rw [if_neg c9] at H
            exact absurd H (by simp)
        · rw [if_neg c8] at H
          exact absurd H (by simp)

end Go.Proofs.YtdpnfdoplahfgaaDoor.X
