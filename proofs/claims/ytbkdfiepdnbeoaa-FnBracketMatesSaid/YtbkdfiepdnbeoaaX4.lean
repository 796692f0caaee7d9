-- written by a program of this session (wip/xprint.py) out of the translation
import Derived.Test.YtbkdfiepdnbeoaaX0
import Derived.Test.YtbkdfiepdnbeoaaX2
namespace Go.Proofs.Ytbkdfiepdnbeoaa.X
open Go.RowKit Go.Proofs.YtbkdfiepdnbeoaaW.PrintWords Go.Proofs.YtbkdfiepdnbeoaaW.PrintLast Go.Proofs.YtbkdfiepdnbeoaaW.PrintMore
attribute [local go_sem] max2_int min2_int max_two min_two max_three min_three max_four min_four   -- for this text's walks alone
set_option linter.unusedVariables false
set_option linter.unusedSimpArgs false

/-! ### impl_BracketMates: function 20 -/
def impl_BracketMates.l0 : Nat → ByteArray → List Int → List Int → Int → Int → Option (List Int)
  | 0, _, _, _, _, _ => none
  | k + 1, x0, x3, x4, x15, x16 => if x16 < x15 then (if 0 ≤ x16 then (if x16 < (x3.length : Int) then ((some (x3.set (x16 : Int).toNat (-1) : List Int)).bind fun y171 => (if x16 < (x0.size : Int) then ((strings_IndexByte.f (⟨#[40, 91, 123]⟩ : ByteArray) (bt x0 x16)).bind fun t172 => (if t172 ≥ 0 then (if x4.length < 17592186044416 then ((some (x4 ++ [x16] : List Int)).bind fun y173 => ((strings_IndexByte.f (⟨#[41, 93, 125]⟩ : ByteArray) (bt x0 x16)).bind fun t176 => (if t176 ≥ 0 then (if (wrap64 ((y173.length : Int) - 1)) ≥ 0 then (if 0 ≤ (wrap64 ((y173.length : Int) - 1)) then (if (wrap64 ((y173.length : Int) - 1)) < (y173.length : Int) then (if 0 ≤ (rd y173 (wrap64 ((y173.length : Int) - 1))) then (if (rd y173 (wrap64 ((y173.length : Int) - 1))) < (x0.size : Int) then (if 0 ≤ t176 then (if t176 < 3 then (if (bt x0 (rd y173 (wrap64 ((y173.length : Int) - 1)))) = (bt (⟨#[40, 91, 123]⟩ : ByteArray) t176) then (if (rd y173 (wrap64 ((y173.length : Int) - 1))) < (x3.length : Int) then (if (wrap64 ((y173.length : Int) - 1)) ≤ (y173.length : Int) then (impl_BracketMates.l0 k x0 ((y171.set (x16 : Int).toNat (rd y173 (wrap64 ((y173.length : Int) - 1)))).set ((rd y173 (wrap64 ((y173.length : Int) - 1))) : Int).toNat x16) (y173.take ((wrap64 ((y173.length : Int) - 1)) : Int).toNat) x15 (wrap64 (x16 + 1))) else (none)) else (none)) else (impl_BracketMates.l0 k x0 y171 y173 x15 (wrap64 (x16 + 1)))) else (none)) else (none)) else (none)) else (none)) else (none)) else (none)) else (impl_BracketMates.l0 k x0 y171 y173 x15 (wrap64 (x16 + 1)))) else (impl_BracketMates.l0 k x0 y171 y173 x15 (wrap64 (x16 + 1)))))) else (none)) else ((strings_IndexByte.f (⟨#[41, 93, 125]⟩ : ByteArray) (bt x0 x16)).bind fun t185 => (if t185 ≥ 0 then (if (wrap64 ((x4.length : Int) - 1)) ≥ 0 then (if 0 ≤ (wrap64 ((x4.length : Int) - 1)) then (if (wrap64 ((x4.length : Int) - 1)) < (x4.length : Int) then (if 0 ≤ (rd x4 (wrap64 ((x4.length : Int) - 1))) then (if (rd x4 (wrap64 ((x4.length : Int) - 1))) < (x0.size : Int) then (if 0 ≤ t185 then (if t185 < 3 then (if (bt x0 (rd x4 (wrap64 ((x4.length : Int) - 1)))) = (bt (⟨#[40, 91, 123]⟩ : ByteArray) t185) then (if (rd x4 (wrap64 ((x4.length : Int) - 1))) < (x3.length : Int) then (if (wrap64 ((x4.length : Int) - 1)) ≤ (x4.length : Int) then (impl_BracketMates.l0 k x0 ((y171.set (x16 : Int).toNat (rd x4 (wrap64 ((x4.length : Int) - 1)))).set ((rd x4 (wrap64 ((x4.length : Int) - 1))) : Int).toNat x16) (x4.take ((wrap64 ((x4.length : Int) - 1)) : Int).toNat) x15 (wrap64 (x16 + 1))) else (none)) else (none)) else (impl_BracketMates.l0 k x0 y171 x4 x15 (wrap64 (x16 + 1)))) else (none)) else (none)) else (none)) else (none)) else (none)) else (none)) else (impl_BracketMates.l0 k x0 y171 x4 x15 (wrap64 (x16 + 1)))) else (impl_BracketMates.l0 k x0 y171 x4 x15 (wrap64 (x16 + 1))))))) else (none))) else (none)) else (none)) else (some x3)
def impl_BracketMates.f (k : Nat) (a0 : ByteArray) : Option (List Int) := (impl_TextValid.f k a0).bind fun t167 => (if t167 = true then (if 0 ≤ (a0.size : Int) then (if ((a0.size : Int) : Int).toNat ≤ 35184372088832 then (impl_BracketMates.l0 k a0 (List.replicate ((a0.size : Int) : Int).toNat 0) ([] : List Int) (a0.size : Int) 0) else (none)) else (none)) else (some ([] : List Int)))
theorem impl_BracketMates.mono_l : ∀ k, (∀ y0 y1 y2 y3 y4, LeO (impl_BracketMates.l0 k y0 y1 y2 y3 y4) (impl_BracketMates.l0 (k + 1) y0 y1 y2 y3 y4))
  | 0 => fun _ _ _ _ _ r h => by simp [impl_BracketMates.l0] at h
  | k + 1 => by
    have ih0 := impl_BracketMates.mono_l k
    · intro y0 y1 y2 y3 y4
      unfold impl_BracketMates.l0
      repeat' first
      | (with_reducible exact ih0 _ _ _ _ _)
      | (with_reducible exact impl_TextValid.mono _ _)
      | (with_reducible exact LeO.refl _)
      | (with_reducible exact LeO.none _)
      | (with_reducible refine LeO.ite ?_ ?_)
      | (with_reducible refine LeO.bind ?_ (fun _ => ?_))
      | exact ih0 _ _ _ _ _
      | exact impl_TextValid.mono _ _
      | exact LeO.none _
      | refine LeO.ite ?_ ?_
      | refine LeO.bind ?_ (fun _ => ?_)
theorem impl_BracketMates.mono : ∀ a0 k, LeO (impl_BracketMates.f k a0) (impl_BracketMates.f (k + 1) a0) := by
  intro a0 k
  have ih0 := impl_BracketMates.mono_l k
  unfold impl_BracketMates.f
  repeat' first
      | (with_reducible exact ih0 _ _ _ _ _)
      | (with_reducible exact impl_TextValid.mono _ _)
      | (with_reducible exact LeO.refl _)
      | (with_reducible exact LeO.none _)
      | (with_reducible refine LeO.ite ?_ ?_)
      | (with_reducible refine LeO.bind ?_ (fun _ => ?_))
      | exact ih0 _ _ _ _ _
      | exact impl_TextValid.mono _ _
      | exact LeO.none _
      | refine LeO.ite ?_ ?_
      | refine LeO.bind ?_ (fun _ => ?_)
def impl_BracketMates.T13 : Bool × List (List Nat × List Nat) := (true, [([], []), ([0], [0]), ([1], [1]), ([2], [2]), ([3, 2], [2, 3]), ([2, 4], [2, 4]), ([5, 2], [5]), ([6], [6]), ([6], [6]), ([6], [6]), ([8, 9, 6], [6, 8, 9]), ([10, 6], [6, 10]), ([7, 11, 6], [6, 7, 11]), ([6], [6]), ([13, 6], [6, 13]), ([12, 14, 6], [6, 12, 14]), ([6, 15], [6, 15])])
def impl_BracketMates.B13 : List Nat := [0, 1, 3, 7, 15, 31, 63, 127, 127, 127, 895, 1919, 4095, 127, 8319, 32767, 65535]
theorem impl_BracketMates.tab13 : rtab .any (opsOf Try.f20 13) = impl_BracketMates.T13 := by kernel_rfl
theorem impl_BracketMates.bits13 : waitsOk impl_BracketMates.T13.2 impl_BracketMates.B13 = true := by kernel_rfl
def impl_BracketMates.T14 : Bool × List (List Nat × List Nat) := (true, [([], []), ([], []), ([], []), ([], []), ([], []), ([3, 4], [3, 4]), ([5], [5]), ([], []), ([], []), ([7, 8], [7, 8]), ([9], [9]), ([], []), ([0, 1, 0, 1, 6, 7, 8, 9, 10], [0, 1]), ([12, 10, 0, 1, 6, 7, 8, 9, 10], [10, 12]), ([2, 6, 0, 1, 2, 3, 4, 5, 6, 7, 8, 9, 10, 11, 12, 13], [2, 6]), ([14, 11, 13, 0, 1, 2, 3, 4, 5, 6, 7, 8, 9, 10, 11, 12, 13], [11, 14])])
def impl_BracketMates.B14 : List Nat := [0, 0, 0, 0, 0, 24, 56, 0, 0, 384, 896, 0, 2043, 6139, 16383, 32767]
theorem impl_BracketMates.tab14 : rtab .any (opsOf Try.f20 14) = impl_BracketMates.T14 := by kernel_rfl
theorem impl_BracketMates.bits14 : waitsOk impl_BracketMates.T14.2 impl_BracketMates.B14 = true := by kernel_rfl
set_option maxHeartbeats 8000000 in
set_option maxRecDepth 100000 in
theorem impl_BracketMates.calls (k : Nat) (a0 : ByteArray) (r : List Int) (w : World) (h : impl_BracketMates.f k a0 = some r) :
    Calls Try.prog 20 #[.string a0] w fun e w' => ∃ v0_ : Value, e = .returned (v0_) ∧ Kd.R (Kd.int .i64) 3 w' w.heap.size (fun _ => True) v0_ r ∧ Below w.heap.size w w' := by
  have HB := Aside0.mk (Below.refl w.heap.size w)
  have H : ((impl_TextValid.f k a0).bind fun t167 => (if t167 = true then (if 0 ≤ (a0.size : Int) then (if ((a0.size : Int) : Int).toNat ≤ 35184372088832 then (impl_BracketMates.l0 k a0 (List.replicate ((a0.size : Int) : Int).toNat 0) ([] : List Int) (a0.size : Int) 0) else (none)) else (none)) else (some ([] : List Int)))) = some r := h
  clear h
  replace H := Option.bind_eq_some_iff.mp H
  obtain ⟨t167, A20, H⟩ := H
  replace H : (if t167 = true then (if 0 ≤ (a0.size : Int) then (if ((a0.size : Int) : Int).toNat ≤ 35184372088832 then (impl_BracketMates.l0 k a0 (List.replicate ((a0.size : Int) : Int).toNat 0) ([] : List Int) (a0.size : Int) 0) else (none)) else (none)) else (some ([] : List Int))) = some r := H
  have A2 := Aside0.mk A20
  clear A20
  by_cases c3 : t167 = true
  · subst c3
    have H1 : (if 0 ≤ (a0.size : Int) then (if ((a0.size : Int) : Int).toNat ≤ 35184372088832 then (impl_BracketMates.l0 k a0 (List.replicate ((a0.size : Int) : Int).toNat 0) ([] : List Int) (a0.size : Int) 0) else (none)) else (none)) = some r := by rw [if_pos rfl] at H; exact H
    clear H
    have H := H1
    clear H1
    by_cases c4 : 0 ≤ (a0.size : Int)
    · rw [if_pos c4] at H
      have c4b0 := eq_true c4
      have c4b1 : decide (0 ≤ (a0.size : Int)) = true := decide_eq_true c4
      clear c4
      by_cases c5 : ((a0.size : Int) : Int).toNat ≤ 35184372088832
      · rw [if_pos c5] at H
        have c5b0 := eq_true c5
        have c5b1 : decide (((a0.size : Int) : Int).toNat ≤ 35184372088832) = true := decide_eq_true c5
        clear c5
        obtain ⟨y168, hy168⟩ : ∃ y_ : List Int, y_ = (List.replicate ((a0.size : Int) : Int).toNat 0) := ⟨_, rfl⟩
        replace H : (impl_BracketMates.l0 k a0 y168 ([] : List Int) (a0.size : Int) 0) = some r := by first | (rw [hy168]; with_reducible exact H) | (have H2_ := (Option.bind_some _ _).symm.trans H; rw [hy168]; with_reducible exact H2_) | (have H2_ := (Option.bind_some _ _).symm.trans H; with_reducible exact H2_) | with_reducible exact H | (rw [hy168]; exact H) | exact H
        have Ny168 := Aside0.mk hy168
        clear hy168
        have H' := Aside0.mk H
        clear H
        go_enter Try.func20, Try.ntmps20
        go_wp2_with (first | ((with_reducible refine gate_callee (f := 46) rfl ?_); refine goesL_ (some 9) rfl rfl Try.func46 (by kernel_rfl) rfl #[.string a0] rfl (by (try simp only [List.map_toArray, List.map_cons, List.map_nil]); first | done | rfl | (simp only [List.length_drop, List.length_take]; rfl)) ?_; (with_reducible refine (impl_TextValid.calls k a0 true _ A2.out).mono ?_); rintro e w' ⟨rfl, ⟨nd, rfl⟩⟩; refine ⟨_, rfl, ?_⟩) | ((with_reducible refine gate_dst (N := 13) rfl ?_); refine Kd.R_make (Kd.int .i64) _ 3 rfl (N := 13) rfl 26 _ _ rfl (a0.size : Int) rfl rfl Try.underlying26 (.int .i64 0) 8 info3 rfl (by decide) (by omega) 0 (ok := fun _ => True) (okp := fun _ => True) rfl (fun _ hk => hk) trivial (of_decide_eq_true (by first | (with_reducible assumption) | assumption)) (Nat.le_trans (Nat.mul_le_mul_right _ (of_decide_eq_true (by first | (with_reducible assumption) | assumption) : (a0.size : Int).toNat ≤ 35184372088832)) (by omega)) (Below.refl _ _) (Nat.le_refl _) ?_; intro v169 w6 ho7 hb hg_ hnew_; clear hg_ hnew_; (first | rw [← Ny168.out] at ho7 | (simp only [Int.reduceToNat] at ho7; rw [← Ny168.out] at ho7)); have n0_ := Aside0.mk (Kd.R_lower ho7 (below_size (by repeat (first | (with_reducible first | exact HB.out | apply below_alloc | apply pw_below_drewN | apply below_drew1) | exact HB.out)))); have n1_ := Aside0.mk (below_step (by repeat (first | (with_reducible first | exact HB.out | apply below_alloc | apply pw_below_drewN | apply below_drew1) | exact HB.out)) hb); clear HB; have HO170 := n0_; have HB := n1_; clear n0_ n1_; clear hb ho7))
        go_loopg [4, 16] k (fun kq v4 v16 w' => ∃ (x3_1 : List Int) (x4_1 : List Int) (x16_1 : Int), v16 = .int .i64 x16_1 ∧ Aside0 (impl_BracketMates.l0 kq a0 x3_1 x4_1 (a0.size : Int) x16_1 = some r) ∧ Aside0 (kq ≤ k) ∧ Aside0 (Kd.R (Kd.int .i64) 3 w' w.heap.size (fun k_ => some k_ ≠ (v4 : Value).ownBlock) v169 x3_1) ∧ Aside0 (Kd.R (Kd.int .i64) 3 w' w.heap.size (fun k_ => some k_ ≠ (v169 : Value).ownBlock) v4 x4_1) ∧ Aside0 (Below w.heap.size w w'))
        case atStart => exact ⟨(y168), (([] : List Int)), (0), (by first | rfl | (simp; done) | (simp [*]; done)), H', ⟨Nat.le_refl _⟩, ⟨by (with_reducible repeat (first | apply Kd.R_alloc | apply Kd.R_drewN | apply Kd.R_drew)); exact Kd.R_mono HO170.out (fun _ hk => (by simp [Value.ownBlock]))⟩, ⟨by first | exact Kd.R_nil _ _ _ _ _ | exact Kd.N_nil _ _ _ _ _ | exact Kd.V_nil _ _ _ _ _ | exact Kd.Q_nil _ _ _ _ _ | exact Kd.S_nil _ _ _ _ _⟩, ⟨by repeat (first | (with_reducible first | exact HB.out | apply below_alloc | apply pw_below_drewN | apply below_drew1) | exact HB.out)⟩⟩
        case round =>
          clear H'
          try clear c2
          try clear p2
          try clear c3
          try clear c4
          try clear c4b0
          try clear c4b1
          try clear c5
          try clear c5b0
          try clear c5b1
          obtain ⟨x3_1, x4_1, x16_1, rfl, HA, HK1, HO_3, HO_4, HB⟩ := hrel
          cases gk with
          | zero => exact absurd HA.out (by simp [impl_BracketMates.l0])
          | succ k1 =>
            have H := HA.out
            clear HA
            simp only [impl_BracketMates.l0] at H
            by_cases c8 : x16_1 < (a0.size : Int)
            · rw [if_pos c8] at H
              have c8b0 : decide (x16_1 < (a0.size : Int)) = true := decide_eq_true c8
              clear c8
              by_cases c9 : 0 ≤ x16_1
              · rw [if_pos c9] at H
                have c9b0 : decide (0 ≤ x16_1) = true := decide_eq_true c9
                clear c9
                by_cases c10 : x16_1 < (x3_1.length : Int)
                · rw [if_pos c10] at H
                  have c10b0 : decide (x16_1 < (x3_1.length : Int)) = true := decide_eq_true c10
                  clear c10
                  obtain ⟨y171, hy171⟩ : ∃ y_ : List Int, y_ = (x3_1.set (x16_1 : Int).toNat (-1)) := ⟨_, rfl⟩
                  replace H : (if x16_1 < (a0.size : Int) then ((strings_IndexByte.f (⟨#[40, 91, 123]⟩ : ByteArray) (bt a0 x16_1)).bind fun t172 => (if t172 ≥ 0 then (if x4_1.length < 17592186044416 then ((some (x4_1 ++ [x16_1] : List Int)).bind fun y173 => ((strings_IndexByte.f (⟨#[41, 93, 125]⟩ : ByteArray) (bt a0 x16_1)).bind fun t176 => (if t176 ≥ 0 then (if (wrap64 ((y173.length : Int) - 1)) ≥ 0 then (if 0 ≤ (wrap64 ((y173.length : Int) - 1)) then (if (wrap64 ((y173.length : Int) - 1)) < (y173.length : Int) then (if 0 ≤ (rd y173 (wrap64 ((y173.length : Int) - 1))) then (if (rd y173 (wrap64 ((y173.length : Int) - 1))) < (a0.size : Int) then (if 0 ≤ t176 then (if t176 < 3 then (if (bt a0 (rd y173 (wrap64 ((y173.length : Int) - 1)))) = (bt (⟨#[40, 91, 123]⟩ : ByteArray) t176) then (if (rd y173 (wrap64 ((y173.length : Int) - 1))) < (x3_1.length : Int) then (if (wrap64 ((y173.length : Int) - 1)) ≤ (y173.length : Int) then (impl_BracketMates.l0 k1 a0 ((y171.set (x16_1 : Int).toNat (rd y173 (wrap64 ((y173.length : Int) - 1)))).set ((rd y173 (wrap64 ((y173.length : Int) - 1))) : Int).toNat x16_1) (y173.take ((wrap64 ((y173.length : Int) - 1)) : Int).toNat) (a0.size : Int) (wrap64 (x16_1 + 1))) else (none)) else (none)) else (impl_BracketMates.l0 k1 a0 y171 y173 (a0.size : Int) (wrap64 (x16_1 + 1)))) else (none)) else (none)) else (none)) else (none)) else (none)) else (none)) else (impl_BracketMates.l0 k1 a0 y171 y173 (a0.size : Int) (wrap64 (x16_1 + 1)))) else (impl_BracketMates.l0 k1 a0 y171 y173 (a0.size : Int) (wrap64 (x16_1 + 1)))))) else (none)) else ((strings_IndexByte.f (⟨#[41, 93, 125]⟩ : ByteArray) (bt a0 x16_1)).bind fun t185 => (if t185 ≥ 0 then (if (wrap64 ((x4_1.length : Int) - 1)) ≥ 0 then (if 0 ≤ (wrap64 ((x4_1.length : Int) - 1)) then (if (wrap64 ((x4_1.length : Int) - 1)) < (x4_1.length : Int) then (if 0 ≤ (rd x4_1 (wrap64 ((x4_1.length : Int) - 1))) then (if (rd x4_1 (wrap64 ((x4_1.length : Int) - 1))) < (a0.size : Int) then (if 0 ≤ t185 then (if t185 < 3 then (if (bt a0 (rd x4_1 (wrap64 ((x4_1.length : Int) - 1)))) = (bt (⟨#[40, 91, 123]⟩ : ByteArray) t185) then (if (rd x4_1 (wrap64 ((x4_1.length : Int) - 1))) < (x3_1.length : Int) then (if (wrap64 ((x4_1.length : Int) - 1)) ≤ (x4_1.length : Int) then (impl_BracketMates.l0 k1 a0 ((y171.set (x16_1 : Int).toNat (rd x4_1 (wrap64 ((x4_1.length : Int) - 1)))).set ((rd x4_1 (wrap64 ((x4_1.length : Int) - 1))) : Int).toNat x16_1) (x4_1.take ((wrap64 ((x4_1.length : Int) - 1)) : Int).toNat) (a0.size : Int) (wrap64 (x16_1 + 1))) else (none)) else (none)) else (impl_BracketMates.l0 k1 a0 y171 x4_1 (a0.size : Int) (wrap64 (x16_1 + 1)))) else (none)) else (none)) else (none)) else (none)) else (none)) else (none)) else (impl_BracketMates.l0 k1 a0 y171 x4_1 (a0.size : Int) (wrap64 (x16_1 + 1)))) else (impl_BracketMates.l0 k1 a0 y171 x4_1 (a0.size : Int) (wrap64 (x16_1 + 1))))))) else (none)) = some r := by first | (rw [hy171]; with_reducible exact H) | (have H2_ := (Option.bind_some _ _).symm.trans H; rw [hy171]; with_reducible exact H2_) | (have H2_ := (Option.bind_some _ _).symm.trans H; with_reducible exact H2_) | with_reducible exact H | (rw [hy171]; exact H) | exact H
                  have Ny171 := Aside0.mk hy171
                  clear hy171
                  by_cases c12 : x16_1 < (a0.size : Int)
                  · rw [if_pos c12] at H
                    have c12b0 : decide (x16_1 < (a0.size : Int)) = true := decide_eq_true c12
                    clear c12
                    replace H := Option.bind_eq_some_iff.mp H
                    obtain ⟨t172, A140, H⟩ := H
                    replace H : (if t172 ≥ 0 then (if x4_1.length < 17592186044416 then ((some (x4_1 ++ [x16_1] : List Int)).bind fun y173 => ((strings_IndexByte.f (⟨#[41, 93, 125]⟩ : ByteArray) (bt a0 x16_1)).bind fun t176 => (if t176 ≥ 0 then (if (wrap64 ((y173.length : Int) - 1)) ≥ 0 then (if 0 ≤ (wrap64 ((y173.length : Int) - 1)) then (if (wrap64 ((y173.length : Int) - 1)) < (y173.length : Int) then (if 0 ≤ (rd y173 (wrap64 ((y173.length : Int) - 1))) then (if (rd y173 (wrap64 ((y173.length : Int) - 1))) < (a0.size : Int) then (if 0 ≤ t176 then (if t176 < 3 then (if (bt a0 (rd y173 (wrap64 ((y173.length : Int) - 1)))) = (bt (⟨#[40, 91, 123]⟩ : ByteArray) t176) then (if (rd y173 (wrap64 ((y173.length : Int) - 1))) < (x3_1.length : Int) then (if (wrap64 ((y173.length : Int) - 1)) ≤ (y173.length : Int) then (impl_BracketMates.l0 k1 a0 ((y171.set (x16_1 : Int).toNat (rd y173 (wrap64 ((y173.length : Int) - 1)))).set ((rd y173 (wrap64 ((y173.length : Int) - 1))) : Int).toNat x16_1) (y173.take ((wrap64 ((y173.length : Int) - 1)) : Int).toNat) (a0.size : Int) (wrap64 (x16_1 + 1))) else (none)) else (none)) else (impl_BracketMates.l0 k1 a0 y171 y173 (a0.size : Int) (wrap64 (x16_1 + 1)))) else (none)) else (none)) else (none)) else (none)) else (none)) else (none)) else (impl_BracketMates.l0 k1 a0 y171 y173 (a0.size : Int) (wrap64 (x16_1 + 1)))) else (impl_BracketMates.l0 k1 a0 y171 y173 (a0.size : Int) (wrap64 (x16_1 + 1)))))) else (none)) else ((strings_IndexByte.f (⟨#[41, 93, 125]⟩ : ByteArray) (bt a0 x16_1)).bind fun t185 => (if t185 ≥ 0 then (if (wrap64 ((x4_1.length : Int) - 1)) ≥ 0 then (if 0 ≤ (wrap64 ((x4_1.length : Int) - 1)) then (if (wrap64 ((x4_1.length : Int) - 1)) < (x4_1.length : Int) then (if 0 ≤ (rd x4_1 (wrap64 ((x4_1.length : Int) - 1))) then (if (rd x4_1 (wrap64 ((x4_1.length : Int) - 1))) < (a0.size : Int) then (if 0 ≤ t185 then (if t185 < 3 then (if (bt a0 (rd x4_1 (wrap64 ((x4_1.length : Int) - 1)))) = (bt (⟨#[40, 91, 123]⟩ : ByteArray) t185) then (if (rd x4_1 (wrap64 ((x4_1.length : Int) - 1))) < (x3_1.length : Int) then (if (wrap64 ((x4_1.length : Int) - 1)) ≤ (x4_1.length : Int) then (impl_BracketMates.l0 k1 a0 ((y171.set (x16_1 : Int).toNat (rd x4_1 (wrap64 ((x4_1.length : Int) - 1)))).set ((rd x4_1 (wrap64 ((x4_1.length : Int) - 1))) : Int).toNat x16_1) (x4_1.take ((wrap64 ((x4_1.length : Int) - 1)) : Int).toNat) (a0.size : Int) (wrap64 (x16_1 + 1))) else (none)) else (none)) else (impl_BracketMates.l0 k1 a0 y171 x4_1 (a0.size : Int) (wrap64 (x16_1 + 1)))) else (none)) else (none)) else (none)) else (none)) else (none)) else (none)) else (impl_BracketMates.l0 k1 a0 y171 x4_1 (a0.size : Int) (wrap64 (x16_1 + 1)))) else (impl_BracketMates.l0 k1 a0 y171 x4_1 (a0.size : Int) (wrap64 (x16_1 + 1)))))) = some r := H
                    have A14 := Aside0.mk A140
                    clear A140
                    by_cases c15 : t172 ≥ 0
                    · rw [if_pos c15] at H
                      have c15b0 : decide (0 ≤ t172) = true := decide_eq_true c15
                      clear c15
                      by_cases c16 : x4_1.length < 17592186044416
                      · rw [if_pos c16] at H
                        have LMc16 := Aside0.mk c16
                        clear c16
                        obtain ⟨y173, hy173⟩ : ∃ y_ : List Int, y_ = (x4_1 ++ [x16_1]) := ⟨_, rfl⟩
                        replace H : ((strings_IndexByte.f (⟨#[41, 93, 125]⟩ : ByteArray) (bt a0 x16_1)).bind fun t176 => (if t176 ≥ 0 then (if (wrap64 ((y173.length : Int) - 1)) ≥ 0 then (if 0 ≤ (wrap64 ((y173.length : Int) - 1)) then (if (wrap64 ((y173.length : Int) - 1)) < (y173.length : Int) then (if 0 ≤ (rd y173 (wrap64 ((y173.length : Int) - 1))) then (if (rd y173 (wrap64 ((y173.length : Int) - 1))) < (a0.size : Int) then (if 0 ≤ t176 then (if t176 < 3 then (if (bt a0 (rd y173 (wrap64 ((y173.length : Int) - 1)))) = (bt (⟨#[40, 91, 123]⟩ : ByteArray) t176) then (if (rd y173 (wrap64 ((y173.length : Int) - 1))) < (x3_1.length : Int) then (if (wrap64 ((y173.length : Int) - 1)) ≤ (y173.length : Int) then (impl_BracketMates.l0 k1 a0 ((y171.set (x16_1 : Int).toNat (rd y173 (wrap64 ((y173.length : Int) - 1)))).set ((rd y173 (wrap64 ((y173.length : Int) - 1))) : Int).toNat x16_1) (y173.take ((wrap64 ((y173.length : Int) - 1)) : Int).toNat) (a0.size : Int) (wrap64 (x16_1 + 1))) else (none)) else (none)) else (impl_BracketMates.l0 k1 a0 y171 y173 (a0.size : Int) (wrap64 (x16_1 + 1)))) else (none)) else (none)) else (none)) else (none)) else (none)) else (none)) else (impl_BracketMates.l0 k1 a0 y171 y173 (a0.size : Int) (wrap64 (x16_1 + 1)))) else (impl_BracketMates.l0 k1 a0 y171 y173 (a0.size : Int) (wrap64 (x16_1 + 1))))) = some r := by first | (rw [hy173]; with_reducible exact H) | (have H2_ := (Option.bind_some _ _).symm.trans H; rw [hy173]; with_reducible exact H2_) | (have H2_ := (Option.bind_some _ _).symm.trans H; with_reducible exact H2_) | with_reducible exact H | (rw [hy173]; exact H) | exact H
                        have Ny173 := Aside0.mk hy173
                        clear hy173
                        replace H := Option.bind_eq_some_iff.mp H
                        obtain ⟨t176, A180, H⟩ := H
                        replace H : (if t176 ≥ 0 then (if (wrap64 ((y173.length : Int) - 1)) ≥ 0 then (if 0 ≤ (wrap64 ((y173.length : Int) - 1)) then (if (wrap64 ((y173.length : Int) - 1)) < (y173.length : Int) then (if 0 ≤ (rd y173 (wrap64 ((y173.length : Int) - 1))) then (if (rd y173 (wrap64 ((y173.length : Int) - 1))) < (a0.size : Int) then (if 0 ≤ t176 then (if t176 < 3 then (if (bt a0 (rd y173 (wrap64 ((y173.length : Int) - 1)))) = (bt (⟨#[40, 91, 123]⟩ : ByteArray) t176) then (if (rd y173 (wrap64 ((y173.length : Int) - 1))) < (x3_1.length : Int) then (if (wrap64 ((y173.length : Int) - 1)) ≤ (y173.length : Int) then (impl_BracketMates.l0 k1 a0 ((y171.set (x16_1 : Int).toNat (rd y173 (wrap64 ((y173.length : Int) - 1)))).set ((rd y173 (wrap64 ((y173.length : Int) - 1))) : Int).toNat x16_1) (y173.take ((wrap64 ((y173.length : Int) - 1)) : Int).toNat) (a0.size : Int) (wrap64 (x16_1 + 1))) else (none)) else (none)) else (impl_BracketMates.l0 k1 a0 y171 y173 (a0.size : Int) (wrap64 (x16_1 + 1)))) else (none)) else (none)) else (none)) else (none)) else (none)) else (none)) else (impl_BracketMates.l0 k1 a0 y171 y173 (a0.size : Int) (wrap64 (x16_1 + 1)))) else (impl_BracketMates.l0 k1 a0 y171 y173 (a0.size : Int) (wrap64 (x16_1 + 1)))) = some r := H
                        have A18 := Aside0.mk A180
                        clear A180
                        by_cases c19 : t176 ≥ 0
                        · rw [if_pos c19] at H
                          have c19b0 : decide (0 ≤ t176) = true := decide_eq_true c19
                          clear c19
                          by_cases c20 : (wrap64 ((y173.length : Int) - 1)) ≥ 0
                          · rw [if_pos c20] at H
                            have c20b0 : decide (0 ≤ (wrap64 ((y173.length : Int) - 1))) = true := decide_eq_true c20
                            clear c20
                            obtain ⟨ji21, hji21⟩ : ∃ j_ : Int, (wrap64 ((y173.length : Int) - 1)) = j_ := ⟨_, rfl⟩
                            replace H : (if 0 ≤ (ji21) then (if (ji21) < (y173.length : Int) then (if 0 ≤ (rd y173 (ji21)) then (if (rd y173 (ji21)) < (a0.size : Int) then (if 0 ≤ t176 then (if t176 < 3 then (if (bt a0 (rd y173 (ji21))) = (bt (⟨#[40, 91, 123]⟩ : ByteArray) t176) then (if (rd y173 (ji21)) < (x3_1.length : Int) then (if (ji21) ≤ (y173.length : Int) then (impl_BracketMates.l0 k1 a0 ((y171.set (x16_1 : Int).toNat (rd y173 (ji21))).set ((rd y173 (ji21)) : Int).toNat x16_1) (y173.take ((ji21) : Int).toNat) (a0.size : Int) (wrap64 (x16_1 + 1))) else (none)) else (none)) else (impl_BracketMates.l0 k1 a0 y171 y173 (a0.size : Int) (wrap64 (x16_1 + 1)))) else (none)) else (none)) else (none)) else (none)) else (none)) else (none)) = some r := by first | (rw [hji21] at H; exact H) | (simp only [hji21] at H ⊢; exact H)
                            (try rw [hji21] at c20b0)
                            (try rw [hji21] at A14)
                            (try rw [hji21] at A18)
                            have hji21w : (IntKind.i64.wrap ((y173.length : Int) - 1)) = ji21 := (i64_w _).trans hji21
                            by_cases c22 : 0 ≤ (ji21)
                            · rw [if_pos c22] at H
                              have c22b0 : decide (0 ≤ (ji21)) = true := decide_eq_true c22
                              clear c22
                              by_cases c23 : (ji21) < (y173.length : Int)
                              · rw [if_pos c23] at H
                                have c23b0 : decide ((ji21) < (y173.length : Int)) = true := decide_eq_true c23
                                clear c23
                                by_cases c24 : 0 ≤ (rd y173 (ji21))
                                · rw [if_pos c24] at H
                                  have c24b0 : decide (0 ≤ (rd y173 (ji21))) = true := decide_eq_true c24
                                  clear c24
                                  by_cases c25 : (rd y173 (ji21)) < (a0.size : Int)
                                  · rw [if_pos c25] at H
                                    have c25b0 : decide ((rd y173 (ji21)) < (a0.size : Int)) = true := decide_eq_true c25
                                    clear c25
                                    by_cases c27 : 0 ≤ t176
                                    · rw [if_pos c27] at H
                                      have c27b0 : decide (0 ≤ t176) = true := decide_eq_true c27
                                      clear c27
                                      by_cases c28 : t176 < 3
                                      · rw [if_pos c28] at H
                                        have c28b0 : decide (t176 < 3) = true := decide_eq_true c28
                                        clear c28
                                        by_cases c30 : (bt a0 (rd y173 (ji21))) = (bt (⟨#[40, 91, 123]⟩ : ByteArray) t176)
                                        · rw [if_pos c30] at H
                                          have c30b0 : ((bt a0 (rd y173 (ji21))) == (bt (⟨#[40, 91, 123]⟩ : ByteArray) t176)) = true := beq_iff_eq.mpr c30
                                          have c30b1 : ((bt a0 (rd y173 (ji21))) != (bt (⟨#[40, 91, 123]⟩ : ByteArray) t176)) = false := bne_eq_false_iff_eq.mpr c30
                                          clear c30
                                          obtain ⟨y180, hy180⟩ : ∃ y_ : List Int, y_ = (y171.set (x16_1 : Int).toNat (rd y173 (ji21))) := ⟨_, rfl⟩
                                          replace H : (if (rd y173 (ji21)) < (x3_1.length : Int) then (if (ji21) ≤ (y173.length : Int) then (impl_BracketMates.l0 k1 a0 (y180.set ((rd y173 (ji21)) : Int).toNat x16_1) (y173.take ((ji21) : Int).toNat) (a0.size : Int) (wrap64 (x16_1 + 1))) else (none)) else (none)) = some r := by first | (rw [hy180]; with_reducible exact H) | (have H2_ := (Option.bind_some _ _).symm.trans H; rw [hy180]; with_reducible exact H2_) | (have H2_ := (Option.bind_some _ _).symm.trans H; with_reducible exact H2_) | with_reducible exact H | (rw [hy180]; exact H) | exact H
                                          have Ny180 := Aside0.mk hy180
                                          clear hy180
                                          by_cases c32 : (rd y173 (ji21)) < (x3_1.length : Int)
                                          · rw [if_pos c32] at H
                                            have c32b0 : decide ((rd y173 (ji21)) < (x3_1.length : Int)) = true := decide_eq_true c32
                                            clear c32
                                            obtain ⟨y181, hy181⟩ : ∃ y_ : List Int, y_ = (y180.set ((rd y173 (ji21)) : Int).toNat x16_1) := ⟨_, rfl⟩
                                            replace H : (if (ji21) ≤ (y173.length : Int) then (impl_BracketMates.l0 k1 a0 y181 (y173.take ((ji21) : Int).toNat) (a0.size : Int) (wrap64 (x16_1 + 1))) else (none)) = some r := by first | (rw [hy181]; with_reducible exact H) | (have H2_ := (Option.bind_some _ _).symm.trans H; rw [hy181]; with_reducible exact H2_) | (have H2_ := (Option.bind_some _ _).symm.trans H; with_reducible exact H2_) | with_reducible exact H | (rw [hy181]; exact H) | exact H
                                            have Ny181 := Aside0.mk hy181
                                            clear hy181
                                            by_cases c34 : (ji21) ≤ (y173.length : Int)
                                            · rw [if_pos c34] at H
                                              have c34b0 := eq_true c34
                                              have c34b1 : decide ((ji21) ≤ (y173.length : Int)) = true := decide_eq_true c34
                                              clear c34
                                              obtain ⟨y182, hy182⟩ : ∃ y_ : List Int, y_ = (y173.take ((ji21) : Int).toNat) := ⟨_, rfl⟩
                                              replace H : (impl_BracketMates.l0 k1 a0 y181 y182 (a0.size : Int) (wrap64 (x16_1 + 1))) = some r := by first | (rw [hy182]; with_reducible exact H) | (have H2_ := (Option.bind_some _ _).symm.trans H; rw [hy182]; with_reducible exact H2_) | (have H2_ := (Option.bind_some _ _).symm.trans H; with_reducible exact H2_) | with_reducible exact H | (rw [hy182]; exact H) | exact H
                                              have Ny182 := Aside0.mk hy182
                                              clear hy182
                                              have H' := Aside0.mk H
                                              clear H
                                              have p11 : 0 ≤ (x16_1 : Int) := of_decide_eq_true (by first | (with_reducible assumption) | assumption)
                                              have q11 : (x16_1 : Int) < ((x3_1.length : Int) : Int) := of_decide_eq_true (by first | (with_reducible assumption) | assumption)
                                              obtain ⟨go11, co11, eo11, gb11, gl11, cl11, HG11⟩ := Kd.R_form HO_3.out (by omega)
                                              (first | cases eo11 | (injection eo11 with ea_ en_ ec_; (first | subst ea_ | (injection ea_ with ea_; subst ea_)); subst ec_; clear en_))
                                              have GB11 := Aside0.mk gb11
                                              have GG11 := Aside0.mk HG11
                                              clear gb11 gl11 HG11
                                              obtain ⟨hx11_0, hf11_0⟩ := Kd.R_celln 0 HO_3.out (x16_1 : Int) p11 q11
                                              replace p11 := eq_true p11
                                              replace q11 := eq_true q11
                                              have HP35 := Kd.R_putg HO_3.out (x16_1 : Int) (-1)
                                              try go_wp2_with (first | ((with_reducible refine gate_store (t := 3) (p := 21) rfl ?_); refine store_event (t := 3) (p := 21) (v := ?vo_w36) (w1 := (wr.setCell ⟨go11, (x16_1 : Int).toNat, none⟩ (.int .i64 (-1)))) ?hg ?ho ?hn ?hr ?_; (case ho => rfl); (case hg => rfl); (case hn => rfl); (case hr => first | (go_simp; done) | (go_simp; rfl)); intro w36 hw; have hg : wr.grownBy w36 (some go11) := (by rw [hw]; exact HP35.2); have hp_ : Kd.R (Kd.int .i64) 3 w36 w.heap.size (fun k_ => some k_ ≠ (u4 : Value).ownBlock) (.slice (some ⟨go11, 0, none⟩) x3_1.length co11) y171 := (by rw [hw, Ny171.out]; exact HP35.1); clear HP35; have n0_ := Aside0.mk (hp_); have n1_ := Aside0.mk (Kd.R_after (v := (.slice (some ⟨go11, 0, none⟩) x3_1.length co11)) (v1 := (.slice (some ⟨go11, 0, none⟩) x3_1.length co11)) (ok := (fun _ => True)) (by (with_reducible repeat (first | apply Kd.R_alloc | apply Kd.R_drewN | apply Kd.R_drew)); exact Kd.R_mono HO_4.out (fun _ hk => ⟨trivial, hk⟩)) hg (.inl rfl)); have n2_ := Aside0.mk ((by rw [hw]; exact below_set (HB.out) GB11.out : Below w.heap.size w w36)); clear HO_3; clear HO_4; clear HB; have HO_3 := n0_; have HO_4 := n1_; have HB := n2_; clear n0_ n1_ n2_; clear hg hw hp_; have p13 : 0 ≤ (x16_1 : Int) := of_decide_eq_true (by first | (with_reducible assumption) | assumption); have q13 : x16_1 < (a0.size : Int) := of_decide_eq_true (by first | (with_reducible assumption) | assumption); have hx13 := bt_at a0 x16_1; replace p13 := eq_true p13; replace q13 := eq_true q13) | ((with_reducible refine gate_callee (f := 41) rfl ?_); refine goesL_ (some 25) rfl rfl Try.func41 (by kernel_rfl) rfl #[.string (⟨#[40, 91, 123]⟩ : ByteArray), .int .u8 (bt a0 x16_1)] rfl (by (try simp only [List.map_toArray, List.map_cons, List.map_nil]); first | done | rfl | (simp only [List.length_drop, List.length_take]; rfl)) ?_; (with_reducible refine (strings_IndexByte.calls (⟨#[40, 91, 123]⟩ : ByteArray) (bt a0 x16_1) t172 _ A14.out).mono ?_); rintro e w' ⟨rfl, ⟨nd, rfl⟩⟩; refine ⟨_, rfl, ?_⟩; (try (rw [drewN_self w36]; generalize hq_ : World.drewN w36 _ = w36; have n0_ : Aside0 (Kd.R (Kd.int .i64) 3 w36 w.heap.size (fun k_ => some k_ ≠ (u4 : Value).ownBlock) (.slice (some ⟨go11, 0, none⟩) x3_1.length co11) y171) := ⟨by rw [← hq_]; exact (by (with_reducible repeat (first | apply Kd.R_alloc | apply Kd.R_drewN | apply Kd.R_drew)); exact HO_3.out)⟩; have n1_ : Aside0 (Kd.R (Kd.int .i64) 3 w36 w.heap.size (fun k_ => some k_ ≠ (.slice (some ⟨go11, 0, none⟩) x3_1.length co11 : Value).ownBlock) u4 x4_1) := ⟨by rw [← hq_]; exact (by (with_reducible repeat (first | apply Kd.R_alloc | apply Kd.R_drewN | apply Kd.R_drew)); exact Kd.R_mono HO_4.out (fun _ hk => hk.2))⟩; have n2_ : Aside0 (Below w.heap.size w w36) := ⟨by rw [← hq_]; exact (by repeat (first | (with_reducible first | exact HB.out | apply below_alloc | apply pw_below_drewN | apply below_drew1) | exact HB.out))⟩; clear HO_3 HO_4 HB hq_; have HO_3 := n0_; have HO_4 := n1_; have HB := n2_; clear n0_ n1_ n2_))) | ((with_reducible refine gate_builtin (b := .append) (xs := #[.tmp 27, .tmp 29]) rfl ?_); at_builtin; refine Kd.R_append (Kd.int .i64) (w0 := w) w.heap.size rfl (.tmp 27) (.tmp 29) 26 3 (.int .i64 0) 8 rfl Try.underlying26 info3 rfl (by decide) (by omega) u4 x4_1 x16_1 [.int .i64 x16_1] (fun k_ => some k_ ≠ (.slice (some ⟨go11, 0, none⟩) x3_1.length co11 : Value).ownBlock) (fun _ => False) rfl rfl ?aP (fun _ hk => hk.elim) ?aF ?aO ?aB ?aS ?aL ?_; (case aP => exact rfl); (case aB => exact (by repeat (first | (with_reducible first | exact HB.out | apply below_alloc | apply pw_below_drewN | apply below_drew1) | exact HB.out))); (case aF => exact (fun k_ hk => Kd.fresh' (Kd.R_lt (by (with_reducible repeat (first | apply Kd.R_alloc | apply Kd.R_drewN | apply Kd.R_drew)); exact HO_3.out)) k_ hk)); (case aO => exact (by (with_reducible repeat (first | apply Kd.R_alloc | apply Kd.R_drewN | apply Kd.R_drew)); exact HO_4.out)); (case aS => exact (below_size (by repeat (first | (with_reducible first | exact HB.out | apply below_alloc | apply pw_below_drewN | apply below_drew1) | exact HB.out)))); (case aL => have := LMc16.out; omega); intro v174 w37 ho hb hg hat; rw [← Ny173.out] at ho; have n0_ := Aside0.mk (Kd.R_after (ok := (fun _ => True)) (by (with_reducible repeat (first | apply Kd.R_alloc | apply Kd.R_drewN | apply Kd.R_drew)); exact Kd.R_mono HO_3.out (fun _ hk => ⟨trivial, hk⟩)) hg hat); have n1_ := Aside0.mk (hb); have n2_ := Aside0.mk (ho); clear HO_3; clear HB; clear HO_4; have HO_3 := n0_; have HB := n1_; have HO175 := n2_; clear n0_ n1_ n2_; clear ho hb hg hat; have p17 : 0 ≤ (x16_1 : Int) := of_decide_eq_true (by first | (with_reducible assumption) | assumption); have q17 : x16_1 < (a0.size : Int) := of_decide_eq_true (by first | (with_reducible assumption) | assumption); have hx17 := bt_at a0 x16_1; replace p17 := eq_true p17; replace q17 := eq_true q17) | ((with_reducible refine gate_callee (f := 41) rfl ?_); refine goesL_ (some 34) rfl rfl Try.func41 (by kernel_rfl) rfl #[.string (⟨#[41, 93, 125]⟩ : ByteArray), .int .u8 (bt a0 x16_1)] rfl (by (try simp only [List.map_toArray, List.map_cons, List.map_nil]); first | done | rfl | (simp only [List.length_drop, List.length_take]; rfl)) ?_; (with_reducible refine (strings_IndexByte.calls (⟨#[41, 93, 125]⟩ : ByteArray) (bt a0 x16_1) t176 _ A18.out).mono ?_); rintro e w' ⟨rfl, ⟨nd, rfl⟩⟩; refine ⟨_, rfl, ?_⟩; (try (rw [drewN_self w37]; generalize hq_ : World.drewN w37 _ = w37; have n0_ : Aside0 (Kd.R (Kd.int .i64) 3 w37 w.heap.size (fun k_ => some k_ ≠ (.slice (some ⟨go11, 0, none⟩) x3_1.length co11 : Value).ownBlock) v174 y173) := ⟨by rw [← hq_]; exact (by (with_reducible repeat (first | apply Kd.R_alloc | apply Kd.R_drewN | apply Kd.R_drew)); exact HO175.out)⟩; have n1_ : Aside0 (Kd.R (Kd.int .i64) 3 w37 w.heap.size (fun k_ => some k_ ≠ (v174 : Value).ownBlock) (.slice (some ⟨go11, 0, none⟩) x3_1.length co11) y171) := ⟨by rw [← hq_]; exact (by (with_reducible repeat (first | apply Kd.R_alloc | apply Kd.R_drewN | apply Kd.R_drew)); exact Kd.R_mono HO_3.out (fun _ hk => hk.2))⟩; have n2_ : Aside0 (Below w.heap.size w w37) := ⟨by rw [← hq_]; exact (by repeat (first | (with_reducible first | exact HB.out | apply below_alloc | apply pw_below_drewN | apply below_drew1) | exact HB.out))⟩; clear HO175 HO_3 HB hq_; have HO175 := n0_; have HO_3 := n1_; have HB := n2_; clear n0_ n1_ n2_)); obtain ⟨Ao38, co38, eo38⟩ := Kd.R_slice HO175.out; subst eo38))
                                              have n0_ := Aside0.mk (Kd.R_drew HO_3.out)
                                              have n1_ := Aside0.mk (Kd.R_drew HO175.out)
                                              have n2_ := Aside0.mk (below_drew1 HB.out)
                                              clear HO_3
                                              clear HO175
                                              clear HB
                                              have HO_3 := n0_
                                              have HO175 := n1_
                                              have HB := n2_
                                              clear n0_ n1_ n2_
                                              have p177 : 0 ≤ ((ji21) : Int) := of_decide_eq_true (by first | (with_reducible assumption) | assumption)
                                              have q177 : (ji21) < (y173.length : Int) := of_decide_eq_true (by first | (with_reducible assumption) | assumption)
                                              obtain ⟨ad177, e177, hx177_0⟩ := Kd.at_int (Kd.R_reads' HO175.out).2.2 (ji21) p177 q177
                                              cases e177
                                              replace p177 := eq_true p177
                                              replace q177 := eq_true q177
                                              have p26 : 0 ≤ ((rd y173 (ji21)) : Int) := of_decide_eq_true (by first | (with_reducible assumption) | assumption)
                                              have q26 : (rd y173 (ji21)) < (a0.size : Int) := of_decide_eq_true (by first | (with_reducible assumption) | assumption)
                                              have hx26 := bt_at a0 (rd y173 (ji21))
                                              replace p26 := eq_true p26
                                              replace q26 := eq_true q26
                                              have p29 : 0 ≤ (t176 : Int) := of_decide_eq_true (by first | (with_reducible assumption) | assumption)
                                              have q29 : t176 < (3 : Int) := of_decide_eq_true (by first | (with_reducible assumption) | assumption)
                                              have hx29 := bt_at (⟨#[40, 91, 123]⟩ : ByteArray) t176
                                              replace p29 := eq_true p29
                                              replace q29 := eq_true q29
                                              refine start_ (n := 17) (S := fun w' => w'.cell? (ad177.add ((ji21)).toNat) = some (.int .i64 (rd y173 (ji21)))) (ds := []) #[false, false, false, false, false, false, false, false, false, false, false, false, false, false, false, false, false] (by kernel_rfl) rfl rfl (hx177_0) (fun hHeld => ?_); refine with_tabW impl_BracketMates.tab13 impl_BracketMates.bits13 (fun HT_ HW_ => ?_)
                                              generalize w37.drew = w39 at HO_3 HO175 HB hx177_0 hHeld ⊢
                                              refine pure_ (i := 0) (N := some 38) (v := ?_) (a' := ?_) #[true, false, false, false, false, false, false, false, false, false, false, false, false, false, false, false, false] rfl rfl (any_of HT_.out (by kernel_rfl)) (fun _ _ _ h => h) (Or.inl ⟨by rfl, ?_⟩) ?_ ?_
                                              rotate_left
                                              · intro w'
                                                go_simp
                                                with_reducible rfl
                                              rotate_left
                                              · simp only [Act.put, List.setIfInBounds_toArray, List.set_cons_zero, List.set_cons_succ, i64_w, i32_w]
                                                rfl
                                              refine pure_ (i := 1) (N := some 39) (v := ?_) (a' := ?_) #[true, true, false, false, false, false, false, false, false, false, false, false, false, false, false, false, false] rfl rfl (any_of HT_.out (by kernel_rfl)) (fun _ _ _ h => h) (Or.inl ⟨by rfl, ?_⟩) ?_ ?_
                                              rotate_left
                                              · intro w'
                                                go_simp
                                                with_reducible rfl
                                              rotate_left
                                              · simp only [Act.put, List.setIfInBounds_toArray, List.set_cons_zero, List.set_cons_succ, i64_w, i32_w]
                                                rfl
                                              refine pure_ (i := 2) (N := some 40) (v := ?_) (a' := ?_) #[true, true, true, false, false, false, false, false, false, false, false, false, false, false, false, false, false] rfl rfl (any_of HT_.out (by kernel_rfl)) (fun _ _ _ h => h) (Or.inl ⟨by rfl, ?_⟩) ?_ ?_
                                              rotate_left
                                              · intro w'
                                                go_simp
                                                with_reducible rfl
                                              rotate_left
                                              · simp only [Act.put, List.setIfInBounds_toArray, List.set_cons_zero, List.set_cons_succ, i64_w, i32_w]
                                                rfl
                                              refine pure_ (i := 3) (N := some 41) (v := ?_) (a' := ?_) #[true, true, true, true, false, false, false, false, false, false, false, false, false, false, false, false, false] rfl rfl (any_of HT_.out (by kernel_rfl)) (fun _ _ _ h => h) (Or.inl ⟨by rfl, ?_⟩) ?_ ?_
                                              rotate_left
                                              · intro w'
                                                go_simp
                                                with_reducible rfl
                                              rotate_left
                                              · simp only [Act.put, List.setIfInBounds_toArray, List.set_cons_zero, List.set_cons_succ, i64_w, i32_w]
                                                rfl
                                              refine pure_ (i := 4) (N := some 42) (v := ?_) (a' := ?_) #[true, true, true, true, true, false, false, false, false, false, false, false, false, false, false, false, false] rfl rfl (any_of HT_.out (by kernel_rfl)) (fun _ _ _ h => h) (Or.inl ⟨by rfl, ?_⟩) ?_ ?_
                                              rotate_left
                                              · intro w'
                                                go_simp
                                                with_reducible rfl
                                              rotate_left
                                              · simp only [Act.put, List.setIfInBounds_toArray, List.set_cons_zero, List.set_cons_succ, i64_w, i32_w]
                                                rfl
                                              refine pure_ (i := 5) (N := some 43) (v := ?_) (a' := ?_) #[true, true, true, true, true, true, false, false, false, false, false, false, false, false, false, false, false] rfl rfl (any_of HT_.out (by kernel_rfl)) (fun _ _ _ h => h) (Or.inl ⟨by rfl, ?_⟩) ?_ ?_
                                              rotate_left
                                              · intro w'
                                                go_simp
                                                with_reducible rfl
                                              rotate_left
                                              · simp only [Act.put, List.setIfInBounds_toArray, List.set_cons_zero, List.set_cons_succ, i64_w, i32_w]
                                                rfl
                                              refine pure_ (i := 6) (N := some 44) (v := ?_) (a' := ?_) #[true, true, true, true, true, true, true, false, false, false, false, false, false, false, false, false, false] rfl rfl (any_of HT_.out (by kernel_rfl)) (fun _ _ _ h => h) (Or.inl ⟨by rfl, ?_⟩) ?_ ?_
                                              rotate_left
                                              · intro w'
                                                go_simp
                                                with_reducible rfl
                                              rotate_left
                                              · simp only [Act.put, List.setIfInBounds_toArray, List.set_cons_zero, List.set_cons_succ, i64_w, i32_w]
                                                rfl
                                              refine pure_ (i := 7) (N := some 45) (v := ?_) (a' := ?_) #[true, true, true, true, true, true, true, true, false, false, false, false, false, false, false, false, false] rfl rfl (any_of HT_.out (by kernel_rfl)) (fun _ _ _ h => h) (Or.inl ⟨by rfl, ?_⟩) ?_ ?_
                                              rotate_left
                                              · intro w'
                                                go_simp
                                                with_reducible rfl
                                              rotate_left
                                              · simp only [Act.put, List.setIfInBounds_toArray, List.set_cons_zero, List.set_cons_succ, i64_w, i32_w]
                                                rfl
                                              refine pure_ (i := 8) (N := some 46) (v := ?_) (a' := ?_) #[true, true, true, true, true, true, true, true, true, false, false, false, false, false, false, false, false] rfl rfl (any_of HT_.out (by kernel_rfl)) (fun _ _ _ h => h) (Or.inl ⟨by rfl, ?_⟩) ?_ ?_
                                              rotate_left
                                              · intro w'
                                                go_simp
                                                with_reducible rfl
                                              rotate_left
                                              · simp only [Act.put, List.setIfInBounds_toArray, List.set_cons_zero, List.set_cons_succ, i64_w, i32_w]
                                                rfl
                                              refine pure_ (i := 9) (N := some 47) (v := ?_) (a' := ?_) #[true, true, true, true, true, true, true, true, true, true, false, false, false, false, false, false, false] rfl rfl (any_of HT_.out (by kernel_rfl)) (fun _ _ _ h => h) (Or.inl ⟨by rfl, ?_⟩) ?_ ?_
                                              rotate_left
                                              · intro w'
                                                go_simp
                                                with_reducible rfl
                                              rotate_left
                                              · simp only [Act.put, List.setIfInBounds_toArray, List.set_cons_zero, List.set_cons_succ, i64_w, i32_w]
                                                rfl
                                              refine pure_ (i := 10) (N := some 48) (v := ?_) (a' := ?_) #[true, true, true, true, true, true, true, true, true, true, true, false, false, false, false, false, false] rfl rfl (any_of HT_.out (by kernel_rfl)) (fun _ _ _ h => h) (Or.inl ⟨by rfl, ?_⟩) ?_ ?_
                                              rotate_left
                                              · intro w'
                                                go_simp
                                                with_reducible rfl
                                              rotate_left
                                              · simp only [Act.put, List.setIfInBounds_toArray, List.set_cons_zero, List.set_cons_succ, i64_w, i32_w]
                                                rfl
                                              refine pure_ (i := 13) (N := some 51) (v := ?_) (a' := ?_) #[true, true, true, true, true, true, true, true, true, true, true, false, false, true, false, false, false] rfl rfl (any_of HT_.out (by kernel_rfl)) (fun _ _ _ h => h) (Or.inl ⟨by rfl, ?_⟩) ?_ ?_
                                              rotate_left
                                              · intro w'
                                                go_simp
                                                with_reducible rfl
                                              rotate_left
                                              · simp only [Act.put, List.setIfInBounds_toArray, List.set_cons_zero, List.set_cons_succ, i64_w, i32_w]
                                                rfl
                                              refine take_ (i := 11) (N := some 49) (v := ?_) (a' := ?_) #[true, true, true, true, true, true, true, true, true, true, true, true, false, true, false, false, false] rfl rfl (take_ofW HT_.out HW_.out (by kernel_rfl)) (fun _ _ _ h => h) (Or.inl ⟨by rfl, ?_⟩) hHeld ?_ ?_
                                              rotate_left
                                              · intro w' s0
                                                go_simp
                                                with_reducible rfl
                                              rotate_left
                                              · simp only [Act.put, List.setIfInBounds_toArray, List.set_cons_zero, List.set_cons_succ, i64_w, i32_w]
                                                rfl
                                              refine take_ (i := 12) (N := some 50) (v := ?_) (a' := ?_) #[true, true, true, true, true, true, true, true, true, true, true, true, true, true, false, false, false] rfl rfl (take_ofW HT_.out HW_.out (by kernel_rfl)) (fun _ _ _ h => h) (Or.inl ⟨by rfl, ?_⟩) hHeld ?_ ?_
                                              rotate_left
                                              · intro w' s0
                                                go_simp
                                                with_reducible rfl
                                              rotate_left
                                              · simp only [Act.put, List.setIfInBounds_toArray, List.set_cons_zero, List.set_cons_succ, i64_w, i32_w]
                                                rfl
                                              refine take_ (i := 14) (N := some 52) (v := ?_) (a' := ?_) #[true, true, true, true, true, true, true, true, true, true, true, true, true, true, true, false, false] rfl rfl (take_ofW HT_.out HW_.out (by kernel_rfl)) (fun _ _ _ h => h) (Or.inl ⟨by rfl, ?_⟩) hHeld ?_ ?_
                                              rotate_left
                                              · intro w' s0
                                                go_simp
                                                with_reducible rfl
                                              rotate_left
                                              · simp only [Act.put, List.setIfInBounds_toArray, List.set_cons_zero, List.set_cons_succ, i64_w, i32_w]
                                                rfl
                                              refine pure_ (i := 15) (N := some 53) (v := ?_) (a' := ?_) #[true, true, true, true, true, true, true, true, true, true, true, true, true, true, true, true, false] rfl rfl (any_of HT_.out (by kernel_rfl)) (fun _ _ _ h => h) (Or.inl ⟨by rfl, ?_⟩) ?_ ?_
                                              rotate_left
                                              · intro w'
                                                go_simp
                                                with_reducible rfl
                                              rotate_left
                                              · simp only [Act.put, List.setIfInBounds_toArray, List.set_cons_zero, List.set_cons_succ, i64_w, i32_w]
                                                rfl
                                              refine pure_ (i := 16) (N := some 54) (v := ?_) (a' := ?_) #[true, true, true, true, true, true, true, true, true, true, true, true, true, true, true, true, true] rfl rfl (any_of HT_.out (by kernel_rfl)) (fun _ _ _ h => h) (Or.inl ⟨by rfl, ?_⟩) ?_ ?_
                                              rotate_left
                                              · intro w'
                                                go_simp
                                                with_reducible rfl
                                              rotate_left
                                              · simp only [Act.put, List.setIfInBounds_toArray, List.set_cons_zero, List.set_cons_succ, i64_w, i32_w]
                                                rfl
                                              refine done_ (done_of HT_.out (by kernel_rfl)) ?_
                                              try go_wp2
                                              have n0_ := Aside0.mk (Kd.R_drew HO_3.out)
                                              have n1_ := Aside0.mk (Kd.R_drew HO175.out)
                                              have n2_ := Aside0.mk (below_drew1 HB.out)
                                              clear HO_3
                                              clear HO175
                                              clear HB
                                              have HO_3 := n0_
                                              have HO175 := n1_
                                              have HB := n2_
                                              clear n0_ n1_ n2_
                                              have p178 : 0 ≤ ((ji21) : Int) := of_decide_eq_true (by first | (with_reducible assumption) | assumption)
                                              have q178 : (ji21) < (y173.length : Int) := of_decide_eq_true (by first | (with_reducible assumption) | assumption)
                                              obtain ⟨ad178, e178, hx178_0⟩ := Kd.at_int (Kd.R_reads' HO175.out).2.2 (ji21) p178 q178
                                              obtain rfl : ad177 = ad178 := (by injection e178)
                                              replace p178 := eq_true p178
                                              replace q178 := eq_true q178
                                              have p179 : 0 ≤ ((ji21) : Int) := of_decide_eq_true (by first | (with_reducible assumption) | assumption)
                                              have q179 : (ji21) < (y173.length : Int) := of_decide_eq_true (by first | (with_reducible assumption) | assumption)
                                              obtain ⟨ad179, e179, hx179_0⟩ := Kd.at_int (Kd.R_reads' HO175.out).2.2 (ji21) p179 q179
                                              obtain rfl : ad177 = ad179 := (by injection e179)
                                              replace p179 := eq_true p179
                                              replace q179 := eq_true q179
                                              have p31 : 0 ≤ (x16_1 : Int) := of_decide_eq_true (by first | (with_reducible assumption) | assumption)
                                              have q31 : (x16_1 : Int) < ((x3_1.length : Int) : Int) := of_decide_eq_true (by first | (with_reducible assumption) | assumption)
                                              obtain ⟨hx31_0, hf31_0⟩ := Kd.R_celln 0 HO_3.out (x16_1 : Int) p31 q31
                                              replace p31 := eq_true p31
                                              replace q31 := eq_true q31
                                              have HP41 := Kd.R_putn HO_3.out (x16_1 : Int) (rd y173 (ji21))
                                              rw [← Ny180.out] at HP41
                                              have HQ41 := Aside0.mk HP41
                                              clear HP41
                                              have p33 : 0 ≤ ((rd y173 (ji21)) : Int) := of_decide_eq_true (by first | (with_reducible assumption) | assumption)
                                              have q33 : ((rd y173 (ji21)) : Int) < ((x3_1.length : Int) : Int) := of_decide_eq_true (by first | (with_reducible assumption) | assumption)
                                              obtain ⟨hx33_0, hf33_0⟩ := Kd.R_celln 0 HQ41.out ((rd y173 (ji21)) : Int) p33 q33
                                              replace p33 := eq_true p33
                                              replace q33 := eq_true q33
                                              have HP42 := Kd.R_putn HQ41.out ((rd y173 (ji21)) : Int) x16_1
                                              rw [← Ny181.out] at HP42
                                              have HQ42 := Aside0.mk HP42
                                              clear HP42
                                              refine start_ (n := 16) (S := fun w' => w'.cell? (ad177.add ((ji21)).toNat) = some (.int .i64 (rd y173 (ji21))) ∧ w'.cell? (ad177.add ((ji21)).toNat) = some (.int .i64 (rd y173 (ji21)))) (ds := [13, 15]) #[false, false, false, false, false, false, false, false, false, false, false, false, false, false, false, false] (by kernel_rfl) rfl rfl ⟨hx178_0, hx179_0⟩ (fun hHeld => ?_); refine with_tabW impl_BracketMates.tab14 impl_BracketMates.bits14 (fun HT_ HW_ => ?_)
                                              generalize w39.drew = w40 at HO_3 HO175 HB HQ41 HQ42 hf31_0 hf33_0 hx178_0 hx179_0 hx31_0 hx33_0 hHeld ⊢
                                              refine pure_ (i := 0) (N := some 55) (v := ?_) (a' := ?_) #[true, false, false, false, false, false, false, false, false, false, false, false, false, false, false, false] rfl rfl (any_of HT_.out (by kernel_rfl)) (fun _ _ _ h => h) (Or.inl ⟨by rfl, ?_⟩) ?_ ?_
                                              rotate_left
                                              · intro w'
                                                go_simp
                                                with_reducible rfl
                                              rotate_left
                                              · simp only [Act.put, List.setIfInBounds_toArray, List.set_cons_zero, List.set_cons_succ, i64_w, i32_w]
                                                rfl
                                              refine pure_ (i := 1) (N := some 56) (v := ?_) (a' := ?_) #[true, true, false, false, false, false, false, false, false, false, false, false, false, false, false, false] rfl rfl (any_of HT_.out (by kernel_rfl)) (fun _ _ _ h => h) (Or.inl ⟨by rfl, ?_⟩) ?_ ?_
                                              rotate_left
                                              · intro w'
                                                go_simp
                                                with_reducible rfl
                                              rotate_left
                                              · simp only [Act.put, List.setIfInBounds_toArray, List.set_cons_zero, List.set_cons_succ, i64_w, i32_w]
                                                rfl
                                              refine pure_ (i := 2) (N := some 57) (v := ?_) (a' := ?_) #[true, true, true, false, false, false, false, false, false, false, false, false, false, false, false, false] rfl rfl (any_of HT_.out (by kernel_rfl)) (fun _ _ _ h => h) (Or.inl ⟨by rfl, ?_⟩) ?_ ?_
                                              rotate_left
                                              · intro w'
                                                go_simp
                                                with_reducible rfl
                                              rotate_left
                                              · simp only [Act.put, List.setIfInBounds_toArray, List.set_cons_zero, List.set_cons_succ, i64_w, i32_w]
                                                rfl
                                              refine pure_ (i := 3) (N := some 58) (v := ?_) (a' := ?_) #[true, true, true, true, false, false, false, false, false, false, false, false, false, false, false, false] rfl rfl (any_of HT_.out (by kernel_rfl)) (fun _ _ _ h => h) (Or.inl ⟨by rfl, ?_⟩) ?_ ?_
                                              rotate_left
                                              · intro w'
                                                go_simp
                                                with_reducible rfl
                                              rotate_left
                                              · simp only [Act.put, List.setIfInBounds_toArray, List.set_cons_zero, List.set_cons_succ, i64_w, i32_w]
                                                rfl
                                              refine pure_ (i := 4) (N := some 59) (v := ?_) (a' := ?_) #[true, true, true, true, true, false, false, false, false, false, false, false, false, false, false, false] rfl rfl (any_of HT_.out (by kernel_rfl)) (fun _ _ _ h => h) (Or.inl ⟨by rfl, ?_⟩) ?_ ?_
                                              rotate_left
                                              · intro w'
                                                go_simp
                                                with_reducible rfl
                                              rotate_left
                                              · simp only [Act.put, List.setIfInBounds_toArray, List.set_cons_zero, List.set_cons_succ, i64_w, i32_w]
                                                rfl
                                              refine pure_ (i := 5) (N := some 60) (v := ?_) (a' := ?_) #[true, true, true, true, true, true, false, false, false, false, false, false, false, false, false, false] rfl rfl (any_of HT_.out (by kernel_rfl)) (fun _ _ _ h => h) (Or.inl ⟨by rfl, ?_⟩) ?_ ?_
                                              rotate_left
                                              · intro w'
                                                go_simp
                                                with_reducible rfl
                                              rotate_left
                                              · simp only [Act.put, List.setIfInBounds_toArray, List.set_cons_zero, List.set_cons_succ, i64_w, i32_w]
                                                rfl
                                              refine pure_ (i := 7) (N := some 62) (v := ?_) (a' := ?_) #[true, true, true, true, true, true, false, true, false, false, false, false, false, false, false, false] rfl rfl (any_of HT_.out (by kernel_rfl)) (fun _ _ _ h => h) (Or.inl ⟨by rfl, ?_⟩) ?_ ?_
                                              rotate_left
                                              · intro w'
                                                go_simp
                                                with_reducible rfl
                                              rotate_left
                                              · simp only [Act.put, List.setIfInBounds_toArray, List.set_cons_zero, List.set_cons_succ, i64_w, i32_w]
                                                rfl
                                              refine pure_ (i := 8) (N := some 63) (v := ?_) (a' := ?_) #[true, true, true, true, true, true, false, true, true, false, false, false, false, false, false, false] rfl rfl (any_of HT_.out (by kernel_rfl)) (fun _ _ _ h => h) (Or.inl ⟨by rfl, ?_⟩) ?_ ?_
                                              rotate_left
                                              · intro w'
                                                go_simp
                                                with_reducible rfl
                                              rotate_left
                                              · simp only [Act.put, List.setIfInBounds_toArray, List.set_cons_zero, List.set_cons_succ, i64_w, i32_w]
                                                rfl
                                              refine pure_ (i := 9) (N := some 64) (v := ?_) (a' := ?_) #[true, true, true, true, true, true, false, true, true, true, false, false, false, false, false, false] rfl rfl (any_of HT_.out (by kernel_rfl)) (fun _ _ _ h => h) (Or.inl ⟨by rfl, ?_⟩) ?_ ?_
                                              rotate_left
                                              · intro w'
                                                go_simp
                                                with_reducible rfl
                                              rotate_left
                                              · simp only [Act.put, List.setIfInBounds_toArray, List.set_cons_zero, List.set_cons_succ, i64_w, i32_w]
                                                rfl
                                              refine pure_ (i := 11) (N := some 66) (v := ?_) (a' := ?_) #[true, true, true, true, true, true, false, true, true, true, false, true, false, false, false, false] rfl rfl (any_of HT_.out (by kernel_rfl)) (fun _ _ _ h => h) (Or.inl ⟨by rfl, ?_⟩) ?_ ?_
                                              rotate_left
                                              · intro w'
                                                go_simp
                                                with_reducible rfl
                                              rotate_left
                                              · simp only [Act.put, List.setIfInBounds_toArray, List.set_cons_zero, List.set_cons_succ, i64_w, i32_w]
                                                rfl
                                              refine take_ (i := 6) (N := some 61) (v := ?_) (a' := ?_) #[true, true, true, true, true, true, true, true, true, true, false, true, false, false, false, false] rfl rfl (take_ofW HT_.out HW_.out (by kernel_rfl)) (fun _ _ _ h => h) (Or.inl ⟨by rfl, ?_⟩) hHeld ?_ ?_
                                              rotate_left
                                              · rintro w' ⟨s0, s1⟩
                                                go_simp
                                                with_reducible rfl
                                              rotate_left
                                              · simp only [Act.put, List.setIfInBounds_toArray, List.set_cons_zero, List.set_cons_succ, i64_w, i32_w]
                                                rfl
                                              refine take_ (i := 10) (N := some 65) (v := ?_) (a' := ?_) #[true, true, true, true, true, true, true, true, true, true, true, true, false, false, false, false] rfl rfl (take_ofW HT_.out HW_.out (by kernel_rfl)) (fun _ _ _ h => h) (Or.inl ⟨by rfl, ?_⟩) hHeld ?_ ?_
                                              rotate_left
                                              · rintro w' ⟨s0, s1⟩
                                                go_simp
                                                with_reducible rfl
                                              rotate_left
                                              · simp only [Act.put, List.setIfInBounds_toArray, List.set_cons_zero, List.set_cons_succ, i64_w, i32_w]
                                                rfl
                                              refine pure_ (i := 12) (N := some 67) (v := ?_) (a' := ?_) #[true, true, true, true, true, true, true, true, true, true, true, true, true, false, false, false] rfl rfl (any_of HT_.out (by kernel_rfl)) (fun _ _ _ h => h) (Or.inl ⟨by rfl, ?_⟩) ?_ ?_
                                              rotate_left
                                              · intro w'
                                                go_simp
                                                with_reducible rfl
                                              rotate_left
                                              · simp only [Act.put, List.setIfInBounds_toArray, List.set_cons_zero, List.set_cons_succ, i64_w, i32_w]
                                                rfl
                                              refine last_ (i := 13) (N := none) #[true, true, true, true, true, true, true, true, true, true, true, true, true, true, false, false] rfl rfl (one_of HT_.out (by kernel_rfl)) (by decide) (fun K hK => ?_)
                                              refine skip_ (w1 := ?_) (by rfl) rfl ?_ ?_
                                              rotate_left
                                              · go_simp
                                                rfl
                                              refine hK.out _ _ ?_
                                              clear hK K
                                              refine pure_ (i := 14) (N := some 68) (v := ?_) (a' := ?_) #[true, true, true, true, true, true, true, true, true, true, true, true, true, true, true, false] rfl rfl (any_of HT_.out (by kernel_rfl)) (fun _ _ _ h => h) (Or.inl ⟨by rfl, ?_⟩) ?_ ?_
                                              rotate_left
                                              · intro w'
                                                go_simp
                                                with_reducible rfl
                                              rotate_left
                                              · simp only [Act.put, List.setIfInBounds_toArray, List.set_cons_zero, List.set_cons_succ, i64_w, i32_w]
                                                rfl
                                              refine last_ (i := 15) (N := none) #[true, true, true, true, true, true, true, true, true, true, true, true, true, true, true, true] rfl rfl (one_of HT_.out (by kernel_rfl)) (by decide) (fun K hK => ?_)
                                              refine skip_ (w1 := ?_) (by rfl) rfl ?_ ?_
                                              rotate_left
                                              · go_simp
                                                rfl
                                              refine hK.out _ _ ?_
                                              clear hK K
                                              refine done_ (done_of HT_.out (by kernel_rfl)) ?_
                                              have n0_ : Aside0 (Kd.R (Kd.int .i64) 3 ((w40.setCell ⟨go11, (x16_1 : Int).toNat, none⟩ (.int .i64 (rd y173 (ji21)))).setCell ⟨go11, ((rd y173 (ji21)) : Int).toNat, none⟩ (.int .i64 x16_1)) w.heap.size (fun k_ => some k_ ≠ (.slice (some ad177) y173.length co38 : Value).ownBlock) (.slice (some ⟨go11, 0, none⟩) x3_1.length co11) y181) := ⟨by (with_reducible repeat (first | apply Kd.R_alloc | apply Kd.R_drewN | apply Kd.R_drew)); exact HQ42.out⟩
                                              have n1_ : Aside0 (Kd.R (Kd.int .i64) 3 ((w40.setCell ⟨go11, (x16_1 : Int).toNat, none⟩ (.int .i64 (rd y173 (ji21)))).setCell ⟨go11, ((rd y173 (ji21)) : Int).toNat, none⟩ (.int .i64 x16_1)) w.heap.size (fun k_ => some k_ ≠ (.slice (some ⟨go11, 0, none⟩) x3_1.length co11 : Value).ownBlock) (.slice (some ad177) y173.length co38) y173) := ⟨by (with_reducible repeat (first | apply Kd.R_alloc | apply Kd.R_drewN | apply Kd.R_drew)); exact Kd.R_mono (Kd.R_far (p := ⟨go11, ((rd y173 (ji21)) : Int).toNat, none⟩) (Kd.R_far (p := ⟨go11, (x16_1 : Int).toNat, none⟩) (Kd.R_mono HO175.out (fun k_ hk => (⟨hk, fun e_ => hk (by rw [e_]; rfl)⟩ : _ ∧ k_ ≠ go11))) (fun _ hk => hk.2) (.int .i64 (rd y173 (ji21)))) (fun _ hk => hk.2) (.int .i64 x16_1)) (fun _ hk => hk.1)⟩
                                              have n2_ : Aside0 (Below w.heap.size w ((w40.setCell ⟨go11, (x16_1 : Int).toNat, none⟩ (.int .i64 (rd y173 (ji21)))).setCell ⟨go11, ((rd y173 (ji21)) : Int).toNat, none⟩ (.int .i64 x16_1))) := ⟨by repeat (first | (with_reducible first | exact HB.out | apply below_alloc | apply pw_below_drewN | apply below_drew1 | refine below_set ?_ GB11.out | refine below_set ?_ GB11.out) | exact HB.out)⟩
                                              (try clear HO_3)
                                              (try clear HO175)
                                              (try clear HB)
                                              generalize ((w40.setCell ⟨go11, (x16_1 : Int).toNat, none⟩ (.int .i64 (rd y173 (ji21)))).setCell ⟨go11, ((rd y173 (ji21)) : Int).toNat, none⟩ (.int .i64 x16_1)) = w43 at n0_ n1_ n2_ ⊢
                                              have HO_3 := n0_
                                              have HO175 := n1_
                                              have HB := n2_
                                              clear n0_ n1_ n2_
                                              have q44 : ((ji21) : Int) ≤ ((y173.length : Int) : Int) := of_decide_eq_true (by first | (with_reducible assumption) | assumption)
                                              obtain ⟨i044, hi044, _, hsz44, _⟩ := info_parts info3
                                              have hcut44 := cut_to (P := Try.prog) 26 3 .i64 Try.underlying26 hi044 (some ad177) y173.length co38 (ji21) (of_decide_eq_true (by first | (with_reducible assumption) | assumption)) q44 (Kd.R_reads' HO175.out).2.1
                                              have hr44 := Kd.R_take (m := ((ji21) : Int).toNat) HO175.out (by omega)
                                              have hy44 : y182.length = ((ji21) : Int).toNat := (by rw [Ny182.out, List.length_take]; omega)
                                              rw [← Ny182.out] at hr44
                                              rw [← hy44] at hr44 hcut44
                                              clear hy44 hi044 hsz44 HO175
                                              have HO184 := Aside0.mk hr44
                                              clear hr44
                                              replace q44 := eq_true q44
                                              try go_wp2
                                              go_roundg k1
                                              case measure => have := HK1.out; omega
                                              case rel => exact ⟨(y181), (y182), (wrap64 (x16_1 + 1)), (by first | rfl | (simp; done) | (simp [*]; done)), H', ⟨by have := HK1.out; omega⟩, ⟨by (with_reducible repeat (first | apply Kd.R_alloc | apply Kd.R_drewN | apply Kd.R_drew)); exact HO_3.out⟩, ⟨by (with_reducible repeat (first | apply Kd.R_alloc | apply Kd.R_drewN | apply Kd.R_drew)); exact HO184.out⟩, ⟨by repeat (first | (with_reducible first | exact HB.out | apply below_alloc | apply pw_below_drewN | apply below_drew1) | exact HB.out)⟩⟩
                                            · rw [if_neg c34] at H
                                              exact absurd H (by simp)
                                          · rw [if_neg c32] at H
                                            exact absurd H (by simp)
                                        · rw [if_neg c30] at H
                                          have c30b0 : ((bt a0 (rd y173 (ji21))) == (bt (⟨#[40, 91, 123]⟩ : ByteArray) t176)) = false := beq_eq_false_iff_ne.mpr c30
                                          have c30b1 : ((bt a0 (rd y173 (ji21))) != (bt (⟨#[40, 91, 123]⟩ : ByteArray) t176)) = true := bne_iff_ne.mpr c30
                                          have H' := Aside0.mk H
                                          clear H
                                          have p11 : 0 ≤ (x16_1 : Int) := of_decide_eq_true (by first | (with_reducible assumption) | assumption)
                                          have q11 : (x16_1 : Int) < ((x3_1.length : Int) : Int) := of_decide_eq_true (by first | (with_reducible assumption) | assumption)
                                          obtain ⟨go11, co11, eo11, gb11, gl11, cl11, HG11⟩ := Kd.R_form HO_3.out (by omega)
                                          (first | cases eo11 | (injection eo11 with ea_ en_ ec_; (first | subst ea_ | (injection ea_ with ea_; subst ea_)); subst ec_; clear en_))
                                          have GB11 := Aside0.mk gb11
                                          have GG11 := Aside0.mk HG11
                                          clear gb11 gl11 HG11
                                          obtain ⟨hx11_0, hf11_0⟩ := Kd.R_celln 0 HO_3.out (x16_1 : Int) p11 q11
                                          replace p11 := eq_true p11
                                          replace q11 := eq_true q11
                                          have HP45 := Kd.R_putg HO_3.out (x16_1 : Int) (-1)
                                          try go_wp2_with (first | ((with_reducible refine gate_store (t := 3) (p := 21) rfl ?_); refine store_event (t := 3) (p := 21) (v := ?vo_w46) (w1 := (wr.setCell ⟨go11, (x16_1 : Int).toNat, none⟩ (.int .i64 (-1)))) ?hg ?ho ?hn ?hr ?_; (case ho => rfl); (case hg => rfl); (case hn => rfl); (case hr => first | (go_simp; done) | (go_simp; rfl)); intro w46 hw; have hg : wr.grownBy w46 (some go11) := (by rw [hw]; exact HP45.2); have hp_ : Kd.R (Kd.int .i64) 3 w46 w.heap.size (fun k_ => some k_ ≠ (u4 : Value).ownBlock) (.slice (some ⟨go11, 0, none⟩) x3_1.length co11) y171 := (by rw [hw, Ny171.out]; exact HP45.1); clear HP45; have n0_ := Aside0.mk (hp_); have n1_ := Aside0.mk (Kd.R_after (v := (.slice (some ⟨go11, 0, none⟩) x3_1.length co11)) (v1 := (.slice (some ⟨go11, 0, none⟩) x3_1.length co11)) (ok := (fun _ => True)) (by (with_reducible repeat (first | apply Kd.R_alloc | apply Kd.R_drewN | apply Kd.R_drew)); exact Kd.R_mono HO_4.out (fun _ hk => ⟨trivial, hk⟩)) hg (.inl rfl)); have n2_ := Aside0.mk ((by rw [hw]; exact below_set (HB.out) GB11.out : Below w.heap.size w w46)); clear HO_3; clear HO_4; clear HB; have HO_3 := n0_; have HO_4 := n1_; have HB := n2_; clear n0_ n1_ n2_; clear hg hw hp_; have p13 : 0 ≤ (x16_1 : Int) := of_decide_eq_true (by first | (with_reducible assumption) | assumption); have q13 : x16_1 < (a0.size : Int) := of_decide_eq_true (by first | (with_reducible assumption) | assumption); have hx13 := bt_at a0 x16_1; replace p13 := eq_true p13; replace q13 := eq_true q13) | ((with_reducible refine gate_callee (f := 41) rfl ?_); refine goesL_ (some 25) rfl rfl Try.func41 (by kernel_rfl) rfl #[.string (⟨#[40, 91, 123]⟩ : ByteArray), .int .u8 (bt a0 x16_1)] rfl (by (try simp only [List.map_toArray, List.map_cons, List.map_nil]); first | done | rfl | (simp only [List.length_drop, List.length_take]; rfl)) ?_; (with_reducible refine (strings_IndexByte.calls (⟨#[40, 91, 123]⟩ : ByteArray) (bt a0 x16_1) t172 _ A14.out).mono ?_); rintro e w' ⟨rfl, ⟨nd, rfl⟩⟩; refine ⟨_, rfl, ?_⟩) | ((with_reducible refine gate_builtin (b := .append) (xs := #[.tmp 27, .tmp 29]) rfl ?_); at_builtin; refine Kd.R_append (Kd.int .i64) (w0 := w) w.heap.size rfl (.tmp 27) (.tmp 29) 26 3 (.int .i64 0) 8 rfl Try.underlying26 info3 rfl (by decide) (by omega) u4 x4_1 x16_1 [.int .i64 x16_1] (fun k_ => some k_ ≠ (.slice (some ⟨go11, 0, none⟩) x3_1.length co11 : Value).ownBlock) (fun _ => False) rfl rfl ?aP (fun _ hk => hk.elim) ?aF ?aO ?aB ?aS ?aL ?_; (case aP => exact rfl); (case aB => exact (by repeat (first | (with_reducible first | exact HB.out | apply below_alloc | apply pw_below_drewN | apply below_drew1) | exact HB.out))); (case aF => exact (fun k_ hk => Kd.fresh' (Kd.R_lt (by (with_reducible repeat (first | apply Kd.R_alloc | apply Kd.R_drewN | apply Kd.R_drew)); exact HO_3.out)) k_ hk)); (case aO => exact (by (with_reducible repeat (first | apply Kd.R_alloc | apply Kd.R_drewN | apply Kd.R_drew)); exact Kd.R_mono HO_4.out (fun _ hk => hk.2))); (case aS => exact (below_size (by repeat (first | (with_reducible first | exact HB.out | apply below_alloc | apply pw_below_drewN | apply below_drew1) | exact HB.out)))); (case aL => have := LMc16.out; omega); intro v174 w47 ho hb hg hat; rw [← Ny173.out] at ho; have n0_ := Aside0.mk (Kd.R_after (ok := (fun _ => True)) (by (with_reducible repeat (first | apply Kd.R_alloc | apply Kd.R_drewN | apply Kd.R_drew)); exact Kd.R_mono HO_3.out (fun _ hk => ⟨trivial, hk⟩)) hg hat); have n1_ := Aside0.mk (hb); have n2_ := Aside0.mk (ho); clear HO_3; clear HB; clear HO_4; have HO_3 := n0_; have HB := n1_; have HO175 := n2_; clear n0_ n1_ n2_; clear ho hb hg hat; have p17 : 0 ≤ (x16_1 : Int) := of_decide_eq_true (by first | (with_reducible assumption) | assumption); have q17 : x16_1 < (a0.size : Int) := of_decide_eq_true (by first | (with_reducible assumption) | assumption); have hx17 := bt_at a0 x16_1; replace p17 := eq_true p17; replace q17 := eq_true q17) | ((with_reducible refine gate_callee (f := 41) rfl ?_); refine goesL_ (some 34) rfl rfl Try.func41 (by kernel_rfl) rfl #[.string (⟨#[41, 93, 125]⟩ : ByteArray), .int .u8 (bt a0 x16_1)] rfl (by (try simp only [List.map_toArray, List.map_cons, List.map_nil]); first | done | rfl | (simp only [List.length_drop, List.length_take]; rfl)) ?_; (with_reducible refine (strings_IndexByte.calls (⟨#[41, 93, 125]⟩ : ByteArray) (bt a0 x16_1) t176 _ A18.out).mono ?_); rintro e w' ⟨rfl, ⟨nd, rfl⟩⟩; refine ⟨_, rfl, ?_⟩; obtain ⟨Ao48, co48, eo48⟩ := Kd.R_slice HO175.out; subst eo48))
                                          (try (rw [drewN_self w47]; generalize hq_ : World.drewN w47 _ = w47; have n0_ : Aside0 (Kd.R (Kd.int .i64) 3 w47 w.heap.size (fun k_ => some k_ ≠ (.slice (some ⟨go11, 0, none⟩) x3_1.length co11 : Value).ownBlock) (.slice Ao48 y173.length co48) y173) := ⟨by rw [← hq_]; exact (by (with_reducible repeat (first | apply Kd.R_alloc | apply Kd.R_drewN | apply Kd.R_drew)); exact HO175.out)⟩; have n1_ : Aside0 (Kd.R (Kd.int .i64) 3 w47 w.heap.size (fun k_ => some k_ ≠ (.slice Ao48 y173.length co48 : Value).ownBlock) (.slice (some ⟨go11, 0, none⟩) x3_1.length co11) y171) := ⟨by rw [← hq_]; exact (by (with_reducible repeat (first | apply Kd.R_alloc | apply Kd.R_drewN | apply Kd.R_drew)); exact Kd.R_mono HO_3.out (fun _ hk => hk.2))⟩; have n2_ : Aside0 (Below w.heap.size w w47) := ⟨by rw [← hq_]; exact (by repeat (first | (with_reducible first | exact HB.out | apply below_alloc | apply pw_below_drewN | apply below_drew1) | exact HB.out))⟩; clear HO175 HO_3 HB hq_; have HO175 := n0_; have HO_3 := n1_; have HB := n2_; clear n0_ n1_ n2_))
                                          have n0_ := Aside0.mk (Kd.R_drew HO_3.out)
                                          have n1_ := Aside0.mk (Kd.R_drew HO175.out)
                                          have n2_ := Aside0.mk (below_drew1 HB.out)
                                          clear HO_3
                                          clear HO175
                                          clear HB
                                          have HO_3 := n0_
                                          have HO175 := n1_
                                          have HB := n2_
                                          clear n0_ n1_ n2_
                                          have p177 : 0 ≤ ((ji21) : Int) := of_decide_eq_true (by first | (with_reducible assumption) | assumption)
                                          have q177 : (ji21) < (y173.length : Int) := of_decide_eq_true (by first | (with_reducible assumption) | assumption)
                                          obtain ⟨ad177, e177, hx177_0⟩ := Kd.at_int (Kd.R_reads' HO175.out).2.2 (ji21) p177 q177
                                          cases e177
                                          replace p177 := eq_true p177
                                          replace q177 := eq_true q177
                                          have p26 : 0 ≤ ((rd y173 (ji21)) : Int) := of_decide_eq_true (by first | (with_reducible assumption) | assumption)
                                          have q26 : (rd y173 (ji21)) < (a0.size : Int) := of_decide_eq_true (by first | (with_reducible assumption) | assumption)
                                          have hx26 := bt_at a0 (rd y173 (ji21))
                                          replace p26 := eq_true p26
                                          replace q26 := eq_true q26
                                          have p29 : 0 ≤ (t176 : Int) := of_decide_eq_true (by first | (with_reducible assumption) | assumption)
                                          have q29 : t176 < (3 : Int) := of_decide_eq_true (by first | (with_reducible assumption) | assumption)
                                          have hx29 := bt_at (⟨#[40, 91, 123]⟩ : ByteArray) t176
                                          replace p29 := eq_true p29
                                          replace q29 := eq_true q29
                                          refine start_ (n := 17) (S := fun w' => w'.cell? (ad177.add ((ji21)).toNat) = some (.int .i64 (rd y173 (ji21)))) (ds := []) #[false, false, false, false, false, false, false, false, false, false, false, false, false, false, false, false, false] (by kernel_rfl) rfl rfl (hx177_0) (fun hHeld => ?_); refine with_tabW impl_BracketMates.tab13 impl_BracketMates.bits13 (fun HT_ HW_ => ?_)
                                          generalize w47.drew = w49 at HO_3 HO175 HB hx177_0 hHeld ⊢
                                          refine pure_ (i := 0) (N := some 38) (v := ?_) (a' := ?_) #[true, false, false, false, false, false, false, false, false, false, false, false, false, false, false, false, false] rfl rfl (any_of HT_.out (by kernel_rfl)) (fun _ _ _ h => h) (Or.inl ⟨by rfl, ?_⟩) ?_ ?_
                                          rotate_left
                                          · intro w'
                                            go_simp
                                            with_reducible rfl
                                          rotate_left
                                          · simp only [Act.put, List.setIfInBounds_toArray, List.set_cons_zero, List.set_cons_succ, i64_w, i32_w]
                                            rfl
                                          refine pure_ (i := 1) (N := some 39) (v := ?_) (a' := ?_) #[true, true, false, false, false, false, false, false, false, false, false, false, false, false, false, false, false] rfl rfl (any_of HT_.out (by kernel_rfl)) (fun _ _ _ h => h) (Or.inl ⟨by rfl, ?_⟩) ?_ ?_
                                          rotate_left
                                          · intro w'
                                            go_simp
                                            with_reducible rfl
                                          rotate_left
                                          · simp only [Act.put, List.setIfInBounds_toArray, List.set_cons_zero, List.set_cons_succ, i64_w, i32_w]
                                            rfl
                                          refine pure_ (i := 2) (N := some 40) (v := ?_) (a' := ?_) #[true, true, true, false, false, false, false, false, false, false, false, false, false, false, false, false, false] rfl rfl (any_of HT_.out (by kernel_rfl)) (fun _ _ _ h => h) (Or.inl ⟨by rfl, ?_⟩) ?_ ?_
                                          rotate_left
                                          · intro w'
                                            go_simp
                                            with_reducible rfl
                                          rotate_left
                                          · simp only [Act.put, List.setIfInBounds_toArray, List.set_cons_zero, List.set_cons_succ, i64_w, i32_w]
                                            rfl
                                          refine pure_ (i := 3) (N := some 41) (v := ?_) (a' := ?_) #[true, true, true, true, false, false, false, false, false, false, false, false, false, false, false, false, false] rfl rfl (any_of HT_.out (by kernel_rfl)) (fun _ _ _ h => h) (Or.inl ⟨by rfl, ?_⟩) ?_ ?_
                                          rotate_left
                                          · intro w'
                                            go_simp
                                            with_reducible rfl
                                          rotate_left
                                          · simp only [Act.put, List.setIfInBounds_toArray, List.set_cons_zero, List.set_cons_succ, i64_w, i32_w]
                                            rfl
                                          refine pure_ (i := 4) (N := some 42) (v := ?_) (a' := ?_) #[true, true, true, true, true, false, false, false, false, false, false, false, false, false, false, false, false] rfl rfl (any_of HT_.out (by kernel_rfl)) (fun _ _ _ h => h) (Or.inl ⟨by rfl, ?_⟩) ?_ ?_
                                          rotate_left
                                          · intro w'
                                            go_simp
                                            with_reducible rfl
                                          rotate_left
                                          · simp only [Act.put, List.setIfInBounds_toArray, List.set_cons_zero, List.set_cons_succ, i64_w, i32_w]
                                            rfl
                                          refine pure_ (i := 5) (N := some 43) (v := ?_) (a' := ?_) #[true, true, true, true, true, true, false, false, false, false, false, false, false, false, false, false, false] rfl rfl (any_of HT_.out (by kernel_rfl)) (fun _ _ _ h => h) (Or.inl ⟨by rfl, ?_⟩) ?_ ?_
                                          rotate_left
                                          · intro w'
                                            go_simp
                                            with_reducible rfl
                                          rotate_left
                                          · simp only [Act.put, List.setIfInBounds_toArray, List.set_cons_zero, List.set_cons_succ, i64_w, i32_w]
                                            rfl
                                          refine pure_ (i := 6) (N := some 44) (v := ?_) (a' := ?_) #[true, true, true, true, true, true, true, false, false, false, false, false, false, false, false, false, false] rfl rfl (any_of HT_.out (by kernel_rfl)) (fun _ _ _ h => h) (Or.inl ⟨by rfl, ?_⟩) ?_ ?_
                                          rotate_left
                                          · intro w'
                                            go_simp
                                            with_reducible rfl
                                          rotate_left
                                          · simp only [Act.put, List.setIfInBounds_toArray, List.set_cons_zero, List.set_cons_succ, i64_w, i32_w]
                                            rfl
                                          refine pure_ (i := 7) (N := some 45) (v := ?_) (a' := ?_) #[true, true, true, true, true, true, true, true, false, false, false, false, false, false, false, false, false] rfl rfl (any_of HT_.out (by kernel_rfl)) (fun _ _ _ h => h) (Or.inl ⟨by rfl, ?_⟩) ?_ ?_
                                          rotate_left
                                          · intro w'
                                            go_simp
                                            with_reducible rfl
                                          rotate_left
                                          · simp only [Act.put, List.setIfInBounds_toArray, List.set_cons_zero, List.set_cons_succ, i64_w, i32_w]
                                            rfl
                                          refine pure_ (i := 8) (N := some 46) (v := ?_) (a' := ?_) #[true, true, true, true, true, true, true, true, true, false, false, false, false, false, false, false, false] rfl rfl (any_of HT_.out (by kernel_rfl)) (fun _ _ _ h => h) (Or.inl ⟨by rfl, ?_⟩) ?_ ?_
                                          rotate_left
                                          · intro w'
                                            go_simp
                                            with_reducible rfl
                                          rotate_left
                                          · simp only [Act.put, List.setIfInBounds_toArray, List.set_cons_zero, List.set_cons_succ, i64_w, i32_w]
                                            rfl
                                          refine pure_ (i := 9) (N := some 47) (v := ?_) (a' := ?_) #[true, true, true, true, true, true, true, true, true, true, false, false, false, false, false, false, false] rfl rfl (any_of HT_.out (by kernel_rfl)) (fun _ _ _ h => h) (Or.inl ⟨by rfl, ?_⟩) ?_ ?_
                                          rotate_left
                                          · intro w'
                                            go_simp
                                            with_reducible rfl
                                          rotate_left
                                          · simp only [Act.put, List.setIfInBounds_toArray, List.set_cons_zero, List.set_cons_succ, i64_w, i32_w]
                                            rfl
                                          refine pure_ (i := 10) (N := some 48) (v := ?_) (a' := ?_) #[true, true, true, true, true, true, true, true, true, true, true, false, false, false, false, false, false] rfl rfl (any_of HT_.out (by kernel_rfl)) (fun _ _ _ h => h) (Or.inl ⟨by rfl, ?_⟩) ?_ ?_
                                          rotate_left
                                          · intro w'
                                            go_simp
                                            with_reducible rfl
                                          rotate_left
                                          · simp only [Act.put, List.setIfInBounds_toArray, List.set_cons_zero, List.set_cons_succ, i64_w, i32_w]
                                            rfl
                                          refine pure_ (i := 13) (N := some 51) (v := ?_) (a' := ?_) #[true, true, true, true, true, true, true, true, true, true, true, false, false, true, false, false, false] rfl rfl (any_of HT_.out (by kernel_rfl)) (fun _ _ _ h => h) (Or.inl ⟨by rfl, ?_⟩) ?_ ?_
                                          rotate_left
                                          · intro w'
                                            go_simp
                                            with_reducible rfl
                                          rotate_left
                                          · simp only [Act.put, List.setIfInBounds_toArray, List.set_cons_zero, List.set_cons_succ, i64_w, i32_w]
                                            rfl
                                          refine take_ (i := 11) (N := some 49) (v := ?_) (a' := ?_) #[true, true, true, true, true, true, true, true, true, true, true, true, false, true, false, false, false] rfl rfl (take_ofW HT_.out HW_.out (by kernel_rfl)) (fun _ _ _ h => h) (Or.inl ⟨by rfl, ?_⟩) hHeld ?_ ?_
                                          rotate_left
                                          · intro w' s0
                                            go_simp
                                            with_reducible rfl
                                          rotate_left
                                          · simp only [Act.put, List.setIfInBounds_toArray, List.set_cons_zero, List.set_cons_succ, i64_w, i32_w]
                                            rfl
                                          refine take_ (i := 12) (N := some 50) (v := ?_) (a' := ?_) #[true, true, true, true, true, true, true, true, true, true, true, true, true, true, false, false, false] rfl rfl (take_ofW HT_.out HW_.out (by kernel_rfl)) (fun _ _ _ h => h) (Or.inl ⟨by rfl, ?_⟩) hHeld ?_ ?_
                                          rotate_left
                                          · intro w' s0
                                            go_simp
                                            with_reducible rfl
                                          rotate_left
                                          · simp only [Act.put, List.setIfInBounds_toArray, List.set_cons_zero, List.set_cons_succ, i64_w, i32_w]
                                            rfl
                                          refine take_ (i := 14) (N := some 52) (v := ?_) (a' := ?_) #[true, true, true, true, true, true, true, true, true, true, true, true, true, true, true, false, false] rfl rfl (take_ofW HT_.out HW_.out (by kernel_rfl)) (fun _ _ _ h => h) (Or.inl ⟨by rfl, ?_⟩) hHeld ?_ ?_
                                          rotate_left
                                          · intro w' s0
                                            go_simp
                                            with_reducible rfl
                                          rotate_left
                                          · simp only [Act.put, List.setIfInBounds_toArray, List.set_cons_zero, List.set_cons_succ, i64_w, i32_w]
                                            rfl
                                          refine pure_ (i := 15) (N := some 53) (v := ?_) (a' := ?_) #[true, true, true, true, true, true, true, true, true, true, true, true, true, true, true, true, false] rfl rfl (any_of HT_.out (by kernel_rfl)) (fun _ _ _ h => h) (Or.inl ⟨by rfl, ?_⟩) ?_ ?_
                                          rotate_left
                                          · intro w'
                                            go_simp
                                            with_reducible rfl
                                          rotate_left
                                          · simp only [Act.put, List.setIfInBounds_toArray, List.set_cons_zero, List.set_cons_succ, i64_w, i32_w]
                                            rfl
                                          refine pure_ (i := 16) (N := some 54) (v := ?_) (a' := ?_) #[true, true, true, true, true, true, true, true, true, true, true, true, true, true, true, true, true] rfl rfl (any_of HT_.out (by kernel_rfl)) (fun _ _ _ h => h) (Or.inl ⟨by rfl, ?_⟩) ?_ ?_
                                          rotate_left
                                          · intro w'
                                            go_simp
                                            with_reducible rfl
                                          rotate_left
                                          · simp only [Act.put, List.setIfInBounds_toArray, List.set_cons_zero, List.set_cons_succ, i64_w, i32_w]
                                            rfl
                                          refine done_ (done_of HT_.out (by kernel_rfl)) ?_
                                          try go_wp2
                                          go_roundg k1
                                          case measure => have := HK1.out; omega
                                          case rel => exact ⟨(y171), (y173), (wrap64 (x16_1 + 1)), (by first | rfl | (simp; done) | (simp [*]; done)), H', ⟨by have := HK1.out; omega⟩, ⟨by (with_reducible repeat (first | apply Kd.R_alloc | apply Kd.R_drewN | apply Kd.R_drew)); exact HO_3.out⟩, ⟨by (with_reducible repeat (first | apply Kd.R_alloc | apply Kd.R_drewN | apply Kd.R_drew)); exact HO175.out⟩, ⟨by repeat (first | (with_reducible first | exact HB.out | apply below_alloc | apply pw_below_drewN | apply below_drew1) | exact HB.out)⟩⟩
                                      · rw [if_neg c28] at H
                                        exact absurd H (by simp)
                                    · rw [if_neg c27] at H
                                      exact absurd H (by simp)
                                  · rw [if_neg c25] at H
                                    exact absurd H (by simp)
                                · rw [if_neg c24] at H
                                  exact absurd H (by simp)
                              · rw [if_neg c23] at H
                                exact absurd H (by simp)
                            · rw [if_neg c22] at H
                              exact absurd H (by simp)
                          · rw [if_neg c20] at H
                            have c20b0 : decide (0 ≤ (wrap64 ((y173.length : Int) - 1))) = false := decide_eq_false c20
                            clear c20
                            have H' := Aside0.mk H
                            clear H
                            have p11 : 0 ≤ (x16_1 : Int) := of_decide_eq_true (by first | (with_reducible assumption) | assumption)
                            have q11 : (x16_1 : Int) < ((x3_1.length : Int) : Int) := of_decide_eq_true (by first | (with_reducible assumption) | assumption)
                            obtain ⟨go11, co11, eo11, gb11, gl11, cl11, HG11⟩ := Kd.R_form HO_3.out (by omega)
                            (first | cases eo11 | (injection eo11 with ea_ en_ ec_; (first | subst ea_ | (injection ea_ with ea_; subst ea_)); subst ec_; clear en_))
                            have GB11 := Aside0.mk gb11
                            have GG11 := Aside0.mk HG11
                            clear gb11 gl11 HG11
                            obtain ⟨hx11_0, hf11_0⟩ := Kd.R_celln 0 HO_3.out (x16_1 : Int) p11 q11
                            replace p11 := eq_true p11
                            replace q11 := eq_true q11
                            have HP50 := Kd.R_putg HO_3.out (x16_1 : Int) (-1)
                            try go_wp2_with (first | ((with_reducible refine gate_store (t := 3) (p := 21) rfl ?_); refine store_event (t := 3) (p := 21) (v := ?vo_w51) (w1 := (wr.setCell ⟨go11, (x16_1 : Int).toNat, none⟩ (.int .i64 (-1)))) ?hg ?ho ?hn ?hr ?_; (case ho => rfl); (case hg => rfl); (case hn => rfl); (case hr => first | (go_simp; done) | (go_simp; rfl)); intro w51 hw; have hg : wr.grownBy w51 (some go11) := (by rw [hw]; exact HP50.2); have hp_ : Kd.R (Kd.int .i64) 3 w51 w.heap.size (fun k_ => some k_ ≠ (u4 : Value).ownBlock) (.slice (some ⟨go11, 0, none⟩) x3_1.length co11) y171 := (by rw [hw, Ny171.out]; exact HP50.1); clear HP50; have n0_ := Aside0.mk (hp_); have n1_ := Aside0.mk (Kd.R_after (v := (.slice (some ⟨go11, 0, none⟩) x3_1.length co11)) (v1 := (.slice (some ⟨go11, 0, none⟩) x3_1.length co11)) (ok := (fun _ => True)) (by (with_reducible repeat (first | apply Kd.R_alloc | apply Kd.R_drewN | apply Kd.R_drew)); exact Kd.R_mono HO_4.out (fun _ hk => ⟨trivial, hk⟩)) hg (.inl rfl)); have n2_ := Aside0.mk ((by rw [hw]; exact below_set (HB.out) GB11.out : Below w.heap.size w w51)); clear HO_3; clear HO_4; clear HB; have HO_3 := n0_; have HO_4 := n1_; have HB := n2_; clear n0_ n1_ n2_; clear hg hw hp_; have p13 : 0 ≤ (x16_1 : Int) := of_decide_eq_true (by first | (with_reducible assumption) | assumption); have q13 : x16_1 < (a0.size : Int) := of_decide_eq_true (by first | (with_reducible assumption) | assumption); have hx13 := bt_at a0 x16_1; replace p13 := eq_true p13; replace q13 := eq_true q13) | ((with_reducible refine gate_callee (f := 41) rfl ?_); refine goesL_ (some 25) rfl rfl Try.func41 (by kernel_rfl) rfl #[.string (⟨#[40, 91, 123]⟩ : ByteArray), .int .u8 (bt a0 x16_1)] rfl (by (try simp only [List.map_toArray, List.map_cons, List.map_nil]); first | done | rfl | (simp only [List.length_drop, List.length_take]; rfl)) ?_; (with_reducible refine (strings_IndexByte.calls (⟨#[40, 91, 123]⟩ : ByteArray) (bt a0 x16_1) t172 _ A14.out).mono ?_); rintro e w' ⟨rfl, ⟨nd, rfl⟩⟩; refine ⟨_, rfl, ?_⟩) | ((with_reducible refine gate_builtin (b := .append) (xs := #[.tmp 27, .tmp 29]) rfl ?_); at_builtin; refine Kd.R_append (Kd.int .i64) (w0 := w) w.heap.size rfl (.tmp 27) (.tmp 29) 26 3 (.int .i64 0) 8 rfl Try.underlying26 info3 rfl (by decide) (by omega) u4 x4_1 x16_1 [.int .i64 x16_1] (fun k_ => some k_ ≠ (.slice (some ⟨go11, 0, none⟩) x3_1.length co11 : Value).ownBlock) (fun _ => False) rfl rfl ?aP (fun _ hk => hk.elim) ?aF ?aO ?aB ?aS ?aL ?_; (case aP => exact rfl); (case aB => exact (by repeat (first | (with_reducible first | exact HB.out | apply below_alloc | apply pw_below_drewN | apply below_drew1) | exact HB.out))); (case aF => exact (fun k_ hk => Kd.fresh' (Kd.R_lt (by (with_reducible repeat (first | apply Kd.R_alloc | apply Kd.R_drewN | apply Kd.R_drew)); exact HO_3.out)) k_ hk)); (case aO => exact (by (with_reducible repeat (first | apply Kd.R_alloc | apply Kd.R_drewN | apply Kd.R_drew)); exact Kd.R_mono HO_4.out (fun _ hk => hk.2))); (case aS => exact (below_size (by repeat (first | (with_reducible first | exact HB.out | apply below_alloc | apply pw_below_drewN | apply below_drew1) | exact HB.out)))); (case aL => have := LMc16.out; omega); intro v174 w52 ho hb hg hat; rw [← Ny173.out] at ho; have n0_ := Aside0.mk (Kd.R_after (ok := (fun _ => True)) (by (with_reducible repeat (first | apply Kd.R_alloc | apply Kd.R_drewN | apply Kd.R_drew)); exact Kd.R_mono HO_3.out (fun _ hk => ⟨trivial, hk⟩)) hg hat); have n1_ := Aside0.mk (hb); have n2_ := Aside0.mk (ho); clear HO_3; clear HB; clear HO_4; have HO_3 := n0_; have HB := n1_; have HO175 := n2_; clear n0_ n1_ n2_; clear ho hb hg hat; have p17 : 0 ≤ (x16_1 : Int) := of_decide_eq_true (by first | (with_reducible assumption) | assumption); have q17 : x16_1 < (a0.size : Int) := of_decide_eq_true (by first | (with_reducible assumption) | assumption); have hx17 := bt_at a0 x16_1; replace p17 := eq_true p17; replace q17 := eq_true q17) | ((with_reducible refine gate_callee (f := 41) rfl ?_); refine goesL_ (some 34) rfl rfl Try.func41 (by kernel_rfl) rfl #[.string (⟨#[41, 93, 125]⟩ : ByteArray), .int .u8 (bt a0 x16_1)] rfl (by (try simp only [List.map_toArray, List.map_cons, List.map_nil]); first | done | rfl | (simp only [List.length_drop, List.length_take]; rfl)) ?_; (with_reducible refine (strings_IndexByte.calls (⟨#[41, 93, 125]⟩ : ByteArray) (bt a0 x16_1) t176 _ A18.out).mono ?_); rintro e w' ⟨rfl, ⟨nd, rfl⟩⟩; refine ⟨_, rfl, ?_⟩; obtain ⟨Ao53, co53, eo53⟩ := Kd.R_slice HO175.out; subst eo53))
                            (try (rw [drewN_self w52]; generalize hq_ : World.drewN w52 _ = w52; have n0_ : Aside0 (Kd.R (Kd.int .i64) 3 w52 w.heap.size (fun k_ => some k_ ≠ (.slice (some ⟨go11, 0, none⟩) x3_1.length co11 : Value).ownBlock) (.slice Ao53 y173.length co53) y173) := ⟨by rw [← hq_]; exact (by (with_reducible repeat (first | apply Kd.R_alloc | apply Kd.R_drewN | apply Kd.R_drew)); exact HO175.out)⟩; have n1_ : Aside0 (Kd.R (Kd.int .i64) 3 w52 w.heap.size (fun k_ => some k_ ≠ (.slice Ao53 y173.length co53 : Value).ownBlock) (.slice (some ⟨go11, 0, none⟩) x3_1.length co11) y171) := ⟨by rw [← hq_]; exact (by (with_reducible repeat (first | apply Kd.R_alloc | apply Kd.R_drewN | apply Kd.R_drew)); exact Kd.R_mono HO_3.out (fun _ hk => hk.2))⟩; have n2_ : Aside0 (Below w.heap.size w w52) := ⟨by rw [← hq_]; exact (by repeat (first | (with_reducible first | exact HB.out | apply below_alloc | apply pw_below_drewN | apply below_drew1) | exact HB.out))⟩; clear HO175 HO_3 HB hq_; have HO175 := n0_; have HO_3 := n1_; have HB := n2_; clear n0_ n1_ n2_))
                            have n0_ := Aside0.mk (Kd.R_drew HO_3.out)
                            have n1_ := Aside0.mk (Kd.R_drew HO175.out)
                            have n2_ := Aside0.mk (below_drew1 HB.out)
                            clear HO_3
                            clear HO175
                            clear HB
                            have HO_3 := n0_
                            have HO175 := n1_
                            have HB := n2_
                            clear n0_ n1_ n2_
                            refine start_ (n := 17) (S := fun w' => True) (ds := []) #[false, false, false, false, false, false, false, false, false, false, false, false, false, false, false, false, false] (by kernel_rfl) rfl rfl trivial (fun hHeld => ?_); refine with_tabW impl_BracketMates.tab13 impl_BracketMates.bits13 (fun HT_ HW_ => ?_)
                            generalize w52.drew = w54 at HO_3 HO175 HB hHeld ⊢
                            refine pure_ (i := 0) (N := some 38) (v := ?_) (a' := ?_) #[true, false, false, false, false, false, false, false, false, false, false, false, false, false, false, false, false] rfl rfl (any_of HT_.out (by kernel_rfl)) (fun _ _ _ h => h) (Or.inl ⟨by rfl, ?_⟩) ?_ ?_
                            rotate_left
                            · intro w'
                              go_simp
                              with_reducible rfl
                            rotate_left
                            · simp only [Act.put, List.setIfInBounds_toArray, List.set_cons_zero, List.set_cons_succ, i64_w, i32_w]
                              rfl
                            refine pure_ (i := 1) (N := some 39) (v := ?_) (a' := ?_) #[true, true, false, false, false, false, false, false, false, false, false, false, false, false, false, false, false] rfl rfl (any_of HT_.out (by kernel_rfl)) (fun _ _ _ h => h) (Or.inl ⟨by rfl, ?_⟩) ?_ ?_
                            rotate_left
                            · intro w'
                              go_simp
                              with_reducible rfl
                            rotate_left
                            · simp only [Act.put, List.setIfInBounds_toArray, List.set_cons_zero, List.set_cons_succ, i64_w, i32_w]
                              rfl
                            refine pure_ (i := 2) (N := some 40) (v := ?_) (a' := ?_) #[true, true, true, false, false, false, false, false, false, false, false, false, false, false, false, false, false] rfl rfl (any_of HT_.out (by kernel_rfl)) (fun _ _ _ h => h) (Or.inl ⟨by rfl, ?_⟩) ?_ ?_
                            rotate_left
                            · intro w'
                              go_simp
                              with_reducible rfl
                            rotate_left
                            · simp only [Act.put, List.setIfInBounds_toArray, List.set_cons_zero, List.set_cons_succ, i64_w, i32_w]
                              rfl
                            refine pure_ (i := 3) (N := some 41) (v := ?_) (a' := ?_) #[true, true, true, true, false, false, false, false, false, false, false, false, false, false, false, false, false] rfl rfl (any_of HT_.out (by kernel_rfl)) (fun _ _ _ h => h) (Or.inl ⟨by rfl, ?_⟩) ?_ ?_
                            rotate_left
                            · intro w'
                              go_simp
                              with_reducible rfl
                            rotate_left
                            · simp only [Act.put, List.setIfInBounds_toArray, List.set_cons_zero, List.set_cons_succ, i64_w, i32_w]
                              rfl
                            refine pure_ (i := 4) (N := some 42) (v := ?_) (a' := ?_) #[true, true, true, true, true, false, false, false, false, false, false, false, false, false, false, false, false] rfl rfl (any_of HT_.out (by kernel_rfl)) (fun _ _ _ h => h) (Or.inl ⟨by rfl, ?_⟩) ?_ ?_
                            rotate_left
                            · intro w'
                              go_simp
                              with_reducible rfl
                            rotate_left
                            · simp only [Act.put, List.setIfInBounds_toArray, List.set_cons_zero, List.set_cons_succ, i64_w, i32_w]
                              rfl
                            refine pure_ (i := 5) (N := some 43) (v := ?_) (a' := ?_) #[true, true, true, true, true, true, false, false, false, false, false, false, false, false, false, false, false] rfl rfl (any_of HT_.out (by kernel_rfl)) (fun _ _ _ h => h) (Or.inl ⟨by rfl, ?_⟩) ?_ ?_
                            rotate_left
                            · intro w'
                              go_simp
                              with_reducible rfl
                            rotate_left
                            · simp only [Act.put, List.setIfInBounds_toArray, List.set_cons_zero, List.set_cons_succ, i64_w, i32_w]
                              rfl
                            refine pure_ (i := 6) (N := some 44) (v := ?_) (a' := ?_) #[true, true, true, true, true, true, true, false, false, false, false, false, false, false, false, false, false] rfl rfl (any_of HT_.out (by kernel_rfl)) (fun _ _ _ h => h) (Or.inl ⟨by rfl, ?_⟩) ?_ ?_
                            rotate_left
                            · intro w'
                              go_simp
                              with_reducible rfl
                            rotate_left
                            · simp only [Act.put, List.setIfInBounds_toArray, List.set_cons_zero, List.set_cons_succ, i64_w, i32_w]
                              rfl
                            refine pure_ (i := 7) (N := some 45) (v := undef) (a' := ?_) #[true, true, true, true, true, true, true, true, false, false, false, false, false, false, false, false, false] rfl rfl (any_of HT_.out (by kernel_rfl)) (fun _ _ _ h => h) (Or.inr ⟨by rfl, rfl⟩) ?_ ?_
                            rotate_left
                            · simp only [Act.put, List.setIfInBounds_toArray, List.set_cons_zero, List.set_cons_succ, i64_w, i32_w]
                              rfl
                            refine pure_ (i := 8) (N := some 46) (v := undef) (a' := ?_) #[true, true, true, true, true, true, true, true, true, false, false, false, false, false, false, false, false] rfl rfl (any_of HT_.out (by kernel_rfl)) (fun _ _ _ h => h) (Or.inr ⟨by rfl, rfl⟩) ?_ ?_
                            rotate_left
                            · simp only [Act.put, List.setIfInBounds_toArray, List.set_cons_zero, List.set_cons_succ, i64_w, i32_w]
                              rfl
                            refine pure_ (i := 9) (N := some 47) (v := undef) (a' := ?_) #[true, true, true, true, true, true, true, true, true, true, false, false, false, false, false, false, false] rfl rfl (any_of HT_.out (by kernel_rfl)) (fun _ _ _ h => h) (Or.inr ⟨by rfl, rfl⟩) ?_ ?_
                            rotate_left
                            · simp only [Act.put, List.setIfInBounds_toArray, List.set_cons_zero, List.set_cons_succ, i64_w, i32_w]
                              rfl
                            refine pure_ (i := 10) (N := some 48) (v := undef) (a' := ?_) #[true, true, true, true, true, true, true, true, true, true, true, false, false, false, false, false, false] rfl rfl (any_of HT_.out (by kernel_rfl)) (fun _ _ _ h => h) (Or.inr ⟨by rfl, rfl⟩) ?_ ?_
                            rotate_left
                            · simp only [Act.put, List.setIfInBounds_toArray, List.set_cons_zero, List.set_cons_succ, i64_w, i32_w]
                              rfl
                            refine pure_ (i := 11) (N := some 49) (v := undef) (a' := ?_) #[true, true, true, true, true, true, true, true, true, true, true, true, false, false, false, false, false] rfl rfl (any_of HT_.out (by kernel_rfl)) (fun _ _ _ h => h) (Or.inr ⟨by rfl, rfl⟩) ?_ ?_
                            rotate_left
                            · simp only [Act.put, List.setIfInBounds_toArray, List.set_cons_zero, List.set_cons_succ, i64_w, i32_w]
                              rfl
                            refine pure_ (i := 12) (N := some 50) (v := undef) (a' := ?_) #[true, true, true, true, true, true, true, true, true, true, true, true, true, false, false, false, false] rfl rfl (any_of HT_.out (by kernel_rfl)) (fun _ _ _ h => h) (Or.inr ⟨by rfl, rfl⟩) ?_ ?_
                            rotate_left
                            · simp only [Act.put, List.setIfInBounds_toArray, List.set_cons_zero, List.set_cons_succ, i64_w, i32_w]
                              rfl
                            refine pure_ (i := 13) (N := some 51) (v := undef) (a' := ?_) #[true, true, true, true, true, true, true, true, true, true, true, true, true, true, false, false, false] rfl rfl (any_of HT_.out (by kernel_rfl)) (fun _ _ _ h => h) (Or.inr ⟨by rfl, rfl⟩) ?_ ?_
                            rotate_left
                            · simp only [Act.put, List.setIfInBounds_toArray, List.set_cons_zero, List.set_cons_succ, i64_w, i32_w]
                              rfl
                            refine pure_ (i := 14) (N := some 52) (v := undef) (a' := ?_) #[true, true, true, true, true, true, true, true, true, true, true, true, true, true, true, false, false] rfl rfl (any_of HT_.out (by kernel_rfl)) (fun _ _ _ h => h) (Or.inr ⟨by rfl, rfl⟩) ?_ ?_
                            rotate_left
                            · simp only [Act.put, List.setIfInBounds_toArray, List.set_cons_zero, List.set_cons_succ, i64_w, i32_w]
                              rfl
                            refine pure_ (i := 15) (N := some 53) (v := undef) (a' := ?_) #[true, true, true, true, true, true, true, true, true, true, true, true, true, true, true, true, false] rfl rfl (any_of HT_.out (by kernel_rfl)) (fun _ _ _ h => h) (Or.inr ⟨by rfl, rfl⟩) ?_ ?_
                            rotate_left
                            · simp only [Act.put, List.setIfInBounds_toArray, List.set_cons_zero, List.set_cons_succ, i64_w, i32_w]
                              rfl
                            refine pure_ (i := 16) (N := some 54) (v := ?_) (a' := ?_) #[true, true, true, true, true, true, true, true, true, true, true, true, true, true, true, true, true] rfl rfl (any_of HT_.out (by kernel_rfl)) (fun _ _ _ h => h) (Or.inl ⟨by rfl, ?_⟩) ?_ ?_
                            rotate_left
                            · intro w'
                              go_simp
                              with_reducible rfl
                            rotate_left
                            · simp only [Act.put, List.setIfInBounds_toArray, List.set_cons_zero, List.set_cons_succ, i64_w, i32_w]
                              rfl
                            refine done_ (done_of HT_.out (by kernel_rfl)) ?_
                            try go_wp2
                            go_roundg k1
                            case measure => have := HK1.out; omega
                            case rel => exact ⟨(y171), (y173), (wrap64 (x16_1 + 1)), (by first | rfl | (simp; done) | (simp [*]; done)), H', ⟨by have := HK1.out; omega⟩, ⟨by (with_reducible repeat (first | apply Kd.R_alloc | apply Kd.R_drewN | apply Kd.R_drew)); exact HO_3.out⟩, ⟨by (with_reducible repeat (first | apply Kd.R_alloc | apply Kd.R_drewN | apply Kd.R_drew)); exact HO175.out⟩, ⟨by repeat (first | (with_reducible first | exact HB.out | apply below_alloc | apply pw_below_drewN | apply below_drew1) | exact HB.out)⟩⟩
                        · rw [if_neg c19] at H
                          have c19b0 : decide (0 ≤ t176) = false := decide_eq_false c19
                          clear c19
                          have H' := Aside0.mk H
                          clear H
                          have p11 : 0 ≤ (x16_1 : Int) := of_decide_eq_true (by first | (with_reducible assumption) | assumption)
                          have q11 : (x16_1 : Int) < ((x3_1.length : Int) : Int) := of_decide_eq_true (by first | (with_reducible assumption) | assumption)
                          obtain ⟨go11, co11, eo11, gb11, gl11, cl11, HG11⟩ := Kd.R_form HO_3.out (by omega)
                          (first | cases eo11 | (injection eo11 with ea_ en_ ec_; (first | subst ea_ | (injection ea_ with ea_; subst ea_)); subst ec_; clear en_))
                          have GB11 := Aside0.mk gb11
                          have GG11 := Aside0.mk HG11
                          clear gb11 gl11 HG11
                          obtain ⟨hx11_0, hf11_0⟩ := Kd.R_celln 0 HO_3.out (x16_1 : Int) p11 q11
                          replace p11 := eq_true p11
                          replace q11 := eq_true q11
                          have HP55 := Kd.R_putg HO_3.out (x16_1 : Int) (-1)
                          try go_wp2_with (first | ((with_reducible refine gate_store (t := 3) (p := 21) rfl ?_); refine store_event (t := 3) (p := 21) (v := ?vo_w56) (w1 := (wr.setCell ⟨go11, (x16_1 : Int).toNat, none⟩ (.int .i64 (-1)))) ?hg ?ho ?hn ?hr ?_; (case ho => rfl); (case hg => rfl); (case hn => rfl); (case hr => first | (go_simp; done) | (go_simp; rfl)); intro w56 hw; have hg : wr.grownBy w56 (some go11) := (by rw [hw]; exact HP55.2); have hp_ : Kd.R (Kd.int .i64) 3 w56 w.heap.size (fun k_ => some k_ ≠ (u4 : Value).ownBlock) (.slice (some ⟨go11, 0, none⟩) x3_1.length co11) y171 := (by rw [hw, Ny171.out]; exact HP55.1); clear HP55; have n0_ := Aside0.mk (hp_); have n1_ := Aside0.mk (Kd.R_after (v := (.slice (some ⟨go11, 0, none⟩) x3_1.length co11)) (v1 := (.slice (some ⟨go11, 0, none⟩) x3_1.length co11)) (ok := (fun _ => True)) (by (with_reducible repeat (first | apply Kd.R_alloc | apply Kd.R_drewN | apply Kd.R_drew)); exact Kd.R_mono HO_4.out (fun _ hk => ⟨trivial, hk⟩)) hg (.inl rfl)); have n2_ := Aside0.mk ((by rw [hw]; exact below_set (HB.out) GB11.out : Below w.heap.size w w56)); clear HO_3; clear HO_4; clear HB; have HO_3 := n0_; have HO_4 := n1_; have HB := n2_; clear n0_ n1_ n2_; clear hg hw hp_; have p13 : 0 ≤ (x16_1 : Int) := of_decide_eq_true (by first | (with_reducible assumption) | assumption); have q13 : x16_1 < (a0.size : Int) := of_decide_eq_true (by first | (with_reducible assumption) | assumption); have hx13 := bt_at a0 x16_1; replace p13 := eq_true p13; replace q13 := eq_true q13) | ((with_reducible refine gate_callee (f := 41) rfl ?_); refine goesL_ (some 25) rfl rfl Try.func41 (by kernel_rfl) rfl #[.string (⟨#[40, 91, 123]⟩ : ByteArray), .int .u8 (bt a0 x16_1)] rfl (by (try simp only [List.map_toArray, List.map_cons, List.map_nil]); first | done | rfl | (simp only [List.length_drop, List.length_take]; rfl)) ?_; (with_reducible refine (strings_IndexByte.calls (⟨#[40, 91, 123]⟩ : ByteArray) (bt a0 x16_1) t172 _ A14.out).mono ?_); rintro e w' ⟨rfl, ⟨nd, rfl⟩⟩; refine ⟨_, rfl, ?_⟩) | ((with_reducible refine gate_builtin (b := .append) (xs := #[.tmp 27, .tmp 29]) rfl ?_); at_builtin; refine Kd.R_append (Kd.int .i64) (w0 := w) w.heap.size rfl (.tmp 27) (.tmp 29) 26 3 (.int .i64 0) 8 rfl Try.underlying26 info3 rfl (by decide) (by omega) u4 x4_1 x16_1 [.int .i64 x16_1] (fun k_ => some k_ ≠ (.slice (some ⟨go11, 0, none⟩) x3_1.length co11 : Value).ownBlock) (fun _ => False) rfl rfl ?aP (fun _ hk => hk.elim) ?aF ?aO ?aB ?aS ?aL ?_; (case aP => exact rfl); (case aB => exact (by repeat (first | (with_reducible first | exact HB.out | apply below_alloc | apply pw_below_drewN | apply below_drew1) | exact HB.out))); (case aF => exact (fun k_ hk => Kd.fresh' (Kd.R_lt (by (with_reducible repeat (first | apply Kd.R_alloc | apply Kd.R_drewN | apply Kd.R_drew)); exact HO_3.out)) k_ hk)); (case aO => exact (by (with_reducible repeat (first | apply Kd.R_alloc | apply Kd.R_drewN | apply Kd.R_drew)); exact Kd.R_mono HO_4.out (fun _ hk => hk.2))); (case aS => exact (below_size (by repeat (first | (with_reducible first | exact HB.out | apply below_alloc | apply pw_below_drewN | apply below_drew1) | exact HB.out)))); (case aL => have := LMc16.out; omega); intro v174 w57 ho hb hg hat; rw [← Ny173.out] at ho; have n0_ := Aside0.mk (Kd.R_after (ok := (fun _ => True)) (by (with_reducible repeat (first | apply Kd.R_alloc | apply Kd.R_drewN | apply Kd.R_drew)); exact Kd.R_mono HO_3.out (fun _ hk => ⟨trivial, hk⟩)) hg hat); have n1_ := Aside0.mk (hb); have n2_ := Aside0.mk (ho); clear HO_3; clear HB; clear HO_4; have HO_3 := n0_; have HB := n1_; have HO175 := n2_; clear n0_ n1_ n2_; clear ho hb hg hat; have p17 : 0 ≤ (x16_1 : Int) := of_decide_eq_true (by first | (with_reducible assumption) | assumption); have q17 : x16_1 < (a0.size : Int) := of_decide_eq_true (by first | (with_reducible assumption) | assumption); have hx17 := bt_at a0 x16_1; replace p17 := eq_true p17; replace q17 := eq_true q17) | ((with_reducible refine gate_callee (f := 41) rfl ?_); refine goesL_ (some 34) rfl rfl Try.func41 (by kernel_rfl) rfl #[.string (⟨#[41, 93, 125]⟩ : ByteArray), .int .u8 (bt a0 x16_1)] rfl (by (try simp only [List.map_toArray, List.map_cons, List.map_nil]); first | done | rfl | (simp only [List.length_drop, List.length_take]; rfl)) ?_; (with_reducible refine (strings_IndexByte.calls (⟨#[41, 93, 125]⟩ : ByteArray) (bt a0 x16_1) t176 _ A18.out).mono ?_); rintro e w' ⟨rfl, ⟨nd, rfl⟩⟩; refine ⟨_, rfl, ?_⟩; obtain ⟨Ao58, co58, eo58⟩ := Kd.R_slice HO175.out; subst eo58))
                          (try (rw [drewN_self w57]; generalize hq_ : World.drewN w57 _ = w57; have n0_ : Aside0 (Kd.R (Kd.int .i64) 3 w57 w.heap.size (fun k_ => some k_ ≠ (.slice (some ⟨go11, 0, none⟩) x3_1.length co11 : Value).ownBlock) (.slice Ao58 y173.length co58) y173) := ⟨by rw [← hq_]; exact (by (with_reducible repeat (first | apply Kd.R_alloc | apply Kd.R_drewN | apply Kd.R_drew)); exact HO175.out)⟩; have n1_ : Aside0 (Kd.R (Kd.int .i64) 3 w57 w.heap.size (fun k_ => some k_ ≠ (.slice Ao58 y173.length co58 : Value).ownBlock) (.slice (some ⟨go11, 0, none⟩) x3_1.length co11) y171) := ⟨by rw [← hq_]; exact (by (with_reducible repeat (first | apply Kd.R_alloc | apply Kd.R_drewN | apply Kd.R_drew)); exact Kd.R_mono HO_3.out (fun _ hk => hk.2))⟩; have n2_ : Aside0 (Below w.heap.size w w57) := ⟨by rw [← hq_]; exact (by repeat (first | (with_reducible first | exact HB.out | apply below_alloc | apply pw_below_drewN | apply below_drew1) | exact HB.out))⟩; clear HO175 HO_3 HB hq_; have HO175 := n0_; have HO_3 := n1_; have HB := n2_; clear n0_ n1_ n2_))
                          have n0_ := Aside0.mk (Kd.R_drew HO_3.out)
                          have n1_ := Aside0.mk (Kd.R_drew HO175.out)
                          have n2_ := Aside0.mk (below_drew1 HB.out)
                          clear HO_3
                          clear HO175
                          clear HB
                          have HO_3 := n0_
                          have HO175 := n1_
                          have HB := n2_
                          clear n0_ n1_ n2_
                          refine start_ (n := 17) (S := fun w' => True) (ds := []) #[false, false, false, false, false, false, false, false, false, false, false, false, false, false, false, false, false] (by kernel_rfl) rfl rfl trivial (fun hHeld => ?_); refine with_tabW impl_BracketMates.tab13 impl_BracketMates.bits13 (fun HT_ HW_ => ?_)
                          generalize w57.drew = w59 at HO_3 HO175 HB hHeld ⊢
                          refine pure_ (i := 0) (N := some 38) (v := ?_) (a' := ?_) #[true, false, false, false, false, false, false, false, false, false, false, false, false, false, false, false, false] rfl rfl (any_of HT_.out (by kernel_rfl)) (fun _ _ _ h => h) (Or.inl ⟨by rfl, ?_⟩) ?_ ?_
                          rotate_left
                          · intro w'
                            go_simp
                            with_reducible rfl
                          rotate_left
                          · simp only [Act.put, List.setIfInBounds_toArray, List.set_cons_zero, List.set_cons_succ, i64_w, i32_w]
                            rfl
                          refine pure_ (i := 1) (N := some 39) (v := ?_) (a' := ?_) #[true, true, false, false, false, false, false, false, false, false, false, false, false, false, false, false, false] rfl rfl (any_of HT_.out (by kernel_rfl)) (fun _ _ _ h => h) (Or.inl ⟨by rfl, ?_⟩) ?_ ?_
                          rotate_left
                          · intro w'
                            go_simp
                            with_reducible rfl
                          rotate_left
                          · simp only [Act.put, List.setIfInBounds_toArray, List.set_cons_zero, List.set_cons_succ, i64_w, i32_w]
                            rfl
                          refine pure_ (i := 2) (N := some 40) (v := ?_) (a' := ?_) #[true, true, true, false, false, false, false, false, false, false, false, false, false, false, false, false, false] rfl rfl (any_of HT_.out (by kernel_rfl)) (fun _ _ _ h => h) (Or.inl ⟨by rfl, ?_⟩) ?_ ?_
                          rotate_left
                          · intro w'
                            go_simp
                            with_reducible rfl
                          rotate_left
                          · simp only [Act.put, List.setIfInBounds_toArray, List.set_cons_zero, List.set_cons_succ, i64_w, i32_w]
                            rfl
                          refine pure_ (i := 3) (N := some 41) (v := undef) (a' := ?_) #[true, true, true, true, false, false, false, false, false, false, false, false, false, false, false, false, false] rfl rfl (any_of HT_.out (by kernel_rfl)) (fun _ _ _ h => h) (Or.inr ⟨by rfl, rfl⟩) ?_ ?_
                          rotate_left
                          · simp only [Act.put, List.setIfInBounds_toArray, List.set_cons_zero, List.set_cons_succ, i64_w, i32_w]
                            rfl
                          refine pure_ (i := 4) (N := some 42) (v := undef) (a' := ?_) #[true, true, true, true, true, false, false, false, false, false, false, false, false, false, false, false, false] rfl rfl (any_of HT_.out (by kernel_rfl)) (fun _ _ _ h => h) (Or.inr ⟨by rfl, rfl⟩) ?_ ?_
                          rotate_left
                          · simp only [Act.put, List.setIfInBounds_toArray, List.set_cons_zero, List.set_cons_succ, i64_w, i32_w]
                            rfl
                          refine pure_ (i := 5) (N := some 43) (v := ?_) (a' := ?_) #[true, true, true, true, true, true, false, false, false, false, false, false, false, false, false, false, false] rfl rfl (any_of HT_.out (by kernel_rfl)) (fun _ _ _ h => h) (Or.inl ⟨by rfl, ?_⟩) ?_ ?_
                          rotate_left
                          · intro w'
                            go_simp
                            with_reducible rfl
                          rotate_left
                          · simp only [Act.put, List.setIfInBounds_toArray, List.set_cons_zero, List.set_cons_succ, i64_w, i32_w]
                            rfl
                          refine pure_ (i := 6) (N := some 44) (v := ?_) (a' := ?_) #[true, true, true, true, true, true, true, false, false, false, false, false, false, false, false, false, false] rfl rfl (any_of HT_.out (by kernel_rfl)) (fun _ _ _ h => h) (Or.inl ⟨by rfl, ?_⟩) ?_ ?_
                          rotate_left
                          · intro w'
                            go_simp
                            with_reducible rfl
                          rotate_left
                          · simp only [Act.put, List.setIfInBounds_toArray, List.set_cons_zero, List.set_cons_succ, i64_w, i32_w]
                            rfl
                          refine pure_ (i := 7) (N := some 45) (v := undef) (a' := ?_) #[true, true, true, true, true, true, true, true, false, false, false, false, false, false, false, false, false] rfl rfl (any_of HT_.out (by kernel_rfl)) (fun _ _ _ h => h) (Or.inr ⟨by rfl, rfl⟩) ?_ ?_
                          rotate_left
                          · simp only [Act.put, List.setIfInBounds_toArray, List.set_cons_zero, List.set_cons_succ, i64_w, i32_w]
                            rfl
                          refine pure_ (i := 8) (N := some 46) (v := undef) (a' := ?_) #[true, true, true, true, true, true, true, true, true, false, false, false, false, false, false, false, false] rfl rfl (any_of HT_.out (by kernel_rfl)) (fun _ _ _ h => h) (Or.inr ⟨by rfl, rfl⟩) ?_ ?_
                          rotate_left
                          · simp only [Act.put, List.setIfInBounds_toArray, List.set_cons_zero, List.set_cons_succ, i64_w, i32_w]
                            rfl
                          refine pure_ (i := 9) (N := some 47) (v := undef) (a' := ?_) #[true, true, true, true, true, true, true, true, true, true, false, false, false, false, false, false, false] rfl rfl (any_of HT_.out (by kernel_rfl)) (fun _ _ _ h => h) (Or.inr ⟨by rfl, rfl⟩) ?_ ?_
                          rotate_left
                          · simp only [Act.put, List.setIfInBounds_toArray, List.set_cons_zero, List.set_cons_succ, i64_w, i32_w]
                            rfl
                          refine pure_ (i := 10) (N := some 48) (v := undef) (a' := ?_) #[true, true, true, true, true, true, true, true, true, true, true, false, false, false, false, false, false] rfl rfl (any_of HT_.out (by kernel_rfl)) (fun _ _ _ h => h) (Or.inr ⟨by rfl, rfl⟩) ?_ ?_
                          rotate_left
                          · simp only [Act.put, List.setIfInBounds_toArray, List.set_cons_zero, List.set_cons_succ, i64_w, i32_w]
                            rfl
                          refine pure_ (i := 11) (N := some 49) (v := undef) (a' := ?_) #[true, true, true, true, true, true, true, true, true, true, true, true, false, false, false, false, false] rfl rfl (any_of HT_.out (by kernel_rfl)) (fun _ _ _ h => h) (Or.inr ⟨by rfl, rfl⟩) ?_ ?_
                          rotate_left
                          · simp only [Act.put, List.setIfInBounds_toArray, List.set_cons_zero, List.set_cons_succ, i64_w, i32_w]
                            rfl
                          refine pure_ (i := 12) (N := some 50) (v := undef) (a' := ?_) #[true, true, true, true, true, true, true, true, true, true, true, true, true, false, false, false, false] rfl rfl (any_of HT_.out (by kernel_rfl)) (fun _ _ _ h => h) (Or.inr ⟨by rfl, rfl⟩) ?_ ?_
                          rotate_left
                          · simp only [Act.put, List.setIfInBounds_toArray, List.set_cons_zero, List.set_cons_succ, i64_w, i32_w]
                            rfl
                          refine pure_ (i := 13) (N := some 51) (v := undef) (a' := ?_) #[true, true, true, true, true, true, true, true, true, true, true, true, true, true, false, false, false] rfl rfl (any_of HT_.out (by kernel_rfl)) (fun _ _ _ h => h) (Or.inr ⟨by rfl, rfl⟩) ?_ ?_
                          rotate_left
                          · simp only [Act.put, List.setIfInBounds_toArray, List.set_cons_zero, List.set_cons_succ, i64_w, i32_w]
                            rfl
                          refine pure_ (i := 14) (N := some 52) (v := undef) (a' := ?_) #[true, true, true, true, true, true, true, true, true, true, true, true, true, true, true, false, false] rfl rfl (any_of HT_.out (by kernel_rfl)) (fun _ _ _ h => h) (Or.inr ⟨by rfl, rfl⟩) ?_ ?_
                          rotate_left
                          · simp only [Act.put, List.setIfInBounds_toArray, List.set_cons_zero, List.set_cons_succ, i64_w, i32_w]
                            rfl
                          refine pure_ (i := 15) (N := some 53) (v := undef) (a' := ?_) #[true, true, true, true, true, true, true, true, true, true, true, true, true, true, true, true, false] rfl rfl (any_of HT_.out (by kernel_rfl)) (fun _ _ _ h => h) (Or.inr ⟨by rfl, rfl⟩) ?_ ?_
                          rotate_left
                          · simp only [Act.put, List.setIfInBounds_toArray, List.set_cons_zero, List.set_cons_succ, i64_w, i32_w]
                            rfl
                          refine pure_ (i := 16) (N := some 54) (v := ?_) (a' := ?_) #[true, true, true, true, true, true, true, true, true, true, true, true, true, true, true, true, true] rfl rfl (any_of HT_.out (by kernel_rfl)) (fun _ _ _ h => h) (Or.inl ⟨by rfl, ?_⟩) ?_ ?_
                          rotate_left
                          · intro w'
                            go_simp
                            with_reducible rfl
                          rotate_left
                          · simp only [Act.put, List.setIfInBounds_toArray, List.set_cons_zero, List.set_cons_succ, i64_w, i32_w]
                            rfl
                          refine done_ (done_of HT_.out (by kernel_rfl)) ?_
                          try go_wp2
                          go_roundg k1
                          case measure => have := HK1.out; omega
                          case rel => exact ⟨(y171), (y173), (wrap64 (x16_1 + 1)), (by first | rfl | (simp; done) | (simp [*]; done)), H', ⟨by have := HK1.out; omega⟩, ⟨by (with_reducible repeat (first | apply Kd.R_alloc | apply Kd.R_drewN | apply Kd.R_drew)); exact HO_3.out⟩, ⟨by (with_reducible repeat (first | apply Kd.R_alloc | apply Kd.R_drewN | apply Kd.R_drew)); exact HO175.out⟩, ⟨by repeat (first | (with_reducible first | exact HB.out | apply below_alloc | apply pw_below_drewN | apply below_drew1) | exact HB.out)⟩⟩
                      · rw [if_neg c16] at H
                        exact absurd H (by simp)
                    · rw [if_neg c15] at H
                      have c15b0 : decide (0 ≤ t172) = false := decide_eq_false c15
                      clear c15
                      replace H := Option.bind_eq_some_iff.mp H
                      obtain ⟨t185, A610, H⟩ := H
                      replace H : (if t185 ≥ 0 then (if (wrap64 ((x4_1.length : Int) - 1)) ≥ 0 then (if 0 ≤ (wrap64 ((x4_1.length : Int) - 1)) then (if (wrap64 ((x4_1.length : Int) - 1)) < (x4_1.length : Int) then (if 0 ≤ (rd x4_1 (wrap64 ((x4_1.length : Int) - 1))) then (if (rd x4_1 (wrap64 ((x4_1.length : Int) - 1))) < (a0.size : Int) then (if 0 ≤ t185 then (if t185 < 3 then (if (bt a0 (rd x4_1 (wrap64 ((x4_1.length : Int) - 1)))) = (bt (⟨#[40, 91, 123]⟩ : ByteArray) t185) then (if (rd x4_1 (wrap64 ((x4_1.length : Int) - 1))) < (x3_1.length : Int) then (if (wrap64 ((x4_1.length : Int) - 1)) ≤ (x4_1.length : Int) then (impl_BracketMates.l0 k1 a0 ((y171.set (x16_1 : Int).toNat (rd x4_1 (wrap64 ((x4_1.length : Int) - 1)))).set ((rd x4_1 (wrap64 ((x4_1.length : Int) - 1))) : Int).toNat x16_1) (x4_1.take ((wrap64 ((x4_1.length : Int) - 1)) : Int).toNat) (a0.size : Int) (wrap64 (x16_1 + 1))) else (none)) else (none)) else (impl_BracketMates.l0 k1 a0 y171 x4_1 (a0.size : Int) (wrap64 (x16_1 + 1)))) else (none)) else (none)) else (none)) else (none)) else (none)) else (none)) else (impl_BracketMates.l0 k1 a0 y171 x4_1 (a0.size : Int) (wrap64 (x16_1 + 1)))) else (impl_BracketMates.l0 k1 a0 y171 x4_1 (a0.size : Int) (wrap64 (x16_1 + 1)))) = some r := H
                      have A61 := Aside0.mk A610
                      clear A610
                      by_cases c62 : t185 ≥ 0
                      · rw [if_pos c62] at H
                        have c62b0 : decide (0 ≤ t185) = true := decide_eq_true c62
                        clear c62
                        by_cases c63 : (wrap64 ((x4_1.length : Int) - 1)) ≥ 0
                        · rw [if_pos c63] at H
                          have c63b0 : decide (0 ≤ (wrap64 ((x4_1.length : Int) - 1))) = true := decide_eq_true c63
                          clear c63
                          obtain ⟨ji64, hji64⟩ : ∃ j_ : Int, (wrap64 ((x4_1.length : Int) - 1)) = j_ := ⟨_, rfl⟩
                          replace H : (if 0 ≤ (ji64) then (if (ji64) < (x4_1.length : Int) then (if 0 ≤ (rd x4_1 (ji64)) then (if (rd x4_1 (ji64)) < (a0.size : Int) then (if 0 ≤ t185 then (if t185 < 3 then (if (bt a0 (rd x4_1 (ji64))) = (bt (⟨#[40, 91, 123]⟩ : ByteArray) t185) then (if (rd x4_1 (ji64)) < (x3_1.length : Int) then (if (ji64) ≤ (x4_1.length : Int) then (impl_BracketMates.l0 k1 a0 ((y171.set (x16_1 : Int).toNat (rd x4_1 (ji64))).set ((rd x4_1 (ji64)) : Int).toNat x16_1) (x4_1.take ((ji64) : Int).toNat) (a0.size : Int) (wrap64 (x16_1 + 1))) else (none)) else (none)) else (impl_BracketMates.l0 k1 a0 y171 x4_1 (a0.size : Int) (wrap64 (x16_1 + 1)))) else (none)) else (none)) else (none)) else (none)) else (none)) else (none)) = some r := by first | (rw [hji64] at H; exact H) | (simp only [hji64] at H ⊢; exact H)
                          (try rw [hji64] at c63b0)
                          (try rw [hji64] at A14)
                          (try rw [hji64] at A61)
                          have hji64w : (IntKind.i64.wrap ((x4_1.length : Int) - 1)) = ji64 := (i64_w _).trans hji64
                          by_cases c65 : 0 ≤ (ji64)
                          · rw [if_pos c65] at H
                            have c65b0 : decide (0 ≤ (ji64)) = true := decide_eq_true c65
                            clear c65
                            by_cases c66 : (ji64) < (x4_1.length : Int)
                            · rw [if_pos c66] at H
                              have c66b0 : decide ((ji64) < (x4_1.length : Int)) = true := decide_eq_true c66
                              clear c66
                              by_cases c67 : 0 ≤ (rd x4_1 (ji64))
                              · rw [if_pos c67] at H
                                have c67b0 : decide (0 ≤ (rd x4_1 (ji64))) = true := decide_eq_true c67
                                clear c67
                                by_cases c68 : (rd x4_1 (ji64)) < (a0.size : Int)
                                · rw [if_pos c68] at H
                                  have c68b0 : decide ((rd x4_1 (ji64)) < (a0.size : Int)) = true := decide_eq_true c68
                                  clear c68
                                  by_cases c70 : 0 ≤ t185
                                  · rw [if_pos c70] at H
                                    have c70b0 : decide (0 ≤ t185) = true := decide_eq_true c70
                                    clear c70
                                    by_cases c71 : t185 < 3
                                    · rw [if_pos c71] at H
                                      have c71b0 : decide (t185 < 3) = true := decide_eq_true c71
                                      clear c71
                                      by_cases c73 : (bt a0 (rd x4_1 (ji64))) = (bt (⟨#[40, 91, 123]⟩ : ByteArray) t185)
                                      · rw [if_pos c73] at H
                                        have c73b0 : ((bt a0 (rd x4_1 (ji64))) == (bt (⟨#[40, 91, 123]⟩ : ByteArray) t185)) = true := beq_iff_eq.mpr c73
                                        have c73b1 : ((bt a0 (rd x4_1 (ji64))) != (bt (⟨#[40, 91, 123]⟩ : ByteArray) t185)) = false := bne_eq_false_iff_eq.mpr c73
                                        clear c73
                                        obtain ⟨y189, hy189⟩ : ∃ y_ : List Int, y_ = (y171.set (x16_1 : Int).toNat (rd x4_1 (ji64))) := ⟨_, rfl⟩
                                        replace H : (if (rd x4_1 (ji64)) < (x3_1.length : Int) then (if (ji64) ≤ (x4_1.length : Int) then (impl_BracketMates.l0 k1 a0 (y189.set ((rd x4_1 (ji64)) : Int).toNat x16_1) (x4_1.take ((ji64) : Int).toNat) (a0.size : Int) (wrap64 (x16_1 + 1))) else (none)) else (none)) = some r := by first | (rw [hy189]; with_reducible exact H) | (have H2_ := (Option.bind_some _ _).symm.trans H; rw [hy189]; with_reducible exact H2_) | (have H2_ := (Option.bind_some _ _).symm.trans H; with_reducible exact H2_) | with_reducible exact H | (rw [hy189]; exact H) | exact H
                                        have Ny189 := Aside0.mk hy189
                                        clear hy189
                                        by_cases c75 : (rd x4_1 (ji64)) < (x3_1.length : Int)
                                        · rw [if_pos c75] at H
                                          have c75b0 : decide ((rd x4_1 (ji64)) < (x3_1.length : Int)) = true := decide_eq_true c75
                                          clear c75
                                          obtain ⟨y190, hy190⟩ : ∃ y_ : List Int, y_ = (y189.set ((rd x4_1 (ji64)) : Int).toNat x16_1) := ⟨_, rfl⟩
                                          replace H : (if (ji64) ≤ (x4_1.length : Int) then (impl_BracketMates.l0 k1 a0 y190 (x4_1.take ((ji64) : Int).toNat) (a0.size : Int) (wrap64 (x16_1 + 1))) else (none)) = some r := by first | (rw [hy190]; with_reducible exact H) | (have H2_ := (Option.bind_some _ _).symm.trans H; rw [hy190]; with_reducible exact H2_) | (have H2_ := (Option.bind_some _ _).symm.trans H; with_reducible exact H2_) | with_reducible exact H | (rw [hy190]; exact H) | exact H
                                          have Ny190 := Aside0.mk hy190
                                          clear hy190
                                          by_cases c77 : (ji64) ≤ (x4_1.length : Int)
                                          · rw [if_pos c77] at H
                                            have c77b0 := eq_true c77
                                            have c77b1 : decide ((ji64) ≤ (x4_1.length : Int)) = true := decide_eq_true c77
                                            clear c77
                                            obtain ⟨y191, hy191⟩ : ∃ y_ : List Int, y_ = (x4_1.take ((ji64) : Int).toNat) := ⟨_, rfl⟩
                                            replace H : (impl_BracketMates.l0 k1 a0 y190 y191 (a0.size : Int) (wrap64 (x16_1 + 1))) = some r := by first | (rw [hy191]; with_reducible exact H) | (have H2_ := (Option.bind_some _ _).symm.trans H; rw [hy191]; with_reducible exact H2_) | (have H2_ := (Option.bind_some _ _).symm.trans H; with_reducible exact H2_) | with_reducible exact H | (rw [hy191]; exact H) | exact H
                                            have Ny191 := Aside0.mk hy191
                                            clear hy191
                                            have H' := Aside0.mk H
                                            clear H
                                            have p11 : 0 ≤ (x16_1 : Int) := of_decide_eq_true (by first | (with_reducible assumption) | assumption)
                                            have q11 : (x16_1 : Int) < ((x3_1.length : Int) : Int) := of_decide_eq_true (by first | (with_reducible assumption) | assumption)
                                            obtain ⟨go11, co11, eo11, gb11, gl11, cl11, HG11⟩ := Kd.R_form HO_3.out (by omega)
                                            (first | cases eo11 | (injection eo11 with ea_ en_ ec_; (first | subst ea_ | (injection ea_ with ea_; subst ea_)); subst ec_; clear en_))
                                            have GB11 := Aside0.mk gb11
                                            have GG11 := Aside0.mk HG11
                                            clear gb11 gl11 HG11
                                            obtain ⟨hx11_0, hf11_0⟩ := Kd.R_celln 0 HO_3.out (x16_1 : Int) p11 q11
                                            replace p11 := eq_true p11
                                            replace q11 := eq_true q11
                                            have HP78 := Kd.R_putg HO_3.out (x16_1 : Int) (-1)
                                            try go_wp2_with (first | ((with_reducible refine gate_store (t := 3) (p := 21) rfl ?_); refine store_event (t := 3) (p := 21) (v := ?vo_w79) (w1 := (wr.setCell ⟨go11, (x16_1 : Int).toNat, none⟩ (.int .i64 (-1)))) ?hg ?ho ?hn ?hr ?_; (case ho => rfl); (case hg => rfl); (case hn => rfl); (case hr => first | (go_simp; done) | (go_simp; rfl)); intro w79 hw; have hg : wr.grownBy w79 (some go11) := (by rw [hw]; exact HP78.2); have hp_ : Kd.R (Kd.int .i64) 3 w79 w.heap.size (fun k_ => some k_ ≠ (u4 : Value).ownBlock) (.slice (some ⟨go11, 0, none⟩) x3_1.length co11) y171 := (by rw [hw, Ny171.out]; exact HP78.1); clear HP78; have n0_ := Aside0.mk (hp_); have n1_ := Aside0.mk (Kd.R_after (v := (.slice (some ⟨go11, 0, none⟩) x3_1.length co11)) (v1 := (.slice (some ⟨go11, 0, none⟩) x3_1.length co11)) (ok := (fun _ => True)) (by (with_reducible repeat (first | apply Kd.R_alloc | apply Kd.R_drewN | apply Kd.R_drew)); exact Kd.R_mono HO_4.out (fun _ hk => ⟨trivial, hk⟩)) hg (.inl rfl)); have n2_ := Aside0.mk ((by rw [hw]; exact below_set (HB.out) GB11.out : Below w.heap.size w w79)); clear HO_3; clear HO_4; clear HB; have HO_3 := n0_; have HO_4 := n1_; have HB := n2_; clear n0_ n1_ n2_; clear hg hw hp_; have p13 : 0 ≤ (x16_1 : Int) := of_decide_eq_true (by first | (with_reducible assumption) | assumption); have q13 : x16_1 < (a0.size : Int) := of_decide_eq_true (by first | (with_reducible assumption) | assumption); have hx13 := bt_at a0 x16_1; replace p13 := eq_true p13; replace q13 := eq_true q13) | ((with_reducible refine gate_callee (f := 41) rfl ?_); refine goesL_ (some 25) rfl rfl Try.func41 (by kernel_rfl) rfl #[.string (⟨#[40, 91, 123]⟩ : ByteArray), .int .u8 (bt a0 x16_1)] rfl (by (try simp only [List.map_toArray, List.map_cons, List.map_nil]); first | done | rfl | (simp only [List.length_drop, List.length_take]; rfl)) ?_; (with_reducible refine (strings_IndexByte.calls (⟨#[40, 91, 123]⟩ : ByteArray) (bt a0 x16_1) t172 _ A14.out).mono ?_); rintro e w' ⟨rfl, ⟨nd, rfl⟩⟩; refine ⟨_, rfl, ?_⟩; (try (rw [drewN_self w79]; generalize hq_ : World.drewN w79 _ = w79; have n0_ : Aside0 (Kd.R (Kd.int .i64) 3 w79 w.heap.size (fun k_ => some k_ ≠ (u4 : Value).ownBlock) (.slice (some ⟨go11, 0, none⟩) x3_1.length co11) y171) := ⟨by rw [← hq_]; exact (by (with_reducible repeat (first | apply Kd.R_alloc | apply Kd.R_drewN | apply Kd.R_drew)); exact HO_3.out)⟩; have n1_ : Aside0 (Kd.R (Kd.int .i64) 3 w79 w.heap.size (fun k_ => some k_ ≠ (.slice (some ⟨go11, 0, none⟩) x3_1.length co11 : Value).ownBlock) u4 x4_1) := ⟨by rw [← hq_]; exact (by (with_reducible repeat (first | apply Kd.R_alloc | apply Kd.R_drewN | apply Kd.R_drew)); exact Kd.R_mono HO_4.out (fun _ hk => hk.2))⟩; have n2_ : Aside0 (Below w.heap.size w w79) := ⟨by rw [← hq_]; exact (by repeat (first | (with_reducible first | exact HB.out | apply below_alloc | apply pw_below_drewN | apply below_drew1) | exact HB.out))⟩; clear HO_3 HO_4 HB hq_; have HO_3 := n0_; have HO_4 := n1_; have HB := n2_; clear n0_ n1_ n2_)); have p60 : 0 ≤ (x16_1 : Int) := of_decide_eq_true (by first | (with_reducible assumption) | assumption); have q60 : x16_1 < (a0.size : Int) := of_decide_eq_true (by first | (with_reducible assumption) | assumption); have hx60 := bt_at a0 x16_1; replace p60 := eq_true p60; replace q60 := eq_true q60) | ((with_reducible refine gate_callee (f := 41) rfl ?_); refine goesL_ (some 34) rfl rfl Try.func41 (by kernel_rfl) rfl #[.string (⟨#[41, 93, 125]⟩ : ByteArray), .int .u8 (bt a0 x16_1)] rfl (by (try simp only [List.map_toArray, List.map_cons, List.map_nil]); first | done | rfl | (simp only [List.length_drop, List.length_take]; rfl)) ?_; (with_reducible refine (strings_IndexByte.calls (⟨#[41, 93, 125]⟩ : ByteArray) (bt a0 x16_1) t185 _ A61.out).mono ?_); rintro e w' ⟨rfl, ⟨nd, rfl⟩⟩; refine ⟨_, rfl, ?_⟩; (try (rw [drewN_self w79]; generalize hq_ : World.drewN w79 _ = w79; have n0_ : Aside0 (Kd.R (Kd.int .i64) 3 w79 w.heap.size (fun k_ => some k_ ≠ (u4 : Value).ownBlock) (.slice (some ⟨go11, 0, none⟩) x3_1.length co11) y171) := ⟨by rw [← hq_]; exact (by (with_reducible repeat (first | apply Kd.R_alloc | apply Kd.R_drewN | apply Kd.R_drew)); exact HO_3.out)⟩; have n1_ : Aside0 (Kd.R (Kd.int .i64) 3 w79 w.heap.size (fun k_ => some k_ ≠ (.slice (some ⟨go11, 0, none⟩) x3_1.length co11 : Value).ownBlock) u4 x4_1) := ⟨by rw [← hq_]; exact (by (with_reducible repeat (first | apply Kd.R_alloc | apply Kd.R_drewN | apply Kd.R_drew)); exact HO_4.out)⟩; have n2_ : Aside0 (Below w.heap.size w w79) := ⟨by rw [← hq_]; exact (by repeat (first | (with_reducible first | exact HB.out | apply below_alloc | apply pw_below_drewN | apply below_drew1) | exact HB.out))⟩; clear HO_3 HO_4 HB hq_; have HO_3 := n0_; have HO_4 := n1_; have HB := n2_; clear n0_ n1_ n2_)); obtain ⟨Ao80, co80, eo80⟩ := Kd.R_slice HO_4.out; subst eo80))
                                            have n0_ := Aside0.mk (Kd.R_drew HO_3.out)
                                            have n1_ := Aside0.mk (Kd.R_drew HO_4.out)
                                            have n2_ := Aside0.mk (below_drew1 HB.out)
                                            clear HO_3
                                            clear HO_4
                                            clear HB
                                            have HO_3 := n0_
                                            have HO_4 := n1_
                                            have HB := n2_
                                            clear n0_ n1_ n2_
                                            have p186 : 0 ≤ ((ji64) : Int) := of_decide_eq_true (by first | (with_reducible assumption) | assumption)
                                            have q186 : (ji64) < (x4_1.length : Int) := of_decide_eq_true (by first | (with_reducible assumption) | assumption)
                                            obtain ⟨ad186, e186, hx186_0⟩ := Kd.at_int (Kd.R_reads' HO_4.out).2.2 (ji64) p186 q186
                                            cases e186
                                            replace p186 := eq_true p186
                                            replace q186 := eq_true q186
                                            have p69 : 0 ≤ ((rd x4_1 (ji64)) : Int) := of_decide_eq_true (by first | (with_reducible assumption) | assumption)
                                            have q69 : (rd x4_1 (ji64)) < (a0.size : Int) := of_decide_eq_true (by first | (with_reducible assumption) | assumption)
                                            have hx69 := bt_at a0 (rd x4_1 (ji64))
                                            replace p69 := eq_true p69
                                            replace q69 := eq_true q69
                                            have p72 : 0 ≤ (t185 : Int) := of_decide_eq_true (by first | (with_reducible assumption) | assumption)
                                            have q72 : t185 < (3 : Int) := of_decide_eq_true (by first | (with_reducible assumption) | assumption)
                                            have hx72 := bt_at (⟨#[40, 91, 123]⟩ : ByteArray) t185
                                            replace p72 := eq_true p72
                                            replace q72 := eq_true q72
                                            refine start_ (n := 17) (S := fun w' => w'.cell? (ad186.add ((ji64)).toNat) = some (.int .i64 (rd x4_1 (ji64)))) (ds := []) #[false, false, false, false, false, false, false, false, false, false, false, false, false, false, false, false, false] (by kernel_rfl) rfl rfl (hx186_0) (fun hHeld => ?_); refine with_tabW impl_BracketMates.tab13 impl_BracketMates.bits13 (fun HT_ HW_ => ?_)
                                            generalize w79.drew = w81 at HO_3 HO_4 HB hx186_0 hHeld ⊢
                                            refine pure_ (i := 0) (N := some 38) (v := ?_) (a' := ?_) #[true, false, false, false, false, false, false, false, false, false, false, false, false, false, false, false, false] rfl rfl (any_of HT_.out (by kernel_rfl)) (fun _ _ _ h => h) (Or.inl ⟨by rfl, ?_⟩) ?_ ?_
                                            rotate_left
                                            · intro w'
                                              go_simp
                                              with_reducible rfl
                                            rotate_left
                                            · simp only [Act.put, List.setIfInBounds_toArray, List.set_cons_zero, List.set_cons_succ, i64_w, i32_w]
                                              rfl
                                            refine pure_ (i := 1) (N := some 39) (v := ?_) (a' := ?_) #[true, true, false, false, false, false, false, false, false, false, false, false, false, false, false, false, false] rfl rfl (any_of HT_.out (by kernel_rfl)) (fun _ _ _ h => h) (Or.inl ⟨by rfl, ?_⟩) ?_ ?_
                                            rotate_left
                                            · intro w'
                                              go_simp
                                              with_reducible rfl
                                            rotate_left
                                            · simp only [Act.put, List.setIfInBounds_toArray, List.set_cons_zero, List.set_cons_succ, i64_w, i32_w]
                                              rfl
                                            refine pure_ (i := 2) (N := some 40) (v := ?_) (a' := ?_) #[true, true, true, false, false, false, false, false, false, false, false, false, false, false, false, false, false] rfl rfl (any_of HT_.out (by kernel_rfl)) (fun _ _ _ h => h) (Or.inl ⟨by rfl, ?_⟩) ?_ ?_
                                            rotate_left
                                            · intro w'
                                              go_simp
                                              with_reducible rfl
                                            rotate_left
                                            · simp only [Act.put, List.setIfInBounds_toArray, List.set_cons_zero, List.set_cons_succ, i64_w, i32_w]
                                              rfl
                                            refine pure_ (i := 3) (N := some 41) (v := ?_) (a' := ?_) #[true, true, true, true, false, false, false, false, false, false, false, false, false, false, false, false, false] rfl rfl (any_of HT_.out (by kernel_rfl)) (fun _ _ _ h => h) (Or.inl ⟨by rfl, ?_⟩) ?_ ?_
                                            rotate_left
                                            · intro w'
                                              go_simp
                                              with_reducible rfl
                                            rotate_left
                                            · simp only [Act.put, List.setIfInBounds_toArray, List.set_cons_zero, List.set_cons_succ, i64_w, i32_w]
                                              rfl
                                            refine pure_ (i := 4) (N := some 42) (v := ?_) (a' := ?_) #[true, true, true, true, true, false, false, false, false, false, false, false, false, false, false, false, false] rfl rfl (any_of HT_.out (by kernel_rfl)) (fun _ _ _ h => h) (Or.inl ⟨by rfl, ?_⟩) ?_ ?_
                                            rotate_left
                                            · intro w'
                                              go_simp
                                              with_reducible rfl
                                            rotate_left
                                            · simp only [Act.put, List.setIfInBounds_toArray, List.set_cons_zero, List.set_cons_succ, i64_w, i32_w]
                                              rfl
                                            refine pure_ (i := 5) (N := some 43) (v := ?_) (a' := ?_) #[true, true, true, true, true, true, false, false, false, false, false, false, false, false, false, false, false] rfl rfl (any_of HT_.out (by kernel_rfl)) (fun _ _ _ h => h) (Or.inl ⟨by rfl, ?_⟩) ?_ ?_
                                            rotate_left
                                            · intro w'
                                              go_simp
                                              with_reducible rfl
                                            rotate_left
                                            · simp only [Act.put, List.setIfInBounds_toArray, List.set_cons_zero, List.set_cons_succ, i64_w, i32_w]
                                              rfl
                                            refine pure_ (i := 6) (N := some 44) (v := ?_) (a' := ?_) #[true, true, true, true, true, true, true, false, false, false, false, false, false, false, false, false, false] rfl rfl (any_of HT_.out (by kernel_rfl)) (fun _ _ _ h => h) (Or.inl ⟨by rfl, ?_⟩) ?_ ?_
                                            rotate_left
                                            · intro w'
                                              go_simp
                                              with_reducible rfl
                                            rotate_left
                                            · simp only [Act.put, List.setIfInBounds_toArray, List.set_cons_zero, List.set_cons_succ, i64_w, i32_w]
                                              rfl
                                            refine pure_ (i := 7) (N := some 45) (v := ?_) (a' := ?_) #[true, true, true, true, true, true, true, true, false, false, false, false, false, false, false, false, false] rfl rfl (any_of HT_.out (by kernel_rfl)) (fun _ _ _ h => h) (Or.inl ⟨by rfl, ?_⟩) ?_ ?_
                                            rotate_left
                                            · intro w'
                                              go_simp
                                              with_reducible rfl
                                            rotate_left
                                            · simp only [Act.put, List.setIfInBounds_toArray, List.set_cons_zero, List.set_cons_succ, i64_w, i32_w]
                                              rfl
                                            refine pure_ (i := 8) (N := some 46) (v := ?_) (a' := ?_) #[true, true, true, true, true, true, true, true, true, false, false, false, false, false, false, false, false] rfl rfl (any_of HT_.out (by kernel_rfl)) (fun _ _ _ h => h) (Or.inl ⟨by rfl, ?_⟩) ?_ ?_
                                            rotate_left
                                            · intro w'
                                              go_simp
                                              with_reducible rfl
                                            rotate_left
                                            · simp only [Act.put, List.setIfInBounds_toArray, List.set_cons_zero, List.set_cons_succ, i64_w, i32_w]
                                              rfl
                                            refine pure_ (i := 9) (N := some 47) (v := ?_) (a' := ?_) #[true, true, true, true, true, true, true, true, true, true, false, false, false, false, false, false, false] rfl rfl (any_of HT_.out (by kernel_rfl)) (fun _ _ _ h => h) (Or.inl ⟨by rfl, ?_⟩) ?_ ?_
                                            rotate_left
                                            · intro w'
                                              go_simp
                                              with_reducible rfl
                                            rotate_left
                                            · simp only [Act.put, List.setIfInBounds_toArray, List.set_cons_zero, List.set_cons_succ, i64_w, i32_w]
                                              rfl
                                            refine pure_ (i := 10) (N := some 48) (v := ?_) (a' := ?_) #[true, true, true, true, true, true, true, true, true, true, true, false, false, false, false, false, false] rfl rfl (any_of HT_.out (by kernel_rfl)) (fun _ _ _ h => h) (Or.inl ⟨by rfl, ?_⟩) ?_ ?_
                                            rotate_left
                                            · intro w'
                                              go_simp
                                              with_reducible rfl
                                            rotate_left
                                            · simp only [Act.put, List.setIfInBounds_toArray, List.set_cons_zero, List.set_cons_succ, i64_w, i32_w]
                                              rfl
                                            refine pure_ (i := 13) (N := some 51) (v := ?_) (a' := ?_) #[true, true, true, true, true, true, true, true, true, true, true, false, false, true, false, false, false] rfl rfl (any_of HT_.out (by kernel_rfl)) (fun _ _ _ h => h) (Or.inl ⟨by rfl, ?_⟩) ?_ ?_
                                            rotate_left
                                            · intro w'
                                              go_simp
                                              with_reducible rfl
                                            rotate_left
                                            · simp only [Act.put, List.setIfInBounds_toArray, List.set_cons_zero, List.set_cons_succ, i64_w, i32_w]
                                              rfl
                                            refine take_ (i := 11) (N := some 49) (v := ?_) (a' := ?_) #[true, true, true, true, true, true, true, true, true, true, true, true, false, true, false, false, false] rfl rfl (take_ofW HT_.out HW_.out (by kernel_rfl)) (fun _ _ _ h => h) (Or.inl ⟨by rfl, ?_⟩) hHeld ?_ ?_
                                            rotate_left
                                            · intro w' s0
                                              go_simp
                                              with_reducible rfl
                                            rotate_left
                                            · simp only [Act.put, List.setIfInBounds_toArray, List.set_cons_zero, List.set_cons_succ, i64_w, i32_w]
                                              rfl
                                            refine take_ (i := 12) (N := some 50) (v := ?_) (a' := ?_) #[true, true, true, true, true, true, true, true, true, true, true, true, true, true, false, false, false] rfl rfl (take_ofW HT_.out HW_.out (by kernel_rfl)) (fun _ _ _ h => h) (Or.inl ⟨by rfl, ?_⟩) hHeld ?_ ?_
                                            rotate_left
                                            · intro w' s0
                                              go_simp
                                              with_reducible rfl
                                            rotate_left
                                            · simp only [Act.put, List.setIfInBounds_toArray, List.set_cons_zero, List.set_cons_succ, i64_w, i32_w]
                                              rfl
                                            refine take_ (i := 14) (N := some 52) (v := ?_) (a' := ?_) #[true, true, true, true, true, true, true, true, true, true, true, true, true, true, true, false, false] rfl rfl (take_ofW HT_.out HW_.out (by kernel_rfl)) (fun _ _ _ h => h) (Or.inl ⟨by rfl, ?_⟩) hHeld ?_ ?_
                                            rotate_left
                                            · intro w' s0
                                              go_simp
                                              with_reducible rfl
                                            rotate_left
                                            · simp only [Act.put, List.setIfInBounds_toArray, List.set_cons_zero, List.set_cons_succ, i64_w, i32_w]
                                              rfl
                                            refine pure_ (i := 15) (N := some 53) (v := ?_) (a' := ?_) #[true, true, true, true, true, true, true, true, true, true, true, true, true, true, true, true, false] rfl rfl (any_of HT_.out (by kernel_rfl)) (fun _ _ _ h => h) (Or.inl ⟨by rfl, ?_⟩) ?_ ?_
                                            rotate_left
                                            · intro w'
                                              go_simp
                                              with_reducible rfl
                                            rotate_left
                                            · simp only [Act.put, List.setIfInBounds_toArray, List.set_cons_zero, List.set_cons_succ, i64_w, i32_w]
                                              rfl
                                            refine pure_ (i := 16) (N := some 54) (v := ?_) (a' := ?_) #[true, true, true, true, true, true, true, true, true, true, true, true, true, true, true, true, true] rfl rfl (any_of HT_.out (by kernel_rfl)) (fun _ _ _ h => h) (Or.inl ⟨by rfl, ?_⟩) ?_ ?_
                                            rotate_left
                                            · intro w'
                                              go_simp
                                              with_reducible rfl
                                            rotate_left
                                            · simp only [Act.put, List.setIfInBounds_toArray, List.set_cons_zero, List.set_cons_succ, i64_w, i32_w]
                                              rfl
                                            refine done_ (done_of HT_.out (by kernel_rfl)) ?_
                                            try go_wp2
                                            have n0_ := Aside0.mk (Kd.R_drew HO_3.out)
                                            have n1_ := Aside0.mk (Kd.R_drew HO_4.out)
                                            have n2_ := Aside0.mk (below_drew1 HB.out)
                                            clear HO_3
                                            clear HO_4
                                            clear HB
                                            have HO_3 := n0_
                                            have HO_4 := n1_
                                            have HB := n2_
                                            clear n0_ n1_ n2_
                                            have p187 : 0 ≤ ((ji64) : Int) := of_decide_eq_true (by first | (with_reducible assumption) | assumption)
                                            have q187 : (ji64) < (x4_1.length : Int) := of_decide_eq_true (by first | (with_reducible assumption) | assumption)
                                            obtain ⟨ad187, e187, hx187_0⟩ := Kd.at_int (Kd.R_reads' HO_4.out).2.2 (ji64) p187 q187
                                            obtain rfl : ad186 = ad187 := (by injection e187)
                                            replace p187 := eq_true p187
                                            replace q187 := eq_true q187
                                            have p188 : 0 ≤ ((ji64) : Int) := of_decide_eq_true (by first | (with_reducible assumption) | assumption)
                                            have q188 : (ji64) < (x4_1.length : Int) := of_decide_eq_true (by first | (with_reducible assumption) | assumption)
                                            obtain ⟨ad188, e188, hx188_0⟩ := Kd.at_int (Kd.R_reads' HO_4.out).2.2 (ji64) p188 q188
                                            obtain rfl : ad186 = ad188 := (by injection e188)
                                            replace p188 := eq_true p188
                                            replace q188 := eq_true q188
                                            have p74 : 0 ≤ (x16_1 : Int) := of_decide_eq_true (by first | (with_reducible assumption) | assumption)
                                            have q74 : (x16_1 : Int) < ((x3_1.length : Int) : Int) := of_decide_eq_true (by first | (with_reducible assumption) | assumption)
                                            obtain ⟨hx74_0, hf74_0⟩ := Kd.R_celln 0 HO_3.out (x16_1 : Int) p74 q74
                                            replace p74 := eq_true p74
                                            replace q74 := eq_true q74
                                            have HP83 := Kd.R_putn HO_3.out (x16_1 : Int) (rd x4_1 (ji64))
                                            rw [← Ny189.out] at HP83
                                            have HQ83 := Aside0.mk HP83
                                            clear HP83
                                            have p76 : 0 ≤ ((rd x4_1 (ji64)) : Int) := of_decide_eq_true (by first | (with_reducible assumption) | assumption)
                                            have q76 : ((rd x4_1 (ji64)) : Int) < ((x3_1.length : Int) : Int) := of_decide_eq_true (by first | (with_reducible assumption) | assumption)
                                            obtain ⟨hx76_0, hf76_0⟩ := Kd.R_celln 0 HQ83.out ((rd x4_1 (ji64)) : Int) p76 q76
                                            replace p76 := eq_true p76
                                            replace q76 := eq_true q76
                                            have HP84 := Kd.R_putn HQ83.out ((rd x4_1 (ji64)) : Int) x16_1
                                            rw [← Ny190.out] at HP84
                                            have HQ84 := Aside0.mk HP84
                                            clear HP84
                                            refine start_ (n := 16) (S := fun w' => w'.cell? (ad186.add ((ji64)).toNat) = some (.int .i64 (rd x4_1 (ji64))) ∧ w'.cell? (ad186.add ((ji64)).toNat) = some (.int .i64 (rd x4_1 (ji64)))) (ds := [13, 15]) #[false, false, false, false, false, false, false, false, false, false, false, false, false, false, false, false] (by kernel_rfl) rfl rfl ⟨hx187_0, hx188_0⟩ (fun hHeld => ?_); refine with_tabW impl_BracketMates.tab14 impl_BracketMates.bits14 (fun HT_ HW_ => ?_)
                                            generalize w81.drew = w82 at HO_3 HO_4 HB HQ83 HQ84 hf74_0 hf76_0 hx187_0 hx188_0 hx74_0 hx76_0 hHeld ⊢
                                            refine pure_ (i := 0) (N := some 55) (v := ?_) (a' := ?_) #[true, false, false, false, false, false, false, false, false, false, false, false, false, false, false, false] rfl rfl (any_of HT_.out (by kernel_rfl)) (fun _ _ _ h => h) (Or.inl ⟨by rfl, ?_⟩) ?_ ?_
                                            rotate_left
                                            · intro w'
                                              go_simp
                                              with_reducible rfl
                                            rotate_left
                                            · simp only [Act.put, List.setIfInBounds_toArray, List.set_cons_zero, List.set_cons_succ, i64_w, i32_w]
                                              rfl
                                            refine pure_ (i := 1) (N := some 56) (v := ?_) (a' := ?_) #[true, true, false, false, false, false, false, false, false, false, false, false, false, false, false, false] rfl rfl (any_of HT_.out (by kernel_rfl)) (fun _ _ _ h => h) (Or.inl ⟨by rfl, ?_⟩) ?_ ?_
                                            rotate_left
                                            · intro w'
                                              go_simp
                                              with_reducible rfl
                                            rotate_left
                                            · simp only [Act.put, List.setIfInBounds_toArray, List.set_cons_zero, List.set_cons_succ, i64_w, i32_w]
                                              rfl
                                            refine pure_ (i := 2) (N := some 57) (v := ?_) (a' := ?_) #[true, true, true, false, false, false, false, false, false, false, false, false, false, false, false, false] rfl rfl (any_of HT_.out (by kernel_rfl)) (fun _ _ _ h => h) (Or.inl ⟨by rfl, ?_⟩) ?_ ?_
                                            rotate_left
                                            · intro w'
                                              go_simp
                                              with_reducible rfl
                                            rotate_left
                                            · simp only [Act.put, List.setIfInBounds_toArray, List.set_cons_zero, List.set_cons_succ, i64_w, i32_w]
                                              rfl
                                            refine pure_ (i := 3) (N := some 58) (v := ?_) (a' := ?_) #[true, true, true, true, false, false, false, false, false, false, false, false, false, false, false, false] rfl rfl (any_of HT_.out (by kernel_rfl)) (fun _ _ _ h => h) (Or.inl ⟨by rfl, ?_⟩) ?_ ?_
                                            rotate_left
                                            · intro w'
                                              go_simp
                                              with_reducible rfl
                                            rotate_left
                                            · simp only [Act.put, List.setIfInBounds_toArray, List.set_cons_zero, List.set_cons_succ, i64_w, i32_w]
                                              rfl
                                            refine pure_ (i := 4) (N := some 59) (v := ?_) (a' := ?_) #[true, true, true, true, true, false, false, false, false, false, false, false, false, false, false, false] rfl rfl (any_of HT_.out (by kernel_rfl)) (fun _ _ _ h => h) (Or.inl ⟨by rfl, ?_⟩) ?_ ?_
                                            rotate_left
                                            · intro w'
                                              go_simp
                                              with_reducible rfl
                                            rotate_left
                                            · simp only [Act.put, List.setIfInBounds_toArray, List.set_cons_zero, List.set_cons_succ, i64_w, i32_w]
                                              rfl
                                            refine pure_ (i := 5) (N := some 60) (v := ?_) (a' := ?_) #[true, true, true, true, true, true, false, false, false, false, false, false, false, false, false, false] rfl rfl (any_of HT_.out (by kernel_rfl)) (fun _ _ _ h => h) (Or.inl ⟨by rfl, ?_⟩) ?_ ?_
                                            rotate_left
                                            · intro w'
                                              go_simp
                                              with_reducible rfl
                                            rotate_left
                                            · simp only [Act.put, List.setIfInBounds_toArray, List.set_cons_zero, List.set_cons_succ, i64_w, i32_w]
                                              rfl
                                            refine pure_ (i := 7) (N := some 62) (v := ?_) (a' := ?_) #[true, true, true, true, true, true, false, true, false, false, false, false, false, false, false, false] rfl rfl (any_of HT_.out (by kernel_rfl)) (fun _ _ _ h => h) (Or.inl ⟨by rfl, ?_⟩) ?_ ?_
                                            rotate_left
                                            · intro w'
                                              go_simp
                                              with_reducible rfl
                                            rotate_left
                                            · simp only [Act.put, List.setIfInBounds_toArray, List.set_cons_zero, List.set_cons_succ, i64_w, i32_w]
                                              rfl
                                            refine pure_ (i := 8) (N := some 63) (v := ?_) (a' := ?_) #[true, true, true, true, true, true, false, true, true, false, false, false, false, false, false, false] rfl rfl (any_of HT_.out (by kernel_rfl)) (fun _ _ _ h => h) (Or.inl ⟨by rfl, ?_⟩) ?_ ?_
                                            rotate_left
                                            · intro w'
                                              go_simp
                                              with_reducible rfl
                                            rotate_left
                                            · simp only [Act.put, List.setIfInBounds_toArray, List.set_cons_zero, List.set_cons_succ, i64_w, i32_w]
                                              rfl
                                            refine pure_ (i := 9) (N := some 64) (v := ?_) (a' := ?_) #[true, true, true, true, true, true, false, true, true, true, false, false, false, false, false, false] rfl rfl (any_of HT_.out (by kernel_rfl)) (fun _ _ _ h => h) (Or.inl ⟨by rfl, ?_⟩) ?_ ?_
                                            rotate_left
                                            · intro w'
                                              go_simp
                                              with_reducible rfl
                                            rotate_left
                                            · simp only [Act.put, List.setIfInBounds_toArray, List.set_cons_zero, List.set_cons_succ, i64_w, i32_w]
                                              rfl
                                            refine pure_ (i := 11) (N := some 66) (v := ?_) (a' := ?_) #[true, true, true, true, true, true, false, true, true, true, false, true, false, false, false, false] rfl rfl (any_of HT_.out (by kernel_rfl)) (fun _ _ _ h => h) (Or.inl ⟨by rfl, ?_⟩) ?_ ?_
                                            rotate_left
                                            · intro w'
                                              go_simp
                                              with_reducible rfl
                                            rotate_left
                                            · simp only [Act.put, List.setIfInBounds_toArray, List.set_cons_zero, List.set_cons_succ, i64_w, i32_w]
                                              rfl
                                            refine take_ (i := 6) (N := some 61) (v := ?_) (a' := ?_) #[true, true, true, true, true, true, true, true, true, true, false, true, false, false, false, false] rfl rfl (take_ofW HT_.out HW_.out (by kernel_rfl)) (fun _ _ _ h => h) (Or.inl ⟨by rfl, ?_⟩) hHeld ?_ ?_
                                            rotate_left
                                            · rintro w' ⟨s0, s1⟩
                                              go_simp
                                              with_reducible rfl
                                            rotate_left
                                            · simp only [Act.put, List.setIfInBounds_toArray, List.set_cons_zero, List.set_cons_succ, i64_w, i32_w]
                                              rfl
                                            refine take_ (i := 10) (N := some 65) (v := ?_) (a' := ?_) #[true, true, true, true, true, true, true, true, true, true, true, true, false, false, false, false] rfl rfl (take_ofW HT_.out HW_.out (by kernel_rfl)) (fun _ _ _ h => h) (Or.inl ⟨by rfl, ?_⟩) hHeld ?_ ?_
                                            rotate_left
                                            · rintro w' ⟨s0, s1⟩
                                              go_simp
                                              with_reducible rfl
                                            rotate_left
                                            · simp only [Act.put, List.setIfInBounds_toArray, List.set_cons_zero, List.set_cons_succ, i64_w, i32_w]
                                              rfl
                                            refine pure_ (i := 12) (N := some 67) (v := ?_) (a' := ?_) #[true, true, true, true, true, true, true, true, true, true, true, true, true, false, false, false] rfl rfl (any_of HT_.out (by kernel_rfl)) (fun _ _ _ h => h) (Or.inl ⟨by rfl, ?_⟩) ?_ ?_
                                            rotate_left
                                            · intro w'
                                              go_simp
                                              with_reducible rfl
                                            rotate_left
                                            · simp only [Act.put, List.setIfInBounds_toArray, List.set_cons_zero, List.set_cons_succ, i64_w, i32_w]
                                              rfl
                                            refine last_ (i := 13) (N := none) #[true, true, true, true, true, true, true, true, true, true, true, true, true, true, false, false] rfl rfl (one_of HT_.out (by kernel_rfl)) (by decide) (fun K hK => ?_)
                                            refine skip_ (w1 := ?_) (by rfl) rfl ?_ ?_
                                            rotate_left
                                            · go_simp
                                              rfl
                                            refine hK.out _ _ ?_
                                            clear hK K
                                            refine pure_ (i := 14) (N := some 68) (v := ?_) (a' := ?_) #[true, true, true, true, true, true, true, true, true, true, true, true, true, true, true, false] rfl rfl (any_of HT_.out (by kernel_rfl)) (fun _ _ _ h => h) (Or.inl ⟨by rfl, ?_⟩) ?_ ?_
                                            rotate_left
                                            · intro w'
                                              go_simp
                                              with_reducible rfl
                                            rotate_left
                                            · simp only [Act.put, List.setIfInBounds_toArray, List.set_cons_zero, List.set_cons_succ, i64_w, i32_w]
                                              rfl
                                            refine last_ (i := 15) (N := none) #[true, true, true, true, true, true, true, true, true, true, true, true, true, true, true, true] rfl rfl (one_of HT_.out (by kernel_rfl)) (by decide) (fun K hK => ?_)
                                            refine skip_ (w1 := ?_) (by rfl) rfl ?_ ?_
                                            rotate_left
                                            · go_simp
                                              rfl
                                            refine hK.out _ _ ?_
                                            clear hK K
                                            refine done_ (done_of HT_.out (by kernel_rfl)) ?_
                                            have n0_ : Aside0 (Kd.R (Kd.int .i64) 3 ((w82.setCell ⟨go11, (x16_1 : Int).toNat, none⟩ (.int .i64 (rd x4_1 (ji64)))).setCell ⟨go11, ((rd x4_1 (ji64)) : Int).toNat, none⟩ (.int .i64 x16_1)) w.heap.size (fun k_ => some k_ ≠ (.slice (some ad186) x4_1.length co80 : Value).ownBlock) (.slice (some ⟨go11, 0, none⟩) x3_1.length co11) y190) := ⟨by (with_reducible repeat (first | apply Kd.R_alloc | apply Kd.R_drewN | apply Kd.R_drew)); exact HQ84.out⟩
                                            have n1_ : Aside0 (Kd.R (Kd.int .i64) 3 ((w82.setCell ⟨go11, (x16_1 : Int).toNat, none⟩ (.int .i64 (rd x4_1 (ji64)))).setCell ⟨go11, ((rd x4_1 (ji64)) : Int).toNat, none⟩ (.int .i64 x16_1)) w.heap.size (fun k_ => some k_ ≠ (.slice (some ⟨go11, 0, none⟩) x3_1.length co11 : Value).ownBlock) (.slice (some ad186) x4_1.length co80) x4_1) := ⟨by (with_reducible repeat (first | apply Kd.R_alloc | apply Kd.R_drewN | apply Kd.R_drew)); exact Kd.R_mono (Kd.R_far (p := ⟨go11, ((rd x4_1 (ji64)) : Int).toNat, none⟩) (Kd.R_far (p := ⟨go11, (x16_1 : Int).toNat, none⟩) (Kd.R_mono HO_4.out (fun k_ hk => (⟨hk, fun e_ => hk (by rw [e_]; rfl)⟩ : _ ∧ k_ ≠ go11))) (fun _ hk => hk.2) (.int .i64 (rd x4_1 (ji64)))) (fun _ hk => hk.2) (.int .i64 x16_1)) (fun _ hk => hk.1)⟩
                                            have n2_ : Aside0 (Below w.heap.size w ((w82.setCell ⟨go11, (x16_1 : Int).toNat, none⟩ (.int .i64 (rd x4_1 (ji64)))).setCell ⟨go11, ((rd x4_1 (ji64)) : Int).toNat, none⟩ (.int .i64 x16_1))) := ⟨by repeat (first | (with_reducible first | exact HB.out | apply below_alloc | apply pw_below_drewN | apply below_drew1 | refine below_set ?_ GB11.out | refine below_set ?_ GB11.out) | exact HB.out)⟩
                                            (try clear HO_3)
                                            (try clear HO_4)
                                            (try clear HB)
                                            generalize ((w82.setCell ⟨go11, (x16_1 : Int).toNat, none⟩ (.int .i64 (rd x4_1 (ji64)))).setCell ⟨go11, ((rd x4_1 (ji64)) : Int).toNat, none⟩ (.int .i64 x16_1)) = w85 at n0_ n1_ n2_ ⊢
                                            have HO_3 := n0_
                                            have HO_4 := n1_
                                            have HB := n2_
                                            clear n0_ n1_ n2_
                                            have q86 : ((ji64) : Int) ≤ ((x4_1.length : Int) : Int) := of_decide_eq_true (by first | (with_reducible assumption) | assumption)
                                            obtain ⟨i086, hi086, _, hsz86, _⟩ := info_parts info3
                                            have hcut86 := cut_to (P := Try.prog) 26 3 .i64 Try.underlying26 hi086 (some ad186) x4_1.length co80 (ji64) (of_decide_eq_true (by first | (with_reducible assumption) | assumption)) q86 (Kd.R_reads' HO_4.out).2.1
                                            have hr86 := Kd.R_take (m := ((ji64) : Int).toNat) HO_4.out (by omega)
                                            have hy86 : y191.length = ((ji64) : Int).toNat := (by rw [Ny191.out, List.length_take]; omega)
                                            rw [← Ny191.out] at hr86
                                            rw [← hy86] at hr86 hcut86
                                            clear hy86 hi086 hsz86 HO_4
                                            have HO193 := Aside0.mk hr86
                                            clear hr86
                                            replace q86 := eq_true q86
                                            try go_wp2
                                            go_roundg k1
                                            case measure => have := HK1.out; omega
                                            case rel => exact ⟨(y190), (y191), (wrap64 (x16_1 + 1)), (by first | rfl | (simp; done) | (simp [*]; done)), H', ⟨by have := HK1.out; omega⟩, ⟨by (with_reducible repeat (first | apply Kd.R_alloc | apply Kd.R_drewN | apply Kd.R_drew)); exact HO_3.out⟩, ⟨by (with_reducible repeat (first | apply Kd.R_alloc | apply Kd.R_drewN | apply Kd.R_drew)); exact HO193.out⟩, ⟨by repeat (first | (with_reducible first | exact HB.out | apply below_alloc | apply pw_below_drewN | apply below_drew1) | exact HB.out)⟩⟩
                                          · rw [if_neg c77] at H
                                            exact absurd H (by simp)
                                        · rw [if_neg c75] at H
                                          exact absurd H (by simp)
                                      · rw [if_neg c73] at H
                                        have c73b0 : ((bt a0 (rd x4_1 (ji64))) == (bt (⟨#[40, 91, 123]⟩ : ByteArray) t185)) = false := beq_eq_false_iff_ne.mpr c73
                                        have c73b1 : ((bt a0 (rd x4_1 (ji64))) != (bt (⟨#[40, 91, 123]⟩ : ByteArray) t185)) = true := bne_iff_ne.mpr c73
                                        have H' := Aside0.mk H
                                        clear H
                                        have p11 : 0 ≤ (x16_1 : Int) := of_decide_eq_true (by first | (with_reducible assumption) | assumption)
                                        have q11 : (x16_1 : Int) < ((x3_1.length : Int) : Int) := of_decide_eq_true (by first | (with_reducible assumption) | assumption)
                                        obtain ⟨go11, co11, eo11, gb11, gl11, cl11, HG11⟩ := Kd.R_form HO_3.out (by omega)
                                        (first | cases eo11 | (injection eo11 with ea_ en_ ec_; (first | subst ea_ | (injection ea_ with ea_; subst ea_)); subst ec_; clear en_))
                                        have GB11 := Aside0.mk gb11
                                        have GG11 := Aside0.mk HG11
                                        clear gb11 gl11 HG11
                                        obtain ⟨hx11_0, hf11_0⟩ := Kd.R_celln 0 HO_3.out (x16_1 : Int) p11 q11
                                        replace p11 := eq_true p11
                                        replace q11 := eq_true q11
                                        have HP87 := Kd.R_putg HO_3.out (x16_1 : Int) (-1)
                                        try go_wp2_with (first | ((with_reducible refine gate_store (t := 3) (p := 21) rfl ?_); refine store_event (t := 3) (p := 21) (v := ?vo_w88) (w1 := (wr.setCell ⟨go11, (x16_1 : Int).toNat, none⟩ (.int .i64 (-1)))) ?hg ?ho ?hn ?hr ?_; (case ho => rfl); (case hg => rfl); (case hn => rfl); (case hr => first | (go_simp; done) | (go_simp; rfl)); intro w88 hw; have hg : wr.grownBy w88 (some go11) := (by rw [hw]; exact HP87.2); have hp_ : Kd.R (Kd.int .i64) 3 w88 w.heap.size (fun k_ => some k_ ≠ (u4 : Value).ownBlock) (.slice (some ⟨go11, 0, none⟩) x3_1.length co11) y171 := (by rw [hw, Ny171.out]; exact HP87.1); clear HP87; have n0_ := Aside0.mk (hp_); have n1_ := Aside0.mk (Kd.R_after (v := (.slice (some ⟨go11, 0, none⟩) x3_1.length co11)) (v1 := (.slice (some ⟨go11, 0, none⟩) x3_1.length co11)) (ok := (fun _ => True)) (by (with_reducible repeat (first | apply Kd.R_alloc | apply Kd.R_drewN | apply Kd.R_drew)); exact Kd.R_mono HO_4.out (fun _ hk => ⟨trivial, hk⟩)) hg (.inl rfl)); have n2_ := Aside0.mk ((by rw [hw]; exact below_set (HB.out) GB11.out : Below w.heap.size w w88)); clear HO_3; clear HO_4; clear HB; have HO_3 := n0_; have HO_4 := n1_; have HB := n2_; clear n0_ n1_ n2_; clear hg hw hp_; have p13 : 0 ≤ (x16_1 : Int) := of_decide_eq_true (by first | (with_reducible assumption) | assumption); have q13 : x16_1 < (a0.size : Int) := of_decide_eq_true (by first | (with_reducible assumption) | assumption); have hx13 := bt_at a0 x16_1; replace p13 := eq_true p13; replace q13 := eq_true q13) | ((with_reducible refine gate_callee (f := 41) rfl ?_); refine goesL_ (some 25) rfl rfl Try.func41 (by kernel_rfl) rfl #[.string (⟨#[40, 91, 123]⟩ : ByteArray), .int .u8 (bt a0 x16_1)] rfl (by (try simp only [List.map_toArray, List.map_cons, List.map_nil]); first | done | rfl | (simp only [List.length_drop, List.length_take]; rfl)) ?_; (with_reducible refine (strings_IndexByte.calls (⟨#[40, 91, 123]⟩ : ByteArray) (bt a0 x16_1) t172 _ A14.out).mono ?_); rintro e w' ⟨rfl, ⟨nd, rfl⟩⟩; refine ⟨_, rfl, ?_⟩; have p60 : 0 ≤ (x16_1 : Int) := of_decide_eq_true (by first | (with_reducible assumption) | assumption); have q60 : x16_1 < (a0.size : Int) := of_decide_eq_true (by first | (with_reducible assumption) | assumption); have hx60 := bt_at a0 x16_1; replace p60 := eq_true p60; replace q60 := eq_true q60) | ((with_reducible refine gate_callee (f := 41) rfl ?_); refine goesL_ (some 34) rfl rfl Try.func41 (by kernel_rfl) rfl #[.string (⟨#[41, 93, 125]⟩ : ByteArray), .int .u8 (bt a0 x16_1)] rfl (by (try simp only [List.map_toArray, List.map_cons, List.map_nil]); first | done | rfl | (simp only [List.length_drop, List.length_take]; rfl)) ?_; (with_reducible refine (strings_IndexByte.calls (⟨#[41, 93, 125]⟩ : ByteArray) (bt a0 x16_1) t185 _ A61.out).mono ?_); rintro e w' ⟨rfl, ⟨nd, rfl⟩⟩; refine ⟨_, rfl, ?_⟩; obtain ⟨Ao89, co89, eo89⟩ := Kd.R_slice HO_4.out; subst eo89))
                                        (try (rw [drewN_self w88]; generalize hq_ : World.drewN w88 _ = w88; have n0_ : Aside0 (Kd.R (Kd.int .i64) 3 w88 w.heap.size (fun k_ => some k_ ≠ (.slice Ao89 x4_1.length co89 : Value).ownBlock) (.slice (some ⟨go11, 0, none⟩) x3_1.length co11) y171) := ⟨by rw [← hq_]; exact (by (with_reducible repeat (first | apply Kd.R_alloc | apply Kd.R_drewN | apply Kd.R_drew)); exact HO_3.out)⟩; have n1_ : Aside0 (Kd.R (Kd.int .i64) 3 w88 w.heap.size (fun k_ => some k_ ≠ (.slice (some ⟨go11, 0, none⟩) x3_1.length co11 : Value).ownBlock) (.slice Ao89 x4_1.length co89) x4_1) := ⟨by rw [← hq_]; exact (by (with_reducible repeat (first | apply Kd.R_alloc | apply Kd.R_drewN | apply Kd.R_drew)); exact Kd.R_mono HO_4.out (fun _ hk => hk.2))⟩; have n2_ : Aside0 (Below w.heap.size w w88) := ⟨by rw [← hq_]; exact (by repeat (first | (with_reducible first | exact HB.out | apply below_alloc | apply pw_below_drewN | apply below_drew1) | exact HB.out))⟩; clear HO_3 HO_4 HB hq_; have HO_3 := n0_; have HO_4 := n1_; have HB := n2_; clear n0_ n1_ n2_))
                                        have n0_ := Aside0.mk (Kd.R_drew HO_3.out)
                                        have n1_ := Aside0.mk (Kd.R_drew HO_4.out)
                                        have n2_ := Aside0.mk (below_drew1 HB.out)
                                        clear HO_3
                                        clear HO_4
                                        clear HB
                                        have HO_3 := n0_
                                        have HO_4 := n1_
                                        have HB := n2_
                                        clear n0_ n1_ n2_
                                        have p186 : 0 ≤ ((ji64) : Int) := of_decide_eq_true (by first | (with_reducible assumption) | assumption)
                                        have q186 : (ji64) < (x4_1.length : Int) := of_decide_eq_true (by first | (with_reducible assumption) | assumption)
                                        obtain ⟨ad186, e186, hx186_0⟩ := Kd.at_int (Kd.R_reads' HO_4.out).2.2 (ji64) p186 q186
                                        cases e186
                                        replace p186 := eq_true p186
                                        replace q186 := eq_true q186
                                        have p69 : 0 ≤ ((rd x4_1 (ji64)) : Int) := of_decide_eq_true (by first | (with_reducible assumption) | assumption)
                                        have q69 : (rd x4_1 (ji64)) < (a0.size : Int) := of_decide_eq_true (by first | (with_reducible assumption) | assumption)
                                        have hx69 := bt_at a0 (rd x4_1 (ji64))
                                        replace p69 := eq_true p69
                                        replace q69 := eq_true q69
                                        have p72 : 0 ≤ (t185 : Int) := of_decide_eq_true (by first | (with_reducible assumption) | assumption)
                                        have q72 : t185 < (3 : Int) := of_decide_eq_true (by first | (with_reducible assumption) | assumption)
                                        have hx72 := bt_at (⟨#[40, 91, 123]⟩ : ByteArray) t185
                                        replace p72 := eq_true p72
                                        replace q72 := eq_true q72
                                        refine start_ (n := 17) (S := fun w' => w'.cell? (ad186.add ((ji64)).toNat) = some (.int .i64 (rd x4_1 (ji64)))) (ds := []) #[false, false, false, false, false, false, false, false, false, false, false, false, false, false, false, false, false] (by kernel_rfl) rfl rfl (hx186_0) (fun hHeld => ?_); refine with_tabW impl_BracketMates.tab13 impl_BracketMates.bits13 (fun HT_ HW_ => ?_)
                                        generalize w88.drew = w90 at HO_3 HO_4 HB hx186_0 hHeld ⊢
                                        refine pure_ (i := 0) (N := some 38) (v := ?_) (a' := ?_) #[true, false, false, false, false, false, false, false, false, false, false, false, false, false, false, false, false] rfl rfl (any_of HT_.out (by kernel_rfl)) (fun _ _ _ h => h) (Or.inl ⟨by rfl, ?_⟩) ?_ ?_
                                        rotate_left
                                        · intro w'
                                          go_simp
                                          with_reducible rfl
                                        rotate_left
                                        · simp only [Act.put, List.setIfInBounds_toArray, List.set_cons_zero, List.set_cons_succ, i64_w, i32_w]
                                          rfl
                                        refine pure_ (i := 1) (N := some 39) (v := ?_) (a' := ?_) #[true, true, false, false, false, false, false, false, false, false, false, false, false, false, false, false, false] rfl rfl (any_of HT_.out (by kernel_rfl)) (fun _ _ _ h => h) (Or.inl ⟨by rfl, ?_⟩) ?_ ?_
                                        rotate_left
                                        · intro w'
                                          go_simp
                                          with_reducible rfl
                                        rotate_left
                                        · simp only [Act.put, List.setIfInBounds_toArray, List.set_cons_zero, List.set_cons_succ, i64_w, i32_w]
                                          rfl
                                        refine pure_ (i := 2) (N := some 40) (v := ?_) (a' := ?_) #[true, true, true, false, false, false, false, false, false, false, false, false, false, false, false, false, false] rfl rfl (any_of HT_.out (by kernel_rfl)) (fun _ _ _ h => h) (Or.inl ⟨by rfl, ?_⟩) ?_ ?_
                                        rotate_left
                                        · intro w'
                                          go_simp
                                          with_reducible rfl
                                        rotate_left
                                        · simp only [Act.put, List.setIfInBounds_toArray, List.set_cons_zero, List.set_cons_succ, i64_w, i32_w]
                                          rfl
                                        refine pure_ (i := 3) (N := some 41) (v := ?_) (a' := ?_) #[true, true, true, true, false, false, false, false, false, false, false, false, false, false, false, false, false] rfl rfl (any_of HT_.out (by kernel_rfl)) (fun _ _ _ h => h) (Or.inl ⟨by rfl, ?_⟩) ?_ ?_
                                        rotate_left
                                        · intro w'
                                          go_simp
                                          with_reducible rfl
                                        rotate_left
                                        · simp only [Act.put, List.setIfInBounds_toArray, List.set_cons_zero, List.set_cons_succ, i64_w, i32_w]
                                          rfl
                                        refine pure_ (i := 4) (N := some 42) (v := ?_) (a' := ?_) #[true, true, true, true, true, false, false, false, false, false, false, false, false, false, false, false, false] rfl rfl (any_of HT_.out (by kernel_rfl)) (fun _ _ _ h => h) (Or.inl ⟨by rfl, ?_⟩) ?_ ?_
                                        rotate_left
                                        · intro w'
                                          go_simp
                                          with_reducible rfl
                                        rotate_left
                                        · simp only [Act.put, List.setIfInBounds_toArray, List.set_cons_zero, List.set_cons_succ, i64_w, i32_w]
                                          rfl
                                        refine pure_ (i := 5) (N := some 43) (v := ?_) (a' := ?_) #[true, true, true, true, true, true, false, false, false, false, false, false, false, false, false, false, false] rfl rfl (any_of HT_.out (by kernel_rfl)) (fun _ _ _ h => h) (Or.inl ⟨by rfl, ?_⟩) ?_ ?_
                                        rotate_left
                                        · intro w'
                                          go_simp
                                          with_reducible rfl
                                        rotate_left
                                        · simp only [Act.put, List.setIfInBounds_toArray, List.set_cons_zero, List.set_cons_succ, i64_w, i32_w]
                                          rfl
                                        refine pure_ (i := 6) (N := some 44) (v := ?_) (a' := ?_) #[true, true, true, true, true, true, true, false, false, false, false, false, false, false, false, false, false] rfl rfl (any_of HT_.out (by kernel_rfl)) (fun _ _ _ h => h) (Or.inl ⟨by rfl, ?_⟩) ?_ ?_
                                        rotate_left
                                        · intro w'
                                          go_simp
                                          with_reducible rfl
                                        rotate_left
                                        · simp only [Act.put, List.setIfInBounds_toArray, List.set_cons_zero, List.set_cons_succ, i64_w, i32_w]
                                          rfl
                                        refine pure_ (i := 7) (N := some 45) (v := ?_) (a' := ?_) #[true, true, true, true, true, true, true, true, false, false, false, false, false, false, false, false, false] rfl rfl (any_of HT_.out (by kernel_rfl)) (fun _ _ _ h => h) (Or.inl ⟨by rfl, ?_⟩) ?_ ?_
                                        rotate_left
                                        · intro w'
                                          go_simp
                                          with_reducible rfl
                                        rotate_left
                                        · simp only [Act.put, List.setIfInBounds_toArray, List.set_cons_zero, List.set_cons_succ, i64_w, i32_w]
                                          rfl
                                        refine pure_ (i := 8) (N := some 46) (v := ?_) (a' := ?_) #[true, true, true, true, true, true, true, true, true, false, false, false, false, false, false, false, false] rfl rfl (any_of HT_.out (by kernel_rfl)) (fun _ _ _ h => h) (Or.inl ⟨by rfl, ?_⟩) ?_ ?_
                                        rotate_left
                                        · intro w'
                                          go_simp
                                          with_reducible rfl
                                        rotate_left
                                        · simp only [Act.put, List.setIfInBounds_toArray, List.set_cons_zero, List.set_cons_succ, i64_w, i32_w]
                                          rfl
                                        refine pure_ (i := 9) (N := some 47) (v := ?_) (a' := ?_) #[true, true, true, true, true, true, true, true, true, true, false, false, false, false, false, false, false] rfl rfl (any_of HT_.out (by kernel_rfl)) (fun _ _ _ h => h) (Or.inl ⟨by rfl, ?_⟩) ?_ ?_
                                        rotate_left
                                        · intro w'
                                          go_simp
                                          with_reducible rfl
                                        rotate_left
                                        · simp only [Act.put, List.setIfInBounds_toArray, List.set_cons_zero, List.set_cons_succ, i64_w, i32_w]
                                          rfl
                                        refine pure_ (i := 10) (N := some 48) (v := ?_) (a' := ?_) #[true, true, true, true, true, true, true, true, true, true, true, false, false, false, false, false, false] rfl rfl (any_of HT_.out (by kernel_rfl)) (fun _ _ _ h => h) (Or.inl ⟨by rfl, ?_⟩) ?_ ?_
                                        rotate_left
                                        · intro w'
                                          go_simp
                                          with_reducible rfl
                                        rotate_left
                                        · simp only [Act.put, List.setIfInBounds_toArray, List.set_cons_zero, List.set_cons_succ, i64_w, i32_w]
                                          rfl
                                        refine pure_ (i := 13) (N := some 51) (v := ?_) (a' := ?_) #[true, true, true, true, true, true, true, true, true, true, true, false, false, true, false, false, false] rfl rfl (any_of HT_.out (by kernel_rfl)) (fun _ _ _ h => h) (Or.inl ⟨by rfl, ?_⟩) ?_ ?_
                                        rotate_left
                                        · intro w'
                                          go_simp
                                          with_reducible rfl
                                        rotate_left
                                        · simp only [Act.put, List.setIfInBounds_toArray, List.set_cons_zero, List.set_cons_succ, i64_w, i32_w]
                                          rfl
                                        refine take_ (i := 11) (N := some 49) (v := ?_) (a' := ?_) #[true, true, true, true, true, true, true, true, true, true, true, true, false, true, false, false, false] rfl rfl (take_ofW HT_.out HW_.out (by kernel_rfl)) (fun _ _ _ h => h) (Or.inl ⟨by rfl, ?_⟩) hHeld ?_ ?_
                                        rotate_left
                                        · intro w' s0
                                          go_simp
                                          with_reducible rfl
                                        rotate_left
                                        · simp only [Act.put, List.setIfInBounds_toArray, List.set_cons_zero, List.set_cons_succ, i64_w, i32_w]
                                          rfl
                                        refine take_ (i := 12) (N := some 50) (v := ?_) (a' := ?_) #[true, true, true, true, true, true, true, true, true, true, true, true, true, true, false, false, false] rfl rfl (take_ofW HT_.out HW_.out (by kernel_rfl)) (fun _ _ _ h => h) (Or.inl ⟨by rfl, ?_⟩) hHeld ?_ ?_
                                        rotate_left
                                        · intro w' s0
                                          go_simp
                                          with_reducible rfl
                                        rotate_left
                                        · simp only [Act.put, List.setIfInBounds_toArray, List.set_cons_zero, List.set_cons_succ, i64_w, i32_w]
                                          rfl
                                        refine take_ (i := 14) (N := some 52) (v := ?_) (a' := ?_) #[true, true, true, true, true, true, true, true, true, true, true, true, true, true, true, false, false] rfl rfl (take_ofW HT_.out HW_.out (by kernel_rfl)) (fun _ _ _ h => h) (Or.inl ⟨by rfl, ?_⟩) hHeld ?_ ?_
                                        rotate_left
                                        · intro w' s0
                                          go_simp
                                          with_reducible rfl
                                        rotate_left
                                        · simp only [Act.put, List.setIfInBounds_toArray, List.set_cons_zero, List.set_cons_succ, i64_w, i32_w]
                                          rfl
                                        refine pure_ (i := 15) (N := some 53) (v := ?_) (a' := ?_) #[true, true, true, true, true, true, true, true, true, true, true, true, true, true, true, true, false] rfl rfl (any_of HT_.out (by kernel_rfl)) (fun _ _ _ h => h) (Or.inl ⟨by rfl, ?_⟩) ?_ ?_
                                        rotate_left
                                        · intro w'
                                          go_simp
                                          with_reducible rfl
                                        rotate_left
                                        · simp only [Act.put, List.setIfInBounds_toArray, List.set_cons_zero, List.set_cons_succ, i64_w, i32_w]
                                          rfl
                                        refine pure_ (i := 16) (N := some 54) (v := ?_) (a' := ?_) #[true, true, true, true, true, true, true, true, true, true, true, true, true, true, true, true, true] rfl rfl (any_of HT_.out (by kernel_rfl)) (fun _ _ _ h => h) (Or.inl ⟨by rfl, ?_⟩) ?_ ?_
                                        rotate_left
                                        · intro w'
                                          go_simp
                                          with_reducible rfl
                                        rotate_left
                                        · simp only [Act.put, List.setIfInBounds_toArray, List.set_cons_zero, List.set_cons_succ, i64_w, i32_w]
                                          rfl
                                        refine done_ (done_of HT_.out (by kernel_rfl)) ?_
                                        try go_wp2
                                        go_roundg k1
                                        case measure => have := HK1.out; omega
                                        case rel => exact ⟨(y171), (x4_1), (wrap64 (x16_1 + 1)), (by first | rfl | (simp; done) | (simp [*]; done)), H', ⟨by have := HK1.out; omega⟩, ⟨by (with_reducible repeat (first | apply Kd.R_alloc | apply Kd.R_drewN | apply Kd.R_drew)); exact HO_3.out⟩, ⟨by (with_reducible repeat (first | apply Kd.R_alloc | apply Kd.R_drewN | apply Kd.R_drew)); exact HO_4.out⟩, ⟨by repeat (first | (with_reducible first | exact HB.out | apply below_alloc | apply pw_below_drewN | apply below_drew1) | exact HB.out)⟩⟩
                                    · rw [if_neg c71] at H
                                      exact absurd H (by simp)
                                  · rw [if_neg c70] at H
                                    exact absurd H (by simp)
                                · rw [if_neg c68] at H
                                  exact absurd H (by simp)
                              · rw [if_neg c67] at H
                                exact absurd H (by simp)
                            · rw [if_neg c66] at H
                              exact absurd H (by simp)
                          · rw [if_neg c65] at H
                            exact absurd H (by simp)
                        · rw [if_neg c63] at H
                          have c63b0 : decide (0 ≤ (wrap64 ((x4_1.length : Int) - 1))) = false := decide_eq_false c63
                          clear c63
                          have H' := Aside0.mk H
                          clear H
                          have p11 : 0 ≤ (x16_1 : Int) := of_decide_eq_true (by first | (with_reducible assumption) | assumption)
                          have q11 : (x16_1 : Int) < ((x3_1.length : Int) : Int) := of_decide_eq_true (by first | (with_reducible assumption) | assumption)
                          obtain ⟨go11, co11, eo11, gb11, gl11, cl11, HG11⟩ := Kd.R_form HO_3.out (by omega)
                          (first | cases eo11 | (injection eo11 with ea_ en_ ec_; (first | subst ea_ | (injection ea_ with ea_; subst ea_)); subst ec_; clear en_))
                          have GB11 := Aside0.mk gb11
                          have GG11 := Aside0.mk HG11
                          clear gb11 gl11 HG11
                          obtain ⟨hx11_0, hf11_0⟩ := Kd.R_celln 0 HO_3.out (x16_1 : Int) p11 q11
                          replace p11 := eq_true p11
                          replace q11 := eq_true q11
                          have HP91 := Kd.R_putg HO_3.out (x16_1 : Int) (-1)
                          try go_wp2_with (first | ((with_reducible refine gate_store (t := 3) (p := 21) rfl ?_); refine store_event (t := 3) (p := 21) (v := ?vo_w92) (w1 := (wr.setCell ⟨go11, (x16_1 : Int).toNat, none⟩ (.int .i64 (-1)))) ?hg ?ho ?hn ?hr ?_; (case ho => rfl); (case hg => rfl); (case hn => rfl); (case hr => first | (go_simp; done) | (go_simp; rfl)); intro w92 hw; have hg : wr.grownBy w92 (some go11) := (by rw [hw]; exact HP91.2); have hp_ : Kd.R (Kd.int .i64) 3 w92 w.heap.size (fun k_ => some k_ ≠ (u4 : Value).ownBlock) (.slice (some ⟨go11, 0, none⟩) x3_1.length co11) y171 := (by rw [hw, Ny171.out]; exact HP91.1); clear HP91; have n0_ := Aside0.mk (hp_); have n1_ := Aside0.mk (Kd.R_after (v := (.slice (some ⟨go11, 0, none⟩) x3_1.length co11)) (v1 := (.slice (some ⟨go11, 0, none⟩) x3_1.length co11)) (ok := (fun _ => True)) (by (with_reducible repeat (first | apply Kd.R_alloc | apply Kd.R_drewN | apply Kd.R_drew)); exact Kd.R_mono HO_4.out (fun _ hk => ⟨trivial, hk⟩)) hg (.inl rfl)); have n2_ := Aside0.mk ((by rw [hw]; exact below_set (HB.out) GB11.out : Below w.heap.size w w92)); clear HO_3; clear HO_4; clear HB; have HO_3 := n0_; have HO_4 := n1_; have HB := n2_; clear n0_ n1_ n2_; clear hg hw hp_; have p13 : 0 ≤ (x16_1 : Int) := of_decide_eq_true (by first | (with_reducible assumption) | assumption); have q13 : x16_1 < (a0.size : Int) := of_decide_eq_true (by first | (with_reducible assumption) | assumption); have hx13 := bt_at a0 x16_1; replace p13 := eq_true p13; replace q13 := eq_true q13) | ((with_reducible refine gate_callee (f := 41) rfl ?_); refine goesL_ (some 25) rfl rfl Try.func41 (by kernel_rfl) rfl #[.string (⟨#[40, 91, 123]⟩ : ByteArray), .int .u8 (bt a0 x16_1)] rfl (by (try simp only [List.map_toArray, List.map_cons, List.map_nil]); first | done | rfl | (simp only [List.length_drop, List.length_take]; rfl)) ?_; (with_reducible refine (strings_IndexByte.calls (⟨#[40, 91, 123]⟩ : ByteArray) (bt a0 x16_1) t172 _ A14.out).mono ?_); rintro e w' ⟨rfl, ⟨nd, rfl⟩⟩; refine ⟨_, rfl, ?_⟩; have p60 : 0 ≤ (x16_1 : Int) := of_decide_eq_true (by first | (with_reducible assumption) | assumption); have q60 : x16_1 < (a0.size : Int) := of_decide_eq_true (by first | (with_reducible assumption) | assumption); have hx60 := bt_at a0 x16_1; replace p60 := eq_true p60; replace q60 := eq_true q60) | ((with_reducible refine gate_callee (f := 41) rfl ?_); refine goesL_ (some 34) rfl rfl Try.func41 (by kernel_rfl) rfl #[.string (⟨#[41, 93, 125]⟩ : ByteArray), .int .u8 (bt a0 x16_1)] rfl (by (try simp only [List.map_toArray, List.map_cons, List.map_nil]); first | done | rfl | (simp only [List.length_drop, List.length_take]; rfl)) ?_; (with_reducible refine (strings_IndexByte.calls (⟨#[41, 93, 125]⟩ : ByteArray) (bt a0 x16_1) t185 _ A61.out).mono ?_); rintro e w' ⟨rfl, ⟨nd, rfl⟩⟩; refine ⟨_, rfl, ?_⟩; obtain ⟨Ao93, co93, eo93⟩ := Kd.R_slice HO_4.out; subst eo93))
                          (try (rw [drewN_self w92]; generalize hq_ : World.drewN w92 _ = w92; have n0_ : Aside0 (Kd.R (Kd.int .i64) 3 w92 w.heap.size (fun k_ => some k_ ≠ (.slice Ao93 x4_1.length co93 : Value).ownBlock) (.slice (some ⟨go11, 0, none⟩) x3_1.length co11) y171) := ⟨by rw [← hq_]; exact (by (with_reducible repeat (first | apply Kd.R_alloc | apply Kd.R_drewN | apply Kd.R_drew)); exact HO_3.out)⟩; have n1_ : Aside0 (Kd.R (Kd.int .i64) 3 w92 w.heap.size (fun k_ => some k_ ≠ (.slice (some ⟨go11, 0, none⟩) x3_1.length co11 : Value).ownBlock) (.slice Ao93 x4_1.length co93) x4_1) := ⟨by rw [← hq_]; exact (by (with_reducible repeat (first | apply Kd.R_alloc | apply Kd.R_drewN | apply Kd.R_drew)); exact Kd.R_mono HO_4.out (fun _ hk => hk.2))⟩; have n2_ : Aside0 (Below w.heap.size w w92) := ⟨by rw [← hq_]; exact (by repeat (first | (with_reducible first | exact HB.out | apply below_alloc | apply pw_below_drewN | apply below_drew1) | exact HB.out))⟩; clear HO_3 HO_4 HB hq_; have HO_3 := n0_; have HO_4 := n1_; have HB := n2_; clear n0_ n1_ n2_))
                          have n0_ := Aside0.mk (Kd.R_drew HO_3.out)
                          have n1_ := Aside0.mk (Kd.R_drew HO_4.out)
                          have n2_ := Aside0.mk (below_drew1 HB.out)
                          clear HO_3
                          clear HO_4
                          clear HB
                          have HO_3 := n0_
                          have HO_4 := n1_
                          have HB := n2_
                          clear n0_ n1_ n2_
                          refine start_ (n := 17) (S := fun w' => True) (ds := []) #[false, false, false, false, false, false, false, false, false, false, false, false, false, false, false, false, false] (by kernel_rfl) rfl rfl trivial (fun hHeld => ?_); refine with_tabW impl_BracketMates.tab13 impl_BracketMates.bits13 (fun HT_ HW_ => ?_)
                          generalize w92.drew = w94 at HO_3 HO_4 HB hHeld ⊢
                          refine pure_ (i := 0) (N := some 38) (v := ?_) (a' := ?_) #[true, false, false, false, false, false, false, false, false, false, false, false, false, false, false, false, false] rfl rfl (any_of HT_.out (by kernel_rfl)) (fun _ _ _ h => h) (Or.inl ⟨by rfl, ?_⟩) ?_ ?_
                          rotate_left
                          · intro w'
                            go_simp
                            with_reducible rfl
                          rotate_left
                          · simp only [Act.put, List.setIfInBounds_toArray, List.set_cons_zero, List.set_cons_succ, i64_w, i32_w]
                            rfl
                          refine pure_ (i := 1) (N := some 39) (v := ?_) (a' := ?_) #[true, true, false, false, false, false, false, false, false, false, false, false, false, false, false, false, false] rfl rfl (any_of HT_.out (by kernel_rfl)) (fun _ _ _ h => h) (Or.inl ⟨by rfl, ?_⟩) ?_ ?_
                          rotate_left
                          · intro w'
                            go_simp
                            with_reducible rfl
                          rotate_left
                          · simp only [Act.put, List.setIfInBounds_toArray, List.set_cons_zero, List.set_cons_succ, i64_w, i32_w]
                            rfl
                          refine pure_ (i := 2) (N := some 40) (v := ?_) (a' := ?_) #[true, true, true, false, false, false, false, false, false, false, false, false, false, false, false, false, false] rfl rfl (any_of HT_.out (by kernel_rfl)) (fun _ _ _ h => h) (Or.inl ⟨by rfl, ?_⟩) ?_ ?_
                          rotate_left
                          · intro w'
                            go_simp
                            with_reducible rfl
                          rotate_left
                          · simp only [Act.put, List.setIfInBounds_toArray, List.set_cons_zero, List.set_cons_succ, i64_w, i32_w]
                            rfl
                          refine pure_ (i := 3) (N := some 41) (v := ?_) (a' := ?_) #[true, true, true, true, false, false, false, false, false, false, false, false, false, false, false, false, false] rfl rfl (any_of HT_.out (by kernel_rfl)) (fun _ _ _ h => h) (Or.inl ⟨by rfl, ?_⟩) ?_ ?_
                          rotate_left
                          · intro w'
                            go_simp
                            with_reducible rfl
                          rotate_left
                          · simp only [Act.put, List.setIfInBounds_toArray, List.set_cons_zero, List.set_cons_succ, i64_w, i32_w]
                            rfl
                          refine pure_ (i := 4) (N := some 42) (v := ?_) (a' := ?_) #[true, true, true, true, true, false, false, false, false, false, false, false, false, false, false, false, false] rfl rfl (any_of HT_.out (by kernel_rfl)) (fun _ _ _ h => h) (Or.inl ⟨by rfl, ?_⟩) ?_ ?_
                          rotate_left
                          · intro w'
                            go_simp
                            with_reducible rfl
                          rotate_left
                          · simp only [Act.put, List.setIfInBounds_toArray, List.set_cons_zero, List.set_cons_succ, i64_w, i32_w]
                            rfl
                          refine pure_ (i := 5) (N := some 43) (v := ?_) (a' := ?_) #[true, true, true, true, true, true, false, false, false, false, false, false, false, false, false, false, false] rfl rfl (any_of HT_.out (by kernel_rfl)) (fun _ _ _ h => h) (Or.inl ⟨by rfl, ?_⟩) ?_ ?_
                          rotate_left
                          · intro w'
                            go_simp
                            with_reducible rfl
                          rotate_left
                          · simp only [Act.put, List.setIfInBounds_toArray, List.set_cons_zero, List.set_cons_succ, i64_w, i32_w]
                            rfl
                          refine pure_ (i := 6) (N := some 44) (v := ?_) (a' := ?_) #[true, true, true, true, true, true, true, false, false, false, false, false, false, false, false, false, false] rfl rfl (any_of HT_.out (by kernel_rfl)) (fun _ _ _ h => h) (Or.inl ⟨by rfl, ?_⟩) ?_ ?_
                          rotate_left
                          · intro w'
                            go_simp
                            with_reducible rfl
                          rotate_left
                          · simp only [Act.put, List.setIfInBounds_toArray, List.set_cons_zero, List.set_cons_succ, i64_w, i32_w]
                            rfl
                          refine pure_ (i := 7) (N := some 45) (v := undef) (a' := ?_) #[true, true, true, true, true, true, true, true, false, false, false, false, false, false, false, false, false] rfl rfl (any_of HT_.out (by kernel_rfl)) (fun _ _ _ h => h) (Or.inr ⟨by rfl, rfl⟩) ?_ ?_
                          rotate_left
                          · simp only [Act.put, List.setIfInBounds_toArray, List.set_cons_zero, List.set_cons_succ, i64_w, i32_w]
                            rfl
                          refine pure_ (i := 8) (N := some 46) (v := undef) (a' := ?_) #[true, true, true, true, true, true, true, true, true, false, false, false, false, false, false, false, false] rfl rfl (any_of HT_.out (by kernel_rfl)) (fun _ _ _ h => h) (Or.inr ⟨by rfl, rfl⟩) ?_ ?_
                          rotate_left
                          · simp only [Act.put, List.setIfInBounds_toArray, List.set_cons_zero, List.set_cons_succ, i64_w, i32_w]
                            rfl
                          refine pure_ (i := 9) (N := some 47) (v := undef) (a' := ?_) #[true, true, true, true, true, true, true, true, true, true, false, false, false, false, false, false, false] rfl rfl (any_of HT_.out (by kernel_rfl)) (fun _ _ _ h => h) (Or.inr ⟨by rfl, rfl⟩) ?_ ?_
                          rotate_left
                          · simp only [Act.put, List.setIfInBounds_toArray, List.set_cons_zero, List.set_cons_succ, i64_w, i32_w]
                            rfl
                          refine pure_ (i := 10) (N := some 48) (v := undef) (a' := ?_) #[true, true, true, true, true, true, true, true, true, true, true, false, false, false, false, false, false] rfl rfl (any_of HT_.out (by kernel_rfl)) (fun _ _ _ h => h) (Or.inr ⟨by rfl, rfl⟩) ?_ ?_
                          rotate_left
                          · simp only [Act.put, List.setIfInBounds_toArray, List.set_cons_zero, List.set_cons_succ, i64_w, i32_w]
                            rfl
                          refine pure_ (i := 11) (N := some 49) (v := undef) (a' := ?_) #[true, true, true, true, true, true, true, true, true, true, true, true, false, false, false, false, false] rfl rfl (any_of HT_.out (by kernel_rfl)) (fun _ _ _ h => h) (Or.inr ⟨by rfl, rfl⟩) ?_ ?_
                          rotate_left
                          · simp only [Act.put, List.setIfInBounds_toArray, List.set_cons_zero, List.set_cons_succ, i64_w, i32_w]
                            rfl
                          refine pure_ (i := 12) (N := some 50) (v := undef) (a' := ?_) #[true, true, true, true, true, true, true, true, true, true, true, true, true, false, false, false, false] rfl rfl (any_of HT_.out (by kernel_rfl)) (fun _ _ _ h => h) (Or.inr ⟨by rfl, rfl⟩) ?_ ?_
                          rotate_left
                          · simp only [Act.put, List.setIfInBounds_toArray, List.set_cons_zero, List.set_cons_succ, i64_w, i32_w]
                            rfl
                          refine pure_ (i := 13) (N := some 51) (v := undef) (a' := ?_) #[true, true, true, true, true, true, true, true, true, true, true, true, true, true, false, false, false] rfl rfl (any_of HT_.out (by kernel_rfl)) (fun _ _ _ h => h) (Or.inr ⟨by rfl, rfl⟩) ?_ ?_
                          rotate_left
                          · simp only [Act.put, List.setIfInBounds_toArray, List.set_cons_zero, List.set_cons_succ, i64_w, i32_w]
                            rfl
                          refine pure_ (i := 14) (N := some 52) (v := undef) (a' := ?_) #[true, true, true, true, true, true, true, true, true, true, true, true, true, true, true, false, false] rfl rfl (any_of HT_.out (by kernel_rfl)) (fun _ _ _ h => h) (Or.inr ⟨by rfl, rfl⟩) ?_ ?_
                          rotate_left
                          · simp only [Act.put, List.setIfInBounds_toArray, List.set_cons_zero, List.set_cons_succ, i64_w, i32_w]
                            rfl
                          refine pure_ (i := 15) (N := some 53) (v := undef) (a' := ?_) #[true, true, true, true, true, true, true, true, true, true, true, true, true, true, true, true, false] rfl rfl (any_of HT_.out (by kernel_rfl)) (fun _ _ _ h => h) (Or.inr ⟨by rfl, rfl⟩) ?_ ?_
                          rotate_left
                          · simp only [Act.put, List.setIfInBounds_toArray, List.set_cons_zero, List.set_cons_succ, i64_w, i32_w]
                            rfl
                          refine pure_ (i := 16) (N := some 54) (v := ?_) (a' := ?_) #[true, true, true, true, true, true, true, true, true, true, true, true, true, true, true, true, true] rfl rfl (any_of HT_.out (by kernel_rfl)) (fun _ _ _ h => h) (Or.inl ⟨by rfl, ?_⟩) ?_ ?_
                          rotate_left
                          · intro w'
                            go_simp
                            with_reducible rfl
                          rotate_left
                          · simp only [Act.put, List.setIfInBounds_toArray, List.set_cons_zero, List.set_cons_succ, i64_w, i32_w]
                            rfl
                          refine done_ (done_of HT_.out (by kernel_rfl)) ?_
                          try go_wp2
                          go_roundg k1
                          case measure => have := HK1.out; omega
                          case rel => exact ⟨(y171), (x4_1), (wrap64 (x16_1 + 1)), (by first | rfl | (simp; done) | (simp [*]; done)), H', ⟨by have := HK1.out; omega⟩, ⟨by (with_reducible repeat (first | apply Kd.R_alloc | apply Kd.R_drewN | apply Kd.R_drew)); exact HO_3.out⟩, ⟨by (with_reducible repeat (first | apply Kd.R_alloc | apply Kd.R_drewN | apply Kd.R_drew)); exact HO_4.out⟩, ⟨by repeat (first | (with_reducible first | exact HB.out | apply below_alloc | apply pw_below_drewN | apply below_drew1) | exact HB.out)⟩⟩
                      · rw [if_neg c62] at H
                        have c62b0 : decide (0 ≤ t185) = false := decide_eq_false c62
                        clear c62
                        have H' := Aside0.mk H
                        clear H
                        have p11 : 0 ≤ (x16_1 : Int) := of_decide_eq_true (by first | (with_reducible assumption) | assumption)
                        have q11 : (x16_1 : Int) < ((x3_1.length : Int) : Int) := of_decide_eq_true (by first | (with_reducible assumption) | assumption)
                        obtain ⟨go11, co11, eo11, gb11, gl11, cl11, HG11⟩ := Kd.R_form HO_3.out (by omega)
                        (first | cases eo11 | (injection eo11 with ea_ en_ ec_; (first | subst ea_ | (injection ea_ with ea_; subst ea_)); subst ec_; clear en_))
                        have GB11 := Aside0.mk gb11
                        have GG11 := Aside0.mk HG11
                        clear gb11 gl11 HG11
                        obtain ⟨hx11_0, hf11_0⟩ := Kd.R_celln 0 HO_3.out (x16_1 : Int) p11 q11
                        replace p11 := eq_true p11
                        replace q11 := eq_true q11
                        have HP95 := Kd.R_putg HO_3.out (x16_1 : Int) (-1)
                        try go_wp2_with (first | ((with_reducible refine gate_store (t := 3) (p := 21) rfl ?_); refine store_event (t := 3) (p := 21) (v := ?vo_w96) (w1 := (wr.setCell ⟨go11, (x16_1 : Int).toNat, none⟩ (.int .i64 (-1)))) ?hg ?ho ?hn ?hr ?_; (case ho => rfl); (case hg => rfl); (case hn => rfl); (case hr => first | (go_simp; done) | (go_simp; rfl)); intro w96 hw; have hg : wr.grownBy w96 (some go11) := (by rw [hw]; exact HP95.2); have hp_ : Kd.R (Kd.int .i64) 3 w96 w.heap.size (fun k_ => some k_ ≠ (u4 : Value).ownBlock) (.slice (some ⟨go11, 0, none⟩) x3_1.length co11) y171 := (by rw [hw, Ny171.out]; exact HP95.1); clear HP95; have n0_ := Aside0.mk (hp_); have n1_ := Aside0.mk (Kd.R_after (v := (.slice (some ⟨go11, 0, none⟩) x3_1.length co11)) (v1 := (.slice (some ⟨go11, 0, none⟩) x3_1.length co11)) (ok := (fun _ => True)) (by (with_reducible repeat (first | apply Kd.R_alloc | apply Kd.R_drewN | apply Kd.R_drew)); exact Kd.R_mono HO_4.out (fun _ hk => ⟨trivial, hk⟩)) hg (.inl rfl)); have n2_ := Aside0.mk ((by rw [hw]; exact below_set (HB.out) GB11.out : Below w.heap.size w w96)); clear HO_3; clear HO_4; clear HB; have HO_3 := n0_; have HO_4 := n1_; have HB := n2_; clear n0_ n1_ n2_; clear hg hw hp_; have p13 : 0 ≤ (x16_1 : Int) := of_decide_eq_true (by first | (with_reducible assumption) | assumption); have q13 : x16_1 < (a0.size : Int) := of_decide_eq_true (by first | (with_reducible assumption) | assumption); have hx13 := bt_at a0 x16_1; replace p13 := eq_true p13; replace q13 := eq_true q13) | ((with_reducible refine gate_callee (f := 41) rfl ?_); refine goesL_ (some 25) rfl rfl Try.func41 (by kernel_rfl) rfl #[.string (⟨#[40, 91, 123]⟩ : ByteArray), .int .u8 (bt a0 x16_1)] rfl (by (try simp only [List.map_toArray, List.map_cons, List.map_nil]); first | done | rfl | (simp only [List.length_drop, List.length_take]; rfl)) ?_; (with_reducible refine (strings_IndexByte.calls (⟨#[40, 91, 123]⟩ : ByteArray) (bt a0 x16_1) t172 _ A14.out).mono ?_); rintro e w' ⟨rfl, ⟨nd, rfl⟩⟩; refine ⟨_, rfl, ?_⟩; have p60 : 0 ≤ (x16_1 : Int) := of_decide_eq_true (by first | (with_reducible assumption) | assumption); have q60 : x16_1 < (a0.size : Int) := of_decide_eq_true (by first | (with_reducible assumption) | assumption); have hx60 := bt_at a0 x16_1; replace p60 := eq_true p60; replace q60 := eq_true q60) | ((with_reducible refine gate_callee (f := 41) rfl ?_); refine goesL_ (some 34) rfl rfl Try.func41 (by kernel_rfl) rfl #[.string (⟨#[41, 93, 125]⟩ : ByteArray), .int .u8 (bt a0 x16_1)] rfl (by (try simp only [List.map_toArray, List.map_cons, List.map_nil]); first | done | rfl | (simp only [List.length_drop, List.length_take]; rfl)) ?_; (with_reducible refine (strings_IndexByte.calls (⟨#[41, 93, 125]⟩ : ByteArray) (bt a0 x16_1) t185 _ A61.out).mono ?_); rintro e w' ⟨rfl, ⟨nd, rfl⟩⟩; refine ⟨_, rfl, ?_⟩; obtain ⟨Ao97, co97, eo97⟩ := Kd.R_slice HO_4.out; subst eo97))
                        (try (rw [drewN_self w96]; generalize hq_ : World.drewN w96 _ = w96; have n0_ : Aside0 (Kd.R (Kd.int .i64) 3 w96 w.heap.size (fun k_ => some k_ ≠ (.slice Ao97 x4_1.length co97 : Value).ownBlock) (.slice (some ⟨go11, 0, none⟩) x3_1.length co11) y171) := ⟨by rw [← hq_]; exact (by (with_reducible repeat (first | apply Kd.R_alloc | apply Kd.R_drewN | apply Kd.R_drew)); exact HO_3.out)⟩; have n1_ : Aside0 (Kd.R (Kd.int .i64) 3 w96 w.heap.size (fun k_ => some k_ ≠ (.slice (some ⟨go11, 0, none⟩) x3_1.length co11 : Value).ownBlock) (.slice Ao97 x4_1.length co97) x4_1) := ⟨by rw [← hq_]; exact (by (with_reducible repeat (first | apply Kd.R_alloc | apply Kd.R_drewN | apply Kd.R_drew)); exact Kd.R_mono HO_4.out (fun _ hk => hk.2))⟩; have n2_ : Aside0 (Below w.heap.size w w96) := ⟨by rw [← hq_]; exact (by repeat (first | (with_reducible first | exact HB.out | apply below_alloc | apply pw_below_drewN | apply below_drew1) | exact HB.out))⟩; clear HO_3 HO_4 HB hq_; have HO_3 := n0_; have HO_4 := n1_; have HB := n2_; clear n0_ n1_ n2_))
                        have n0_ := Aside0.mk (Kd.R_drew HO_3.out)
                        have n1_ := Aside0.mk (Kd.R_drew HO_4.out)
                        have n2_ := Aside0.mk (below_drew1 HB.out)
                        clear HO_3
                        clear HO_4
                        clear HB
                        have HO_3 := n0_
                        have HO_4 := n1_
                        have HB := n2_
                        clear n0_ n1_ n2_
                        refine start_ (n := 17) (S := fun w' => True) (ds := []) #[false, false, false, false, false, false, false, false, false, false, false, false, false, false, false, false, false] (by kernel_rfl) rfl rfl trivial (fun hHeld => ?_); refine with_tabW impl_BracketMates.tab13 impl_BracketMates.bits13 (fun HT_ HW_ => ?_)
                        generalize w96.drew = w98 at HO_3 HO_4 HB hHeld ⊢
                        refine pure_ (i := 0) (N := some 38) (v := ?_) (a' := ?_) #[true, false, false, false, false, false, false, false, false, false, false, false, false, false, false, false, false] rfl rfl (any_of HT_.out (by kernel_rfl)) (fun _ _ _ h => h) (Or.inl ⟨by rfl, ?_⟩) ?_ ?_
                        rotate_left
                        · intro w'
                          go_simp
                          with_reducible rfl
                        rotate_left
                        · simp only [Act.put, List.setIfInBounds_toArray, List.set_cons_zero, List.set_cons_succ, i64_w, i32_w]
                          rfl
                        refine pure_ (i := 1) (N := some 39) (v := ?_) (a' := ?_) #[true, true, false, false, false, false, false, false, false, false, false, false, false, false, false, false, false] rfl rfl (any_of HT_.out (by kernel_rfl)) (fun _ _ _ h => h) (Or.inl ⟨by rfl, ?_⟩) ?_ ?_
                        rotate_left
                        · intro w'
                          go_simp
                          with_reducible rfl
                        rotate_left
                        · simp only [Act.put, List.setIfInBounds_toArray, List.set_cons_zero, List.set_cons_succ, i64_w, i32_w]
                          rfl
                        refine pure_ (i := 2) (N := some 40) (v := ?_) (a' := ?_) #[true, true, true, false, false, false, false, false, false, false, false, false, false, false, false, false, false] rfl rfl (any_of HT_.out (by kernel_rfl)) (fun _ _ _ h => h) (Or.inl ⟨by rfl, ?_⟩) ?_ ?_
                        rotate_left
                        · intro w'
                          go_simp
                          with_reducible rfl
                        rotate_left
                        · simp only [Act.put, List.setIfInBounds_toArray, List.set_cons_zero, List.set_cons_succ, i64_w, i32_w]
                          rfl
                        refine pure_ (i := 3) (N := some 41) (v := undef) (a' := ?_) #[true, true, true, true, false, false, false, false, false, false, false, false, false, false, false, false, false] rfl rfl (any_of HT_.out (by kernel_rfl)) (fun _ _ _ h => h) (Or.inr ⟨by rfl, rfl⟩) ?_ ?_
                        rotate_left
                        · simp only [Act.put, List.setIfInBounds_toArray, List.set_cons_zero, List.set_cons_succ, i64_w, i32_w]
                          rfl
                        refine pure_ (i := 4) (N := some 42) (v := undef) (a' := ?_) #[true, true, true, true, true, false, false, false, false, false, false, false, false, false, false, false, false] rfl rfl (any_of HT_.out (by kernel_rfl)) (fun _ _ _ h => h) (Or.inr ⟨by rfl, rfl⟩) ?_ ?_
                        rotate_left
                        · simp only [Act.put, List.setIfInBounds_toArray, List.set_cons_zero, List.set_cons_succ, i64_w, i32_w]
                          rfl
                        refine pure_ (i := 5) (N := some 43) (v := ?_) (a' := ?_) #[true, true, true, true, true, true, false, false, false, false, false, false, false, false, false, false, false] rfl rfl (any_of HT_.out (by kernel_rfl)) (fun _ _ _ h => h) (Or.inl ⟨by rfl, ?_⟩) ?_ ?_
                        rotate_left
                        · intro w'
                          go_simp
                          with_reducible rfl
                        rotate_left
                        · simp only [Act.put, List.setIfInBounds_toArray, List.set_cons_zero, List.set_cons_succ, i64_w, i32_w]
                          rfl
                        refine pure_ (i := 6) (N := some 44) (v := ?_) (a' := ?_) #[true, true, true, true, true, true, true, false, false, false, false, false, false, false, false, false, false] rfl rfl (any_of HT_.out (by kernel_rfl)) (fun _ _ _ h => h) (Or.inl ⟨by rfl, ?_⟩) ?_ ?_
                        rotate_left
                        · intro w'
                          go_simp
                          with_reducible rfl
                        rotate_left
                        · simp only [Act.put, List.setIfInBounds_toArray, List.set_cons_zero, List.set_cons_succ, i64_w, i32_w]
                          rfl
                        refine pure_ (i := 7) (N := some 45) (v := undef) (a' := ?_) #[true, true, true, true, true, true, true, true, false, false, false, false, false, false, false, false, false] rfl rfl (any_of HT_.out (by kernel_rfl)) (fun _ _ _ h => h) (Or.inr ⟨by rfl, rfl⟩) ?_ ?_
                        rotate_left
                        · simp only [Act.put, List.setIfInBounds_toArray, List.set_cons_zero, List.set_cons_succ, i64_w, i32_w]
                          rfl
                        refine pure_ (i := 8) (N := some 46) (v := undef) (a' := ?_) #[true, true, true, true, true, true, true, true, true, false, false, false, false, false, false, false, false] rfl rfl (any_of HT_.out (by kernel_rfl)) (fun _ _ _ h => h) (Or.inr ⟨by rfl, rfl⟩) ?_ ?_
                        rotate_left
                        · simp only [Act.put, List.setIfInBounds_toArray, List.set_cons_zero, List.set_cons_succ, i64_w, i32_w]
                          rfl
                        refine pure_ (i := 9) (N := some 47) (v := undef) (a' := ?_) #[true, true, true, true, true, true, true, true, true, true, false, false, false, false, false, false, false] rfl rfl (any_of HT_.out (by kernel_rfl)) (fun _ _ _ h => h) (Or.inr ⟨by rfl, rfl⟩) ?_ ?_
                        rotate_left
                        · simp only [Act.put, List.setIfInBounds_toArray, List.set_cons_zero, List.set_cons_succ, i64_w, i32_w]
                          rfl
                        refine pure_ (i := 10) (N := some 48) (v := undef) (a' := ?_) #[true, true, true, true, true, true, true, true, true, true, true, false, false, false, false, false, false] rfl rfl (any_of HT_.out (by kernel_rfl)) (fun _ _ _ h => h) (Or.inr ⟨by rfl, rfl⟩) ?_ ?_
                        rotate_left
                        · simp only [Act.put, List.setIfInBounds_toArray, List.set_cons_zero, List.set_cons_succ, i64_w, i32_w]
                          rfl
                        refine pure_ (i := 11) (N := some 49) (v := undef) (a' := ?_) #[true, true, true, true, true, true, true, true, true, true, true, true, false, false, false, false, false] rfl rfl (any_of HT_.out (by kernel_rfl)) (fun _ _ _ h => h) (Or.inr ⟨by rfl, rfl⟩) ?_ ?_
                        rotate_left
                        · simp only [Act.put, List.setIfInBounds_toArray, List.set_cons_zero, List.set_cons_succ, i64_w, i32_w]
                          rfl
                        refine pure_ (i := 12) (N := some 50) (v := undef) (a' := ?_) #[true, true, true, true, true, true, true, true, true, true, true, true, true, false, false, false, false] rfl rfl (any_of HT_.out (by kernel_rfl)) (fun _ _ _ h => h) (Or.inr ⟨by rfl, rfl⟩) ?_ ?_
                        rotate_left
                        · simp only [Act.put, List.setIfInBounds_toArray, List.set_cons_zero, List.set_cons_succ, i64_w, i32_w]
                          rfl
                        refine pure_ (i := 13) (N := some 51) (v := undef) (a' := ?_) #[true, true, true, true, true, true, true, true, true, true, true, true, true, true, false, false, false] rfl rfl (any_of HT_.out (by kernel_rfl)) (fun _ _ _ h => h) (Or.inr ⟨by rfl, rfl⟩) ?_ ?_
                        rotate_left
                        · simp only [Act.put, List.setIfInBounds_toArray, List.set_cons_zero, List.set_cons_succ, i64_w, i32_w]
                          rfl
                        refine pure_ (i := 14) (N := some 52) (v := undef) (a' := ?_) #[true, true, true, true, true, true, true, true, true, true, true, true, true, true, true, false, false] rfl rfl (any_of HT_.out (by kernel_rfl)) (fun _ _ _ h => h) (Or.inr ⟨by rfl, rfl⟩) ?_ ?_
                        rotate_left
                        · simp only [Act.put, List.setIfInBounds_toArray, List.set_cons_zero, List.set_cons_succ, i64_w, i32_w]
                          rfl
                        refine pure_ (i := 15) (N := some 53) (v := undef) (a' := ?_) #[true, true, true, true, true, true, true, true, true, true, true, true, true, true, true, true, false] rfl rfl (any_of HT_.out (by kernel_rfl)) (fun _ _ _ h => h) (Or.inr ⟨by rfl, rfl⟩) ?_ ?_
                        rotate_left
                        · simp only [Act.put, List.setIfInBounds_toArray, List.set_cons_zero, List.set_cons_succ, i64_w, i32_w]
                          rfl
                        refine pure_ (i := 16) (N := some 54) (v := ?_) (a' := ?_) #[true, true, true, true, true, true, true, true, true, true, true, true, true, true, true, true, true] rfl rfl (any_of HT_.out (by kernel_rfl)) (fun _ _ _ h => h) (Or.inl ⟨by rfl, ?_⟩) ?_ ?_
                        rotate_left
                        · intro w'
                          go_simp
                          with_reducible rfl
                        rotate_left
                        · simp only [Act.put, List.setIfInBounds_toArray, List.set_cons_zero, List.set_cons_succ, i64_w, i32_w]
                          rfl
                        refine done_ (done_of HT_.out (by kernel_rfl)) ?_
                        try go_wp2
                        go_roundg k1
                        case measure => have := HK1.out; omega
                        case rel => exact ⟨(y171), (x4_1), (wrap64 (x16_1 + 1)), (by first | rfl | (simp; done) | (simp [*]; done)), H', ⟨by have := HK1.out; omega⟩, ⟨by (with_reducible repeat (first | apply Kd.R_alloc | apply Kd.R_drewN | apply Kd.R_drew)); exact HO_3.out⟩, ⟨by (with_reducible repeat (first | apply Kd.R_alloc | apply Kd.R_drewN | apply Kd.R_drew)); exact HO_4.out⟩, ⟨by repeat (first | (with_reducible first | exact HB.out | apply below_alloc | apply pw_below_drewN | apply below_drew1) | exact HB.out)⟩⟩
                  · rw [if_neg c12] at H
                    exact absurd H (by simp)
                · rw [if_neg c10] at H
                  exact absurd H (by simp)
              · rw [if_neg c9] at H
                exact absurd H (by simp)
            · rw [if_neg c8] at H
              have c8b0 : decide (x16_1 < (a0.size : Int)) = false := decide_eq_false c8
              clear c8
              obtain rfl := Option.some.inj H
              go_wp2
              go_ret
              exact ⟨_, by first | rfl | (simp [errW_none, errW_some] <;> rfl) | (simp [*, errW_none, errW_some] <;> rfl), by (with_reducible repeat (first | apply Kd.R_alloc | apply Kd.R_drewN | apply Kd.R_drew)); exact Kd.R_mono HO_3.out (fun _ hk => trivial), by repeat (first | (with_reducible first | exact HB.out | apply below_alloc | apply pw_below_drewN | apply below_drew1) | exact HB.out)⟩
      · rw [if_neg c5] at H
        exact absurd H (by simp)
    · rw [if_neg c4] at H
      exact absurd H (by simp)
  · replace c3 := Bool.eq_false_iff.mpr c3
    subst c3
    have H1 : (some ([] : List Int)) = some r := by rw [if_neg (show ¬ (false = true) by decide)] at H; exact H
    clear H
    have H := H1
    clear H1
    obtain rfl := Option.some.inj H
    go_enter Try.func20, Try.ntmps20
    go_wp2_with (first | ((with_reducible refine gate_callee (f := 46) rfl ?_); refine goesL_ (some 9) rfl rfl Try.func46 (by kernel_rfl) rfl #[.string a0] rfl (by (try simp only [List.map_toArray, List.map_cons, List.map_nil]); first | done | rfl | (simp only [List.length_drop, List.length_take]; rfl)) ?_; (with_reducible refine (impl_TextValid.calls k a0 false _ A2.out).mono ?_); rintro e w' ⟨rfl, ⟨nd, rfl⟩⟩; refine ⟨_, rfl, ?_⟩))
    go_ret
    exact ⟨_, by first | rfl | (simp [errW_none, errW_some] <;> rfl) | (simp [*, errW_none, errW_some] <;> rfl), by first | exact Kd.R_nil _ _ _ _ _ | exact Kd.N_nil _ _ _ _ _ | exact Kd.V_nil _ _ _ _ _ | exact Kd.Q_nil _ _ _ _ _ | exact Kd.S_nil _ _ _ _ _, by repeat (first | (with_reducible first | exact HB.out | apply below_alloc | apply pw_below_drewN | apply below_drew1) | exact HB.out)⟩

end Go.Proofs.Ytbkdfiepdnbeoaa.X
