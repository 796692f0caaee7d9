-- written by a program of this session (wip/xprint.py) out of the translation
import Derived.Test.YtpaijbpenjjmkaaX0
import Derived.Test.YtpaijbpenjjmkaaX1
import Derived.Test.YtpaijbpenjjmkaaX7
namespace Go.Proofs.Ytpaijbpenjjmkaa.X
open Go.RowKit Go.Proofs.YtpaijbpenjjmkaaW.PrintWords Go.Proofs.YtpaijbpenjjmkaaW.PrintLast Go.Proofs.YtpaijbpenjjmkaaW.PrintMore
attribute [local go_sem] max2_int min2_int max_two min_two max_three min_three max_four min_four   -- for this text's walks alone
set_option linter.unusedVariables false
set_option linter.unusedSimpArgs false

/-! ### spec_l20Place: function 58 -/
def spec_l20Place.f (k : Nat) (s0_0 : List Int) (s0_1 : Int) (a1 : ByteArray) (a2 : Int) : Option (Int × Int) := (spec_l20Rd_odd.f k s0_0 s0_1 a2).bind fun bt118 => (if bt118.1 = true then ((some (([(-1), wrap64 ((a1.size : Int) + 1)] : List Int) : List Int)).bind fun y120 => ((spec_l20Rd_pick.f k s0_0 bt118.2 2).bind fun bt123 => (if 0 ≤ bt123.1 then (if bt123.1 < (y120.length : Int) then (some (rd y120 bt123.1, bt123.2)) else (none)) else (none)))) else ((spec_l20Rd_pick.f k s0_0 bt118.2 (mn 256 (wrap64 ((a1.size : Int) + 1)))).bind fun bt126 => ((some (([bt126.1, 0, (a1.size : Int)] : List Int) : List Int)).bind fun y128 => ((some (([0, 0, 0, 0, 1, 2] : List Int) : List Int)).bind fun y131 => ((spec_l20Rd_pick.f k s0_0 bt126.2 6).bind fun bt134 => (if 0 ≤ bt134.1 then (if bt134.1 < (y131.length : Int) then (if 0 ≤ (rd y131 bt134.1) then (if (rd y131 bt134.1) < (y128.length : Int) then (some (rd y128 (rd y131 bt134.1), bt134.2)) else (none)) else (none)) else (none)) else (none)))))))
theorem spec_l20Place.mono : ∀ a0 a1 a2 a3 k, LeO (spec_l20Place.f k a0 a1 a2 a3) (spec_l20Place.f (k + 1) a0 a1 a2 a3) := by
  intro a0 a1 a2 a3 k
  unfold spec_l20Place.f
  repeat' first
      | (with_reducible exact spec_l20Rd_odd.mono _ _ _ _)
      | (with_reducible exact spec_l20Rd_pick.mono _ _ _ _)
      | (with_reducible exact LeO.refl _)
      | (with_reducible exact LeO.none _)
      | (with_reducible refine LeO.ite ?_ ?_)
      | (with_reducible refine LeO.bind ?_ (fun _ => ?_))
      | exact spec_l20Rd_odd.mono _ _ _ _
      | exact spec_l20Rd_pick.mono _ _ _ _
      | exact LeO.none _
      | refine LeO.ite ?_ ?_
      | refine LeO.bind ?_ (fun _ => ?_)
set_option maxHeartbeats 8000000 in
set_option maxRecDepth 100000 in
theorem spec_l20Place.calls (k : Nat) (g : Nat) (s0_0 : List Int) (s0_1 : Int) (a1 : ByteArray) (a2 : Int) (r1 : Int) (r2 : Int) (w0 w : World) (hI : IsS68 w0 w g s0_0 s0_1) (hB : Below w0.heap.size w0 w) (h : spec_l20Place.f k s0_0 s0_1 a1 a2 = some (r1, r2)) :
    Calls Try.prog 58 #[.pointer (some ⟨g, 0, none⟩), .string a1, .int .i64 a2] w fun e w' => e = .returned (.int .i64 r1) ∧ IsS68 w0 w' g s0_0 r2 ∧ Below w0.heap.size w0 w' ∧ KeepBut w w' g none := by
  have HI0 := Aside0.mk hI
  have HK := Aside0.mk (KeepBut.refl w g none)
  have HL := Aside0.mk hB.size
  clear hI
  have HW0 := Aside0.mk hB.size
  have HB := Aside0.mk hB
  clear hB
  have H : ((spec_l20Rd_odd.f k s0_0 s0_1 a2).bind fun bt118 => (if bt118.1 = true then ((some (([(-1), wrap64 ((a1.size : Int) + 1)] : List Int) : List Int)).bind fun y120 => ((spec_l20Rd_pick.f k s0_0 bt118.2 2).bind fun bt123 => (if 0 ≤ bt123.1 then (if bt123.1 < (y120.length : Int) then (some (rd y120 bt123.1, bt123.2)) else (none)) else (none)))) else ((spec_l20Rd_pick.f k s0_0 bt118.2 (mn 256 (wrap64 ((a1.size : Int) + 1)))).bind fun bt126 => ((some (([bt126.1, 0, (a1.size : Int)] : List Int) : List Int)).bind fun y128 => ((some (([0, 0, 0, 0, 1, 2] : List Int) : List Int)).bind fun y131 => ((spec_l20Rd_pick.f k s0_0 bt126.2 6).bind fun bt134 => (if 0 ≤ bt134.1 then (if bt134.1 < (y131.length : Int) then (if 0 ≤ (rd y131 bt134.1) then (if (rd y131 bt134.1) < (y128.length : Int) then (some (rd y128 (rd y131 bt134.1), bt134.2)) else (none)) else (none)) else (none)) else (none)))))))) = some (r1, r2) := h
  clear h
  replace H := Option.bind_eq_some_iff.mp H
  obtain ⟨⟨t118, t119⟩, A40, H⟩ := H
  replace H : (if t118 = true then ((some (([(-1), wrap64 ((a1.size : Int) + 1)] : List Int) : List Int)).bind fun y120 => ((spec_l20Rd_pick.f k s0_0 t119 2).bind fun bt123 => (if 0 ≤ bt123.1 then (if bt123.1 < (y120.length : Int) then (some (rd y120 bt123.1, bt123.2)) else (none)) else (none)))) else ((spec_l20Rd_pick.f k s0_0 t119 (mn 256 (wrap64 ((a1.size : Int) + 1)))).bind fun bt126 => ((some (([bt126.1, 0, (a1.size : Int)] : List Int) : List Int)).bind fun y128 => ((some (([0, 0, 0, 0, 1, 2] : List Int) : List Int)).bind fun y131 => ((spec_l20Rd_pick.f k s0_0 bt126.2 6).bind fun bt134 => (if 0 ≤ bt134.1 then (if bt134.1 < (y131.length : Int) then (if 0 ≤ (rd y131 bt134.1) then (if (rd y131 bt134.1) < (y128.length : Int) then (some (rd y128 (rd y131 bt134.1), bt134.2)) else (none)) else (none)) else (none)) else (none))))))) = some (r1, r2) := H
  have A4 := Aside0.mk A40
  clear A40
  by_cases c5 : t118 = true
  · subst c5
    have H1 : ((some (([(-1), wrap64 ((a1.size : Int) + 1)] : List Int) : List Int)).bind fun y120 => ((spec_l20Rd_pick.f k s0_0 t119 2).bind fun bt123 => (if 0 ≤ bt123.1 then (if bt123.1 < (y120.length : Int) then (some (rd y120 bt123.1, bt123.2)) else (none)) else (none)))) = some (r1, r2) := by rw [if_pos rfl] at H; exact H
    clear H
    have H := H1
    clear H1
    obtain ⟨y120, hy120⟩ : ∃ y_ : List Int, y_ = (([(-1), wrap64 ((a1.size : Int) + 1)] : List Int)) := ⟨_, rfl⟩
    replace H : ((spec_l20Rd_pick.f k s0_0 t119 2).bind fun bt123 => (if 0 ≤ bt123.1 then (if bt123.1 < (y120.length : Int) then (some (rd y120 bt123.1, bt123.2)) else (none)) else (none))) = some (r1, r2) := by first | (rw [hy120]; with_reducible exact H) | (have H2_ := (Option.bind_some _ _).symm.trans H; rw [hy120]; with_reducible exact H2_) | (have H2_ := (Option.bind_some _ _).symm.trans H; with_reducible exact H2_) | with_reducible exact H | (rw [hy120]; exact H) | exact H
    have Ny120 := Aside0.mk hy120
    clear hy120
    replace H := Option.bind_eq_some_iff.mp H
    obtain ⟨⟨t123, t124⟩, A60, H⟩ := H
    replace H : (if 0 ≤ t123 then (if t123 < (y120.length : Int) then (some (rd y120 t123, t124)) else (none)) else (none)) = some (r1, r2) := H
    have A6 := Aside0.mk A60
    clear A60
    by_cases c7 : 0 ≤ t123
    · rw [if_pos c7] at H
      have c7b0 : decide (0 ≤ t123) = true := decide_eq_true c7
      clear c7
      by_cases c8 : t123 < (y120.length : Int)
      · rw [if_pos c8] at H
        have c8b0 : decide (t123 < (y120.length : Int)) = true := decide_eq_true c8
        clear c8
        simp only [Option.some.injEq, Prod.mk.injEq] at H
        obtain ⟨rfl, rfl⟩ := H
        go_enter Try.func58, Try.ntmps58
        go_wp2_with (first | ((with_reducible refine gate_callee (f := 66) rfl ?_); refine goesL_ (some 9) rfl rfl Try.func66 (by kernel_rfl) rfl #[.pointer (some ⟨g, 0, none⟩), .int .i64 a2] rfl (by (try simp only [List.map_toArray, List.map_cons, List.map_nil]); first | done | rfl | (simp only [List.length_drop, List.length_take]; rfl)) ?_; (with_reducible refine (spec_l20Rd_odd.calls k g s0_0 s0_1 a2 true t119 w0 _ ?side1 ?side2 A4.out).mono ?_); (case side1 => repeat (first | (with_reducible first | exact HI0.out | apply IsS68.alloc | apply IsS68.drewN | apply IsS68.drew | apply IsS68.set_1) | exact HI0.out)); (case side2 => repeat (first | (with_reducible first | exact HB.out | apply below_alloc | apply pw_below_drewN | apply below_drew1 | refine below_set ?_ (IsS68.ge HI0.out)) | exact HB.out)); rintro e w9 ⟨rfl, hi, hb, hk⟩; refine ⟨_, rfl, ?_⟩; have n0_ := Aside0.mk (KeepBut.trans (by repeat (first | (with_reducible first | exact HK.out | apply KeepBut.set_ | apply keep_drewN | apply keep_drew | apply keep_alloc) | exact HK.out)) hk (.inl rfl)); have n1_ := Aside0.mk (hb); have n2_ := Aside0.mk (hi); clear HK; clear HB; clear HI0; have HK := n0_; have HB := n1_; have HI0 := n2_; clear n0_ n1_ n2_; (try clear hb); (try clear hb2); (try clear hk); (try clear hi)) | ((with_reducible refine gate_dst (N := 13) rfl ?_); refine Kd.R_lit (Kd.int .i64) _ 3 ?hg (N := 13) ?hd (xs := ([(-1), wrap64 ((a1.size : Int) + 1)] : List Int)) (inner := [.int .i64 (-1), .int .i64 (wrap64 ((a1.size : Int) + 1))]) (ok := fun _ => True) (okp := fun _ => True) ?hr ?hp (fun _ hk => hk) trivial (Below.refl _ _) (Nat.le_refl _) (by simp) ?_; (case hd => rfl); (case hg => rfl); (case hr => first | (go_simp; done) | (go_simp; rfl)); (case hp => exact (Reps.one (show Kd.M (Kd.int .i64) _ _ _ (-1) [.int .i64 (-1)] from rfl) (Reps.one (show Kd.M (Kd.int .i64) _ _ _ (wrap64 ((a1.size : Int) + 1)) [.int .i64 (wrap64 ((a1.size : Int) + 1))] from rfl) (Reps.none _ _)))); intro v121 w10 ho11 hb hg_ hnew_; clear hg_ hnew_; (first | rw [← Ny120.out] at ho11 | (simp only [Int.reduceToNat] at ho11; rw [← Ny120.out] at ho11)); have n0_ := Aside0.mk (Kd.R_lower ho11 (keep_size (w := w) (g := g) (row := none) (by repeat (first | (with_reducible first | exact HK.out | apply KeepBut.set_ | apply keep_drewN | apply keep_drew | apply keep_alloc) | exact HK.out)))); have n1_ := Aside0.mk (IsS68.below (by repeat (first | (with_reducible first | exact HI0.out | apply IsS68.alloc | apply IsS68.drewN | apply IsS68.drew | apply IsS68.set_1) | exact HI0.out)) hb); have n2_ := Aside0.mk (KeepBut.trans (by repeat (first | (with_reducible first | exact HK.out | apply KeepBut.set_ | apply keep_drewN | apply keep_drew | apply keep_alloc) | exact HK.out)) (KeepBut.of_below hb g none) (.inl rfl)); have n3_ := Aside0.mk (below_step (by repeat (first | (with_reducible first | exact HB.out | apply below_alloc | apply pw_below_drewN | apply below_drew1 | refine below_set ?_ (IsS68.ge HI0.out)) | exact HB.out)) hb); clear HI0; clear HK; clear HB; have HO122 := n0_; have HI0 := n1_; have HK := n2_; have HB := n3_; clear n0_ n1_ n2_ n3_; clear hb ho11) | ((with_reducible refine gate_callee (f := 57) rfl ?_); refine goesL_ (some 15) rfl rfl Try.func57 (by kernel_rfl) rfl #[.pointer (some ⟨g, 0, none⟩), .int .i64 2] rfl (by (try simp only [List.map_toArray, List.map_cons, List.map_nil]); first | done | rfl | (simp only [List.length_drop, List.length_take]; rfl)) ?_; (with_reducible refine (spec_l20Rd_pick.calls k g s0_0 t119 2 t123 t124 w0 _ ?side1 ?side2 A6.out).mono ?_); (case side1 => repeat (first | (with_reducible first | exact HI0.out | apply IsS68.alloc | apply IsS68.drewN | apply IsS68.drew | apply IsS68.set_1) | exact HI0.out)); (case side2 => repeat (first | (with_reducible first | exact HB.out | apply below_alloc | apply pw_below_drewN | apply below_drew1 | refine below_set ?_ (IsS68.ge HI0.out)) | exact HB.out)); rintro e w12 ⟨rfl, hi, hb, hk⟩; refine ⟨_, rfl, ?_⟩; have n0_ := Aside0.mk (Kd.R_mono (Kd.R_keep (IsS68.apart (show IsS68 w0 _ g s0_0 t119 from by repeat (first | (with_reducible first | exact HI0.out | apply IsS68.alloc | apply IsS68.drewN | apply IsS68.drew | apply IsS68.set_1) | exact HI0.out)) (by (with_reducible repeat (first | apply Kd.R_alloc | apply Kd.R_drewN | apply Kd.R_drew)); exact HO122.out) (by decide)) hk (fun _ h => h.2)) (fun _ h => h.1)); have n1_ := Aside0.mk (KeepBut.trans (by repeat (first | (with_reducible first | exact HK.out | apply KeepBut.set_ | apply keep_drewN | apply keep_drew | apply keep_alloc) | exact HK.out)) hk (.inl rfl)); have n2_ := Aside0.mk (hb); have n3_ := Aside0.mk (hi); clear HO122; clear HK; clear HB; clear HI0; have HO122 := n0_; have HK := n1_; have HB := n2_; have HI0 := n3_; clear n0_ n1_ n2_ n3_; (try clear hb); (try clear hb2); (try clear hk); (try clear hi); obtain ⟨Ao13, co13, eo13⟩ := Kd.R_slice HO122.out; subst eo13; have p125 : 0 ≤ (t123 : Int) := of_decide_eq_true (by first | (with_reducible assumption) | assumption); have q125 : t123 < (y120.length : Int) := of_decide_eq_true (by first | (with_reducible assumption) | assumption); obtain ⟨ad125, e125, hx125_0⟩ := Kd.at_int (Kd.R_reads' HO122.out).2.2 t123 p125 q125; cases e125; replace p125 := eq_true p125; replace q125 := eq_true q125))
        go_ret
        exact ⟨by first | rfl | (simp [errW_none, errW_some] <;> rfl) | (simp [*, errW_none, errW_some] <;> rfl), by repeat (first | (with_reducible first | exact HI0.out | apply IsS68.alloc | apply IsS68.drewN | apply IsS68.drew | apply IsS68.set_1) | exact HI0.out), by repeat (first | (with_reducible first | exact HB.out | apply below_alloc | apply pw_below_drewN | apply below_drew1 | refine below_set ?_ (IsS68.ge HI0.out)) | exact HB.out), by repeat (first | (with_reducible first | exact HK.out | apply KeepBut.set_ | apply keep_drewN | apply keep_drew | apply keep_alloc) | exact HK.out)⟩
      · rw [if_neg c8] at H
        exact absurd H (by simp)
    · rw [if_neg c7] at H
      exact absurd H (by simp)
  · replace c5 := Bool.eq_false_iff.mpr c5
    subst c5
    have H1 : ((spec_l20Rd_pick.f k s0_0 t119 (mn 256 (wrap64 ((a1.size : Int) + 1)))).bind fun bt126 => ((some (([bt126.1, 0, (a1.size : Int)] : List Int) : List Int)).bind fun y128 => ((some (([0, 0, 0, 0, 1, 2] : List Int) : List Int)).bind fun y131 => ((spec_l20Rd_pick.f k s0_0 bt126.2 6).bind fun bt134 => (if 0 ≤ bt134.1 then (if bt134.1 < (y131.length : Int) then (if 0 ≤ (rd y131 bt134.1) then (if (rd y131 bt134.1) < (y128.length : Int) then (some (rd y128 (rd y131 bt134.1), bt134.2)) else (none)) else (none)) else (none)) else (none)))))) = some (r1, r2) := by rw [if_neg (show ¬ (false = true) by decide)] at H; exact H
    clear H
    have H := H1
    clear H1
    obtain ⟨ji14, hji14⟩ : ∃ j_ : Int, (mn 256 (wrap64 ((a1.size : Int) + 1))) = j_ := ⟨_, rfl⟩
    replace H : ((spec_l20Rd_pick.f k s0_0 t119 (ji14)).bind fun bt126 => ((some (([bt126.1, 0, (a1.size : Int)] : List Int) : List Int)).bind fun y128 => ((some (([0, 0, 0, 0, 1, 2] : List Int) : List Int)).bind fun y131 => ((spec_l20Rd_pick.f k s0_0 bt126.2 6).bind fun bt134 => (if 0 ≤ bt134.1 then (if bt134.1 < (y131.length : Int) then (if 0 ≤ (rd y131 bt134.1) then (if (rd y131 bt134.1) < (y128.length : Int) then (some (rd y128 (rd y131 bt134.1), bt134.2)) else (none)) else (none)) else (none)) else (none)))))) = some (r1, r2) := by first | (rw [hji14] at H; exact H) | (simp only [hji14] at H ⊢; exact H)
    (try rw [hji14] at A4)
    (try (have hji14h : ji14 ≤ 256 := by (rw [← hji14]; unfold mn; (repeat' split) <;> omega)))
    (try (have hji14g : ji14 ≤ 64 := by omega))
    have hji14_ : (if (wrap64 ((a1.size : Int) + 1)) < 256 then (wrap64 ((a1.size : Int) + 1)) else 256) = ji14 := hji14
    replace H := Option.bind_eq_some_iff.mp H
    obtain ⟨⟨t126, t127⟩, A150, H⟩ := H
    replace H : ((some (([t126, 0, (a1.size : Int)] : List Int) : List Int)).bind fun y128 => ((some (([0, 0, 0, 0, 1, 2] : List Int) : List Int)).bind fun y131 => ((spec_l20Rd_pick.f k s0_0 t127 6).bind fun bt134 => (if 0 ≤ bt134.1 then (if bt134.1 < (y131.length : Int) then (if 0 ≤ (rd y131 bt134.1) then (if (rd y131 bt134.1) < (y128.length : Int) then (some (rd y128 (rd y131 bt134.1), bt134.2)) else (none)) else (none)) else (none)) else (none))))) = some (r1, r2) := H
    have A15 := Aside0.mk A150
    clear A150
    obtain ⟨y128, hy128⟩ : ∃ y_ : List Int, y_ = (([t126, 0, (a1.size : Int)] : List Int)) := ⟨_, rfl⟩
    replace H : ((some (([0, 0, 0, 0, 1, 2] : List Int) : List Int)).bind fun y131 => ((spec_l20Rd_pick.f k s0_0 t127 6).bind fun bt134 => (if 0 ≤ bt134.1 then (if bt134.1 < (y131.length : Int) then (if 0 ≤ (rd y131 bt134.1) then (if (rd y131 bt134.1) < (y128.length : Int) then (some (rd y128 (rd y131 bt134.1), bt134.2)) else (none)) else (none)) else (none)) else (none)))) = some (r1, r2) := by first | (rw [hy128]; with_reducible exact H) | (have H2_ := (Option.bind_some _ _).symm.trans H; rw [hy128]; with_reducible exact H2_) | (have H2_ := (Option.bind_some _ _).symm.trans H; with_reducible exact H2_) | with_reducible exact H | (rw [hy128]; exact H) | exact H
    have Ny128 := Aside0.mk hy128
    clear hy128
    obtain ⟨y131, hy131⟩ : ∃ y_ : List Int, y_ = (([0, 0, 0, 0, 1, 2] : List Int)) := ⟨_, rfl⟩
    replace H : ((spec_l20Rd_pick.f k s0_0 t127 6).bind fun bt134 => (if 0 ≤ bt134.1 then (if bt134.1 < (y131.length : Int) then (if 0 ≤ (rd y131 bt134.1) then (if (rd y131 bt134.1) < (y128.length : Int) then (some (rd y128 (rd y131 bt134.1), bt134.2)) else (none)) else (none)) else (none)) else (none))) = some (r1, r2) := by first | (rw [hy131]; with_reducible exact H) | (have H2_ := (Option.bind_some _ _).symm.trans H; rw [hy131]; with_reducible exact H2_) | (have H2_ := (Option.bind_some _ _).symm.trans H; with_reducible exact H2_) | with_reducible exact H | (rw [hy131]; exact H) | exact H
    have Ny131 := Aside0.mk hy131
    clear hy131
    replace H := Option.bind_eq_some_iff.mp H
    obtain ⟨⟨t134, t135⟩, A160, H⟩ := H
    replace H : (if 0 ≤ t134 then (if t134 < (y131.length : Int) then (if 0 ≤ (rd y131 t134) then (if (rd y131 t134) < (y128.length : Int) then (some (rd y128 (rd y131 t134), t135)) else (none)) else (none)) else (none)) else (none)) = some (r1, r2) := H
    have A16 := Aside0.mk A160
    clear A160
    by_cases c17 : 0 ≤ t134
    · rw [if_pos c17] at H
      have c17b0 : decide (0 ≤ t134) = true := decide_eq_true c17
      clear c17
      by_cases c18 : t134 < (y131.length : Int)
      · rw [if_pos c18] at H
        have c18b0 : decide (t134 < (y131.length : Int)) = true := decide_eq_true c18
        clear c18
        by_cases c19 : 0 ≤ (rd y131 t134)
        · rw [if_pos c19] at H
          have c19b0 : decide (0 ≤ (rd y131 t134)) = true := decide_eq_true c19
          clear c19
          by_cases c20 : (rd y131 t134) < (y128.length : Int)
          · rw [if_pos c20] at H
            have c20b0 : decide ((rd y131 t134) < (y128.length : Int)) = true := decide_eq_true c20
            clear c20
            simp only [Option.some.injEq, Prod.mk.injEq] at H
            obtain ⟨rfl, rfl⟩ := H
            go_enter Try.func58, Try.ntmps58
            go_wp2_with (first | ((with_reducible refine gate_callee (f := 66) rfl ?_); refine goesL_ (some 9) rfl rfl Try.func66 (by kernel_rfl) rfl #[.pointer (some ⟨g, 0, none⟩), .int .i64 a2] rfl (by (try simp only [List.map_toArray, List.map_cons, List.map_nil]); first | done | rfl | (simp only [List.length_drop, List.length_take]; rfl)) ?_; (with_reducible refine (spec_l20Rd_odd.calls k g s0_0 s0_1 a2 false t119 w0 _ ?side1 ?side2 A4.out).mono ?_); (case side1 => repeat (first | (with_reducible first | exact HI0.out | apply IsS68.alloc | apply IsS68.drewN | apply IsS68.drew | apply IsS68.set_1) | exact HI0.out)); (case side2 => repeat (first | (with_reducible first | exact HB.out | apply below_alloc | apply pw_below_drewN | apply below_drew1 | refine below_set ?_ (IsS68.ge HI0.out)) | exact HB.out)); rintro e w21 ⟨rfl, hi, hb, hk⟩; refine ⟨_, rfl, ?_⟩; have n0_ := Aside0.mk (KeepBut.trans (by repeat (first | (with_reducible first | exact HK.out | apply KeepBut.set_ | apply keep_drewN | apply keep_drew | apply keep_alloc) | exact HK.out)) hk (.inl rfl)); have n1_ := Aside0.mk (hb); have n2_ := Aside0.mk (hi); clear HK; clear HB; clear HI0; have HK := n0_; have HB := n1_; have HI0 := n2_; clear n0_ n1_ n2_; (try clear hb); (try clear hb2); (try clear hk); (try clear hi)) | ((with_reducible refine gate_callee (f := 57) rfl ?_); refine goesL_ (some 23) rfl rfl Try.func57 (by kernel_rfl) rfl #[.pointer (some ⟨g, 0, none⟩), .int .i64 ji14] rfl (by (try simp only [List.map_toArray, List.map_cons, List.map_nil]); first | done | (simp only [hji14]; rfl) | rfl | (simp only [List.length_drop, List.length_take]; rfl)) ?_; (with_reducible refine (spec_l20Rd_pick.calls k g s0_0 t119 ji14 t126 t127 w0 _ ?side1 ?side2 A15.out).mono ?_); (case side1 => repeat (first | (with_reducible first | exact HI0.out | apply IsS68.alloc | apply IsS68.drewN | apply IsS68.drew | apply IsS68.set_1) | exact HI0.out)); (case side2 => repeat (first | (with_reducible first | exact HB.out | apply below_alloc | apply pw_below_drewN | apply below_drew1 | refine below_set ?_ (IsS68.ge HI0.out)) | exact HB.out)); rintro e w22 ⟨rfl, hi, hb, hk⟩; refine ⟨_, rfl, ?_⟩; have n0_ := Aside0.mk (KeepBut.trans (by repeat (first | (with_reducible first | exact HK.out | apply KeepBut.set_ | apply keep_drewN | apply keep_drew | apply keep_alloc) | exact HK.out)) hk (.inl rfl)); have n1_ := Aside0.mk (hb); have n2_ := Aside0.mk (hi); clear HK; clear HB; clear HI0; have HK := n0_; have HB := n1_; have HI0 := n2_; clear n0_ n1_ n2_; (try clear hb); (try clear hb2); (try clear hk); (try clear hi)) | ((with_reducible refine gate_dst (N := 26) rfl ?_); refine Kd.R_lit (Kd.int .i64) _ 3 ?hg (N := 26) ?hd (xs := ([t126, 0, (a1.size : Int)] : List Int)) (inner := [.int .i64 t126, .int .i64 0, .int .i64 (a1.size : Int)]) (ok := fun _ => True) (okp := fun _ => True) ?hr ?hp (fun _ hk => hk) trivial (Below.refl _ _) (Nat.le_refl _) (by simp) ?_; (case hd => rfl); (case hg => rfl); (case hr => first | (go_simp; done) | (go_simp; rfl)); (case hp => exact (Reps.one (show Kd.M (Kd.int .i64) _ _ _ t126 [.int .i64 t126] from rfl) (Reps.one (show Kd.M (Kd.int .i64) _ _ _ 0 [.int .i64 0] from rfl) (Reps.one (show Kd.M (Kd.int .i64) _ _ _ (a1.size : Int) [.int .i64 (a1.size : Int)] from rfl) (Reps.none _ _))))); intro v129 w23 ho24 hb hg_ hnew_; clear hg_ hnew_; (first | rw [← Ny128.out] at ho24 | (simp only [Int.reduceToNat] at ho24; rw [← Ny128.out] at ho24)); have n0_ := Aside0.mk (Kd.R_lower ho24 (keep_size (w := w) (g := g) (row := none) (by repeat (first | (with_reducible first | exact HK.out | apply KeepBut.set_ | apply keep_drewN | apply keep_drew | apply keep_alloc) | exact HK.out)))); have n1_ := Aside0.mk (IsS68.below (by repeat (first | (with_reducible first | exact HI0.out | apply IsS68.alloc | apply IsS68.drewN | apply IsS68.drew | apply IsS68.set_1) | exact HI0.out)) hb); have n2_ := Aside0.mk (KeepBut.trans (by repeat (first | (with_reducible first | exact HK.out | apply KeepBut.set_ | apply keep_drewN | apply keep_drew | apply keep_alloc) | exact HK.out)) (KeepBut.of_below hb g none) (.inl rfl)); have n3_ := Aside0.mk (below_step (by repeat (first | (with_reducible first | exact HB.out | apply below_alloc | apply pw_below_drewN | apply below_drew1 | refine below_set ?_ (IsS68.ge HI0.out)) | exact HB.out)) hb); clear HI0; clear HK; clear HB; have HO130 := n0_; have HI0 := n1_; have HK := n2_; have HB := n3_; clear n0_ n1_ n2_ n3_; clear hb ho24) | ((with_reducible refine gate_dst (N := 27) rfl ?_); refine Kd.R_lit (Kd.int .i64) _ 3 ?hg (N := 27) ?hd (xs := ([0, 0, 0, 0, 1, 2] : List Int)) (inner := [.int .i64 0, .int .i64 0, .int .i64 0, .int .i64 0, .int .i64 1, .int .i64 2]) (ok := fun _ => True) (okp := fun _ => True) ?hr ?hp (fun _ hk => hk) trivial (Below.refl _ _) (Nat.le_refl _) (by simp) ?_; (case hd => rfl); (case hg => rfl); (case hr => first | (go_simp; done) | (go_simp; rfl)); (case hp => exact (Reps.one (show Kd.M (Kd.int .i64) _ _ _ 0 [.int .i64 0] from rfl) (Reps.one (show Kd.M (Kd.int .i64) _ _ _ 0 [.int .i64 0] from rfl) (Reps.one (show Kd.M (Kd.int .i64) _ _ _ 0 [.int .i64 0] from rfl) (Reps.one (show Kd.M (Kd.int .i64) _ _ _ 0 [.int .i64 0] from rfl) (Reps.one (show Kd.M (Kd.int .i64) _ _ _ 1 [.int .i64 1] from rfl) (Reps.one (show Kd.M (Kd.int .i64) _ _ _ 2 [.int .i64 2] from rfl) (Reps.none _ _)))))))); intro v132 w25 ho26 hb hg_ hnew_; clear hg_ hnew_; (first | rw [← Ny131.out] at ho26 | (simp only [Int.reduceToNat] at ho26; rw [← Ny131.out] at ho26)); have n0_ := Aside0.mk (Kd.R_elder' (by (with_reducible repeat (first | apply Kd.R_alloc | apply Kd.R_drewN | apply Kd.R_drew)); exact HO130.out) (Kd.R_base ho26) hb); have n1_ := Aside0.mk (Kd.R_lower (Kd.R_new' ho26 (Kd.R_lt (by (with_reducible repeat (first | apply Kd.R_alloc | apply Kd.R_drewN | apply Kd.R_drew)); exact HO130.out))) (keep_size (w := w) (g := g) (row := none) (by repeat (first | (with_reducible first | exact HK.out | apply KeepBut.set_ | apply keep_drewN | apply keep_drew | apply keep_alloc) | exact HK.out)))); have n2_ := Aside0.mk (IsS68.below (by repeat (first | (with_reducible first | exact HI0.out | apply IsS68.alloc | apply IsS68.drewN | apply IsS68.drew | apply IsS68.set_1) | exact HI0.out)) hb); have n3_ := Aside0.mk (KeepBut.trans (by repeat (first | (with_reducible first | exact HK.out | apply KeepBut.set_ | apply keep_drewN | apply keep_drew | apply keep_alloc) | exact HK.out)) (KeepBut.of_below hb g none) (.inl rfl)); have n4_ := Aside0.mk (below_step (by repeat (first | (with_reducible first | exact HB.out | apply below_alloc | apply pw_below_drewN | apply below_drew1 | refine below_set ?_ (IsS68.ge HI0.out)) | exact HB.out)) hb); clear HO130; clear HI0; clear HK; clear HB; have HO130 := n0_; have HO133 := n1_; have HI0 := n2_; have HK := n3_; have HB := n4_; clear n0_ n1_ n2_ n3_ n4_; clear hb ho26) | ((with_reducible refine gate_callee (f := 57) rfl ?_); refine goesL_ (some 29) rfl rfl Try.func57 (by kernel_rfl) rfl #[.pointer (some ⟨g, 0, none⟩), .int .i64 6] rfl (by (try simp only [List.map_toArray, List.map_cons, List.map_nil]); first | done | rfl | (simp only [List.length_drop, List.length_take]; rfl)) ?_; (with_reducible refine (spec_l20Rd_pick.calls k g s0_0 t127 6 t134 t135 w0 _ ?side1 ?side2 A16.out).mono ?_); (case side1 => repeat (first | (with_reducible first | exact HI0.out | apply IsS68.alloc | apply IsS68.drewN | apply IsS68.drew | apply IsS68.set_1) | exact HI0.out)); (case side2 => repeat (first | (with_reducible first | exact HB.out | apply below_alloc | apply pw_below_drewN | apply below_drew1 | refine below_set ?_ (IsS68.ge HI0.out)) | exact HB.out)); rintro e w27 ⟨rfl, hi, hb, hk⟩; refine ⟨_, rfl, ?_⟩; have n0_ := Aside0.mk (Kd.R_mono (Kd.R_keep (IsS68.apart (show IsS68 w0 _ g s0_0 t127 from by repeat (first | (with_reducible first | exact HI0.out | apply IsS68.alloc | apply IsS68.drewN | apply IsS68.drew | apply IsS68.set_1) | exact HI0.out)) (by (with_reducible repeat (first | apply Kd.R_alloc | apply Kd.R_drewN | apply Kd.R_drew)); exact HO130.out) (by decide)) hk (fun _ h => h.2)) (fun _ h => h.1)); have n1_ := Aside0.mk (Kd.R_mono (Kd.R_keep (IsS68.apart (show IsS68 w0 _ g s0_0 t127 from by repeat (first | (with_reducible first | exact HI0.out | apply IsS68.alloc | apply IsS68.drewN | apply IsS68.drew | apply IsS68.set_1) | exact HI0.out)) (by (with_reducible repeat (first | apply Kd.R_alloc | apply Kd.R_drewN | apply Kd.R_drew)); exact HO133.out) (by decide)) hk (fun _ h => h.2)) (fun _ h => h.1)); have n2_ := Aside0.mk (KeepBut.trans (by repeat (first | (with_reducible first | exact HK.out | apply KeepBut.set_ | apply keep_drewN | apply keep_drew | apply keep_alloc) | exact HK.out)) hk (.inl rfl)); have n3_ := Aside0.mk (hb); have n4_ := Aside0.mk (hi); clear HO130; clear HO133; clear HK; clear HB; clear HI0; have HO130 := n0_; have HO133 := n1_; have HK := n2_; have HB := n3_; have HI0 := n4_; clear n0_ n1_ n2_ n3_ n4_; (try clear hb); (try clear hb2); (try clear hk); (try clear hi); obtain ⟨Ao28, co28, eo28⟩ := Kd.R_slice HO133.out; subst eo28; have p136 : 0 ≤ (t134 : Int) := of_decide_eq_true (by first | (with_reducible assumption) | assumption); have q136 : t134 < (y131.length : Int) := of_decide_eq_true (by first | (with_reducible assumption) | assumption); obtain ⟨ad136, e136, hx136_0⟩ := Kd.at_int (Kd.R_reads' HO133.out).2.2 t134 p136 q136; cases e136; replace p136 := eq_true p136; replace q136 := eq_true q136; obtain ⟨Ao29, co29, eo29⟩ := Kd.R_slice HO130.out; subst eo29; have p137 : 0 ≤ ((rd y131 t134) : Int) := of_decide_eq_true (by first | (with_reducible assumption) | assumption); have q137 : (rd y131 t134) < (y128.length : Int) := of_decide_eq_true (by first | (with_reducible assumption) | assumption); obtain ⟨ad137, e137, hx137_0⟩ := Kd.at_int (Kd.R_reads' HO130.out).2.2 (rd y131 t134) p137 q137; cases e137; replace p137 := eq_true p137; replace q137 := eq_true q137))
            go_ret
            exact ⟨by first | rfl | (simp [errW_none, errW_some] <;> rfl) | (simp only [← hji14]; first | rfl | (simp [errW_none, errW_some] <;> rfl)) | (simp [*, errW_none, errW_some] <;> rfl), by repeat (first | (with_reducible first | exact HI0.out | apply IsS68.alloc | apply IsS68.drewN | apply IsS68.drew | apply IsS68.set_1) | exact HI0.out), by repeat (first | (with_reducible first | exact HB.out | apply below_alloc | apply pw_below_drewN | apply below_drew1 | refine below_set ?_ (IsS68.ge HI0.out)) | exact HB.out), by repeat (first | (with_reducible first | exact HK.out | apply KeepBut.set_ | apply keep_drewN | apply keep_drew | apply keep_alloc) | exact HK.out)⟩
          · rw [if_neg c20] at H
            exact absurd H (by simp)
        · rw [if_neg c19] at H
          exact absurd H (by simp)
      · rw [if_neg c18] at H
        exact absurd H (by simp)
    · rw [if_neg c17] at H
      exact absurd H (by simp)

/-! ### spec_l20Spot: function 33 -/
def spec_l20Spot.f (k : Nat) (s0_0 : List Int) (s0_1 : Int) : Option (ByteArray × Int × Int) := (spec_l20Text.f k s0_0 s0_1 14).bind fun bt138 => ((spec_l20Place.f k s0_0 bt138.2 bt138.1 14).bind fun bt140 => (some (bt138.1, bt140.1, bt140.2)))
theorem spec_l20Spot.mono : ∀ a0 a1 k, LeO (spec_l20Spot.f k a0 a1) (spec_l20Spot.f (k + 1) a0 a1) := by
  intro a0 a1 k
  unfold spec_l20Spot.f
  repeat' first
      | (with_reducible exact spec_l20Place.mono _ _ _ _ _)
      | (with_reducible exact spec_l20Text.mono _ _ _ _)
      | (with_reducible exact LeO.refl _)
      | (with_reducible exact LeO.none _)
      | (with_reducible refine LeO.ite ?_ ?_)
      | (with_reducible refine LeO.bind ?_ (fun _ => ?_))
      | exact spec_l20Place.mono _ _ _ _ _
      | exact spec_l20Text.mono _ _ _ _
      | exact LeO.none _
      | refine LeO.ite ?_ ?_
      | refine LeO.bind ?_ (fun _ => ?_)
set_option maxHeartbeats 8000000 in
set_option maxRecDepth 100000 in
theorem spec_l20Spot.calls (k : Nat) (g : Nat) (s0_0 : List Int) (s0_1 : Int) (r1 : ByteArray) (r2 : Int) (r3 : Int) (w0 w : World) (hI : IsS68 w0 w g s0_0 s0_1) (hB : Below w0.heap.size w0 w) (h : spec_l20Spot.f k s0_0 s0_1 = some (r1, r2, r3)) :
    Calls Try.prog 33 #[.pointer (some ⟨g, 0, none⟩)] w fun e w' => e = .returned (.tuple #[.string r1, .int .i64 r2]) ∧ IsS68 w0 w' g s0_0 r3 ∧ Below w0.heap.size w0 w' ∧ KeepBut w w' g none := by
  have HI0 := Aside0.mk hI
  have HK := Aside0.mk (KeepBut.refl w g none)
  have HL := Aside0.mk hB.size
  clear hI
  have HW0 := Aside0.mk hB.size
  have HB := Aside0.mk hB
  clear hB
  have H : ((spec_l20Text.f k s0_0 s0_1 14).bind fun bt138 => ((spec_l20Place.f k s0_0 bt138.2 bt138.1 14).bind fun bt140 => (some (bt138.1, bt140.1, bt140.2)))) = some (r1, r2, r3) := h
  clear h
  replace H := Option.bind_eq_some_iff.mp H
  obtain ⟨⟨t138, t139⟩, A20, H⟩ := H
  replace H : ((spec_l20Place.f k s0_0 t139 t138 14).bind fun bt140 => (some (t138, bt140.1, bt140.2))) = some (r1, r2, r3) := H
  have A2 := Aside0.mk A20
  clear A20
  replace H := Option.bind_eq_some_iff.mp H
  obtain ⟨⟨t140, t141⟩, A30, H⟩ := H
  replace H : (some (t138, t140, t141)) = some (r1, r2, r3) := H
  have A3 := Aside0.mk A30
  clear A30
  simp only [Option.some.injEq, Prod.mk.injEq] at H
  obtain ⟨rfl, rfl, rfl⟩ := H
  go_enter Try.func33, Try.ntmps33
  go_wp2_with (first | ((with_reducible refine gate_callee (f := 53) rfl ?_); refine goesL_ (some 6) rfl rfl Try.func53 (by kernel_rfl) rfl #[.pointer (some ⟨g, 0, none⟩), .int .i64 14] rfl (by (try simp only [List.map_toArray, List.map_cons, List.map_nil]); first | done | rfl | (simp only [List.length_drop, List.length_take]; rfl)) ?_; (with_reducible refine (spec_l20Text.calls k g s0_0 s0_1 14 t138 t139 w0 _ ?side1 ?side2 A2.out).mono ?_); (case side1 => repeat (first | (with_reducible first | exact HI0.out | apply IsS68.alloc | apply IsS68.drewN | apply IsS68.drew | apply IsS68.set_1) | exact HI0.out)); (case side2 => repeat (first | (with_reducible first | exact HB.out | apply below_alloc | apply pw_below_drewN | apply below_drew1 | refine below_set ?_ (IsS68.ge HI0.out)) | exact HB.out)); rintro e w4 ⟨rfl, hi, hb, hk⟩; refine ⟨_, rfl, ?_⟩; have n0_ := Aside0.mk (KeepBut.trans (by repeat (first | (with_reducible first | exact HK.out | apply KeepBut.set_ | apply keep_drewN | apply keep_drew | apply keep_alloc) | exact HK.out)) hk (.inl rfl)); have n1_ := Aside0.mk (hb); have n2_ := Aside0.mk (hi); clear HK; clear HB; clear HI0; have HK := n0_; have HB := n1_; have HI0 := n2_; clear n0_ n1_ n2_; (try clear hb); (try clear hb2); (try clear hk); (try clear hi)) | ((with_reducible refine gate_callee (f := 58) rfl ?_); refine goesL_ (some 10) rfl rfl Try.func58 (by kernel_rfl) rfl #[.pointer (some ⟨g, 0, none⟩), .string t138, .int .i64 14] rfl (by (try simp only [List.map_toArray, List.map_cons, List.map_nil]); first | done | rfl | (simp only [List.length_drop, List.length_take]; rfl)) ?_; (with_reducible refine (spec_l20Place.calls k g s0_0 t139 t138 14 t140 t141 w0 _ ?side1 ?side2 A3.out).mono ?_); (case side1 => repeat (first | (with_reducible first | exact HI0.out | apply IsS68.alloc | apply IsS68.drewN | apply IsS68.drew | apply IsS68.set_1) | exact HI0.out)); (case side2 => repeat (first | (with_reducible first | exact HB.out | apply below_alloc | apply pw_below_drewN | apply below_drew1 | refine below_set ?_ (IsS68.ge HI0.out)) | exact HB.out)); rintro e w5 ⟨rfl, hi, hb, hk⟩; refine ⟨_, rfl, ?_⟩; have n0_ := Aside0.mk (KeepBut.trans (by repeat (first | (with_reducible first | exact HK.out | apply KeepBut.set_ | apply keep_drewN | apply keep_drew | apply keep_alloc) | exact HK.out)) hk (.inl rfl)); have n1_ := Aside0.mk (hb); have n2_ := Aside0.mk (hi); clear HK; clear HB; clear HI0; have HK := n0_; have HB := n1_; have HI0 := n2_; clear n0_ n1_ n2_; (try clear hb); (try clear hb2); (try clear hk); (try clear hi)))
  go_ret2
  exact ⟨by first | rfl | (simp [errW_none, errW_some] <;> rfl) | (simp [*, errW_none, errW_some] <;> rfl), by repeat (first | (with_reducible first | exact HI0.out | apply IsS68.alloc | apply IsS68.drewN | apply IsS68.drew | apply IsS68.set_1) | exact HI0.out), by repeat (first | (with_reducible first | exact HB.out | apply below_alloc | apply pw_below_drewN | apply below_drew1 | refine below_set ?_ (IsS68.ge HI0.out)) | exact HB.out), by repeat (first | (with_reducible first | exact HK.out | apply KeepBut.set_ | apply keep_drewN | apply keep_drew | apply keep_alloc) | exact HK.out)⟩

end Go.Proofs.Ytpaijbpenjjmkaa.X
