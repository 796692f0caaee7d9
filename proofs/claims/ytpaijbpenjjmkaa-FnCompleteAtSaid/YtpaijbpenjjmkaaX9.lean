-- written by a program of this session (wip/xprint.py) out of the translation
import Derived.Test.YtpaijbpenjjmkaaX0
import Derived.Test.YtpaijbpenjjmkaaX5
import Derived.Test.YtpaijbpenjjmkaaX8
import Derived.Test.YtpaijbpenjjmkaaLibN
namespace Go.Proofs.Ytpaijbpenjjmkaa.X
open Go.RowKit Go.Proofs.YtpaijbpenjjmkaaW.PrintWords Go.Proofs.YtpaijbpenjjmkaaW.PrintLast Go.Proofs.YtpaijbpenjjmkaaW.PrintMore
attribute [local go_sem] max2_int min2_int max_two min_two max_three min_three max_four min_four   -- for this text's walks alone
set_option linter.unusedVariables false
set_option linter.unusedSimpArgs false

/-! ### spec_Completions: function 21 -/
mutual
def spec_Completions.l0 : Nat → List ByteArray → ByteArray → List ByteArray → Int → Option (List ByteArray)
  | 0, _, _, _, _ => none
  | k + 1, x5, x6, x7, x8 => if x8 < (x7.length : Int) then (spec_Completions.j1 k x5 x6 x7 x8 (x6.toList != ([] : List UInt8))) else (spec_Completions.j1 k x5 x6 x7 x8 false)
def spec_Completions.j1 : Nat → List ByteArray → ByteArray → List ByteArray → Int → Bool → Option (List ByteArray)
  | 0, _, _, _, _, _ => none
  | k + 1, x5, x6, x7, x8, x22 => if x22 = true then (if 0 ≤ x8 then (if x8 < (x7.length : Int) then (if ((rdOf ByteArray.empty x7 x8).size : Int) > (x6.size : Int) then (if 0 ≤ (x6.size : Int) then (if (x6.size : Int) ≤ ((rdOf ByteArray.empty x7 x8).size : Int) then (if ((rdOf ByteArray.empty x7 x8).extract 0 ((x6.size : Int) : Int).toNat).toList = x6.toList then (if x5.length < 8796093022208 then (spec_Completions.l0 k (x5 ++ [rdOf ByteArray.empty x7 x8]) x6 x7 (wrap64 (x8 + 1))) else (none)) else (spec_Completions.l0 k x5 x6 x7 (wrap64 (x8 + 1)))) else (none)) else (none)) else (spec_Completions.l0 k x5 x6 x7 (wrap64 (x8 + 1)))) else (none)) else (none)) else (some x5)
end
def spec_Completions.f (k : Nat) (a0 : ByteArray) (a1 : Int) : Option (List ByteArray) := (spec_NameBefore.f k a0 a1).bind fun t323 => ((spec_NamesOf.f k a0).bind fun t324 => (spec_Completions.l0 k (([] : List ByteArray)) t323 t324 0))
theorem spec_Completions.mono_l : ∀ k, (∀ y0 y1 y2 y3, LeO (spec_Completions.l0 k y0 y1 y2 y3) (spec_Completions.l0 (k + 1) y0 y1 y2 y3)) ∧ (∀ y0 y1 y2 y3 y4, LeO (spec_Completions.j1 k y0 y1 y2 y3 y4) (spec_Completions.j1 (k + 1) y0 y1 y2 y3 y4))
  | 0 => ⟨fun _ _ _ _ r h => by simp [spec_Completions.l0] at h, fun _ _ _ _ _ r h => by simp [spec_Completions.j1] at h⟩
  | k + 1 => by
    obtain ⟨ih0, ih1⟩ := spec_Completions.mono_l k
    refine ⟨?_, ?_⟩
    · intro y0 y1 y2 y3
      unfold spec_Completions.l0
      repeat' first
      | (with_reducible exact ih0 _ _ _ _)
      | (with_reducible exact ih1 _ _ _ _ _)
      | (with_reducible exact spec_NameBefore.mono _ _ _)
      | (with_reducible exact spec_NamesOf.mono _ _)
      | (with_reducible exact LeO.refl _)
      | (with_reducible exact LeO.none _)
      | (with_reducible refine LeO.ite ?_ ?_)
      | (with_reducible refine LeO.bind ?_ (fun _ => ?_))
      | exact ih0 _ _ _ _
      | exact ih1 _ _ _ _ _
      | exact spec_NameBefore.mono _ _ _
      | exact spec_NamesOf.mono _ _
      | exact LeO.none _
      | refine LeO.ite ?_ ?_
      | refine LeO.bind ?_ (fun _ => ?_)
    · intro y0 y1 y2 y3 y4
      unfold spec_Completions.j1
      repeat' first
      | (with_reducible exact ih0 _ _ _ _)
      | (with_reducible exact ih1 _ _ _ _ _)
      | (with_reducible exact spec_NameBefore.mono _ _ _)
      | (with_reducible exact spec_NamesOf.mono _ _)
      | (with_reducible exact LeO.refl _)
      | (with_reducible exact LeO.none _)
      | (with_reducible refine LeO.ite ?_ ?_)
      | (with_reducible refine LeO.bind ?_ (fun _ => ?_))
      | exact ih0 _ _ _ _
      | exact ih1 _ _ _ _ _
      | exact spec_NameBefore.mono _ _ _
      | exact spec_NamesOf.mono _ _
      | exact LeO.none _
      | refine LeO.ite ?_ ?_
      | refine LeO.bind ?_ (fun _ => ?_)
theorem spec_Completions.mono : ∀ a0 a1 k, LeO (spec_Completions.f k a0 a1) (spec_Completions.f (k + 1) a0 a1) := by
  intro a0 a1 k
  obtain ⟨ih0, ih1⟩ := spec_Completions.mono_l k
  unfold spec_Completions.f
  repeat' first
      | (with_reducible exact ih0 _ _ _ _)
      | (with_reducible exact ih1 _ _ _ _ _)
      | (with_reducible exact spec_NameBefore.mono _ _ _)
      | (with_reducible exact spec_NamesOf.mono _ _)
      | (with_reducible exact LeO.refl _)
      | (with_reducible exact LeO.none _)
      | (with_reducible refine LeO.ite ?_ ?_)
      | (with_reducible refine LeO.bind ?_ (fun _ => ?_))
      | exact ih0 _ _ _ _
      | exact ih1 _ _ _ _ _
      | exact spec_NameBefore.mono _ _ _
      | exact spec_NamesOf.mono _ _
      | exact LeO.none _
      | refine LeO.ite ?_ ?_
      | refine LeO.bind ?_ (fun _ => ?_)
set_option maxHeartbeats 8000000 in
set_option maxRecDepth 100000 in
theorem spec_Completions.calls (k : Nat) (a0 : ByteArray) (a1 : Int) (r : List ByteArray) (w : World) (h : spec_Completions.f k a0 a1 = some r) :
    Calls Try.prog 21 #[.string a0, .int .i64 a1] w fun e w' => ∃ v0_ : Value, e = .returned (v0_) ∧ Kd.R Kd.string 9 w' w.heap.size (fun _ => True) v0_ r ∧ Below w.heap.size w w' := by
  have HB := Aside0.mk (Below.refl w.heap.size w)
  have H : ((spec_NameBefore.f k a0 a1).bind fun t323 => ((spec_NamesOf.f k a0).bind fun t324 => (spec_Completions.l0 k (([] : List ByteArray)) t323 t324 0))) = some r := h
  clear h
  obtain ⟨y320, hy320⟩ : ∃ y_ : List ByteArray, y_ = (([] : List ByteArray)) := ⟨_, rfl⟩
  replace H : ((spec_NameBefore.f k a0 a1).bind fun t323 => ((spec_NamesOf.f k a0).bind fun t324 => (spec_Completions.l0 k y320 t323 t324 0))) = some r := by first | (rw [hy320]; with_reducible exact H) | (have H2_ := (Option.bind_some _ _).symm.trans H; rw [hy320]; with_reducible exact H2_) | (have H2_ := (Option.bind_some _ _).symm.trans H; with_reducible exact H2_) | with_reducible exact H | (rw [hy320]; exact H) | exact H
  have Ny320 := Aside0.mk hy320
  clear hy320
  replace H := Option.bind_eq_some_iff.mp H
  obtain ⟨t323, A30, H⟩ := H
  replace H : ((spec_NamesOf.f k a0).bind fun t324 => (spec_Completions.l0 k y320 t323 t324 0)) = some r := H
  have A3 := Aside0.mk A30
  clear A30
  replace H := Option.bind_eq_some_iff.mp H
  obtain ⟨t324, A40, H⟩ := H
  replace H : (spec_Completions.l0 k y320 t323 t324 0) = some r := H
  have A4 := Aside0.mk A40
  clear A40
  have H' := Aside0.mk H
  clear H
  go_enter Try.func21, Try.ntmps21
  go_wp2_with (first | ((with_reducible refine gate_dst (N := 9) rfl ?_); (try (refine gate_guard (by rfl) ?_; dsimp only)); refine Kd.R_lit Kd.string _ 9 ?hg (N := 9) ?hd (xs := ([] : List ByteArray)) (inner := []) (ok := fun _ => True) (okp := fun _ => True) ?hr ?hp (fun _ hk => hk) trivial (Below.refl _ _) (Nat.le_refl _) (by simp) ?_; (case hd => rfl); (case hg => rfl); (case hr => first | (go_simp; done) | (go_simp; rfl)); (case hp => exact (Reps.none _ _)); intro v321 w5 ho6 hb hg_ hnew_; clear hg_ hnew_; (first | rw [← Ny320.out] at ho6 | (simp only [Int.reduceToNat] at ho6; rw [← Ny320.out] at ho6)); have n0_ := Aside0.mk (Kd.R_lower ho6 (below_size (by repeat (first | (with_reducible first | exact HB.out | apply below_alloc | apply pw_below_drewN | apply below_drew1) | exact HB.out)))); have n1_ := Aside0.mk (below_step (by repeat (first | (with_reducible first | exact HB.out | apply below_alloc | apply pw_below_drewN | apply below_drew1) | exact HB.out)) hb); clear HB; have HO322 := n0_; have HB := n1_; clear n0_ n1_; clear hb ho6) | ((with_reducible refine gate_callee (f := 13) rfl ?_); refine goesL_ (some 12) rfl rfl Try.func13 (by kernel_rfl) rfl #[.string a0, .int .i64 a1] rfl (by (try simp only [List.map_toArray, List.map_cons, List.map_nil]); first | done | rfl | (simp only [List.length_drop, List.length_take]; rfl)) ?_; (with_reducible refine (spec_NameBefore.calls k a0 a1 t323 _ A3.out).mono ?_); rintro e w' ⟨rfl, ⟨nd, rfl⟩⟩; refine ⟨_, rfl, ?_⟩) | ((with_reducible refine gate_callee (f := 16) rfl ?_); refine goesL_ (some 14) rfl rfl Try.func16 (by kernel_rfl) rfl #[.string a0] rfl (by (try simp only [List.map_toArray, List.map_cons, List.map_nil]); first | done | rfl | (simp only [List.length_drop, List.length_take]; rfl)) ?_; (with_reducible refine (spec_NamesOf.calls k a0 t324 _ A4.out).mono ?_); rintro e w7 ⟨v325, rfl, ho0, hb⟩; refine ⟨_, rfl, ?_⟩; have n0_ := Aside0.mk (Kd.R_elder' (by (with_reducible repeat (first | apply Kd.R_alloc | apply Kd.R_drewN | apply Kd.R_drew)); exact HO322.out) (Kd.R_base ho0) hb); have n1_ := Aside0.mk (Kd.R_lower (Kd.R_new' ho0 (Kd.R_lt (by (with_reducible repeat (first | apply Kd.R_alloc | apply Kd.R_drewN | apply Kd.R_drew)); exact HO322.out))) (below_size (by repeat (first | (with_reducible first | exact HB.out | apply below_alloc | apply pw_below_drewN | apply below_drew1) | exact HB.out)))); have n2_ := Aside0.mk (below_step (by repeat (first | (with_reducible first | exact HB.out | apply below_alloc | apply pw_below_drewN | apply below_drew1) | exact HB.out)) hb); clear HO322; clear HB; have HO322 := n0_; have HO326 := n1_; have HB := n2_; clear n0_ n1_ n2_; (try clear hb); (try clear hb2); (try clear hk); (try clear hi); (try clear ho0)))
  go_loopg [5, 8] k (fun kq v5 v8 w' => ∃ (x5_1 : List ByteArray) (x8_1 : Int), v8 = .int .i64 x8_1 ∧ Aside0 (spec_Completions.l0 kq x5_1 t323 t324 x8_1 = some r) ∧ Aside0 (kq ≤ k) ∧ Aside0 (Kd.R Kd.string 9 w' w.heap.size (fun k_ => some k_ ≠ (v325 : Value).ownBlock) v5 x5_1) ∧ Aside0 (Kd.R Kd.string 9 w' w.heap.size (fun k_ => some k_ ≠ (v5 : Value).ownBlock) v325 t324) ∧ Aside0 (Below w.heap.size w w'))
  case atStart => exact ⟨(y320), (0), (by first | rfl | (simp; done) | (simp [*]; done)), H', ⟨Nat.le_refl _⟩, ⟨by (with_reducible repeat (first | apply Kd.R_alloc | apply Kd.R_drewN | apply Kd.R_drew)); exact Kd.R_mono HO322.out (fun _ hk => hk.2)⟩, ⟨by (with_reducible repeat (first | apply Kd.R_alloc | apply Kd.R_drewN | apply Kd.R_drew)); exact Kd.R_mono HO326.out (fun _ hk => hk.2)⟩, ⟨by repeat (first | (with_reducible first | exact HB.out | apply below_alloc | apply pw_below_drewN | apply below_drew1) | exact HB.out)⟩⟩
  case round =>
    clear H'
    try clear c1
    try clear c2
    try clear p2
    obtain ⟨x5_1, x8_1, rfl, HA, HK1, HO_5, HO_7, HB⟩ := hrel
    cases gk with
    | zero => exact absurd HA.out (by simp [spec_Completions.l0])
    | succ k1 =>
      have H := HA.out
      clear HA
      simp only [spec_Completions.l0] at H
      have HC8 := Aside0.mk H
      clear H
      go_upto_region 5 with (fail)
      go_cut [22] (fun v22 wc => ∃ (kq : Nat) (x22_7 : Bool), v22 = .bool x22_7 ∧ Aside0 (spec_Completions.j1 kq x5_1 t323 t324 x8_1 x22_7 = some r) ∧ Aside0 (kq ≤ k1) ∧ Aside0 (Kd.R Kd.string 9 wc w.heap.size (fun k_ => some k_ ≠ (v325 : Value).ownBlock) u5 x5_1) ∧ Aside0 (Kd.R Kd.string 9 wc w.heap.size (fun k_ => some k_ ≠ (u5 : Value).ownBlock) v325 t324) ∧ Aside0 (Below w.heap.size w wc))
      case first =>
        have H := HC8.out
        clear HC8
        by_cases c9 : x8_1 < (t324.length : Int)
        · rw [if_pos c9] at H
          have c9b0 : decide (x8_1 < (t324.length : Int)) = true := decide_eq_true c9
          clear c9
          (first | rw [c9b0] | (simp only [i64_w, i32_w]; rw [c9b0]) | skip)
          have H' := Aside0.mk H
          clear H
          obtain ⟨Ao10, co10, eo10⟩ := Kd.R_slice HO_7.out
          subst eo10
          go_wp2
          go_meet
          case rel => exact ⟨_, ((t323.toList != ([] : List UInt8))), (by first | rfl | (simp; done) | (generalize t323.toList = l_; cases l_ <;> rfl) | (simp [*]; done)), H', ⟨by have := HK1.out; first | omega | exact Nat.le_refl _⟩, ⟨by (with_reducible repeat (first | apply Kd.R_alloc | apply Kd.R_drewN | apply Kd.R_drew)); exact HO_5.out⟩, ⟨by (with_reducible repeat (first | apply Kd.R_alloc | apply Kd.R_drewN | apply Kd.R_drew)); exact HO_7.out⟩, ⟨by repeat (first | (with_reducible first | exact HB.out | apply below_alloc | apply pw_below_drewN | apply below_drew1) | exact HB.out)⟩⟩
        · rw [if_neg c9] at H
          have c9b0 : decide (x8_1 < (t324.length : Int)) = false := decide_eq_false c9
          clear c9
          (first | rw [c9b0] | (simp only [i64_w, i32_w]; rw [c9b0]) | skip)
          have H' := Aside0.mk H
          clear H
          obtain ⟨Ao11, co11, eo11⟩ := Kd.R_slice HO_7.out
          subst eo11
          go_wp2
          go_meet
          case rel => exact ⟨_, (false), (by first | rfl | (simp; done) | (simp [*]; done)), H', ⟨by have := HK1.out; first | omega | exact Nat.le_refl _⟩, ⟨by (with_reducible repeat (first | apply Kd.R_alloc | apply Kd.R_drewN | apply Kd.R_drew)); exact HO_5.out⟩, ⟨by (with_reducible repeat (first | apply Kd.R_alloc | apply Kd.R_drewN | apply Kd.R_drew)); exact HO_7.out⟩, ⟨by repeat (first | (with_reducible first | exact HB.out | apply below_alloc | apply pw_below_drewN | apply below_drew1) | exact HB.out)⟩⟩
      case rest =>
        clear HC8
        try clear c1
        try clear c2
        try clear p2
        try clear c9
        try clear c9b0
        try clear p2
        obtain ⟨kq, x22_7, rfl, HA, HJ7, HO_5, HO_7, HB⟩ := hcut
        cases kq with
        | zero => exact absurd HA.out (by simp [spec_Completions.j1])
        | succ kj7 =>
          have H := HA.out
          clear HA
          simp only [spec_Completions.j1] at H
          by_cases c12 : x22_7 = true
          · subst c12
            have H1 : (if 0 ≤ x8_1 then (if x8_1 < (t324.length : Int) then (if ((rdOf ByteArray.empty t324 x8_1).size : Int) > (t323.size : Int) then (if 0 ≤ (t323.size : Int) then (if (t323.size : Int) ≤ ((rdOf ByteArray.empty t324 x8_1).size : Int) then (if ((rdOf ByteArray.empty t324 x8_1).extract 0 ((t323.size : Int) : Int).toNat).toList = t323.toList then (if x5_1.length < 8796093022208 then (spec_Completions.l0 kj7 (x5_1 ++ [rdOf ByteArray.empty t324 x8_1]) t323 t324 (wrap64 (x8_1 + 1))) else (none)) else (spec_Completions.l0 kj7 x5_1 t323 t324 (wrap64 (x8_1 + 1)))) else (none)) else (none)) else (spec_Completions.l0 kj7 x5_1 t323 t324 (wrap64 (x8_1 + 1)))) else (none)) else (none)) = some r := by rw [if_pos rfl] at H; exact H
            clear H
            have H := H1
            clear H1
            by_cases c13 : 0 ≤ x8_1
            · rw [if_pos c13] at H
              have c13b0 : decide (0 ≤ x8_1) = true := decide_eq_true c13
              clear c13
              by_cases c14 : x8_1 < (t324.length : Int)
              · rw [if_pos c14] at H
                have c14b0 : decide (x8_1 < (t324.length : Int)) = true := decide_eq_true c14
                clear c14
                by_cases c15 : ((rdOf ByteArray.empty t324 x8_1).size : Int) > (t323.size : Int)
                · rw [if_pos c15] at H
                  have c15b0 : decide ((t323.size : Int) < ((rdOf ByteArray.empty t324 x8_1).size : Int)) = true := decide_eq_true c15
                  have c15b1 : decide (t323.size < (rdOf ByteArray.empty t324 x8_1).size) = true := decide_eq_true (Int.ofNat_lt.mp c15)
                  clear c15
                  by_cases c16 : 0 ≤ (t323.size : Int)
                  · rw [if_pos c16] at H
                    have c16b0 := eq_true c16
                    have c16b1 : decide (0 ≤ (t323.size : Int)) = true := decide_eq_true c16
                    clear c16
                    by_cases c17 : (t323.size : Int) ≤ ((rdOf ByteArray.empty t324 x8_1).size : Int)
                    · rw [if_pos c17] at H
                      have c17b0 := eq_true c17
                      have c17b1 : decide ((t323.size : Int) ≤ ((rdOf ByteArray.empty t324 x8_1).size : Int)) = true := decide_eq_true c17
                      clear c17
                      by_cases c18 : ((rdOf ByteArray.empty t324 x8_1).extract 0 ((t323.size : Int) : Int).toNat).toList = t323.toList
                      · rw [if_pos c18] at H
                        have c18b0 : (((rdOf ByteArray.empty t324 x8_1).extract 0 ((t323.size : Int) : Int).toNat).toList == t323.toList) = true := beq_iff_eq.mpr c18
                        (try simp only [Int.toNat_natCast] at c18b0)
                        have c18b1 : (((rdOf ByteArray.empty t324 x8_1).extract 0 ((t323.size : Int) : Int).toNat).toList != t323.toList) = false := bne_eq_false_iff_eq.mpr c18
                        (try simp only [Int.toNat_natCast] at c18b1)
                        clear c18
                        by_cases c19 : x5_1.length < 8796093022208
                        · rw [if_pos c19] at H
                          have LMc19 := Aside0.mk c19
                          clear c19
                          obtain ⟨y330, hy330⟩ : ∃ y_ : List ByteArray, y_ = (x5_1 ++ [rdOf ByteArray.empty t324 x8_1]) := ⟨_, rfl⟩
                          replace H : (spec_Completions.l0 kj7 y330 t323 t324 (wrap64 (x8_1 + 1))) = some r := by first | (rw [hy330]; with_reducible exact H) | (have H2_ := (Option.bind_some _ _).symm.trans H; rw [hy330]; with_reducible exact H2_) | (have H2_ := (Option.bind_some _ _).symm.trans H; with_reducible exact H2_) | with_reducible exact H | (rw [hy330]; exact H) | exact H
                          have Ny330 := Aside0.mk hy330
                          clear hy330
                          have H' := Aside0.mk H
                          clear H
                          obtain ⟨Ao20, co20, eo20⟩ := Kd.R_slice HO_7.out
                          subst eo20
                          have p327 : 0 ≤ (x8_1 : Int) := of_decide_eq_true (by first | (with_reducible assumption) | assumption)
                          have q327 : x8_1 < (t324.length : Int) := of_decide_eq_true (by first | (with_reducible assumption) | assumption)
                          obtain ⟨ad327, e327, hx327_0⟩ := Kd.at_string (Kd.R_reads' HO_7.out).2.2 x8_1 p327 q327
                          cases e327
                          replace p327 := eq_true p327
                          replace q327 := eq_true q327
                          have p328 : 0 ≤ (x8_1 : Int) := of_decide_eq_true (by first | (with_reducible assumption) | assumption)
                          have q328 : x8_1 < (t324.length : Int) := of_decide_eq_true (by first | (with_reducible assumption) | assumption)
                          obtain ⟨ad328, e328, hx328_0⟩ := Kd.at_string (Kd.R_reads' HO_7.out).2.2 x8_1 p328 q328
                          obtain rfl : ad327 = ad328 := (by injection e328)
                          replace p328 := eq_true p328
                          replace q328 := eq_true q328
                          have p329 : 0 ≤ (x8_1 : Int) := of_decide_eq_true (by first | (with_reducible assumption) | assumption)
                          have q329 : x8_1 < (t324.length : Int) := of_decide_eq_true (by first | (with_reducible assumption) | assumption)
                          obtain ⟨ad329, e329, hx329_0⟩ := Kd.at_string (Kd.R_reads' HO_7.out).2.2 x8_1 p329 q329
                          obtain rfl : ad327 = ad329 := (by injection e329)
                          replace p329 := eq_true p329
                          replace q329 := eq_true q329
                          go_wp2_with (first | ((with_reducible refine gate_builtin (b := .append) (xs := #[.tmp 44, .tmp 49]) rfl ?_); (try (refine gate_guard (by rfl) ?_; dsimp only)); at_builtin; refine Kd.R_append Kd.string (w0 := w) w.heap.size rfl (.tmp 44) (.tmp 49) 29 9 (.string ⟨#[]⟩) 16 rfl Try.underlying29 info9 rfl (by decide) (by omega) u5 x5_1 (rdOf ByteArray.empty t324 x8_1) [.string (rdOf ByteArray.empty t324 x8_1)] (fun k_ => some k_ ≠ (.slice (some ad327) t324.length co20 : Value).ownBlock) (fun _ => False) rfl rfl ?aP (fun _ hk => hk.elim) ?aF ?aO ?aB ?aS ?aL ?_; (case aP => exact rfl); (case aB => exact (by repeat (first | (with_reducible first | exact HB.out | apply below_alloc | apply pw_below_drewN | apply below_drew1) | exact HB.out))); (case aF => exact (fun k_ hk => Kd.fresh' (Kd.R_lt (by (with_reducible repeat (first | apply Kd.R_alloc | apply Kd.R_drewN | apply Kd.R_drew)); exact HO_7.out)) k_ hk)); (case aO => exact (by (with_reducible repeat (first | apply Kd.R_alloc | apply Kd.R_drewN | apply Kd.R_drew)); exact HO_5.out)); (case aS => exact (below_size (by repeat (first | (with_reducible first | exact HB.out | apply below_alloc | apply pw_below_drewN | apply below_drew1) | exact HB.out)))); (case aL => have := LMc19.out; omega); intro v331 w21 ho hb hg hat; rw [← Ny330.out] at ho; have n0_ := Aside0.mk (Kd.R_after (ok := (fun _ => True)) (by (with_reducible repeat (first | apply Kd.R_alloc | apply Kd.R_drewN | apply Kd.R_drew)); exact Kd.R_mono HO_7.out (fun _ hk => ⟨trivial, hk⟩)) hg hat); have n1_ := Aside0.mk (hb); have n2_ := Aside0.mk (ho); clear HO_7; clear HB; clear HO_5; have HO_7 := n0_; have HB := n1_; have HO332 := n2_; clear n0_ n1_ n2_; clear ho hb hg hat))
                          go_roundg kj7
                          case measure => have := HK1.out; have := HJ7.out; omega
                          case rel => exact ⟨(y330), (wrap64 (x8_1 + 1)), (by first | rfl | (simp; done) | (simp [*]; done)), H', ⟨by have := HK1.out; have := HJ7.out; omega⟩, ⟨by (with_reducible repeat (first | apply Kd.R_alloc | apply Kd.R_drewN | apply Kd.R_drew)); exact HO332.out⟩, ⟨by (with_reducible repeat (first | apply Kd.R_alloc | apply Kd.R_drewN | apply Kd.R_drew)); exact Kd.R_mono HO_7.out (fun _ hk => hk.2)⟩, ⟨by repeat (first | (with_reducible first | exact HB.out | apply below_alloc | apply pw_below_drewN | apply below_drew1) | exact HB.out)⟩⟩
                        · rw [if_neg c19] at H
                          exact absurd H (by simp)
                      · rw [if_neg c18] at H
                        have c18b0 : (((rdOf ByteArray.empty t324 x8_1).extract 0 ((t323.size : Int) : Int).toNat).toList == t323.toList) = false := beq_eq_false_iff_ne.mpr c18
                        (try simp only [Int.toNat_natCast] at c18b0)
                        have c18b1 : (((rdOf ByteArray.empty t324 x8_1).extract 0 ((t323.size : Int) : Int).toNat).toList != t323.toList) = true := bne_iff_ne.mpr c18
                        (try simp only [Int.toNat_natCast] at c18b1)
                        have H' := Aside0.mk H
                        clear H
                        obtain ⟨Ao22, co22, eo22⟩ := Kd.R_slice HO_7.out
                        subst eo22
                        have p327 : 0 ≤ (x8_1 : Int) := of_decide_eq_true (by first | (with_reducible assumption) | assumption)
                        have q327 : x8_1 < (t324.length : Int) := of_decide_eq_true (by first | (with_reducible assumption) | assumption)
                        obtain ⟨ad327, e327, hx327_0⟩ := Kd.at_string (Kd.R_reads' HO_7.out).2.2 x8_1 p327 q327
                        cases e327
                        replace p327 := eq_true p327
                        replace q327 := eq_true q327
                        have p328 : 0 ≤ (x8_1 : Int) := of_decide_eq_true (by first | (with_reducible assumption) | assumption)
                        have q328 : x8_1 < (t324.length : Int) := of_decide_eq_true (by first | (with_reducible assumption) | assumption)
                        obtain ⟨ad328, e328, hx328_0⟩ := Kd.at_string (Kd.R_reads' HO_7.out).2.2 x8_1 p328 q328
                        obtain rfl : ad327 = ad328 := (by injection e328)
                        replace p328 := eq_true p328
                        replace q328 := eq_true q328
                        go_wp2
                        go_roundg kj7
                        case measure => have := HK1.out; have := HJ7.out; omega
                        case rel => exact ⟨(x5_1), (wrap64 (x8_1 + 1)), (by first | rfl | (simp; done) | (simp [*]; done)), H', ⟨by have := HK1.out; have := HJ7.out; omega⟩, ⟨by (with_reducible repeat (first | apply Kd.R_alloc | apply Kd.R_drewN | apply Kd.R_drew)); exact HO_5.out⟩, ⟨by (with_reducible repeat (first | apply Kd.R_alloc | apply Kd.R_drewN | apply Kd.R_drew)); exact HO_7.out⟩, ⟨by repeat (first | (with_reducible first | exact HB.out | apply below_alloc | apply pw_below_drewN | apply below_drew1) | exact HB.out)⟩⟩
                    · rw [if_neg c17] at H
                      exact absurd H (by simp)
                  · rw [if_neg c16] at H
                    exact absurd H (by simp)
                · rw [if_neg c15] at H
                  have c15b0 : decide ((t323.size : Int) < ((rdOf ByteArray.empty t324 x8_1).size : Int)) = false := decide_eq_false c15
                  have c15b1 : decide (t323.size < (rdOf ByteArray.empty t324 x8_1).size) = false := decide_eq_false (fun h => c15 (Int.ofNat_lt.mpr h))
                  clear c15
                  have H' := Aside0.mk H
                  clear H
                  obtain ⟨Ao23, co23, eo23⟩ := Kd.R_slice HO_7.out
                  subst eo23
                  have p327 : 0 ≤ (x8_1 : Int) := of_decide_eq_true (by first | (with_reducible assumption) | assumption)
                  have q327 : x8_1 < (t324.length : Int) := of_decide_eq_true (by first | (with_reducible assumption) | assumption)
                  obtain ⟨ad327, e327, hx327_0⟩ := Kd.at_string (Kd.R_reads' HO_7.out).2.2 x8_1 p327 q327
                  cases e327
                  replace p327 := eq_true p327
                  replace q327 := eq_true q327
                  go_wp2
                  go_roundg kj7
                  case measure => have := HK1.out; have := HJ7.out; omega
                  case rel => exact ⟨(x5_1), (wrap64 (x8_1 + 1)), (by first | rfl | (simp; done) | (simp [*]; done)), H', ⟨by have := HK1.out; have := HJ7.out; omega⟩, ⟨by (with_reducible repeat (first | apply Kd.R_alloc | apply Kd.R_drewN | apply Kd.R_drew)); exact HO_5.out⟩, ⟨by (with_reducible repeat (first | apply Kd.R_alloc | apply Kd.R_drewN | apply Kd.R_drew)); exact HO_7.out⟩, ⟨by repeat (first | (with_reducible first | exact HB.out | apply below_alloc | apply pw_below_drewN | apply below_drew1) | exact HB.out)⟩⟩
              · rw [if_neg c14] at H
                exact absurd H (by simp)
            · rw [if_neg c13] at H
              exact absurd H (by simp)
          · replace c12 := Bool.eq_false_iff.mpr c12
            subst c12
            have H1 : (some x5_1) = some r := by rw [if_neg (show ¬ (false = true) by decide)] at H; exact H
            clear H
            have H := H1
            clear H1
            obtain rfl := Option.some.inj H
            go_wp2
            go_ret
            exact ⟨_, by first | rfl | (simp [errW_none, errW_some] <;> rfl) | (simp [*, errW_none, errW_some] <;> rfl), by (with_reducible repeat (first | apply Kd.R_alloc | apply Kd.R_drewN | apply Kd.R_drew)); exact Kd.R_mono HO_5.out (fun _ hk => trivial), by repeat (first | (with_reducible first | exact HB.out | apply below_alloc | apply pw_below_drewN | apply below_drew1) | exact HB.out)⟩

/-! ### impl_Completions: function 22 -/
def impl_Completions.l0 : Nat → ByteArray → List ByteArray → List ByteArray → Int → Int → Option (List ByteArray)
  | 0, _, _, _, _, _ => none
  | k + 1, x5, x6, x15, x16, x17 => if x17 < x16 then (if 0 ≤ x17 then (if x17 < (x15.length : Int) then (if ((rdOf ByteArray.empty x15 x17).size : Int) > (x5.size : Int) then ((strings_HasPrefix.f (rdOf ByteArray.empty x15 x17) x5).bind fun t338 => (if t338 = true then (if x6.length < 8796093022208 then (impl_Completions.l0 k x5 (x6 ++ [rdOf ByteArray.empty x15 x17]) x15 x16 (wrap64 (x17 + 1))) else (none)) else (impl_Completions.l0 k x5 x6 x15 x16 (wrap64 (x17 + 1))))) else (impl_Completions.l0 k x5 x6 x15 x16 (wrap64 (x17 + 1)))) else (none)) else (none)) else (some x6)
def impl_Completions.f (k : Nat) (a0 : ByteArray) (a1 : Int) : Option (List ByteArray) := (impl_NameBefore.f k a0 a1).bind fun t333 => (if t333.toList = ([] : List UInt8) then (some ([] : List ByteArray)) else ((impl_NamesOf.f a0).bind fun t334 => (impl_Completions.l0 k t333 ([] : List ByteArray) t334 (t334.length : Int) 0)))
theorem impl_Completions.mono_l : ∀ k, (∀ y0 y1 y2 y3 y4, LeO (impl_Completions.l0 k y0 y1 y2 y3 y4) (impl_Completions.l0 (k + 1) y0 y1 y2 y3 y4))
  | 0 => fun _ _ _ _ _ r h => by simp [impl_Completions.l0] at h
  | k + 1 => by
    have ih0 := impl_Completions.mono_l k
    · intro y0 y1 y2 y3 y4
      unfold impl_Completions.l0
      repeat' first
      | (with_reducible exact ih0 _ _ _ _ _)
      | (with_reducible exact impl_NameBefore.mono _ _ _)
      | (with_reducible exact LeO.refl _)
      | (with_reducible exact LeO.none _)
      | (with_reducible refine LeO.ite ?_ ?_)
      | (with_reducible refine LeO.bind ?_ (fun _ => ?_))
      | exact ih0 _ _ _ _ _
      | exact impl_NameBefore.mono _ _ _
      | exact LeO.none _
      | refine LeO.ite ?_ ?_
      | refine LeO.bind ?_ (fun _ => ?_)
theorem impl_Completions.mono : ∀ a0 a1 k, LeO (impl_Completions.f k a0 a1) (impl_Completions.f (k + 1) a0 a1) := by
  intro a0 a1 k
  have ih0 := impl_Completions.mono_l k
  unfold impl_Completions.f
  repeat' first
      | (with_reducible exact ih0 _ _ _ _ _)
      | (with_reducible exact impl_NameBefore.mono _ _ _)
      | (with_reducible exact LeO.refl _)
      | (with_reducible exact LeO.none _)
      | (with_reducible refine LeO.ite ?_ ?_)
      | (with_reducible refine LeO.bind ?_ (fun _ => ?_))
      | exact ih0 _ _ _ _ _
      | exact impl_NameBefore.mono _ _ _
      | exact LeO.none _
      | refine LeO.ite ?_ ?_
      | refine LeO.bind ?_ (fun _ => ?_)
set_option maxHeartbeats 8000000 in
set_option maxRecDepth 100000 in
theorem impl_Completions.calls (k : Nat) (a0 : ByteArray) (a1 : Int) (r : List ByteArray) (w : World) (h : impl_Completions.f k a0 a1 = some r) :
    Calls Try.prog 22 #[.string a0, .int .i64 a1] w fun e w' => ∃ v0_ : Value, e = .returned (v0_) ∧ Kd.R Kd.string 9 w' w.heap.size (fun _ => True) v0_ r ∧ Below w.heap.size w w' := by
  have HB := Aside0.mk (Below.refl w.heap.size w)
  have H : ((impl_NameBefore.f k a0 a1).bind fun t333 => (if t333.toList = ([] : List UInt8) then (some ([] : List ByteArray)) else ((impl_NamesOf.f a0).bind fun t334 => (impl_Completions.l0 k t333 ([] : List ByteArray) t334 (t334.length : Int) 0)))) = some r := h
  clear h
  replace H := Option.bind_eq_some_iff.mp H
  obtain ⟨t333, A30, H⟩ := H
  replace H : (if t333.toList = ([] : List UInt8) then (some ([] : List ByteArray)) else ((impl_NamesOf.f a0).bind fun t334 => (impl_Completions.l0 k t333 ([] : List ByteArray) t334 (t334.length : Int) 0))) = some r := H
  have A3 := Aside0.mk A30
  clear A30
  by_cases c4 : t333.toList = ([] : List UInt8)
  · rw [if_pos c4] at H
    have c4b0 : (t333.toList == ([] : List UInt8)) = true := beq_iff_eq.mpr c4
    have c4b1 : (t333.toList != ([] : List UInt8)) = false := bne_eq_false_iff_eq.mpr c4
    clear c4
    obtain rfl := Option.some.inj H
    go_enter Try.func22, Try.ntmps22
    go_wp2_with (first | ((with_reducible refine gate_callee (f := 12) rfl ?_); refine goesL_ (some 11) rfl rfl Try.func12 (by kernel_rfl) rfl #[.string a0, .int .i64 a1] rfl (by (try simp only [List.map_toArray, List.map_cons, List.map_nil]); first | done | rfl | (simp only [List.length_drop, List.length_take]; rfl)) ?_; (with_reducible refine (impl_NameBefore.calls k a0 a1 t333 _ A3.out).mono ?_); rintro e w' ⟨rfl, ⟨nd, rfl⟩⟩; refine ⟨_, rfl, ?_⟩))
    go_ret
    exact ⟨_, by first | rfl | (simp [errW_none, errW_some] <;> rfl) | (simp [*, errW_none, errW_some] <;> rfl), by first | exact Kd.R_nil _ _ _ _ _ | exact Kd.N_nil _ _ _ _ _ | exact Kd.V_nil _ _ _ _ _ | exact Kd.Q_nil _ _ _ _ _ | exact Kd.S_nil _ _ _ _ _, by repeat (first | (with_reducible first | exact HB.out | apply below_alloc | apply pw_below_drewN | apply below_drew1) | exact HB.out)⟩
  · rw [if_neg c4] at H
    have c4b0 : (t333.toList == ([] : List UInt8)) = false := beq_eq_false_iff_ne.mpr c4
    have c4b1 : (t333.toList != ([] : List UInt8)) = true := bne_iff_ne.mpr c4
    replace H := Option.bind_eq_some_iff.mp H
    obtain ⟨t334, A50, H⟩ := H
    replace H : (impl_Completions.l0 k t333 ([] : List ByteArray) t334 (t334.length : Int) 0) = some r := H
    have A5 := Aside0.mk A50
    clear A50
    have H' := Aside0.mk H
    clear H
    go_enter Try.func22, Try.ntmps22
    go_wp2_with (first | ((with_reducible refine gate_callee (f := 12) rfl ?_); refine goesL_ (some 11) rfl rfl Try.func12 (by kernel_rfl) rfl #[.string a0, .int .i64 a1] rfl (by (try simp only [List.map_toArray, List.map_cons, List.map_nil]); first | done | rfl | (simp only [List.length_drop, List.length_take]; rfl)) ?_; (with_reducible refine (impl_NameBefore.calls k a0 a1 t333 _ A3.out).mono ?_); rintro e w' ⟨rfl, ⟨nd, rfl⟩⟩; refine ⟨_, rfl, ?_⟩) | ((with_reducible refine gate_callee (f := 17) rfl ?_); refine goesL_ (some 15) rfl rfl Try.func17 (by kernel_rfl) rfl #[.string a0] rfl (by (try simp only [List.map_toArray, List.map_cons, List.map_nil]); first | done | rfl | (simp only [List.length_drop, List.length_take]; rfl)) ?_; (with_reducible refine (impl_NamesOf.calls a0 t334 _ A5.out).mono ?_); rintro e w6 ⟨v335, rfl, ho0, hb⟩; refine ⟨_, rfl, ?_⟩; have n0_ := Aside0.mk (Kd.R_lower ho0 (below_size (by repeat (first | (with_reducible first | exact HB.out | apply below_alloc | apply pw_below_drewN | apply below_drew1) | exact HB.out)))); have n1_ := Aside0.mk (below_step (by repeat (first | (with_reducible first | exact HB.out | apply below_alloc | apply pw_below_drewN | apply below_drew1) | exact HB.out)) hb); clear HB; have HO336 := n0_; have HB := n1_; clear n0_ n1_; (try clear hb); (try clear hb2); (try clear hk); (try clear hi); (try clear ho0); obtain ⟨Ao7, co7, eo7⟩ := Kd.R_slice HO336.out; subst eo7))
    go_loopg [6, 17] k (fun kq v6 v17 w' => ∃ (x6_1 : List ByteArray) (x17_1 : Int), v17 = .int .i64 x17_1 ∧ Aside0 (impl_Completions.l0 kq t333 x6_1 t334 (t334.length : Int) x17_1 = some r) ∧ Aside0 (kq ≤ k) ∧ Aside0 (Kd.R Kd.string 9 w' w.heap.size (fun k_ => some k_ ≠ ((.slice Ao7 t334.length co7) : Value).ownBlock) v6 x6_1) ∧ Aside0 (Kd.R Kd.string 9 w' w.heap.size (fun k_ => some k_ ≠ (v6 : Value).ownBlock) (.slice Ao7 t334.length co7) t334) ∧ Aside0 (Below w.heap.size w w'))
    case atStart => exact ⟨(([] : List ByteArray)), (0), (by first | rfl | (simp; done) | (simp [*]; done)), H', ⟨Nat.le_refl _⟩, ⟨by first | exact Kd.R_nil _ _ _ _ _ | exact Kd.N_nil _ _ _ _ _ | exact Kd.V_nil _ _ _ _ _ | exact Kd.Q_nil _ _ _ _ _ | exact Kd.S_nil _ _ _ _ _⟩, ⟨by (with_reducible repeat (first | apply Kd.R_alloc | apply Kd.R_drewN | apply Kd.R_drew)); exact Kd.R_mono HO336.out (fun _ hk => (by simp [Value.ownBlock]))⟩, ⟨by repeat (first | (with_reducible first | exact HB.out | apply below_alloc | apply pw_below_drewN | apply below_drew1) | exact HB.out)⟩⟩
    case round =>
      clear H'
      try clear c1
      try clear c2
      try clear p2
      try clear c4
      try clear c4b0
      try clear c4b1
      obtain ⟨x6_1, x17_1, rfl, HA, HK1, HO_6, HO_15, HB⟩ := hrel
      cases gk with
      | zero => exact absurd HA.out (by simp [impl_Completions.l0])
      | succ k1 =>
        have H := HA.out
        clear HA
        simp only [impl_Completions.l0] at H
        by_cases c8 : x17_1 < (t334.length : Int)
        · rw [if_pos c8] at H
          have c8b0 : decide (x17_1 < (t334.length : Int)) = true := decide_eq_true c8
          clear c8
          by_cases c9 : 0 ≤ x17_1
          · rw [if_pos c9] at H
            have c9b0 : decide (0 ≤ x17_1) = true := decide_eq_true c9
            clear c9
            by_cases c10 : x17_1 < (t334.length : Int)
            · rw [if_pos c10] at H
              have c10b0 : decide (x17_1 < (t334.length : Int)) = true := decide_eq_true c10
              clear c10
              by_cases c11 : ((rdOf ByteArray.empty t334 x17_1).size : Int) > (t333.size : Int)
              · rw [if_pos c11] at H
                have c11b0 : decide ((t333.size : Int) < ((rdOf ByteArray.empty t334 x17_1).size : Int)) = true := decide_eq_true c11
                have c11b1 : decide (t333.size < (rdOf ByteArray.empty t334 x17_1).size) = true := decide_eq_true (Int.ofNat_lt.mp c11)
                clear c11
                replace H := Option.bind_eq_some_iff.mp H
                obtain ⟨t338, A120, H⟩ := H
                replace H : (if t338 = true then (if x6_1.length < 8796093022208 then (impl_Completions.l0 k1 t333 (x6_1 ++ [rdOf ByteArray.empty t334 x17_1]) t334 (t334.length : Int) (wrap64 (x17_1 + 1))) else (none)) else (impl_Completions.l0 k1 t333 x6_1 t334 (t334.length : Int) (wrap64 (x17_1 + 1)))) = some r := H
                have A12 := Aside0.mk A120
                clear A120
                by_cases c13 : t338 = true
                · subst c13
                  have H1 : (if x6_1.length < 8796093022208 then (impl_Completions.l0 k1 t333 (x6_1 ++ [rdOf ByteArray.empty t334 x17_1]) t334 (t334.length : Int) (wrap64 (x17_1 + 1))) else (none)) = some r := by rw [if_pos rfl] at H; exact H
                  clear H
                  have H := H1
                  clear H1
                  by_cases c14 : x6_1.length < 8796093022208
                  · rw [if_pos c14] at H
                    have LMc14 := Aside0.mk c14
                    clear c14
                    obtain ⟨y339, hy339⟩ : ∃ y_ : List ByteArray, y_ = (x6_1 ++ [rdOf ByteArray.empty t334 x17_1]) := ⟨_, rfl⟩
                    replace H : (impl_Completions.l0 k1 t333 y339 t334 (t334.length : Int) (wrap64 (x17_1 + 1))) = some r := by first | (rw [hy339]; with_reducible exact H) | (have H2_ := (Option.bind_some _ _).symm.trans H; rw [hy339]; with_reducible exact H2_) | (have H2_ := (Option.bind_some _ _).symm.trans H; with_reducible exact H2_) | with_reducible exact H | (rw [hy339]; exact H) | exact H
                    have Ny339 := Aside0.mk hy339
                    clear hy339
                    have H' := Aside0.mk H
                    clear H
                    have p337 : 0 ≤ (x17_1 : Int) := of_decide_eq_true (by first | (with_reducible assumption) | assumption)
                    have q337 : x17_1 < (t334.length : Int) := of_decide_eq_true (by first | (with_reducible assumption) | assumption)
                    obtain ⟨ad337, e337, hx337_0⟩ := Kd.at_string (Kd.R_reads' HO_15.out).2.2 x17_1 p337 q337
                    cases e337
                    replace p337 := eq_true p337
                    replace q337 := eq_true q337
                    go_wp2_with (first | (go_at_call 49; (with_reducible refine (strings_HasPrefix.calls (rdOf ByteArray.empty t334 x17_1) t333 true _ A12.out).mono ?_); rintro e w' ⟨rfl, ⟨nd, rfl⟩⟩) | ((with_reducible refine gate_builtin (b := .append) (xs := #[.tmp 31, .tmp 33]) rfl ?_); at_builtin; refine Kd.R_append Kd.string (w0 := w) w.heap.size rfl (.tmp 31) (.tmp 33) 29 9 (.string ⟨#[]⟩) 16 rfl Try.underlying29 info9 rfl (by decide) (by omega) u6 x6_1 (rdOf ByteArray.empty t334 x17_1) [.string (rdOf ByteArray.empty t334 x17_1)] (fun k_ => some k_ ≠ (.slice (some ad337) t334.length co7 : Value).ownBlock) (fun _ => False) rfl rfl ?aP (fun _ hk => hk.elim) ?aF ?aO ?aB ?aS ?aL ?_; (case aP => exact rfl); (case aB => exact (by repeat (first | (with_reducible first | exact HB.out | apply below_alloc | apply pw_below_drewN | apply below_drew1) | exact HB.out))); (case aF => exact (fun k_ hk => Kd.fresh' (Kd.R_lt (by (with_reducible repeat (first | apply Kd.R_alloc | apply Kd.R_drewN | apply Kd.R_drew)); exact HO_15.out)) k_ hk)); (case aO => exact (by (with_reducible repeat (first | apply Kd.R_alloc | apply Kd.R_drewN | apply Kd.R_drew)); exact HO_6.out)); (case aS => exact (below_size (by repeat (first | (with_reducible first | exact HB.out | apply below_alloc | apply pw_below_drewN | apply below_drew1) | exact HB.out)))); (case aL => have := LMc14.out; omega); intro v340 w15 ho hb hg hat; rw [← Ny339.out] at ho; have n0_ := Aside0.mk (Kd.R_after (ok := (fun _ => True)) (by (with_reducible repeat (first | apply Kd.R_alloc | apply Kd.R_drewN | apply Kd.R_drew)); exact Kd.R_mono HO_15.out (fun _ hk => ⟨trivial, hk⟩)) hg hat); have n1_ := Aside0.mk (hb); have n2_ := Aside0.mk (ho); clear HO_15; clear HB; clear HO_6; have HO_15 := n0_; have HB := n1_; have HO341 := n2_; clear n0_ n1_ n2_; clear ho hb hg hat))
                    go_roundg k1
                    case measure => have := HK1.out; omega
                    case rel => exact ⟨(y339), (wrap64 (x17_1 + 1)), (by first | rfl | (simp; done) | (simp [*]; done)), H', ⟨by have := HK1.out; omega⟩, ⟨by (with_reducible repeat (first | apply Kd.R_alloc | apply Kd.R_drewN | apply Kd.R_drew)); exact HO341.out⟩, ⟨by (with_reducible repeat (first | apply Kd.R_alloc | apply Kd.R_drewN | apply Kd.R_drew)); exact Kd.R_mono HO_15.out (fun _ hk => hk.2)⟩, ⟨by repeat (first | (with_reducible first | exact HB.out | apply below_alloc | apply pw_below_drewN | apply below_drew1) | exact HB.out)⟩⟩
                  · rw [if_neg c14] at H
                    exact absurd H (by simp)
                · replace c13 := Bool.eq_false_iff.mpr c13
                  subst c13
                  have H1 : (impl_Completions.l0 k1 t333 x6_1 t334 (t334.length : Int) (wrap64 (x17_1 + 1))) = some r := by rw [if_neg (show ¬ (false = true) by decide)] at H; exact H
                  clear H
                  have H := H1
                  clear H1
                  have H' := Aside0.mk H
                  clear H
                  have p337 : 0 ≤ (x17_1 : Int) := of_decide_eq_true (by first | (with_reducible assumption) | assumption)
                  have q337 : x17_1 < (t334.length : Int) := of_decide_eq_true (by first | (with_reducible assumption) | assumption)
                  obtain ⟨ad337, e337, hx337_0⟩ := Kd.at_string (Kd.R_reads' HO_15.out).2.2 x17_1 p337 q337
                  cases e337
                  replace p337 := eq_true p337
                  replace q337 := eq_true q337
                  go_wp2_with (first | (go_at_call 49; (with_reducible refine (strings_HasPrefix.calls (rdOf ByteArray.empty t334 x17_1) t333 false _ A12.out).mono ?_); rintro e w' ⟨rfl, ⟨nd, rfl⟩⟩))
                  go_roundg k1
                  case measure => have := HK1.out; omega
                  case rel => exact ⟨(x6_1), (wrap64 (x17_1 + 1)), (by first | rfl | (simp; done) | (simp [*]; done)), H', ⟨by have := HK1.out; omega⟩, ⟨by (with_reducible repeat (first | apply Kd.R_alloc | apply Kd.R_drewN | apply Kd.R_drew)); exact HO_6.out⟩, ⟨by (with_reducible repeat (first | apply Kd.R_alloc | apply Kd.R_drewN | apply Kd.R_drew)); exact HO_15.out⟩, ⟨by repeat (first | (with_reducible first | exact HB.out | apply below_alloc | apply pw_below_drewN | apply below_drew1) | exact HB.out)⟩⟩
              · rw [if_neg c11] at H
                have c11b0 : decide ((t333.size : Int) < ((rdOf ByteArray.empty t334 x17_1).size : Int)) = false := decide_eq_false c11
                have c11b1 : decide (t333.size < (rdOf ByteArray.empty t334 x17_1).size) = false := decide_eq_false (fun h => c11 (Int.ofNat_lt.mpr h))
                clear c11
                have H' := Aside0.mk H
                clear H
                have p337 : 0 ≤ (x17_1 : Int) := of_decide_eq_true (by first | (with_reducible assumption) | assumption)
                have q337 : x17_1 < (t334.length : Int) := of_decide_eq_true (by first | (with_reducible assumption) | assumption)
                obtain ⟨ad337, e337, hx337_0⟩ := Kd.at_string (Kd.R_reads' HO_15.out).2.2 x17_1 p337 q337
                cases e337
                replace p337 := eq_true p337
                replace q337 := eq_true q337
                go_wp2
                go_roundg k1
                case measure => have := HK1.out; omega
                case rel => exact ⟨(x6_1), (wrap64 (x17_1 + 1)), (by first | rfl | (simp; done) | (simp [*]; done)), H', ⟨by have := HK1.out; omega⟩, ⟨by (with_reducible repeat (first | apply Kd.R_alloc | apply Kd.R_drewN | apply Kd.R_drew)); exact HO_6.out⟩, ⟨by (with_reducible repeat (first | apply Kd.R_alloc | apply Kd.R_drewN | apply Kd.R_drew)); exact HO_15.out⟩, ⟨by repeat (first | (with_reducible first | exact HB.out | apply below_alloc | apply pw_below_drewN | apply below_drew1) | exact HB.out)⟩⟩
            · rw [if_neg c10] at H
              exact absurd H (by simp)
          · rw [if_neg c9] at H
            exact absurd H (by simp)
        · rw [if_neg c8] at H
          have c8b0 : decide (x17_1 < (t334.length : Int)) = false := decide_eq_false c8
          clear c8
          obtain rfl := Option.some.inj H
          go_wp2
          go_ret
          exact ⟨_, by first | rfl | (simp [errW_none, errW_some] <;> rfl) | (simp [*, errW_none, errW_some] <;> rfl), by (with_reducible repeat (first | apply Kd.R_alloc | apply Kd.R_drewN | apply Kd.R_drew)); exact Kd.R_mono HO_6.out (fun _ hk => trivial), by repeat (first | (with_reducible first | exact HB.out | apply below_alloc | apply pw_below_drewN | apply below_drew1) | exact HB.out)⟩

end Go.Proofs.Ytpaijbpenjjmkaa.X
