-- written by a program of this session (wip/xprint.py) out of the translation
import Derived.Test.YtbkdfiepdnbeoaaX0
import Derived.Test.YtbkdfiepdnbeoaaX1
import Derived.Test.YtbkdfiepdnbeoaaX2
import Derived.Test.YtbkdfiepdnbeoaaX4
import Derived.Test.YtbkdfiepdnbeoaaX6
import Derived.Test.YtbkdfiepdnbeoaaX8
import Derived.Test.YtbkdfiepdnbeoaaX9
namespace Go.Proofs.Ytbkdfiepdnbeoaa.X
open Go.RowKit Go.Proofs.YtbkdfiepdnbeoaaW.PrintWords Go.Proofs.YtbkdfiepdnbeoaaW.PrintLast Go.Proofs.YtbkdfiepdnbeoaaW.PrintMore
attribute [local go_sem] max2_int min2_int max_two min_two max_three min_three max_four min_four   -- for this text's walks alone
set_option linter.unusedVariables false
set_option linter.unusedSimpArgs false

/-! ### spec_DrawBracketMates: function 26 -/
def spec_DrawBracketMates.f (k : Nat) (l0 : List Int) : Option (ByteArray) := (spec_l20Open.f l0).bind fun bt293 => ((spec_l20Nested.f k bt293.1 bt293.2 6).bind fun bt296 => (some bt296.1))
theorem spec_DrawBracketMates.mono : ∀ a0 k, LeO (spec_DrawBracketMates.f k a0) (spec_DrawBracketMates.f (k + 1) a0) := by
  intro a0 k
  unfold spec_DrawBracketMates.f
  repeat' first
      | (with_reducible exact spec_l20Nested.mono _ _ _ _)
      | (with_reducible exact LeO.refl _)
      | (with_reducible exact LeO.none _)
      | (with_reducible refine LeO.ite ?_ ?_)
      | (with_reducible refine LeO.bind ?_ (fun _ => ?_))
      | exact spec_l20Nested.mono _ _ _ _
      | exact LeO.none _
      | refine LeO.ite ?_ ?_
      | refine LeO.bind ?_ (fun _ => ?_)
set_option maxHeartbeats 8000000 in
set_option maxRecDepth 100000 in
theorem spec_DrawBracketMates.calls (k : Nat) (A0 : Option Addr) (c0 : Nat) (l0 : List Int) (r : ByteArray) (w : World) (hr0 : Kd.C (Kd.int .u8) w A0 l0.length l0) (hc0 : l0.length ≤ c0) (h : spec_DrawBracketMates.f k l0 = some r) :
    Calls Try.prog 26 #[.slice A0 l0.length c0] w fun e w' => e = .returned (.string r) ∧ Below w.heap.size w w' := by
  have HR0 := Aside0.mk hr0
  have HC0 := Aside0.mk hc0
  clear hr0 hc0
  have HB := Aside0.mk (Below.refl w.heap.size w)
  have H : ((spec_l20Open.f l0).bind fun bt293 => ((spec_l20Nested.f k bt293.1 bt293.2 6).bind fun bt296 => (some bt296.1))) = some r := h
  clear h
  replace H := Option.bind_eq_some_iff.mp H
  obtain ⟨⟨t293, t294⟩, A20, H⟩ := H
  replace H : ((spec_l20Nested.f k t293 t294 6).bind fun bt296 => (some bt296.1)) = some r := H
  have A2 := Aside0.mk A20
  clear A20
  replace H := Option.bind_eq_some_iff.mp H
  obtain ⟨⟨t296, t297⟩, A30, H⟩ := H
  replace H : (some t296) = some r := H
  have A3 := Aside0.mk A30
  clear A30
  obtain rfl := Option.some.inj H
  go_enter Try.func26, Try.ntmps26
  go_wp2_with (first | ((with_reducible refine gate_callee (f := 48) rfl ?_); refine goesL_ (some 4) rfl rfl Try.func48 (by kernel_rfl) rfl #[.slice A0 l0.length c0] rfl (by (try simp only [List.map_toArray, List.map_cons, List.map_nil]); first | done | rfl | (simp only [List.length_drop, List.length_take]; rfl)) ?_; (with_reducible refine (spec_l20Open.calls _ _ l0 t293 t294 w _ ?side1 ?side2 ?side3 A2.out).mono ?_); (case side1 => repeat (first | (with_reducible first | exact HB.out | apply below_alloc | apply pw_below_drewN | apply below_drew1) | exact HB.out)); (case side2 => exact HR0.out); (case side3 => exact HC0.out); rintro e w4 ⟨g295, rfl, hi, hb, hb2⟩; refine ⟨_, rfl, ?_⟩; have n0_ := Aside0.mk (hb); have n1_ := Aside0.mk (hi); clear HB; have HB := n0_; have HI295 := n1_; clear n0_ n1_; (try clear hb); (try clear hb2); (try clear hk); (try clear hi)) | ((with_reducible refine gate_callee (f := 47) rfl ?_); refine goesL_ (some 5) rfl rfl Try.func47 (by kernel_rfl) rfl #[.pointer (some ⟨g295, 0, none⟩), .int .i64 6] rfl (by (try simp only [List.map_toArray, List.map_cons, List.map_nil]); first | done | rfl | (simp only [List.length_drop, List.length_take]; rfl)) ?_; (with_reducible refine (spec_l20Nested.calls k g295 t293 t294 6 t296 t297 w _ ?side1 ?side2 A3.out).mono ?_); (case side1 => repeat (first | (with_reducible first | exact HI295.out | apply IsS62.alloc | apply IsS62.drewN | apply IsS62.drew | apply IsS62.set_1) | exact HI295.out)); (case side2 => repeat (first | (with_reducible first | exact HB.out | apply below_alloc | apply pw_below_drewN | apply below_drew1 | refine below_set ?_ (IsS62.ge HI295.out)) | exact HB.out)); rintro e w5 ⟨rfl, hi, hb, hk⟩; refine ⟨_, rfl, ?_⟩; have n0_ := Aside0.mk (hb); have n1_ := Aside0.mk (hi); clear HB; clear HI295; have HB := n0_; have HI295 := n1_; clear n0_ n1_; (try clear hb); (try clear hb2); (try clear hk); (try clear hi)))
  go_ret
  exact ⟨by first | rfl | (simp [errW_none, errW_some] <;> rfl) | (simp [*, errW_none, errW_some] <;> rfl), by repeat (first | (with_reducible first | exact HB.out | apply below_alloc | apply pw_below_drewN | apply below_drew1 | refine below_set ?_ (IsS62.ge HI295.out)) | exact HB.out)⟩

/-! ### laws_sameInts: function 27 -/
def laws_sameInts.l0 : Nat → List Int → List Int → Int → Option (Bool)
  | 0, _, _, _ => none
  | k + 1, x0, x1, x5 => if x5 < (x0.length : Int) then (if 0 ≤ x5 then (if x5 < (x1.length : Int) then (if (rd x0 x5) = (rd x1 x5) then (laws_sameInts.l0 k x0 x1 (wrap64 (x5 + 1))) else (some false)) else (none)) else (none)) else (some true)
def laws_sameInts.f (k : Nat) (l0 : List Int) (l1 : List Int) : Option (Bool) := if (l0.length : Int) = (l1.length : Int) then (laws_sameInts.l0 k l0 l1 0) else (some false)
theorem laws_sameInts.mono_l : ∀ k, (∀ y0 y1 y2, LeO (laws_sameInts.l0 k y0 y1 y2) (laws_sameInts.l0 (k + 1) y0 y1 y2))
  | 0 => fun _ _ _ r h => by simp [laws_sameInts.l0] at h
  | k + 1 => by
    have ih0 := laws_sameInts.mono_l k
    · intro y0 y1 y2
      unfold laws_sameInts.l0
      repeat' first
      | (with_reducible exact ih0 _ _ _)
      | (with_reducible exact LeO.refl _)
      | (with_reducible exact LeO.none _)
      | (with_reducible refine LeO.ite ?_ ?_)
      | (with_reducible refine LeO.bind ?_ (fun _ => ?_))
      | exact ih0 _ _ _
      | exact LeO.none _
      | refine LeO.ite ?_ ?_
      | refine LeO.bind ?_ (fun _ => ?_)
theorem laws_sameInts.mono : ∀ a0 a1 k, LeO (laws_sameInts.f k a0 a1) (laws_sameInts.f (k + 1) a0 a1) := by
  intro a0 a1 k
  have ih0 := laws_sameInts.mono_l k
  unfold laws_sameInts.f
  repeat' first
      | (with_reducible exact ih0 _ _ _)
      | (with_reducible exact LeO.refl _)
      | (with_reducible exact LeO.none _)
      | (with_reducible refine LeO.ite ?_ ?_)
      | (with_reducible refine LeO.bind ?_ (fun _ => ?_))
      | exact ih0 _ _ _
      | exact LeO.none _
      | refine LeO.ite ?_ ?_
      | refine LeO.bind ?_ (fun _ => ?_)
set_option maxHeartbeats 8000000 in
set_option maxRecDepth 100000 in
theorem laws_sameInts.calls (k : Nat) (A0 : Option Addr) (c0 : Nat) (l0 : List Int) (A1 : Option Addr) (c1 : Nat) (l1 : List Int) (r : Bool) (w : World) (hr0 : Kd.C (Kd.int .i64) w A0 l0.length l0) (hc0 : l0.length ≤ c0) (hr1 : Kd.C (Kd.int .i64) w A1 l1.length l1) (hc1 : l1.length ≤ c1) (h : laws_sameInts.f k l0 l1 = some r) :
    Calls Try.prog 27 #[.slice A0 l0.length c0, .slice A1 l1.length c1] w fun e w' => e = .returned (.bool r) ∧ Drawn0 w w' := by
  have HR0 := Aside0.mk hr0
  have HC0 := Aside0.mk hc0
  clear hr0 hc0
  have HR1 := Aside0.mk hr1
  have HC1 := Aside0.mk hc1
  clear hr1 hc1
  have H : (if (l0.length : Int) = (l1.length : Int) then (laws_sameInts.l0 k l0 l1 0) else (some false)) = some r := h
  clear h
  by_cases c3 : (l0.length : Int) = (l1.length : Int)
  · rw [if_pos c3] at H
    have c3b0 : ((l0.length : Int) == (l1.length : Int)) = true := beq_iff_eq.mpr c3
    have c3b1 : ((l0.length : Int) != (l1.length : Int)) = false := bne_eq_false_iff_eq.mpr c3
    have c3b2 : (l0.length == l1.length) = true := by first | simpa using c3 | (simp at c3 ⊢; omega)
    clear c3
    have H' := Aside0.mk H
    clear H
    go_enter Try.func27, Try.ntmps27
    go_wp2
    repeat (go_quiet (fail); try go_wp2)
    go_loopg [5] k (fun kq v5 w' => ∃ (x5_1 : Int), v5 = .int .i64 x5_1 ∧ Aside0 (laws_sameInts.l0 kq l0 l1 x5_1 = some r) ∧ Aside0 (kq ≤ k) ∧ Drawn0 w w')
    case atStart => exact ⟨(0), (by first | rfl | (simp; done) | (simp [*]; done)), H', ⟨Nat.le_refl _⟩, by repeat (first | exact Drawn0.refl _ | apply Drawn0.step)⟩
    case round =>
      clear H'
      try clear c1
      try clear c2
      try clear p2
      try clear c3
      try clear c3b0
      try clear c3b1
      try clear c3b2
      obtain ⟨x5_1, rfl, HA, HK1, ⟨m1, rfl⟩⟩ := hrel
      cases gk with
      | zero => exact absurd HA.out (by simp [laws_sameInts.l0])
      | succ k1 =>
        have H := HA.out
        clear HA
        simp only [laws_sameInts.l0] at H
        by_cases c4 : x5_1 < (l0.length : Int)
        · rw [if_pos c4] at H
          have c4b0 : decide (x5_1 < (l0.length : Int)) = true := decide_eq_true c4
          clear c4
          by_cases c5 : 0 ≤ x5_1
          · rw [if_pos c5] at H
            have c5b0 : decide (0 ≤ x5_1) = true := decide_eq_true c5
            clear c5
            by_cases c6 : x5_1 < (l1.length : Int)
            · rw [if_pos c6] at H
              have c6b0 : decide (x5_1 < (l1.length : Int)) = true := decide_eq_true c6
              clear c6
              by_cases c7 : (rd l0 x5_1) = (rd l1 x5_1)
              · rw [if_pos c7] at H
                have c7b0 : ((rd l0 x5_1) == (rd l1 x5_1)) = true := beq_iff_eq.mpr c7
                have c7b1 : ((rd l0 x5_1) != (rd l1 x5_1)) = false := bne_eq_false_iff_eq.mpr c7
                clear c7
                have H' := Aside0.mk H
                clear H
                have p298 : 0 ≤ (x5_1 : Int) := of_decide_eq_true (by first | (with_reducible assumption) | assumption)
                have q298 : x5_1 < (l0.length : Int) := of_decide_eq_true (by first | (with_reducible assumption) | assumption)
                obtain ⟨ad298, e298, hx298_0⟩ := Kd.at_int HR0.out x5_1 p298 q298
                cases e298
                replace p298 := eq_true p298
                replace q298 := eq_true q298
                have p299 : 0 ≤ (x5_1 : Int) := of_decide_eq_true (by first | (with_reducible assumption) | assumption)
                have q299 : x5_1 < (l1.length : Int) := of_decide_eq_true (by first | (with_reducible assumption) | assumption)
                obtain ⟨ad299, e299, hx299_0⟩ := Kd.at_int HR1.out x5_1 p299 q299
                cases e299
                replace p299 := eq_true p299
                replace q299 := eq_true q299
                go_wp2
                repeat (go_quiet (fail); try go_wp2)
                go_roundg k1
                case measure => have := HK1.out; omega
                case rel => exact ⟨(wrap64 (x5_1 + 1)), (by first | rfl | (simp; done) | (simp [*]; done)), H', ⟨by have := HK1.out; omega⟩, by repeat (first | exact Drawn0.refl _ | apply Drawn0.step)⟩
              · rw [if_neg c7] at H
                have c7b0 : ((rd l0 x5_1) == (rd l1 x5_1)) = false := beq_eq_false_iff_ne.mpr c7
                have c7b1 : ((rd l0 x5_1) != (rd l1 x5_1)) = true := bne_iff_ne.mpr c7
                obtain rfl := Option.some.inj H
                have p298 : 0 ≤ (x5_1 : Int) := of_decide_eq_true (by first | (with_reducible assumption) | assumption)
                have q298 : x5_1 < (l0.length : Int) := of_decide_eq_true (by first | (with_reducible assumption) | assumption)
                obtain ⟨ad298, e298, hx298_0⟩ := Kd.at_int HR0.out x5_1 p298 q298
                cases e298
                replace p298 := eq_true p298
                replace q298 := eq_true q298
                have p299 : 0 ≤ (x5_1 : Int) := of_decide_eq_true (by first | (with_reducible assumption) | assumption)
                have q299 : x5_1 < (l1.length : Int) := of_decide_eq_true (by first | (with_reducible assumption) | assumption)
                obtain ⟨ad299, e299, hx299_0⟩ := Kd.at_int HR1.out x5_1 p299 q299
                cases e299
                replace p299 := eq_true p299
                replace q299 := eq_true q299
                go_wp2
                repeat (go_quiet (fail); try go_wp2)
                go_ret
                exact ⟨by first | rfl | (simp; done) | (simp [*]; done), by repeat (first | exact Drawn0.refl _ | apply Drawn0.step)⟩
            · rw [if_neg c6] at H
              exact absurd H (by simp)
          · rw [if_neg c5] at H
            exact absurd H (by simp)
        · rw [if_neg c4] at H
          have c4b0 : decide (x5_1 < (l0.length : Int)) = false := decide_eq_false c4
          clear c4
          obtain rfl := Option.some.inj H
          go_wp2
          repeat (go_quiet (fail); try go_wp2)
          go_ret
          exact ⟨by first | rfl | (simp; done) | (simp [*]; done), by repeat (first | exact Drawn0.refl _ | apply Drawn0.step)⟩
  · rw [if_neg c3] at H
    have c3b0 : ((l0.length : Int) == (l1.length : Int)) = false := beq_eq_false_iff_ne.mpr c3
    have c3b1 : ((l0.length : Int) != (l1.length : Int)) = true := bne_iff_ne.mpr c3
    have c3b2 : (l0.length == l1.length) = false := by first | simpa using c3 | (simp at c3 ⊢; omega)
    obtain rfl := Option.some.inj H
    go_enter Try.func27, Try.ntmps27
    go_wp2
    repeat (go_quiet (fail); try go_wp2)
    go_ret
    exact ⟨by first | rfl | (simp; done) | (simp [*]; done), by repeat (first | exact Drawn0.refl _ | apply Drawn0.step)⟩

/-! ### laws_FnBracketMates: function 7 -/
mutual
def laws_FnBracketMates.l0 : Nat → ByteArray → List Int → Int → Option (Bool)
  | 0, _, _, _ => none
  | k + 1, x3, x4, x5 => if x5 < (x4.length : Int) then (if 0 ≤ x5 then (if (rd x4 x5) = (-1) then (laws_FnBracketMates.l0 k x3 x4 (wrap64 (x5 + 1))) else (if (rd x4 x5) < 0 then (laws_FnBracketMates.j1 k x3 x4 x5 (rd x4 x5) true) else (if (rd x4 x5) ≥ (x3.size : Int) then (laws_FnBracketMates.j1 k x3 x4 x5 (rd x4 x5) true) else (if 0 ≤ (rd x4 x5) then (if (rd x4 x5) < (x4.length : Int) then (if (rd x4 (rd x4 x5)) = x5 then (laws_FnBracketMates.j1 k x3 x4 x5 (rd x4 x5) ((rd x4 x5) == x5)) else (laws_FnBracketMates.j1 k x3 x4 x5 (rd x4 x5) true)) else (none)) else (none))))) else (none)) else (some ((x4.length : Int) == (x3.size : Int)))
def laws_FnBracketMates.j1 : Nat → ByteArray → List Int → Int → Int → Bool → Option (Bool)
  | 0, _, _, _, _, _ => none
  | k + 1, x3, x4, x5, x6, x62 => if x62 = true then (some false) else (if 0 ≤ (mn x5 x6) then (if (mn x5 x6) ≤ (wrap64 ((mn x5 x6) + 1)) then (if (wrap64 ((mn x5 x6) + 1)) ≤ (x3.size : Int) then (if 0 ≤ (mx x5 x6) then (if (mx x5 x6) ≤ (wrap64 ((mx x5 x6) + 1)) then (if (wrap64 ((mx x5 x6) + 1)) ≤ (x3.size : Int) then (if (x3.extract ((mn x5 x6) : Int).toNat ((wrap64 ((mn x5 x6) + 1)) : Int).toNat).size + (x3.extract ((mx x5 x6) : Int).toNat ((wrap64 ((mx x5 x6) + 1)) : Int).toNat).size ≤ 9223372036854775807 then (if ((x3.extract ((mn x5 x6) : Int).toNat ((wrap64 ((mn x5 x6) + 1)) : Int).toNat) ++ (x3.extract ((mx x5 x6) : Int).toNat ((wrap64 ((mx x5 x6) + 1)) : Int).toNat)).toList = ([40, 41] : List UInt8) then (laws_FnBracketMates.j2 k x3 x4 x5 x6 false) else (if ((x3.extract ((mn x5 x6) : Int).toNat ((wrap64 ((mn x5 x6) + 1)) : Int).toNat) ++ (x3.extract ((mx x5 x6) : Int).toNat ((wrap64 ((mx x5 x6) + 1)) : Int).toNat)).toList = ([91, 93] : List UInt8) then (laws_FnBracketMates.j2 k x3 x4 x5 x6 false) else (laws_FnBracketMates.j2 k x3 x4 x5 x6 (((x3.extract ((mn x5 x6) : Int).toNat ((wrap64 ((mn x5 x6) + 1)) : Int).toNat) ++ (x3.extract ((mx x5 x6) : Int).toNat ((wrap64 ((mx x5 x6) + 1)) : Int).toNat)).toList != ([123, 125] : List UInt8))))) else (none)) else (none)) else (none)) else (none)) else (none)) else (none)) else (none))
def laws_FnBracketMates.j2 : Nat → ByteArray → List Int → Int → Int → Bool → Option (Bool)
  | 0, _, _, _, _, _ => none
  | k + 1, x3, x4, x5, x6, x91 => if x91 = true then (some false) else (laws_FnBracketMates.l1 k x3 x4 x5 x6 (wrap64 ((mn x5 x6) + 1)))
def laws_FnBracketMates.l1 : Nat → ByteArray → List Int → Int → Int → Int → Option (Bool)
  | 0, _, _, _, _, _ => none
  | k + 1, x3, x4, x5, x6, x8 => if x8 < (mx x5 x6) then (if 0 ≤ x8 then (if x8 < (x4.length : Int) then (if (rd x4 x8) = (-1) then (laws_FnBracketMates.l1 k x3 x4 x5 x6 (wrap64 (x8 + 1))) else (if (rd x4 x8) < (mn x5 x6) then (some false) else (if (rd x4 x8) > (mx x5 x6) then (some false) else (laws_FnBracketMates.l1 k x3 x4 x5 x6 (wrap64 (x8 + 1)))))) else (none)) else (none)) else (laws_FnBracketMates.l0 k x3 x4 (wrap64 (x5 + 1)))
end
def laws_FnBracketMates.f (k : Nat) (l0 : List Int) : Option (Bool) := if (l0.length : Int) > 1048576 then (some true) else ((spec_DrawBracketMates.f k l0).bind fun t303 => ((impl_BracketMates.f k t303).bind fun t304 => ((spec_BracketMates.f k t303).bind fun t307 => ((laws_sameInts.f k t304 t307).bind fun t310 => (if t310 = true then ((spec_TextValid.f k t303).bind fun t311 => (if t311 = true then (laws_FnBracketMates.l0 k t303 t304 0) else (if (t304.length : Int) = 0 then ((laws_alive.f k).bind fun t312 => (some t312)) else (some false)))) else (some false))))))
theorem laws_FnBracketMates.mono_l : ∀ k, (∀ y0 y1 y2, LeO (laws_FnBracketMates.l0 k y0 y1 y2) (laws_FnBracketMates.l0 (k + 1) y0 y1 y2)) ∧ (∀ y0 y1 y2 y3 y4, LeO (laws_FnBracketMates.j1 k y0 y1 y2 y3 y4) (laws_FnBracketMates.j1 (k + 1) y0 y1 y2 y3 y4)) ∧ (∀ y0 y1 y2 y3 y4, LeO (laws_FnBracketMates.j2 k y0 y1 y2 y3 y4) (laws_FnBracketMates.j2 (k + 1) y0 y1 y2 y3 y4)) ∧ (∀ y0 y1 y2 y3 y4, LeO (laws_FnBracketMates.l1 k y0 y1 y2 y3 y4) (laws_FnBracketMates.l1 (k + 1) y0 y1 y2 y3 y4))
  | 0 => ⟨fun _ _ _ r h => by simp [laws_FnBracketMates.l0] at h, fun _ _ _ _ _ r h => by simp [laws_FnBracketMates.j1] at h, fun _ _ _ _ _ r h => by simp [laws_FnBracketMates.j2] at h, fun _ _ _ _ _ r h => by simp [laws_FnBracketMates.l1] at h⟩
  | k + 1 => by
    obtain ⟨ih0, ih1, ih2, ih3⟩ := laws_FnBracketMates.mono_l k
    refine ⟨?_, ?_, ?_, ?_⟩
    · intro y0 y1 y2
      unfold laws_FnBracketMates.l0
      repeat' first
      | (with_reducible exact ih0 _ _ _)
      | (with_reducible exact ih1 _ _ _ _ _)
      | (with_reducible exact ih2 _ _ _ _ _)
      | (with_reducible exact ih3 _ _ _ _ _)
      | (with_reducible exact impl_BracketMates.mono _ _)
      | (with_reducible exact laws_alive.mono _)
      | (with_reducible exact laws_sameInts.mono _ _ _)
      | (with_reducible exact spec_BracketMates.mono _ _)
      | (with_reducible exact spec_DrawBracketMates.mono _ _)
      | (with_reducible exact spec_TextValid.mono _ _)
      | (with_reducible exact LeO.refl _)
      | (with_reducible exact LeO.none _)
      | (with_reducible refine LeO.ite ?_ ?_)
      | (with_reducible refine LeO.bind ?_ (fun _ => ?_))
      | exact ih0 _ _ _
      | exact ih1 _ _ _ _ _
      | exact ih2 _ _ _ _ _
      | exact ih3 _ _ _ _ _
      | exact impl_BracketMates.mono _ _
      | exact laws_alive.mono _
      | exact laws_sameInts.mono _ _ _
      | exact spec_BracketMates.mono _ _
      | exact spec_DrawBracketMates.mono _ _
      | exact spec_TextValid.mono _ _
      | exact LeO.none _
      | refine LeO.ite ?_ ?_
      | refine LeO.bind ?_ (fun _ => ?_)
    · intro y0 y1 y2 y3 y4
      unfold laws_FnBracketMates.j1
      repeat' first
      | (with_reducible exact ih0 _ _ _)
      | (with_reducible exact ih1 _ _ _ _ _)
      | (with_reducible exact ih2 _ _ _ _ _)
      | (with_reducible exact ih3 _ _ _ _ _)
      | (with_reducible exact impl_BracketMates.mono _ _)
      | (with_reducible exact laws_alive.mono _)
      | (with_reducible exact laws_sameInts.mono _ _ _)
      | (with_reducible exact spec_BracketMates.mono _ _)
      | (with_reducible exact spec_DrawBracketMates.mono _ _)
      | (with_reducible exact spec_TextValid.mono _ _)
      | (with_reducible exact LeO.refl _)
      | (with_reducible exact LeO.none _)
      | (with_reducible refine LeO.ite ?_ ?_)
      | (with_reducible refine LeO.bind ?_ (fun _ => ?_))
      | exact ih0 _ _ _
      | exact ih1 _ _ _ _ _
      | exact ih2 _ _ _ _ _
      | exact ih3 _ _ _ _ _
      | exact impl_BracketMates.mono _ _
      | exact laws_alive.mono _
      | exact laws_sameInts.mono _ _ _
      | exact spec_BracketMates.mono _ _
      | exact spec_DrawBracketMates.mono _ _
      | exact spec_TextValid.mono _ _
      | exact LeO.none _
      | refine LeO.ite ?_ ?_
      | refine LeO.bind ?_ (fun _ => ?_)
    · intro y0 y1 y2 y3 y4
      unfold laws_FnBracketMates.j2
      repeat' first
      | (with_reducible exact ih0 _ _ _)
      | (with_reducible exact ih1 _ _ _ _ _)
      | (with_reducible exact ih2 _ _ _ _ _)
      | (with_reducible exact ih3 _ _ _ _ _)
      | (with_reducible exact impl_BracketMates.mono _ _)
      | (with_reducible exact laws_alive.mono _)
      | (with_reducible exact laws_sameInts.mono _ _ _)
      | (with_reducible exact spec_BracketMates.mono _ _)
      | (with_reducible exact spec_DrawBracketMates.mono _ _)
      | (with_reducible exact spec_TextValid.mono _ _)
      | (with_reducible exact LeO.refl _)
      | (with_reducible exact LeO.none _)
      | (with_reducible refine LeO.ite ?_ ?_)
      | (with_reducible refine LeO.bind ?_ (fun _ => ?_))
      | exact ih0 _ _ _
      | exact ih1 _ _ _ _ _
      | exact ih2 _ _ _ _ _
      | exact ih3 _ _ _ _ _
      | exact impl_BracketMates.mono _ _
      | exact laws_alive.mono _
      | exact laws_sameInts.mono _ _ _
      | exact spec_BracketMates.mono _ _
      | exact spec_DrawBracketMates.mono _ _
      | exact spec_TextValid.mono _ _
      | exact LeO.none _
      | refine LeO.ite ?_ ?_
      | refine LeO.bind ?_ (fun _ => ?_)
    · intro y0 y1 y2 y3 y4
      unfold laws_FnBracketMates.l1
      repeat' first
      | (with_reducible exact ih0 _ _ _)
      | (with_reducible exact ih1 _ _ _ _ _)
      | (with_reducible exact ih2 _ _ _ _ _)
      | (with_reducible exact ih3 _ _ _ _ _)
      | (with_reducible exact impl_BracketMates.mono _ _)
      | (with_reducible exact laws_alive.mono _)
      | (with_reducible exact laws_sameInts.mono _ _ _)
      | (with_reducible exact spec_BracketMates.mono _ _)
      | (with_reducible exact spec_DrawBracketMates.mono _ _)
      | (with_reducible exact spec_TextValid.mono _ _)
      | (with_reducible exact LeO.refl _)
      | (with_reducible exact LeO.none _)
      | (with_reducible refine LeO.ite ?_ ?_)
      | (with_reducible refine LeO.bind ?_ (fun _ => ?_))
      | exact ih0 _ _ _
      | exact ih1 _ _ _ _ _
      | exact ih2 _ _ _ _ _
      | exact ih3 _ _ _ _ _
      | exact impl_BracketMates.mono _ _
      | exact laws_alive.mono _
      | exact laws_sameInts.mono _ _ _
      | exact spec_BracketMates.mono _ _
      | exact spec_DrawBracketMates.mono _ _
      | exact spec_TextValid.mono _ _
      | exact LeO.none _
      | refine LeO.ite ?_ ?_
      | refine LeO.bind ?_ (fun _ => ?_)
theorem laws_FnBracketMates.mono : ∀ a0 k, LeO (laws_FnBracketMates.f k a0) (laws_FnBracketMates.f (k + 1) a0) := by
  intro a0 k
  obtain ⟨ih0, ih1, ih2, ih3⟩ := laws_FnBracketMates.mono_l k
  unfold laws_FnBracketMates.f
  repeat' first
      | (with_reducible exact ih0 _ _ _)
      | (with_reducible exact ih1 _ _ _ _ _)
      | (with_reducible exact ih2 _ _ _ _ _)
      | (with_reducible exact ih3 _ _ _ _ _)
      | (with_reducible exact impl_BracketMates.mono _ _)
      | (with_reducible exact laws_alive.mono _)
      | (with_reducible exact laws_sameInts.mono _ _ _)
      | (with_reducible exact spec_BracketMates.mono _ _)
      | (with_reducible exact spec_DrawBracketMates.mono _ _)
      | (with_reducible exact spec_TextValid.mono _ _)
      | (with_reducible exact LeO.refl _)
      | (with_reducible exact LeO.none _)
      | (with_reducible refine LeO.ite ?_ ?_)
      | (with_reducible refine LeO.bind ?_ (fun _ => ?_))
      | exact ih0 _ _ _
      | exact ih1 _ _ _ _ _
      | exact ih2 _ _ _ _ _
      | exact ih3 _ _ _ _ _
      | exact impl_BracketMates.mono _ _
      | exact laws_alive.mono _
      | exact laws_sameInts.mono _ _ _
      | exact spec_BracketMates.mono _ _
      | exact spec_DrawBracketMates.mono _ _
      | exact spec_TextValid.mono _ _
      | exact LeO.none _
      | refine LeO.ite ?_ ?_
      | refine LeO.bind ?_ (fun _ => ?_)
set_option maxHeartbeats 8000000 in
set_option maxRecDepth 100000 in
theorem laws_FnBracketMates.calls (k : Nat) (A0 : Option Addr) (c0 : Nat) (l0 : List Int) (r : Bool) (w : World) (hr0 : Kd.C (Kd.int .u8) w A0 l0.length l0) (hc0 : l0.length ≤ c0) (h : laws_FnBracketMates.f k l0 = some r) :
    Calls Try.prog 7 #[.slice A0 l0.length c0] w fun e w' => e = .returned (.bool r) ∧ Below w.heap.size w w' := by
  have HR0 := Aside0.mk hr0
  have HC0 := Aside0.mk hc0
  clear hr0 hc0
  have HB := Aside0.mk (Below.refl w.heap.size w)
  have H : (if (l0.length : Int) > 1048576 then (some true) else ((spec_DrawBracketMates.f k l0).bind fun t303 => ((impl_BracketMates.f k t303).bind fun t304 => ((spec_BracketMates.f k t303).bind fun t307 => ((laws_sameInts.f k t304 t307).bind fun t310 => (if t310 = true then ((spec_TextValid.f k t303).bind fun t311 => (if t311 = true then (laws_FnBracketMates.l0 k t303 t304 0) else (if (t304.length : Int) = 0 then ((laws_alive.f k).bind fun t312 => (some t312)) else (some false)))) else (some false))))))) = some r := h
  clear h
  by_cases c2 : (l0.length : Int) > 1048576
  · rw [if_pos c2] at H
    have c2b0 : decide (1048576 < (l0.length : Int)) = true := decide_eq_true c2
    have c2b1 : decide (1048576 < l0.length) = true := decide_eq_true (by omega)
    clear c2
    obtain rfl := Option.some.inj H
    go_enter Try.func7, Try.ntmps7
    go_wp2
    repeat (go_quiet (fail); try go_wp2)
    go_ret
    exact ⟨by first | rfl | (simp [errW_none, errW_some] <;> rfl) | (simp [*, errW_none, errW_some] <;> rfl), by repeat (first | (with_reducible first | exact HB.out | apply below_alloc | apply pw_below_drewN | apply below_drew1) | exact HB.out)⟩
  · rw [if_neg c2] at H
    have c2b0 : decide (1048576 < (l0.length : Int)) = false := decide_eq_false c2
    have c2b1 : decide (1048576 < l0.length) = false := decide_eq_false (by omega)
    clear c2
    replace H := Option.bind_eq_some_iff.mp H
    obtain ⟨t303, A30, H⟩ := H
    replace H : ((impl_BracketMates.f k t303).bind fun t304 => ((spec_BracketMates.f k t303).bind fun t307 => ((laws_sameInts.f k t304 t307).bind fun t310 => (if t310 = true then ((spec_TextValid.f k t303).bind fun t311 => (if t311 = true then (laws_FnBracketMates.l0 k t303 t304 0) else (if (t304.length : Int) = 0 then ((laws_alive.f k).bind fun t312 => (some t312)) else (some false)))) else (some false))))) = some r := H
    have A3 := Aside0.mk A30
    clear A30
    replace H := Option.bind_eq_some_iff.mp H
    obtain ⟨t304, A40, H⟩ := H
    replace H : ((spec_BracketMates.f k t303).bind fun t307 => ((laws_sameInts.f k t304 t307).bind fun t310 => (if t310 = true then ((spec_TextValid.f k t303).bind fun t311 => (if t311 = true then (laws_FnBracketMates.l0 k t303 t304 0) else (if (t304.length : Int) = 0 then ((laws_alive.f k).bind fun t312 => (some t312)) else (some false)))) else (some false)))) = some r := H
    have A4 := Aside0.mk A40
    clear A40
    replace H := Option.bind_eq_some_iff.mp H
    obtain ⟨t307, A50, H⟩ := H
    replace H : ((laws_sameInts.f k t304 t307).bind fun t310 => (if t310 = true then ((spec_TextValid.f k t303).bind fun t311 => (if t311 = true then (laws_FnBracketMates.l0 k t303 t304 0) else (if (t304.length : Int) = 0 then ((laws_alive.f k).bind fun t312 => (some t312)) else (some false)))) else (some false))) = some r := H
    have A5 := Aside0.mk A50
    clear A50
    replace H := Option.bind_eq_some_iff.mp H
    obtain ⟨t310, A60, H⟩ := H
    replace H : (if t310 = true then ((spec_TextValid.f k t303).bind fun t311 => (if t311 = true then (laws_FnBracketMates.l0 k t303 t304 0) else (if (t304.length : Int) = 0 then ((laws_alive.f k).bind fun t312 => (some t312)) else (some false)))) else (some false)) = some r := H
    have A6 := Aside0.mk A60
    clear A60
    by_cases c7 : t310 = true
    · subst c7
      have H1 : ((spec_TextValid.f k t303).bind fun t311 => (if t311 = true then (laws_FnBracketMates.l0 k t303 t304 0) else (if (t304.length : Int) = 0 then ((laws_alive.f k).bind fun t312 => (some t312)) else (some false)))) = some r := by rw [if_pos rfl] at H; exact H
      clear H
      have H := H1
      clear H1
      replace H := Option.bind_eq_some_iff.mp H
      obtain ⟨t311, A80, H⟩ := H
      replace H : (if t311 = true then (laws_FnBracketMates.l0 k t303 t304 0) else (if (t304.length : Int) = 0 then ((laws_alive.f k).bind fun t312 => (some t312)) else (some false))) = some r := H
      have A8 := Aside0.mk A80
      clear A80
      by_cases c9 : t311 = true
      · subst c9
        have H1 : (laws_FnBracketMates.l0 k t303 t304 0) = some r := by rw [if_pos rfl] at H; exact H
        clear H
        have H := H1
        clear H1
        have H' := Aside0.mk H
        clear H
        go_enter Try.func7, Try.ntmps7
        go_wp2_with (first | (go_at_call 26; (with_reducible refine (spec_DrawBracketMates.calls k _ _ l0 t303 _ ?side1 ?side2 A3.out).mono ?_); (case side1 => repeat (first | exact HR0.out | (with_reducible refine Kd.C_alloc ?_ _) | (with_reducible refine Kd.C_drewN ?_ _) | (with_reducible refine Kd.C_drew ?_))); (case side2 => exact HC0.out); rintro e w10 ⟨rfl, hb⟩; have n0_ := Aside0.mk (below_step (by repeat (first | (with_reducible first | exact HB.out | apply below_alloc | apply pw_below_drewN | apply below_drew1) | exact HB.out)) hb); clear HB; have HB := n0_; clear n0_; (try clear hb); (try clear hb2); (try clear hk); (try clear hi)) | (go_at_call 20; (with_reducible refine (impl_BracketMates.calls k t303 t304 _ A4.out).mono ?_); rintro e w11 ⟨v305, rfl, ho0, hb⟩; have n0_ := Aside0.mk (Kd.R_lower ho0 (below_size (by repeat (first | (with_reducible first | exact HB.out | apply below_alloc | apply pw_below_drewN | apply below_drew1) | exact HB.out)))); have n1_ := Aside0.mk (below_step (by repeat (first | (with_reducible first | exact HB.out | apply below_alloc | apply pw_below_drewN | apply below_drew1) | exact HB.out)) hb); clear HB; have HO306 := n0_; have HB := n1_; clear n0_ n1_; (try clear hb); (try clear hb2); (try clear hk); (try clear hi); (try clear ho0)) | (go_at_call 19; (with_reducible refine (spec_BracketMates.calls k t303 t307 _ A5.out).mono ?_); rintro e w12 ⟨v308, rfl, ho0, hb⟩; have n0_ := Aside0.mk (Kd.R_elder' (by (with_reducible repeat (first | apply Kd.R_alloc | apply Kd.R_drewN | apply Kd.R_drew)); exact HO306.out) (Kd.R_base ho0) hb); have n1_ := Aside0.mk (Kd.R_lower (Kd.R_new' ho0 (Kd.R_lt (by (with_reducible repeat (first | apply Kd.R_alloc | apply Kd.R_drewN | apply Kd.R_drew)); exact HO306.out))) (below_size (by repeat (first | (with_reducible first | exact HB.out | apply below_alloc | apply pw_below_drewN | apply below_drew1) | exact HB.out)))); have n2_ := Aside0.mk (below_step (by repeat (first | (with_reducible first | exact HB.out | apply below_alloc | apply pw_below_drewN | apply below_drew1) | exact HB.out)) hb); clear HO306; clear HB; have HO306 := n0_; have HO309 := n1_; have HB := n2_; clear n0_ n1_ n2_; (try clear hb); (try clear hb2); (try clear hk); (try clear hi); (try clear ho0); obtain ⟨Ao13, co13, eo13⟩ := Kd.R_slice HO306.out; subst eo13; obtain ⟨Ao14, co14, eo14⟩ := Kd.R_slice HO309.out; subst eo14) | (go_at_call 27; (with_reducible refine (laws_sameInts.calls k _ _ t304 _ _ t307 true _ ?side1 ?side2 ?side3 ?side4 A6.out).mono ?_); (case side1 => repeat (first | exact (Kd.R_reads' HO306.out).2.2 | (with_reducible refine Kd.C_alloc ?_ _) | (with_reducible refine Kd.C_drewN ?_ _) | (with_reducible refine Kd.C_drew ?_))); (case side2 => exact (Kd.R_reads' HO306.out).2.1); (case side3 => repeat (first | exact (Kd.R_reads' HO309.out).2.2 | (with_reducible refine Kd.C_alloc ?_ _) | (with_reducible refine Kd.C_drewN ?_ _) | (with_reducible refine Kd.C_drew ?_))); (case side4 => exact (Kd.R_reads' HO309.out).2.1); rintro e w' ⟨rfl, ⟨nd, rfl⟩⟩; (try first | exact ⟨rfl, _, World.drewN_drewN _ _ _⟩ | exact ⟨rfl, _, Eq.trans (World.drewN_drewN _ _ _) (congrArg (World.drewN _) (Nat.add_assoc _ _ _))⟩)) | (go_at_call 28; (with_reducible refine (spec_TextValid.calls k t303 true _ A8.out).mono ?_); rintro e w' ⟨rfl, ⟨nd, rfl⟩⟩; (try first | exact ⟨rfl, _, World.drewN_drewN _ _ _⟩ | exact ⟨rfl, _, Eq.trans (World.drewN_drewN _ _ _) (congrArg (World.drewN _) (Nat.add_assoc _ _ _))⟩)))
        repeat (go_quiet (first | (go_at_call 26; (with_reducible refine (spec_DrawBracketMates.calls k _ _ l0 t303 _ ?side1 ?side2 A3.out).mono ?_); (case side1 => repeat (first | exact HR0.out | (with_reducible refine Kd.C_alloc ?_ _) | (with_reducible refine Kd.C_drewN ?_ _) | (with_reducible refine Kd.C_drew ?_))); (case side2 => exact HC0.out); rintro e w10 ⟨rfl, hb⟩; have n0_ := Aside0.mk (below_step (by repeat (first | (with_reducible first | exact HB.out | apply below_alloc | apply pw_below_drewN | apply below_drew1) | exact HB.out)) hb); clear HB; have HB := n0_; clear n0_; (try clear hb); (try clear hb2); (try clear hk); (try clear hi)) | (go_at_call 20; (with_reducible refine (impl_BracketMates.calls k t303 t304 _ A4.out).mono ?_); rintro e w11 ⟨v305, rfl, ho0, hb⟩; have n0_ := Aside0.mk (Kd.R_lower ho0 (below_size (by repeat (first | (with_reducible first | exact HB.out | apply below_alloc | apply pw_below_drewN | apply below_drew1) | exact HB.out)))); have n1_ := Aside0.mk (below_step (by repeat (first | (with_reducible first | exact HB.out | apply below_alloc | apply pw_below_drewN | apply below_drew1) | exact HB.out)) hb); clear HB; have HO306 := n0_; have HB := n1_; clear n0_ n1_; (try clear hb); (try clear hb2); (try clear hk); (try clear hi); (try clear ho0)) | (go_at_call 19; (with_reducible refine (spec_BracketMates.calls k t303 t307 _ A5.out).mono ?_); rintro e w12 ⟨v308, rfl, ho0, hb⟩; have n0_ := Aside0.mk (Kd.R_elder' (by (with_reducible repeat (first | apply Kd.R_alloc | apply Kd.R_drewN | apply Kd.R_drew)); exact HO306.out) (Kd.R_base ho0) hb); have n1_ := Aside0.mk (Kd.R_lower (Kd.R_new' ho0 (Kd.R_lt (by (with_reducible repeat (first | apply Kd.R_alloc | apply Kd.R_drewN | apply Kd.R_drew)); exact HO306.out))) (below_size (by repeat (first | (with_reducible first | exact HB.out | apply below_alloc | apply pw_below_drewN | apply below_drew1) | exact HB.out)))); have n2_ := Aside0.mk (below_step (by repeat (first | (with_reducible first | exact HB.out | apply below_alloc | apply pw_below_drewN | apply below_drew1) | exact HB.out)) hb); clear HO306; clear HB; have HO306 := n0_; have HO309 := n1_; have HB := n2_; clear n0_ n1_ n2_; (try clear hb); (try clear hb2); (try clear hk); (try clear hi); (try clear ho0); obtain ⟨Ao13, co13, eo13⟩ := Kd.R_slice HO306.out; subst eo13; obtain ⟨Ao14, co14, eo14⟩ := Kd.R_slice HO309.out; subst eo14) | (go_at_call 27; (with_reducible refine (laws_sameInts.calls k _ _ t304 _ _ t307 true _ ?side1 ?side2 ?side3 ?side4 A6.out).mono ?_); (case side1 => repeat (first | exact (Kd.R_reads' HO306.out).2.2 | (with_reducible refine Kd.C_alloc ?_ _) | (with_reducible refine Kd.C_drewN ?_ _) | (with_reducible refine Kd.C_drew ?_))); (case side2 => exact (Kd.R_reads' HO306.out).2.1); (case side3 => repeat (first | exact (Kd.R_reads' HO309.out).2.2 | (with_reducible refine Kd.C_alloc ?_ _) | (with_reducible refine Kd.C_drewN ?_ _) | (with_reducible refine Kd.C_drew ?_))); (case side4 => exact (Kd.R_reads' HO309.out).2.1); rintro e w' ⟨rfl, ⟨nd, rfl⟩⟩; (try first | exact ⟨rfl, _, World.drewN_drewN _ _ _⟩ | exact ⟨rfl, _, Eq.trans (World.drewN_drewN _ _ _) (congrArg (World.drewN _) (Nat.add_assoc _ _ _))⟩)) | (go_at_call 28; (with_reducible refine (spec_TextValid.calls k t303 true _ A8.out).mono ?_); rintro e w' ⟨rfl, ⟨nd, rfl⟩⟩; (try first | exact ⟨rfl, _, World.drewN_drewN _ _ _⟩ | exact ⟨rfl, _, Eq.trans (World.drewN_drewN _ _ _) (congrArg (World.drewN _) (Nat.add_assoc _ _ _))⟩))); try go_wp2_with (first | (go_at_call 26; (with_reducible refine (spec_DrawBracketMates.calls k _ _ l0 t303 _ ?side1 ?side2 A3.out).mono ?_); (case side1 => repeat (first | exact HR0.out | (with_reducible refine Kd.C_alloc ?_ _) | (with_reducible refine Kd.C_drewN ?_ _) | (with_reducible refine Kd.C_drew ?_))); (case side2 => exact HC0.out); rintro e w10 ⟨rfl, hb⟩; have n0_ := Aside0.mk (below_step (by repeat (first | (with_reducible first | exact HB.out | apply below_alloc | apply pw_below_drewN | apply below_drew1) | exact HB.out)) hb); clear HB; have HB := n0_; clear n0_; (try clear hb); (try clear hb2); (try clear hk); (try clear hi)) | (go_at_call 20; (with_reducible refine (impl_BracketMates.calls k t303 t304 _ A4.out).mono ?_); rintro e w11 ⟨v305, rfl, ho0, hb⟩; have n0_ := Aside0.mk (Kd.R_lower ho0 (below_size (by repeat (first | (with_reducible first | exact HB.out | apply below_alloc | apply pw_below_drewN | apply below_drew1) | exact HB.out)))); have n1_ := Aside0.mk (below_step (by repeat (first | (with_reducible first | exact HB.out | apply below_alloc | apply pw_below_drewN | apply below_drew1) | exact HB.out)) hb); clear HB; have HO306 := n0_; have HB := n1_; clear n0_ n1_; (try clear hb); (try clear hb2); (try clear hk); (try clear hi); (try clear ho0)) | (go_at_call 19; (with_reducible refine (spec_BracketMates.calls k t303 t307 _ A5.out).mono ?_); rintro e w12 ⟨v308, rfl, ho0, hb⟩; have n0_ := Aside0.mk (Kd.R_elder' (by (with_reducible repeat (first | apply Kd.R_alloc | apply Kd.R_drewN | apply Kd.R_drew)); exact HO306.out) (Kd.R_base ho0) hb); have n1_ := Aside0.mk (Kd.R_lower (Kd.R_new' ho0 (Kd.R_lt (by (with_reducible repeat (first | apply Kd.R_alloc | apply Kd.R_drewN | apply Kd.R_drew)); exact HO306.out))) (below_size (by repeat (first | (with_reducible first | exact HB.out | apply below_alloc | apply pw_below_drewN | apply below_drew1) | exact HB.out)))); have n2_ := Aside0.mk (below_step (by repeat (first | (with_reducible first | exact HB.out | apply below_alloc | apply pw_below_drewN | apply below_drew1) | exact HB.out)) hb); clear HO306; clear HB; have HO306 := n0_; have HO309 := n1_; have HB := n2_; clear n0_ n1_ n2_; (try clear hb); (try clear hb2); (try clear hk); (try clear hi); (try clear ho0); obtain ⟨Ao13, co13, eo13⟩ := Kd.R_slice HO306.out; subst eo13; obtain ⟨Ao14, co14, eo14⟩ := Kd.R_slice HO309.out; subst eo14) | (go_at_call 27; (with_reducible refine (laws_sameInts.calls k _ _ t304 _ _ t307 true _ ?side1 ?side2 ?side3 ?side4 A6.out).mono ?_); (case side1 => repeat (first | exact (Kd.R_reads' HO306.out).2.2 | (with_reducible refine Kd.C_alloc ?_ _) | (with_reducible refine Kd.C_drewN ?_ _) | (with_reducible refine Kd.C_drew ?_))); (case side2 => exact (Kd.R_reads' HO306.out).2.1); (case side3 => repeat (first | exact (Kd.R_reads' HO309.out).2.2 | (with_reducible refine Kd.C_alloc ?_ _) | (with_reducible refine Kd.C_drewN ?_ _) | (with_reducible refine Kd.C_drew ?_))); (case side4 => exact (Kd.R_reads' HO309.out).2.1); rintro e w' ⟨rfl, ⟨nd, rfl⟩⟩; (try first | exact ⟨rfl, _, World.drewN_drewN _ _ _⟩ | exact ⟨rfl, _, Eq.trans (World.drewN_drewN _ _ _) (congrArg (World.drewN _) (Nat.add_assoc _ _ _))⟩)) | (go_at_call 28; (with_reducible refine (spec_TextValid.calls k t303 true _ A8.out).mono ?_); rintro e w' ⟨rfl, ⟨nd, rfl⟩⟩; (try first | exact ⟨rfl, _, World.drewN_drewN _ _ _⟩ | exact ⟨rfl, _, Eq.trans (World.drewN_drewN _ _ _) (congrArg (World.drewN _) (Nat.add_assoc _ _ _))⟩))))
        go_loopg [5] k (fun kq v5 w' => ∃ (x5_1 : Int), v5 = .int .i64 x5_1 ∧ Aside0 (laws_FnBracketMates.l0 kq t303 t304 x5_1 = some r) ∧ Aside0 (kq ≤ k) ∧ Aside0 (Kd.R (Kd.int .i64) 3 w' w.heap.size (fun _ => True) (.slice Ao13 t304.length co13) t304) ∧ Aside0 (Below w.heap.size w w'))
        case atStart => exact ⟨(0), (by first | rfl | (simp; done) | (simp [*]; done)), H', ⟨Nat.le_refl _⟩, ⟨by (with_reducible repeat (first | apply Kd.R_alloc | apply Kd.R_drewN | apply Kd.R_drew)); exact Kd.R_mono HO306.out (fun _ hk => trivial)⟩, ⟨by repeat (first | (with_reducible first | exact HB.out | apply below_alloc | apply pw_below_drewN | apply below_drew1) | exact HB.out)⟩⟩
        case round =>
          clear H'
          try clear c2
          try clear c2b0
          try clear c2b1
          try clear p2
          try clear c7
          try clear c9
          obtain ⟨x5_1, rfl, HA, HK1, HO_4, HB⟩ := hrel
          cases gk with
          | zero => exact absurd HA.out (by simp [laws_FnBracketMates.l0])
          | succ k1 =>
            have H := HA.out
            clear HA
            simp only [laws_FnBracketMates.l0] at H
            by_cases c15 : x5_1 < (t304.length : Int)
            · rw [if_pos c15] at H
              have c15b0 : decide (x5_1 < (t304.length : Int)) = true := decide_eq_true c15
              clear c15
              by_cases c16 : 0 ≤ x5_1
              · rw [if_pos c16] at H
                have c16b0 : decide (0 ≤ x5_1) = true := decide_eq_true c16
                clear c16
                by_cases c17 : (rd t304 x5_1) = (-1)
                · rw [if_pos c17] at H
                  have c17b0 : ((rd t304 x5_1) == (-1)) = true := beq_iff_eq.mpr c17
                  have c17b1 : ((rd t304 x5_1) != (-1)) = false := bne_eq_false_iff_eq.mpr c17
                  clear c17
                  have H' := Aside0.mk H
                  clear H
                  have p313 : 0 ≤ (x5_1 : Int) := of_decide_eq_true (by first | (with_reducible assumption) | assumption)
                  have q313 : x5_1 < (t304.length : Int) := of_decide_eq_true (by first | (with_reducible assumption) | assumption)
                  obtain ⟨ad313, e313, hx313_0⟩ := Kd.at_int (Kd.R_reads' HO_4.out).2.2 x5_1 p313 q313
                  cases e313
                  replace p313 := eq_true p313
                  replace q313 := eq_true q313
                  go_wp2
                  repeat (go_quiet (fail); try go_wp2)
                  go_roundg k1
                  case measure => have := HK1.out; omega
                  case rel => exact ⟨(wrap64 (x5_1 + 1)), (by first | rfl | (simp; done) | (simp [*]; done)), H', ⟨by have := HK1.out; omega⟩, ⟨by (with_reducible repeat (first | apply Kd.R_alloc | apply Kd.R_drewN | apply Kd.R_drew)); exact HO_4.out⟩, ⟨by repeat (first | (with_reducible first | exact HB.out | apply below_alloc | apply pw_below_drewN | apply below_drew1) | exact HB.out)⟩⟩
                · rw [if_neg c17] at H
                  have c17b0 : ((rd t304 x5_1) == (-1)) = false := beq_eq_false_iff_ne.mpr c17
                  have c17b1 : ((rd t304 x5_1) != (-1)) = true := bne_iff_ne.mpr c17
                  have HC18 := Aside0.mk H
                  clear H
                  have p313 : 0 ≤ (x5_1 : Int) := of_decide_eq_true (by first | (with_reducible assumption) | assumption)
                  have q313 : x5_1 < (t304.length : Int) := of_decide_eq_true (by first | (with_reducible assumption) | assumption)
                  obtain ⟨ad313, e313, hx313_0⟩ := Kd.at_int (Kd.R_reads' HO_4.out).2.2 x5_1 p313 q313
                  cases e313
                  replace p313 := eq_true p313
                  replace q313 := eq_true q313
                  go_upto_region 14 with (fail)
                  repeat (go_quiet (fail); go_upto_region 14 with (fail))
                  go_cut [62] (fun v62 wc => ∃ (kq : Nat) (x62_17 : Bool), v62 = .bool x62_17 ∧ Aside0 (laws_FnBracketMates.j1 kq t303 t304 x5_1 (rd t304 x5_1) x62_17 = some r) ∧ Aside0 (kq ≤ k1) ∧ Aside0 (Kd.R (Kd.int .i64) 3 wc w.heap.size (fun _ => True) (.slice (some ad313) t304.length co13) t304) ∧ Aside0 (Below w.heap.size w wc))
                  case first =>
                    have H := HC18.out
                    clear HC18
                    by_cases c19 : (rd t304 x5_1) < 0
                    · rw [if_pos c19] at H
                      have c19b0 : decide ((rd t304 x5_1) < 0) = true := decide_eq_true c19
                      clear c19
                      (first | rw [c19b0] | (simp only [i64_w, i32_w]; rw [c19b0]) | skip)
                      have H' := Aside0.mk H
                      clear H
                      go_wp2
                      repeat (go_quiet (fail); try go_wp2)
                      go_meet
                      case rel => exact ⟨_, (true), (by first | rfl | (simp; done) | (simp [*]; done)), H', ⟨by have := HK1.out; first | omega | exact Nat.le_refl _⟩, ⟨by (with_reducible repeat (first | apply Kd.R_alloc | apply Kd.R_drewN | apply Kd.R_drew)); exact HO_4.out⟩, ⟨by repeat (first | (with_reducible first | exact HB.out | apply below_alloc | apply pw_below_drewN | apply below_drew1) | exact HB.out)⟩⟩
                    · rw [if_neg c19] at H
                      have c19b0 : decide ((rd t304 x5_1) < 0) = false := decide_eq_false c19
                      clear c19
                      (first | rw [c19b0] | (simp only [i64_w, i32_w]; rw [c19b0]) | skip)
                      by_cases c20 : (rd t304 x5_1) ≥ (t303.size : Int)
                      · rw [if_pos c20] at H
                        have c20b0 : decide ((t303.size : Int) ≤ (rd t304 x5_1)) = true := decide_eq_true c20
                        clear c20
                        have H' := Aside0.mk H
                        clear H
                        go_wp2
                        repeat (go_quiet (fail); try go_wp2)
                        go_meet
                        case rel => exact ⟨_, (true), (by first | rfl | (simp; done) | (simp [*]; done)), H', ⟨by have := HK1.out; first | omega | exact Nat.le_refl _⟩, ⟨by (with_reducible repeat (first | apply Kd.R_alloc | apply Kd.R_drewN | apply Kd.R_drew)); exact HO_4.out⟩, ⟨by repeat (first | (with_reducible first | exact HB.out | apply below_alloc | apply pw_below_drewN | apply below_drew1) | exact HB.out)⟩⟩
                      · rw [if_neg c20] at H
                        have c20b0 : decide ((t303.size : Int) ≤ (rd t304 x5_1)) = false := decide_eq_false c20
                        clear c20
                        by_cases c21 : 0 ≤ (rd t304 x5_1)
                        · rw [if_pos c21] at H
                          have c21b0 : decide (0 ≤ (rd t304 x5_1)) = true := decide_eq_true c21
                          clear c21
                          by_cases c22 : (rd t304 x5_1) < (t304.length : Int)
                          · rw [if_pos c22] at H
                            have c22b0 : decide ((rd t304 x5_1) < (t304.length : Int)) = true := decide_eq_true c22
                            clear c22
                            by_cases c23 : (rd t304 (rd t304 x5_1)) = x5_1
                            · rw [if_pos c23] at H
                              have c23b0 : ((rd t304 (rd t304 x5_1)) == x5_1) = true := beq_iff_eq.mpr c23
                              have c23b1 : ((rd t304 (rd t304 x5_1)) != x5_1) = false := bne_eq_false_iff_eq.mpr c23
                              clear c23
                              have H' := Aside0.mk H
                              clear H
                              have p314 : 0 ≤ ((rd t304 x5_1) : Int) := of_decide_eq_true (by first | (with_reducible assumption) | assumption)
                              have q314 : (rd t304 x5_1) < (t304.length : Int) := of_decide_eq_true (by first | (with_reducible assumption) | assumption)
                              obtain ⟨ad314, e314, hx314_0⟩ := Kd.at_int (Kd.R_reads' HO_4.out).2.2 (rd t304 x5_1) p314 q314
                              obtain rfl : ad313 = ad314 := (by injection e314)
                              replace p314 := eq_true p314
                              replace q314 := eq_true q314
                              go_wp2
                              repeat (go_quiet (fail); try go_wp2)
                              go_meet
                              case rel => exact ⟨_, (((rd t304 x5_1) == x5_1)), (by first | rfl | (simp; done) | (simp [*]; done)), H', ⟨by have := HK1.out; first | omega | exact Nat.le_refl _⟩, ⟨by (with_reducible repeat (first | apply Kd.R_alloc | apply Kd.R_drewN | apply Kd.R_drew)); exact HO_4.out⟩, ⟨by repeat (first | (with_reducible first | exact HB.out | apply below_alloc | apply pw_below_drewN | apply below_drew1) | exact HB.out)⟩⟩
                            · rw [if_neg c23] at H
                              have c23b0 : ((rd t304 (rd t304 x5_1)) == x5_1) = false := beq_eq_false_iff_ne.mpr c23
                              have c23b1 : ((rd t304 (rd t304 x5_1)) != x5_1) = true := bne_iff_ne.mpr c23
                              have H' := Aside0.mk H
                              clear H
                              have p314 : 0 ≤ ((rd t304 x5_1) : Int) := of_decide_eq_true (by first | (with_reducible assumption) | assumption)
                              have q314 : (rd t304 x5_1) < (t304.length : Int) := of_decide_eq_true (by first | (with_reducible assumption) | assumption)
                              obtain ⟨ad314, e314, hx314_0⟩ := Kd.at_int (Kd.R_reads' HO_4.out).2.2 (rd t304 x5_1) p314 q314
                              obtain rfl : ad313 = ad314 := (by injection e314)
                              replace p314 := eq_true p314
                              replace q314 := eq_true q314
                              go_wp2
                              repeat (go_quiet (fail); try go_wp2)
                              go_meet
                              case rel => exact ⟨_, (true), (by first | rfl | (simp; done) | (simp [*]; done)), H', ⟨by have := HK1.out; first | omega | exact Nat.le_refl _⟩, ⟨by (with_reducible repeat (first | apply Kd.R_alloc | apply Kd.R_drewN | apply Kd.R_drew)); exact HO_4.out⟩, ⟨by repeat (first | (with_reducible first | exact HB.out | apply below_alloc | apply pw_below_drewN | apply below_drew1) | exact HB.out)⟩⟩
                          · rw [if_neg c22] at H
                            exact absurd H (by simp)
                        · rw [if_neg c21] at H
                          exact absurd H (by simp)
                  case rest =>
                    clear HC18
                    try clear c1
                    try clear c2
                    try clear c2b0
                    try clear c2b1
                    try clear p2
                    try clear p3
                    try clear q3
                    try clear hx3
                    try clear p6
                    try clear c7
                    try clear c9
                    try clear c15
                    try clear c15b0
                    try clear c16
                    try clear c16b0
                    try clear c17
                    try clear c17b0
                    try clear c17b1
                    try clear c19
                    try clear c19b0
                    try clear c20
                    try clear c20b0
                    try clear c21
                    try clear c21b0
                    try clear c22
                    try clear c22b0
                    try clear c23
                    try clear c23b0
                    try clear c23b1
                    try clear hx313_0
                    try clear hx314_0
                    try clear p2
                    try clear p313
                    try clear p314
                    try clear q313
                    try clear q314
                    obtain ⟨kq, x62_17, rfl, HA, HJ17, HO_4, HB⟩ := hcut
                    cases kq with
                    | zero => exact absurd HA.out (by simp [laws_FnBracketMates.j1])
                    | succ kj17 =>
                      have H := HA.out
                      clear HA
                      simp only [laws_FnBracketMates.j1] at H
                      by_cases c24 : x62_17 = true
                      · subst c24
                        have H1 : (some false) = some r := by rw [if_pos rfl] at H; exact H
                        clear H
                        have H := H1
                        clear H1
                        obtain rfl := Option.some.inj H
                        go_wp2
                        repeat (go_quiet (fail); try go_wp2)
                        go_ret
                        exact ⟨by first | rfl | (simp [errW_none, errW_some] <;> rfl) | (simp [*, errW_none, errW_some] <;> rfl), by repeat (first | (with_reducible first | exact HB.out | apply below_alloc | apply pw_below_drewN | apply below_drew1) | exact HB.out)⟩
                      · replace c24 := Bool.eq_false_iff.mpr c24
                        subst c24
                        have H1 : (if 0 ≤ (mn x5_1 (rd t304 x5_1)) then (if (mn x5_1 (rd t304 x5_1)) ≤ (wrap64 ((mn x5_1 (rd t304 x5_1)) + 1)) then (if (wrap64 ((mn x5_1 (rd t304 x5_1)) + 1)) ≤ (t303.size : Int) then (if 0 ≤ (mx x5_1 (rd t304 x5_1)) then (if (mx x5_1 (rd t304 x5_1)) ≤ (wrap64 ((mx x5_1 (rd t304 x5_1)) + 1)) then (if (wrap64 ((mx x5_1 (rd t304 x5_1)) + 1)) ≤ (t303.size : Int) then (if (t303.extract ((mn x5_1 (rd t304 x5_1)) : Int).toNat ((wrap64 ((mn x5_1 (rd t304 x5_1)) + 1)) : Int).toNat).size + (t303.extract ((mx x5_1 (rd t304 x5_1)) : Int).toNat ((wrap64 ((mx x5_1 (rd t304 x5_1)) + 1)) : Int).toNat).size ≤ 9223372036854775807 then (if ((t303.extract ((mn x5_1 (rd t304 x5_1)) : Int).toNat ((wrap64 ((mn x5_1 (rd t304 x5_1)) + 1)) : Int).toNat) ++ (t303.extract ((mx x5_1 (rd t304 x5_1)) : Int).toNat ((wrap64 ((mx x5_1 (rd t304 x5_1)) + 1)) : Int).toNat)).toList = ([40, 41] : List UInt8) then (laws_FnBracketMates.j2 kj17 t303 t304 x5_1 (rd t304 x5_1) false) else (if ((t303.extract ((mn x5_1 (rd t304 x5_1)) : Int).toNat ((wrap64 ((mn x5_1 (rd t304 x5_1)) + 1)) : Int).toNat) ++ (t303.extract ((mx x5_1 (rd t304 x5_1)) : Int).toNat ((wrap64 ((mx x5_1 (rd t304 x5_1)) + 1)) : Int).toNat)).toList = ([91, 93] : List UInt8) then (laws_FnBracketMates.j2 kj17 t303 t304 x5_1 (rd t304 x5_1) false) else (laws_FnBracketMates.j2 kj17 t303 t304 x5_1 (rd t304 x5_1) (((t303.extract ((mn x5_1 (rd t304 x5_1)) : Int).toNat ((wrap64 ((mn x5_1 (rd t304 x5_1)) + 1)) : Int).toNat) ++ (t303.extract ((mx x5_1 (rd t304 x5_1)) : Int).toNat ((wrap64 ((mx x5_1 (rd t304 x5_1)) + 1)) : Int).toNat)).toList != ([123, 125] : List UInt8))))) else (none)) else (none)) else (none)) else (none)) else (none)) else (none)) else (none)) = some r := by rw [if_neg (show ¬ (false = true) by decide)] at H; exact H
                        clear H
                        have H := H1
                        clear H1
                        obtain ⟨ji25, hji25⟩ : ∃ j_ : Int, (mn x5_1 (rd t304 x5_1)) = j_ := ⟨_, rfl⟩
                        replace H : (if 0 ≤ (ji25) then (if (ji25) ≤ (wrap64 ((ji25) + 1)) then (if (wrap64 ((ji25) + 1)) ≤ (t303.size : Int) then (if 0 ≤ (mx x5_1 (rd t304 x5_1)) then (if (mx x5_1 (rd t304 x5_1)) ≤ (wrap64 ((mx x5_1 (rd t304 x5_1)) + 1)) then (if (wrap64 ((mx x5_1 (rd t304 x5_1)) + 1)) ≤ (t303.size : Int) then (if (t303.extract ((ji25) : Int).toNat ((wrap64 ((ji25) + 1)) : Int).toNat).size + (t303.extract ((mx x5_1 (rd t304 x5_1)) : Int).toNat ((wrap64 ((mx x5_1 (rd t304 x5_1)) + 1)) : Int).toNat).size ≤ 9223372036854775807 then (if ((t303.extract ((ji25) : Int).toNat ((wrap64 ((ji25) + 1)) : Int).toNat) ++ (t303.extract ((mx x5_1 (rd t304 x5_1)) : Int).toNat ((wrap64 ((mx x5_1 (rd t304 x5_1)) + 1)) : Int).toNat)).toList = ([40, 41] : List UInt8) then (laws_FnBracketMates.j2 kj17 t303 t304 x5_1 (rd t304 x5_1) false) else (if ((t303.extract ((ji25) : Int).toNat ((wrap64 ((ji25) + 1)) : Int).toNat) ++ (t303.extract ((mx x5_1 (rd t304 x5_1)) : Int).toNat ((wrap64 ((mx x5_1 (rd t304 x5_1)) + 1)) : Int).toNat)).toList = ([91, 93] : List UInt8) then (laws_FnBracketMates.j2 kj17 t303 t304 x5_1 (rd t304 x5_1) false) else (laws_FnBracketMates.j2 kj17 t303 t304 x5_1 (rd t304 x5_1) (((t303.extract ((ji25) : Int).toNat ((wrap64 ((ji25) + 1)) : Int).toNat) ++ (t303.extract ((mx x5_1 (rd t304 x5_1)) : Int).toNat ((wrap64 ((mx x5_1 (rd t304 x5_1)) + 1)) : Int).toNat)).toList != ([123, 125] : List UInt8))))) else (none)) else (none)) else (none)) else (none)) else (none)) else (none)) else (none)) = some r := by first | (rw [hji25] at H; exact H) | (simp only [hji25] at H ⊢; exact H)
                        have hji25_ : (if (rd t304 x5_1) < x5_1 then (rd t304 x5_1) else x5_1) = ji25 := hji25
                        by_cases c26 : 0 ≤ (ji25)
                        · rw [if_pos c26] at H
                          have c26b0 := eq_true c26
                          have c26b1 : decide (0 ≤ (ji25)) = true := decide_eq_true c26
                          clear c26
                          by_cases c27 : (ji25) ≤ (wrap64 ((ji25) + 1))
                          · rw [if_pos c27] at H
                            have c27b0 := eq_true c27
                            have c27b1 : decide ((ji25) ≤ (wrap64 ((ji25) + 1))) = true := decide_eq_true c27
                            by_cases c28 : (wrap64 ((ji25) + 1)) ≤ (t303.size : Int)
                            · rw [if_pos c28] at H
                              have c28b0 := eq_true c28
                              have c28b1 : decide ((wrap64 ((ji25) + 1)) ≤ (t303.size : Int)) = true := decide_eq_true c28
                              obtain ⟨ji29, hji29⟩ : ∃ j_ : Int, (mx x5_1 (rd t304 x5_1)) = j_ := ⟨_, rfl⟩
                              replace H : (if 0 ≤ (ji29) then (if (ji29) ≤ (wrap64 ((ji29) + 1)) then (if (wrap64 ((ji29) + 1)) ≤ (t303.size : Int) then (if (t303.extract ((ji25) : Int).toNat ((wrap64 ((ji25) + 1)) : Int).toNat).size + (t303.extract ((ji29) : Int).toNat ((wrap64 ((ji29) + 1)) : Int).toNat).size ≤ 9223372036854775807 then (if ((t303.extract ((ji25) : Int).toNat ((wrap64 ((ji25) + 1)) : Int).toNat) ++ (t303.extract ((ji29) : Int).toNat ((wrap64 ((ji29) + 1)) : Int).toNat)).toList = ([40, 41] : List UInt8) then (laws_FnBracketMates.j2 kj17 t303 t304 x5_1 (rd t304 x5_1) false) else (if ((t303.extract ((ji25) : Int).toNat ((wrap64 ((ji25) + 1)) : Int).toNat) ++ (t303.extract ((ji29) : Int).toNat ((wrap64 ((ji29) + 1)) : Int).toNat)).toList = ([91, 93] : List UInt8) then (laws_FnBracketMates.j2 kj17 t303 t304 x5_1 (rd t304 x5_1) false) else (laws_FnBracketMates.j2 kj17 t303 t304 x5_1 (rd t304 x5_1) (((t303.extract ((ji25) : Int).toNat ((wrap64 ((ji25) + 1)) : Int).toNat) ++ (t303.extract ((ji29) : Int).toNat ((wrap64 ((ji29) + 1)) : Int).toNat)).toList != ([123, 125] : List UInt8))))) else (none)) else (none)) else (none)) else (none)) = some r := by first | (rw [hji29] at H; exact H) | (simp only [hji29] at H ⊢; exact H)
                              have hji29_ : (if x5_1 < (rd t304 x5_1) then (rd t304 x5_1) else x5_1) = ji29 := hji29
                              by_cases c30 : 0 ≤ (ji29)
                              · rw [if_pos c30] at H
                                have c30b0 := eq_true c30
                                have c30b1 : decide (0 ≤ (ji29)) = true := decide_eq_true c30
                                clear c30
                                by_cases c31 : (ji29) ≤ (wrap64 ((ji29) + 1))
                                · rw [if_pos c31] at H
                                  have c31b0 := eq_true c31
                                  have c31b1 : decide ((ji29) ≤ (wrap64 ((ji29) + 1))) = true := decide_eq_true c31
                                  by_cases c32 : (wrap64 ((ji29) + 1)) ≤ (t303.size : Int)
                                  · rw [if_pos c32] at H
                                    have c32b0 := eq_true c32
                                    have c32b1 : decide ((wrap64 ((ji29) + 1)) ≤ (t303.size : Int)) = true := decide_eq_true c32
                                    by_cases c33 : (t303.extract ((ji25) : Int).toNat ((wrap64 ((ji25) + 1)) : Int).toNat).size + (t303.extract ((ji29) : Int).toNat ((wrap64 ((ji29) + 1)) : Int).toNat).size ≤ 9223372036854775807
                                    · rw [if_pos c33] at H
                                      have c33b0 := eq_true c33
                                      have c33b1 : decide ((t303.extract ((ji25) : Int).toNat ((wrap64 ((ji25) + 1)) : Int).toNat).size + (t303.extract ((ji29) : Int).toNat ((wrap64 ((ji29) + 1)) : Int).toNat).size ≤ 9223372036854775807) = true := decide_eq_true c33
                                      try have c33b2 : (9223372036854775807 < (t303.extract ((ji25) : Int).toNat ((wrap64 ((ji25) + 1)) : Int).toNat).size + (t303.extract ((ji29) : Int).toNat ((wrap64 ((ji29) + 1)) : Int).toNat).size) = False := eq_false (Nat.not_lt.2 c33)
                                      have HC34 := Aside0.mk H
                                      clear H
                                      go_upto_region 17 with (fail)
                                      repeat (go_quiet (fail); go_upto_region 17 with (fail))
                                      go_cut [91] (fun v91 wc => ∃ (kq : Nat) (x91_33 : Bool), v91 = .bool x91_33 ∧ Aside0 (laws_FnBracketMates.j2 kq t303 t304 x5_1 (rd t304 x5_1) x91_33 = some r) ∧ Aside0 (kq ≤ kj17) ∧ Aside0 (Kd.R (Kd.int .i64) 3 wc w.heap.size (fun _ => True) (.slice (some ad313) t304.length co13) t304) ∧ Aside0 (Below w.heap.size w wc))
                                      case first =>
                                        have H := HC34.out
                                        clear HC34
                                        by_cases c35 : ((t303.extract ((ji25) : Int).toNat ((wrap64 ((ji25) + 1)) : Int).toNat) ++ (t303.extract ((ji29) : Int).toNat ((wrap64 ((ji29) + 1)) : Int).toNat)).toList = ([40, 41] : List UInt8)
                                        · rw [if_pos c35] at H
                                          have c35b0 : (((t303.extract ((ji25) : Int).toNat ((wrap64 ((ji25) + 1)) : Int).toNat) ++ (t303.extract ((ji29) : Int).toNat ((wrap64 ((ji29) + 1)) : Int).toNat)).toList == ([40, 41] : List UInt8)) = true := beq_iff_eq.mpr c35
                                          have c35b1 : (((t303.extract ((ji25) : Int).toNat ((wrap64 ((ji25) + 1)) : Int).toNat) ++ (t303.extract ((ji29) : Int).toNat ((wrap64 ((ji29) + 1)) : Int).toNat)).toList != ([40, 41] : List UInt8)) = false := bne_eq_false_iff_eq.mpr c35
                                          clear c35
                                          (first | rw [c35b0] | (simp only [i64_w, i32_w]; rw [c35b0]) | skip)
                                          have H' := Aside0.mk H
                                          clear H
                                          go_wp2
                                          repeat (go_quiet (fail); try go_wp2)
                                          go_meet
                                          case rel => exact ⟨_, (false), (by first | rfl | (simp; done) | (simp [*]; done)), H', ⟨by have := HK1.out; have := HJ17.out; first | omega | exact Nat.le_refl _⟩, ⟨by (with_reducible repeat (first | apply Kd.R_alloc | apply Kd.R_drewN | apply Kd.R_drew)); exact HO_4.out⟩, ⟨by repeat (first | (with_reducible first | exact HB.out | apply below_alloc | apply pw_below_drewN | apply below_drew1) | exact HB.out)⟩⟩
                                        · rw [if_neg c35] at H
                                          have c35b0 : (((t303.extract ((ji25) : Int).toNat ((wrap64 ((ji25) + 1)) : Int).toNat) ++ (t303.extract ((ji29) : Int).toNat ((wrap64 ((ji29) + 1)) : Int).toNat)).toList == ([40, 41] : List UInt8)) = false := beq_eq_false_iff_ne.mpr c35
                                          have c35b1 : (((t303.extract ((ji25) : Int).toNat ((wrap64 ((ji25) + 1)) : Int).toNat) ++ (t303.extract ((ji29) : Int).toNat ((wrap64 ((ji29) + 1)) : Int).toNat)).toList != ([40, 41] : List UInt8)) = true := bne_iff_ne.mpr c35
                                          (first | rw [c35b0] | (simp only [i64_w, i32_w]; rw [c35b0]) | skip)
                                          by_cases c36 : ((t303.extract ((ji25) : Int).toNat ((wrap64 ((ji25) + 1)) : Int).toNat) ++ (t303.extract ((ji29) : Int).toNat ((wrap64 ((ji29) + 1)) : Int).toNat)).toList = ([91, 93] : List UInt8)
                                          · rw [if_pos c36] at H
                                            have c36b0 : (((t303.extract ((ji25) : Int).toNat ((wrap64 ((ji25) + 1)) : Int).toNat) ++ (t303.extract ((ji29) : Int).toNat ((wrap64 ((ji29) + 1)) : Int).toNat)).toList == ([91, 93] : List UInt8)) = true := beq_iff_eq.mpr c36
                                            have c36b1 : (((t303.extract ((ji25) : Int).toNat ((wrap64 ((ji25) + 1)) : Int).toNat) ++ (t303.extract ((ji29) : Int).toNat ((wrap64 ((ji29) + 1)) : Int).toNat)).toList != ([91, 93] : List UInt8)) = false := bne_eq_false_iff_eq.mpr c36
                                            clear c36
                                            have H' := Aside0.mk H
                                            clear H
                                            go_wp2
                                            repeat (go_quiet (fail); try go_wp2)
                                            go_meet
                                            case rel => exact ⟨_, (false), (by first | rfl | (simp; done) | (simp [*]; done)), H', ⟨by have := HK1.out; have := HJ17.out; first | omega | exact Nat.le_refl _⟩, ⟨by (with_reducible repeat (first | apply Kd.R_alloc | apply Kd.R_drewN | apply Kd.R_drew)); exact HO_4.out⟩, ⟨by repeat (first | (with_reducible first | exact HB.out | apply below_alloc | apply pw_below_drewN | apply below_drew1) | exact HB.out)⟩⟩
                                          · rw [if_neg c36] at H
                                            have c36b0 : (((t303.extract ((ji25) : Int).toNat ((wrap64 ((ji25) + 1)) : Int).toNat) ++ (t303.extract ((ji29) : Int).toNat ((wrap64 ((ji29) + 1)) : Int).toNat)).toList == ([91, 93] : List UInt8)) = false := beq_eq_false_iff_ne.mpr c36
                                            have c36b1 : (((t303.extract ((ji25) : Int).toNat ((wrap64 ((ji25) + 1)) : Int).toNat) ++ (t303.extract ((ji29) : Int).toNat ((wrap64 ((ji29) + 1)) : Int).toNat)).toList != ([91, 93] : List UInt8)) = true := bne_iff_ne.mpr c36
                                            have H' := Aside0.mk H
                                            clear H
                                            go_wp2
                                            repeat (go_quiet (fail); try go_wp2)
                                            go_meet
                                            case rel => exact ⟨_, ((((t303.extract ((ji25) : Int).toNat ((wrap64 ((ji25) + 1)) : Int).toNat) ++ (t303.extract ((ji29) : Int).toNat ((wrap64 ((ji29) + 1)) : Int).toNat)).toList != ([123, 125] : List UInt8))), (by first | rfl | (simp; done) | (simp only [← hji25, ← hji29] <;> (first | rfl | simp)) | (simp [*]; done)), H', ⟨by have := HK1.out; have := HJ17.out; first | omega | exact Nat.le_refl _⟩, ⟨by (with_reducible repeat (first | apply Kd.R_alloc | apply Kd.R_drewN | apply Kd.R_drew)); exact HO_4.out⟩, ⟨by repeat (first | (with_reducible first | exact HB.out | apply below_alloc | apply pw_below_drewN | apply below_drew1) | exact HB.out)⟩⟩
                                      case rest =>
                                        clear HC34
                                        try clear c1
                                        try clear c2
                                        try clear c2b0
                                        try clear c2b1
                                        try clear p2
                                        try clear c3
                                        try clear p3
                                        try clear q3
                                        try clear hx3
                                        try clear p6
                                        try clear c7
                                        try clear c9
                                        try clear c15
                                        try clear c15b0
                                        try clear c16
                                        try clear c16b0
                                        try clear c17
                                        try clear c17b0
                                        try clear c17b1
                                        try clear c19
                                        try clear c19b0
                                        try clear c20
                                        try clear c20b0
                                        try clear c21
                                        try clear c21b0
                                        try clear c22
                                        try clear c22b0
                                        try clear c23
                                        try clear c23b0
                                        try clear c23b1
                                        try clear c24
                                        try clear c26
                                        try clear c26b0
                                        try clear c26b1
                                        try clear c27
                                        try clear c27b0
                                        try clear c27b1
                                        try clear c28
                                        try clear c28b0
                                        try clear c28b1
                                        try clear c30
                                        try clear c30b0
                                        try clear c30b1
                                        try clear c31
                                        try clear c31b0
                                        try clear c31b1
                                        try clear p31
                                        try clear q31
                                        try clear hx31
                                        try clear c32
                                        try clear c32b0
                                        try clear c32b1
                                        try clear c33
                                        try clear c33b0
                                        try clear c33b1
                                        try clear c33b2
                                        try clear c35
                                        try clear c35b0
                                        try clear c35b1
                                        try clear c36
                                        try clear c36b0
                                        try clear c36b1
                                        try clear hx313_0
                                        try clear hx314_0
                                        try clear p2
                                        try clear p3
                                        try clear p313
                                        try clear p314
                                        try clear p6
                                        try clear q3
                                        try clear q313
                                        try clear q314
                                        obtain ⟨kq, x91_33, rfl, HA, HJ33, HO_4, HB⟩ := hcut
                                        cases kq with
                                        | zero => exact absurd HA.out (by simp [laws_FnBracketMates.j2])
                                        | succ kj33 =>
                                          have H := HA.out
                                          clear HA
                                          simp only [laws_FnBracketMates.j2] at H
                                          by_cases c37 : x91_33 = true
                                          · subst c37
                                            have H1 : (some false) = some r := by rw [if_pos rfl] at H; exact H
                                            clear H
                                            have H := H1
                                            clear H1
                                            obtain rfl := Option.some.inj H
                                            go_wp2
                                            repeat (go_quiet (fail); try go_wp2)
                                            go_ret
                                            exact ⟨by first | rfl | (simp [errW_none, errW_some] <;> rfl) | (simp only [← hji25, ← hji29]; first | rfl | (simp [errW_none, errW_some] <;> rfl)) | (simp [*, errW_none, errW_some] <;> rfl), by repeat (first | (with_reducible first | exact HB.out | apply below_alloc | apply pw_below_drewN | apply below_drew1) | exact HB.out)⟩
                                          · replace c37 := Bool.eq_false_iff.mpr c37
                                            subst c37
                                            have H1 : (laws_FnBracketMates.l1 kj33 t303 t304 x5_1 (rd t304 x5_1) (wrap64 ((mn x5_1 (rd t304 x5_1)) + 1))) = some r := by rw [if_neg (show ¬ (false = true) by decide)] at H; exact H
                                            clear H
                                            have H := H1
                                            clear H1
                                            replace H : (laws_FnBracketMates.l1 kj33 t303 t304 x5_1 (rd t304 x5_1) (wrap64 ((ji25) + 1))) = some r := by first | (rw [hji25] at H; exact H) | (simp only [hji25] at H ⊢; exact H) | exact H
                                            have H' := Aside0.mk H
                                            clear H
                                            go_wp2
                                            repeat (go_quiet (fail); try go_wp2)
                                            go_loopg [8] kj33 (fun kq v8 w' => ∃ (x8_4 : Int), v8 = .int .i64 x8_4 ∧ Aside0 (laws_FnBracketMates.l1 kq t303 t304 x5_1 (rd t304 x5_1) x8_4 = some r) ∧ Aside0 (kq ≤ kj33) ∧ Aside0 (Kd.R (Kd.int .i64) 3 w' w.heap.size (fun _ => True) (.slice (some ad313) t304.length co13) t304) ∧ Aside0 (Below w.heap.size w w'))
                                            case atStart => exact ⟨(wrap64 ((ji25) + 1)), (by first | rfl | (simp; done) | (simp only [← hji25] <;> (first | rfl | simp)) | (simp [*]; done)), H', ⟨Nat.le_refl _⟩, ⟨by (with_reducible repeat (first | apply Kd.R_alloc | apply Kd.R_drewN | apply Kd.R_drew)); exact HO_4.out⟩, ⟨by repeat (first | (with_reducible first | exact HB.out | apply below_alloc | apply pw_below_drewN | apply below_drew1) | exact HB.out)⟩⟩
                                            case round =>
                                              clear H'
                                              try clear c1
                                              try clear c2
                                              try clear c2b0
                                              try clear c2b1
                                              try clear p2
                                              try clear c3
                                              try clear p3
                                              try clear q3
                                              try clear hx3
                                              try clear p6
                                              try clear c7
                                              try clear c9
                                              try clear c15
                                              try clear c15b0
                                              try clear c16
                                              try clear c16b0
                                              try clear c17
                                              try clear c17b0
                                              try clear c17b1
                                              try clear c19
                                              try clear c19b0
                                              try clear c20
                                              try clear c20b0
                                              try clear c21
                                              try clear c21b0
                                              try clear c22
                                              try clear c22b0
                                              try clear c23
                                              try clear c23b0
                                              try clear c23b1
                                              try clear c24
                                              try clear c26
                                              try clear c26b0
                                              try clear c26b1
                                              try clear c27
                                              try clear c27b0
                                              try clear c27b1
                                              try clear c28
                                              try clear c28b0
                                              try clear c28b1
                                              try clear c30
                                              try clear c30b0
                                              try clear c30b1
                                              try clear c31
                                              try clear c31b0
                                              try clear c31b1
                                              try clear p31
                                              try clear q31
                                              try clear hx31
                                              try clear c32
                                              try clear c32b0
                                              try clear c32b1
                                              try clear c33
                                              try clear c33b0
                                              try clear c33b1
                                              try clear c33b2
                                              try clear c35
                                              try clear c35b0
                                              try clear c35b1
                                              try clear c36
                                              try clear c36b0
                                              try clear c36b1
                                              try clear c37
                                              try clear hx313_0
                                              try clear hx314_0
                                              try clear p2
                                              try clear p3
                                              try clear p31
                                              try clear p313
                                              try clear p314
                                              try clear p6
                                              try clear q3
                                              try clear q31
                                              try clear q313
                                              try clear q314
                                              obtain ⟨x8_4, rfl, HA, HK4, HO_4, HB⟩ := hrel
                                              cases gk with
                                              | zero => exact absurd HA.out (by simp [laws_FnBracketMates.l1])
                                              | succ k4 =>
                                                have H := HA.out
                                                clear HA
                                                simp only [laws_FnBracketMates.l1] at H
                                                replace H : (if x8_4 < (ji29) then (if 0 ≤ x8_4 then (if x8_4 < (t304.length : Int) then (if (rd t304 x8_4) = (-1) then (laws_FnBracketMates.l1 k4 t303 t304 x5_1 (rd t304 x5_1) (wrap64 (x8_4 + 1))) else (if (rd t304 x8_4) < (mn x5_1 (rd t304 x5_1)) then (some false) else (if (rd t304 x8_4) > (ji29) then (some false) else (laws_FnBracketMates.l1 k4 t303 t304 x5_1 (rd t304 x5_1) (wrap64 (x8_4 + 1)))))) else (none)) else (none)) else (laws_FnBracketMates.l0 k4 t303 t304 (wrap64 (x5_1 + 1)))) = some r := by first | (rw [hji29] at H; exact H) | (simp only [hji29] at H ⊢; exact H) | exact H
                                                by_cases c38 : x8_4 < (ji29)
                                                · rw [if_pos c38] at H
                                                  have c38b0 : decide (x8_4 < (ji29)) = true := decide_eq_true c38
                                                  clear c38
                                                  by_cases c39 : 0 ≤ x8_4
                                                  · rw [if_pos c39] at H
                                                    have c39b0 : decide (0 ≤ x8_4) = true := decide_eq_true c39
                                                    clear c39
                                                    by_cases c40 : x8_4 < (t304.length : Int)
                                                    · rw [if_pos c40] at H
                                                      have c40b0 : decide (x8_4 < (t304.length : Int)) = true := decide_eq_true c40
                                                      clear c40
                                                      by_cases c41 : (rd t304 x8_4) = (-1)
                                                      · rw [if_pos c41] at H
                                                        have c41b0 : ((rd t304 x8_4) == (-1)) = true := beq_iff_eq.mpr c41
                                                        have c41b1 : ((rd t304 x8_4) != (-1)) = false := bne_eq_false_iff_eq.mpr c41
                                                        clear c41
                                                        have H' := Aside0.mk H
                                                        clear H
                                                        have p315 : 0 ≤ (x8_4 : Int) := of_decide_eq_true (by first | (with_reducible assumption) | assumption)
                                                        have q315 : x8_4 < (t304.length : Int) := of_decide_eq_true (by first | (with_reducible assumption) | assumption)
                                                        obtain ⟨ad315, e315, hx315_0⟩ := Kd.at_int (Kd.R_reads' HO_4.out).2.2 x8_4 p315 q315
                                                        obtain rfl : ad313 = ad315 := (by injection e315)
                                                        replace p315 := eq_true p315
                                                        replace q315 := eq_true q315
                                                        go_wp2
                                                        repeat (go_quiet (fail); try go_wp2)
                                                        go_roundg k4
                                                        case measure => have := HK1.out; have := HJ17.out; have := HJ33.out; have := HK4.out; omega
                                                        case rel => exact ⟨(wrap64 (x8_4 + 1)), (by first | rfl | (simp; done) | (simp [*]; done)), H', ⟨by have := HK1.out; have := HJ17.out; have := HJ33.out; have := HK4.out; omega⟩, ⟨by (with_reducible repeat (first | apply Kd.R_alloc | apply Kd.R_drewN | apply Kd.R_drew)); exact HO_4.out⟩, ⟨by repeat (first | (with_reducible first | exact HB.out | apply below_alloc | apply pw_below_drewN | apply below_drew1) | exact HB.out)⟩⟩
                                                      · rw [if_neg c41] at H
                                                        have c41b0 : ((rd t304 x8_4) == (-1)) = false := beq_eq_false_iff_ne.mpr c41
                                                        have c41b1 : ((rd t304 x8_4) != (-1)) = true := bne_iff_ne.mpr c41
                                                        replace H : (if (rd t304 x8_4) < (ji25) then (some false) else (if (rd t304 x8_4) > (ji29) then (some false) else (laws_FnBracketMates.l1 k4 t303 t304 x5_1 (rd t304 x5_1) (wrap64 (x8_4 + 1))))) = some r := by first | (rw [hji25] at H; exact H) | (simp only [hji25] at H ⊢; exact H) | exact H
                                                        by_cases c42 : (rd t304 x8_4) < (ji25)
                                                        · rw [if_pos c42] at H
                                                          have c42b0 : decide ((rd t304 x8_4) < (ji25)) = true := decide_eq_true c42
                                                          clear c42
                                                          obtain rfl := Option.some.inj H
                                                          have p315 : 0 ≤ (x8_4 : Int) := of_decide_eq_true (by first | (with_reducible assumption) | assumption)
                                                          have q315 : x8_4 < (t304.length : Int) := of_decide_eq_true (by first | (with_reducible assumption) | assumption)
                                                          obtain ⟨ad315, e315, hx315_0⟩ := Kd.at_int (Kd.R_reads' HO_4.out).2.2 x8_4 p315 q315
                                                          obtain rfl : ad313 = ad315 := (by injection e315)
                                                          replace p315 := eq_true p315
                                                          replace q315 := eq_true q315
                                                          have p316 : 0 ≤ (x8_4 : Int) := of_decide_eq_true (by first | (with_reducible assumption) | assumption)
                                                          have q316 : x8_4 < (t304.length : Int) := of_decide_eq_true (by first | (with_reducible assumption) | assumption)
                                                          obtain ⟨ad316, e316, hx316_0⟩ := Kd.at_int (Kd.R_reads' HO_4.out).2.2 x8_4 p316 q316
                                                          obtain rfl : ad313 = ad316 := (by injection e316)
                                                          replace p316 := eq_true p316
                                                          replace q316 := eq_true q316
                                                          go_wp2
                                                          repeat (go_quiet (fail); try go_wp2)
                                                          go_ret
                                                          exact ⟨by first | rfl | (simp [errW_none, errW_some] <;> rfl) | (simp only [← hji25, ← hji29]; first | rfl | (simp [errW_none, errW_some] <;> rfl)) | (simp [*, errW_none, errW_some] <;> rfl), by repeat (first | (with_reducible first | exact HB.out | apply below_alloc | apply pw_below_drewN | apply below_drew1) | exact HB.out)⟩
                                                        · rw [if_neg c42] at H
                                                          have c42b0 : decide ((rd t304 x8_4) < (ji25)) = false := decide_eq_false c42
                                                          clear c42
                                                          by_cases c43 : (rd t304 x8_4) > (ji29)
                                                          · rw [if_pos c43] at H
                                                            have c43b0 : decide ((ji29) < (rd t304 x8_4)) = true := decide_eq_true c43
                                                            clear c43
                                                            obtain rfl := Option.some.inj H
                                                            have p315 : 0 ≤ (x8_4 : Int) := of_decide_eq_true (by first | (with_reducible assumption) | assumption)
                                                            have q315 : x8_4 < (t304.length : Int) := of_decide_eq_true (by first | (with_reducible assumption) | assumption)
                                                            obtain ⟨ad315, e315, hx315_0⟩ := Kd.at_int (Kd.R_reads' HO_4.out).2.2 x8_4 p315 q315
                                                            obtain rfl : ad313 = ad315 := (by injection e315)
                                                            replace p315 := eq_true p315
                                                            replace q315 := eq_true q315
                                                            have p316 : 0 ≤ (x8_4 : Int) := of_decide_eq_true (by first | (with_reducible assumption) | assumption)
                                                            have q316 : x8_4 < (t304.length : Int) := of_decide_eq_true (by first | (with_reducible assumption) | assumption)
                                                            obtain ⟨ad316, e316, hx316_0⟩ := Kd.at_int (Kd.R_reads' HO_4.out).2.2 x8_4 p316 q316
                                                            obtain rfl : ad313 = ad316 := (by injection e316)
                                                            replace p316 := eq_true p316
                                                            replace q316 := eq_true q316
                                                            have p317 : 0 ≤ (x8_4 : Int) := of_decide_eq_true (by first | (with_reducible assumption) | assumption)
                                                            have q317 : x8_4 < (t304.length : Int) := of_decide_eq_true (by first | (with_reducible assumption) | assumption)
                                                            obtain ⟨ad317, e317, hx317_0⟩ := Kd.at_int (Kd.R_reads' HO_4.out).2.2 x8_4 p317 q317
                                                            obtain rfl : ad313 = ad317 := (by injection e317)
                                                            replace p317 := eq_true p317
                                                            replace q317 := eq_true q317
                                                            go_wp2
                                                            repeat (go_quiet (fail); try go_wp2)
                                                            go_ret
                                                            exact ⟨by first | rfl | (simp [errW_none, errW_some] <;> rfl) | (simp only [← hji25, ← hji29]; first | rfl | (simp [errW_none, errW_some] <;> rfl)) | (simp [*, errW_none, errW_some] <;> rfl), by repeat (first | (with_reducible first | exact HB.out | apply below_alloc | apply pw_below_drewN | apply below_drew1) | exact HB.out)⟩
                                                          · rw [if_neg c43] at H
                                                            have c43b0 : decide ((ji29) < (rd t304 x8_4)) = false := decide_eq_false c43
                                                            clear c43
                                                            have H' := Aside0.mk H
                                                            clear H
                                                            have p315 : 0 ≤ (x8_4 : Int) := of_decide_eq_true (by first | (with_reducible assumption) | assumption)
                                                            have q315 : x8_4 < (t304.length : Int) := of_decide_eq_true (by first | (with_reducible assumption) | assumption)
                                                            obtain ⟨ad315, e315, hx315_0⟩ := Kd.at_int (Kd.R_reads' HO_4.out).2.2 x8_4 p315 q315
                                                            obtain rfl : ad313 = ad315 := (by injection e315)
                                                            replace p315 := eq_true p315
                                                            replace q315 := eq_true q315
                                                            have p316 : 0 ≤ (x8_4 : Int) := of_decide_eq_true (by first | (with_reducible assumption) | assumption)
                                                            have q316 : x8_4 < (t304.length : Int) := of_decide_eq_true (by first | (with_reducible assumption) | assumption)
                                                            obtain ⟨ad316, e316, hx316_0⟩ := Kd.at_int (Kd.R_reads' HO_4.out).2.2 x8_4 p316 q316
                                                            obtain rfl : ad313 = ad316 := (by injection e316)
                                                            replace p316 := eq_true p316
                                                            replace q316 := eq_true q316
                                                            have p317 : 0 ≤ (x8_4 : Int) := of_decide_eq_true (by first | (with_reducible assumption) | assumption)
                                                            have q317 : x8_4 < (t304.length : Int) := of_decide_eq_true (by first | (with_reducible assumption) | assumption)
                                                            obtain ⟨ad317, e317, hx317_0⟩ := Kd.at_int (Kd.R_reads' HO_4.out).2.2 x8_4 p317 q317
                                                            obtain rfl : ad313 = ad317 := (by injection e317)
                                                            replace p317 := eq_true p317
                                                            replace q317 := eq_true q317
                                                            go_wp2
                                                            repeat (go_quiet (fail); try go_wp2)
                                                            go_roundg k4
                                                            case measure => have := HK1.out; have := HJ17.out; have := HJ33.out; have := HK4.out; omega
                                                            case rel => exact ⟨(wrap64 (x8_4 + 1)), (by first | rfl | (simp; done) | (simp [*]; done)), H', ⟨by have := HK1.out; have := HJ17.out; have := HJ33.out; have := HK4.out; omega⟩, ⟨by (with_reducible repeat (first | apply Kd.R_alloc | apply Kd.R_drewN | apply Kd.R_drew)); exact HO_4.out⟩, ⟨by repeat (first | (with_reducible first | exact HB.out | apply below_alloc | apply pw_below_drewN | apply below_drew1) | exact HB.out)⟩⟩
                                                    · rw [if_neg c40] at H
                                                      exact absurd H (by simp)
                                                  · rw [if_neg c39] at H
                                                    exact absurd H (by simp)
                                                · rw [if_neg c38] at H
                                                  have c38b0 : decide (x8_4 < (ji29)) = false := decide_eq_false c38
                                                  clear c38
                                                  have H' := Aside0.mk H
                                                  clear H
                                                  go_wp2
                                                  repeat (go_quiet (fail); try go_wp2)
                                                  go_roundg k4
                                                  case measure => have := HK1.out; have := HJ17.out; have := HJ33.out; have := HK4.out; omega
                                                  case rel => exact ⟨(wrap64 (x5_1 + 1)), (by first | rfl | (simp; done) | (simp [*]; done)), H', ⟨by have := HK1.out; have := HJ17.out; have := HJ33.out; have := HK4.out; omega⟩, ⟨by (with_reducible repeat (first | apply Kd.R_alloc | apply Kd.R_drewN | apply Kd.R_drew)); exact HO_4.out⟩, ⟨by repeat (first | (with_reducible first | exact HB.out | apply below_alloc | apply pw_below_drewN | apply below_drew1) | exact HB.out)⟩⟩
                                    · rw [if_neg c33] at H
                                      exact absurd H (by simp)
                                  · rw [if_neg c32] at H
                                    exact absurd H (by simp)
                                · rw [if_neg c31] at H
                                  exact absurd H (by simp)
                              · rw [if_neg c30] at H
                                exact absurd H (by simp)
                            · rw [if_neg c28] at H
                              exact absurd H (by simp)
                          · rw [if_neg c27] at H
                            exact absurd H (by simp)
                        · rw [if_neg c26] at H
                          exact absurd H (by simp)
              · rw [if_neg c16] at H
                exact absurd H (by simp)
            · rw [if_neg c15] at H
              have c15b0 : decide (x5_1 < (t304.length : Int)) = false := decide_eq_false c15
              clear c15
              obtain rfl := Option.some.inj H
              go_wp2
              repeat (go_quiet (fail); try go_wp2)
              go_ret
              exact ⟨by first | rfl | (simp [errW_none, errW_some] <;> rfl) | (simp [*, errW_none, errW_some] <;> rfl), by repeat (first | (with_reducible first | exact HB.out | apply below_alloc | apply pw_below_drewN | apply below_drew1) | exact HB.out)⟩
      · replace c9 := Bool.eq_false_iff.mpr c9
        subst c9
        have H1 : (if (t304.length : Int) = 0 then ((laws_alive.f k).bind fun t312 => (some t312)) else (some false)) = some r := by rw [if_neg (show ¬ (false = true) by decide)] at H; exact H
        clear H
        have H := H1
        clear H1
        by_cases c44 : (t304.length : Int) = 0
        · rw [if_pos c44] at H
          have c44b0 : ((t304.length : Int) == 0) = true := beq_iff_eq.mpr c44
          have c44b1 : ((t304.length : Int) != 0) = false := bne_eq_false_iff_eq.mpr c44
          clear c44
          replace H := Option.bind_eq_some_iff.mp H
          obtain ⟨t312, A450, H⟩ := H
          replace H : (some t312) = some r := H
          have A45 := Aside0.mk A450
          clear A450
          obtain rfl := Option.some.inj H
          go_enter Try.func7, Try.ntmps7
          go_wp2_with (first | (go_at_call 26; (with_reducible refine (spec_DrawBracketMates.calls k _ _ l0 t303 _ ?side1 ?side2 A3.out).mono ?_); (case side1 => repeat (first | exact HR0.out | (with_reducible refine Kd.C_alloc ?_ _) | (with_reducible refine Kd.C_drewN ?_ _) | (with_reducible refine Kd.C_drew ?_))); (case side2 => exact HC0.out); rintro e w46 ⟨rfl, hb⟩; have n0_ := Aside0.mk (below_step (by repeat (first | (with_reducible first | exact HB.out | apply below_alloc | apply pw_below_drewN | apply below_drew1) | exact HB.out)) hb); clear HB; have HB := n0_; clear n0_; (try clear hb); (try clear hb2); (try clear hk); (try clear hi)) | (go_at_call 20; (with_reducible refine (impl_BracketMates.calls k t303 t304 _ A4.out).mono ?_); rintro e w47 ⟨v305, rfl, ho0, hb⟩; have n0_ := Aside0.mk (Kd.R_lower ho0 (below_size (by repeat (first | (with_reducible first | exact HB.out | apply below_alloc | apply pw_below_drewN | apply below_drew1) | exact HB.out)))); have n1_ := Aside0.mk (below_step (by repeat (first | (with_reducible first | exact HB.out | apply below_alloc | apply pw_below_drewN | apply below_drew1) | exact HB.out)) hb); clear HB; have HO306 := n0_; have HB := n1_; clear n0_ n1_; (try clear hb); (try clear hb2); (try clear hk); (try clear hi); (try clear ho0)) | (go_at_call 19; (with_reducible refine (spec_BracketMates.calls k t303 t307 _ A5.out).mono ?_); rintro e w48 ⟨v308, rfl, ho0, hb⟩; have n0_ := Aside0.mk (Kd.R_elder' (by (with_reducible repeat (first | apply Kd.R_alloc | apply Kd.R_drewN | apply Kd.R_drew)); exact HO306.out) (Kd.R_base ho0) hb); have n1_ := Aside0.mk (Kd.R_lower (Kd.R_new' ho0 (Kd.R_lt (by (with_reducible repeat (first | apply Kd.R_alloc | apply Kd.R_drewN | apply Kd.R_drew)); exact HO306.out))) (below_size (by repeat (first | (with_reducible first | exact HB.out | apply below_alloc | apply pw_below_drewN | apply below_drew1) | exact HB.out)))); have n2_ := Aside0.mk (below_step (by repeat (first | (with_reducible first | exact HB.out | apply below_alloc | apply pw_below_drewN | apply below_drew1) | exact HB.out)) hb); clear HO306; clear HB; have HO306 := n0_; have HO309 := n1_; have HB := n2_; clear n0_ n1_ n2_; (try clear hb); (try clear hb2); (try clear hk); (try clear hi); (try clear ho0); obtain ⟨Ao49, co49, eo49⟩ := Kd.R_slice HO306.out; subst eo49; obtain ⟨Ao50, co50, eo50⟩ := Kd.R_slice HO309.out; subst eo50) | (go_at_call 27; (with_reducible refine (laws_sameInts.calls k _ _ t304 _ _ t307 true _ ?side1 ?side2 ?side3 ?side4 A6.out).mono ?_); (case side1 => repeat (first | exact (Kd.R_reads' HO306.out).2.2 | (with_reducible refine Kd.C_alloc ?_ _) | (with_reducible refine Kd.C_drewN ?_ _) | (with_reducible refine Kd.C_drew ?_))); (case side2 => exact (Kd.R_reads' HO306.out).2.1); (case side3 => repeat (first | exact (Kd.R_reads' HO309.out).2.2 | (with_reducible refine Kd.C_alloc ?_ _) | (with_reducible refine Kd.C_drewN ?_ _) | (with_reducible refine Kd.C_drew ?_))); (case side4 => exact (Kd.R_reads' HO309.out).2.1); rintro e w' ⟨rfl, ⟨nd, rfl⟩⟩; (try first | exact ⟨rfl, _, World.drewN_drewN _ _ _⟩ | exact ⟨rfl, _, Eq.trans (World.drewN_drewN _ _ _) (congrArg (World.drewN _) (Nat.add_assoc _ _ _))⟩)) | (go_at_call 28; (with_reducible refine (spec_TextValid.calls k t303 false _ A8.out).mono ?_); rintro e w' ⟨rfl, ⟨nd, rfl⟩⟩; (try first | exact ⟨rfl, _, World.drewN_drewN _ _ _⟩ | exact ⟨rfl, _, Eq.trans (World.drewN_drewN _ _ _) (congrArg (World.drewN _) (Nat.add_assoc _ _ _))⟩)) | (go_at_call 29; (with_reducible refine (laws_alive.calls k  t312 _ A45.out).mono ?_); rintro e w' ⟨rfl, ⟨nd, rfl⟩⟩; (try first | exact ⟨rfl, _, World.drewN_drewN _ _ _⟩ | exact ⟨rfl, _, Eq.trans (World.drewN_drewN _ _ _) (congrArg (World.drewN _) (Nat.add_assoc _ _ _))⟩)))
          repeat (go_quiet (first | (go_at_call 26; (with_reducible refine (spec_DrawBracketMates.calls k _ _ l0 t303 _ ?side1 ?side2 A3.out).mono ?_); (case side1 => repeat (first | exact HR0.out | (with_reducible refine Kd.C_alloc ?_ _) | (with_reducible refine Kd.C_drewN ?_ _) | (with_reducible refine Kd.C_drew ?_))); (case side2 => exact HC0.out); rintro e w46 ⟨rfl, hb⟩; have n0_ := Aside0.mk (below_step (by repeat (first | (with_reducible first | exact HB.out | apply below_alloc | apply pw_below_drewN | apply below_drew1) | exact HB.out)) hb); clear HB; have HB := n0_; clear n0_; (try clear hb); (try clear hb2); (try clear hk); (try clear hi)) | (go_at_call 20; (with_reducible refine (impl_BracketMates.calls k t303 t304 _ A4.out).mono ?_); rintro e w47 ⟨v305, rfl, ho0, hb⟩; have n0_ := Aside0.mk (Kd.R_lower ho0 (below_size (by repeat (first | (with_reducible first | exact HB.out | apply below_alloc | apply pw_below_drewN | apply below_drew1) | exact HB.out)))); have n1_ := Aside0.mk (below_step (by repeat (first | (with_reducible first | exact HB.out | apply below_alloc | apply pw_below_drewN | apply below_drew1) | exact HB.out)) hb); clear HB; have HO306 := n0_; have HB := n1_; clear n0_ n1_; (try clear hb); (try clear hb2); (try clear hk); (try clear hi); (try clear ho0)) | (go_at_call 19; (with_reducible refine (spec_BracketMates.calls k t303 t307 _ A5.out).mono ?_); rintro e w48 ⟨v308, rfl, ho0, hb⟩; have n0_ := Aside0.mk (Kd.R_elder' (by (with_reducible repeat (first | apply Kd.R_alloc | apply Kd.R_drewN | apply Kd.R_drew)); exact HO306.out) (Kd.R_base ho0) hb); have n1_ := Aside0.mk (Kd.R_lower (Kd.R_new' ho0 (Kd.R_lt (by (with_reducible repeat (first | apply Kd.R_alloc | apply Kd.R_drewN | apply Kd.R_drew)); exact HO306.out))) (below_size (by repeat (first | (with_reducible first | exact HB.out | apply below_alloc | apply pw_below_drewN | apply below_drew1) | exact HB.out)))); have n2_ := Aside0.mk (below_step (by repeat (first | (with_reducible first | exact HB.out | apply below_alloc | apply pw_below_drewN | apply below_drew1) | exact HB.out)) hb); clear HO306; clear HB; have HO306 := n0_; have HO309 := n1_; have HB := n2_; clear n0_ n1_ n2_; (try clear hb); (try clear hb2); (try clear hk); (try clear hi); (try clear ho0); obtain ⟨Ao49, co49, eo49⟩ := Kd.R_slice HO306.out; subst eo49; obtain ⟨Ao50, co50, eo50⟩ := Kd.R_slice HO309.out; subst eo50) | (go_at_call 27; (with_reducible refine (laws_sameInts.calls k _ _ t304 _ _ t307 true _ ?side1 ?side2 ?side3 ?side4 A6.out).mono ?_); (case side1 => repeat (first | exact (Kd.R_reads' HO306.out).2.2 | (with_reducible refine Kd.C_alloc ?_ _) | (with_reducible refine Kd.C_drewN ?_ _) | (with_reducible refine Kd.C_drew ?_))); (case side2 => exact (Kd.R_reads' HO306.out).2.1); (case side3 => repeat (first | exact (Kd.R_reads' HO309.out).2.2 | (with_reducible refine Kd.C_alloc ?_ _) | (with_reducible refine Kd.C_drewN ?_ _) | (with_reducible refine Kd.C_drew ?_))); (case side4 => exact (Kd.R_reads' HO309.out).2.1); rintro e w' ⟨rfl, ⟨nd, rfl⟩⟩; (try first | exact ⟨rfl, _, World.drewN_drewN _ _ _⟩ | exact ⟨rfl, _, Eq.trans (World.drewN_drewN _ _ _) (congrArg (World.drewN _) (Nat.add_assoc _ _ _))⟩)) | (go_at_call 28; (with_reducible refine (spec_TextValid.calls k t303 false _ A8.out).mono ?_); rintro e w' ⟨rfl, ⟨nd, rfl⟩⟩; (try first | exact ⟨rfl, _, World.drewN_drewN _ _ _⟩ | exact ⟨rfl, _, Eq.trans (World.drewN_drewN _ _ _) (congrArg (World.drewN _) (Nat.add_assoc _ _ _))⟩)) | (go_at_call 29; (with_reducible refine (laws_alive.calls k  t312 _ A45.out).mono ?_); rintro e w' ⟨rfl, ⟨nd, rfl⟩⟩; (try first | exact ⟨rfl, _, World.drewN_drewN _ _ _⟩ | exact ⟨rfl, _, Eq.trans (World.drewN_drewN _ _ _) (congrArg (World.drewN _) (Nat.add_assoc _ _ _))⟩))); try go_wp2_with (first | (go_at_call 26; (with_reducible refine (spec_DrawBracketMates.calls k _ _ l0 t303 _ ?side1 ?side2 A3.out).mono ?_); (case side1 => repeat (first | exact HR0.out | (with_reducible refine Kd.C_alloc ?_ _) | (with_reducible refine Kd.C_drewN ?_ _) | (with_reducible refine Kd.C_drew ?_))); (case side2 => exact HC0.out); rintro e w46 ⟨rfl, hb⟩; have n0_ := Aside0.mk (below_step (by repeat (first | (with_reducible first | exact HB.out | apply below_alloc | apply pw_below_drewN | apply below_drew1) | exact HB.out)) hb); clear HB; have HB := n0_; clear n0_; (try clear hb); (try clear hb2); (try clear hk); (try clear hi)) | (go_at_call 20; (with_reducible refine (impl_BracketMates.calls k t303 t304 _ A4.out).mono ?_); rintro e w47 ⟨v305, rfl, ho0, hb⟩; have n0_ := Aside0.mk (Kd.R_lower ho0 (below_size (by repeat (first | (with_reducible first | exact HB.out | apply below_alloc | apply pw_below_drewN | apply below_drew1) | exact HB.out)))); have n1_ := Aside0.mk (below_step (by repeat (first | (with_reducible first | exact HB.out | apply below_alloc | apply pw_below_drewN | apply below_drew1) | exact HB.out)) hb); clear HB; have HO306 := n0_; have HB := n1_; clear n0_ n1_; (try clear hb); (try clear hb2); (try clear hk); (try clear hi); (try clear ho0)) | (go_at_call 19; (with_reducible refine (spec_BracketMates.calls k t303 t307 _ A5.out).mono ?_); rintro e w48 ⟨v308, rfl, ho0, hb⟩; have n0_ := Aside0.mk (Kd.R_elder' (by (with_reducible repeat (first | apply Kd.R_alloc | apply Kd.R_drewN | apply Kd.R_drew)); exact HO306.out) (Kd.R_base ho0) hb); have n1_ := Aside0.mk (Kd.R_lower (Kd.R_new' ho0 (Kd.R_lt (by (with_reducible repeat (first | apply Kd.R_alloc | apply Kd.R_drewN | apply Kd.R_drew)); exact HO306.out))) (below_size (by repeat (first | (with_reducible first | exact HB.out | apply below_alloc | apply pw_below_drewN | apply below_drew1) | exact HB.out)))); have n2_ := Aside0.mk (below_step (by repeat (first | (with_reducible first | exact HB.out | apply below_alloc | apply pw_below_drewN | apply below_drew1) | exact HB.out)) hb); clear HO306; clear HB; have HO306 := n0_; have HO309 := n1_; have HB := n2_; clear n0_ n1_ n2_; (try clear hb); (try clear hb2); (try clear hk); (try clear hi); (try clear ho0); obtain ⟨Ao49, co49, eo49⟩ := Kd.R_slice HO306.out; subst eo49; obtain ⟨Ao50, co50, eo50⟩ := Kd.R_slice HO309.out; subst eo50) | (go_at_call 27; (with_reducible refine (laws_sameInts.calls k _ _ t304 _ _ t307 true _ ?side1 ?side2 ?side3 ?side4 A6.out).mono ?_); (case side1 => repeat (first | exact (Kd.R_reads' HO306.out).2.2 | (with_reducible refine Kd.C_alloc ?_ _) | (with_reducible refine Kd.C_drewN ?_ _) | (with_reducible refine Kd.C_drew ?_))); (case side2 => exact (Kd.R_reads' HO306.out).2.1); (case side3 => repeat (first | exact (Kd.R_reads' HO309.out).2.2 | (with_reducible refine Kd.C_alloc ?_ _) | (with_reducible refine Kd.C_drewN ?_ _) | (with_reducible refine Kd.C_drew ?_))); (case side4 => exact (Kd.R_reads' HO309.out).2.1); rintro e w' ⟨rfl, ⟨nd, rfl⟩⟩; (try first | exact ⟨rfl, _, World.drewN_drewN _ _ _⟩ | exact ⟨rfl, _, Eq.trans (World.drewN_drewN _ _ _) (congrArg (World.drewN _) (Nat.add_assoc _ _ _))⟩)) | (go_at_call 28; (with_reducible refine (spec_TextValid.calls k t303 false _ A8.out).mono ?_); rintro e w' ⟨rfl, ⟨nd, rfl⟩⟩; (try first | exact ⟨rfl, _, World.drewN_drewN _ _ _⟩ | exact ⟨rfl, _, Eq.trans (World.drewN_drewN _ _ _) (congrArg (World.drewN _) (Nat.add_assoc _ _ _))⟩)) | (go_at_call 29; (with_reducible refine (laws_alive.calls k  t312 _ A45.out).mono ?_); rintro e w' ⟨rfl, ⟨nd, rfl⟩⟩; (try first | exact ⟨rfl, _, World.drewN_drewN _ _ _⟩ | exact ⟨rfl, _, Eq.trans (World.drewN_drewN _ _ _) (congrArg (World.drewN _) (Nat.add_assoc _ _ _))⟩))))
          go_ret
          exact ⟨by first | rfl | (simp [errW_none, errW_some] <;> rfl) | (simp [*, errW_none, errW_some] <;> rfl), by repeat (first | (with_reducible first | exact HB.out | apply below_alloc | apply pw_below_drewN | apply below_drew1) | exact HB.out)⟩
        · rw [if_neg c44] at H
          have c44b0 : ((t304.length : Int) == 0) = false := beq_eq_false_iff_ne.mpr c44
          have c44b1 : ((t304.length : Int) != 0) = true := bne_iff_ne.mpr c44
          have c44b2 : ¬ (t304 = []) := fun h_ => c44 (by rw [h_]; rfl)
          obtain rfl := Option.some.inj H
          go_enter Try.func7, Try.ntmps7
          go_wp2_with (first | (go_at_call 26; (with_reducible refine (spec_DrawBracketMates.calls k _ _ l0 t303 _ ?side1 ?side2 A3.out).mono ?_); (case side1 => repeat (first | exact HR0.out | (with_reducible refine Kd.C_alloc ?_ _) | (with_reducible refine Kd.C_drewN ?_ _) | (with_reducible refine Kd.C_drew ?_))); (case side2 => exact HC0.out); rintro e w51 ⟨rfl, hb⟩; have n0_ := Aside0.mk (below_step (by repeat (first | (with_reducible first | exact HB.out | apply below_alloc | apply pw_below_drewN | apply below_drew1) | exact HB.out)) hb); clear HB; have HB := n0_; clear n0_; (try clear hb); (try clear hb2); (try clear hk); (try clear hi)) | (go_at_call 20; (with_reducible refine (impl_BracketMates.calls k t303 t304 _ A4.out).mono ?_); rintro e w52 ⟨v305, rfl, ho0, hb⟩; have n0_ := Aside0.mk (Kd.R_lower ho0 (below_size (by repeat (first | (with_reducible first | exact HB.out | apply below_alloc | apply pw_below_drewN | apply below_drew1) | exact HB.out)))); have n1_ := Aside0.mk (below_step (by repeat (first | (with_reducible first | exact HB.out | apply below_alloc | apply pw_below_drewN | apply below_drew1) | exact HB.out)) hb); clear HB; have HO306 := n0_; have HB := n1_; clear n0_ n1_; (try clear hb); (try clear hb2); (try clear hk); (try clear hi); (try clear ho0)) | (go_at_call 19; (with_reducible refine (spec_BracketMates.calls k t303 t307 _ A5.out).mono ?_); rintro e w53 ⟨v308, rfl, ho0, hb⟩; have n0_ := Aside0.mk (Kd.R_elder' (by (with_reducible repeat (first | apply Kd.R_alloc | apply Kd.R_drewN | apply Kd.R_drew)); exact HO306.out) (Kd.R_base ho0) hb); have n1_ := Aside0.mk (Kd.R_lower (Kd.R_new' ho0 (Kd.R_lt (by (with_reducible repeat (first | apply Kd.R_alloc | apply Kd.R_drewN | apply Kd.R_drew)); exact HO306.out))) (below_size (by repeat (first | (with_reducible first | exact HB.out | apply below_alloc | apply pw_below_drewN | apply below_drew1) | exact HB.out)))); have n2_ := Aside0.mk (below_step (by repeat (first | (with_reducible first | exact HB.out | apply below_alloc | apply pw_below_drewN | apply below_drew1) | exact HB.out)) hb); clear HO306; clear HB; have HO306 := n0_; have HO309 := n1_; have HB := n2_; clear n0_ n1_ n2_; (try clear hb); (try clear hb2); (try clear hk); (try clear hi); (try clear ho0); obtain ⟨Ao54, co54, eo54⟩ := Kd.R_slice HO306.out; subst eo54; obtain ⟨Ao55, co55, eo55⟩ := Kd.R_slice HO309.out; subst eo55) | (go_at_call 27; (with_reducible refine (laws_sameInts.calls k _ _ t304 _ _ t307 true _ ?side1 ?side2 ?side3 ?side4 A6.out).mono ?_); (case side1 => repeat (first | exact (Kd.R_reads' HO306.out).2.2 | (with_reducible refine Kd.C_alloc ?_ _) | (with_reducible refine Kd.C_drewN ?_ _) | (with_reducible refine Kd.C_drew ?_))); (case side2 => exact (Kd.R_reads' HO306.out).2.1); (case side3 => repeat (first | exact (Kd.R_reads' HO309.out).2.2 | (with_reducible refine Kd.C_alloc ?_ _) | (with_reducible refine Kd.C_drewN ?_ _) | (with_reducible refine Kd.C_drew ?_))); (case side4 => exact (Kd.R_reads' HO309.out).2.1); rintro e w' ⟨rfl, ⟨nd, rfl⟩⟩; (try first | exact ⟨rfl, _, World.drewN_drewN _ _ _⟩ | exact ⟨rfl, _, Eq.trans (World.drewN_drewN _ _ _) (congrArg (World.drewN _) (Nat.add_assoc _ _ _))⟩)) | (go_at_call 28; (with_reducible refine (spec_TextValid.calls k t303 false _ A8.out).mono ?_); rintro e w' ⟨rfl, ⟨nd, rfl⟩⟩; (try first | exact ⟨rfl, _, World.drewN_drewN _ _ _⟩ | exact ⟨rfl, _, Eq.trans (World.drewN_drewN _ _ _) (congrArg (World.drewN _) (Nat.add_assoc _ _ _))⟩)))
          repeat (go_quiet (first | (go_at_call 26; (with_reducible refine (spec_DrawBracketMates.calls k _ _ l0 t303 _ ?side1 ?side2 A3.out).mono ?_); (case side1 => repeat (first | exact HR0.out | (with_reducible refine Kd.C_alloc ?_ _) | (with_reducible refine Kd.C_drewN ?_ _) | (with_reducible refine Kd.C_drew ?_))); (case side2 => exact HC0.out); rintro e w51 ⟨rfl, hb⟩; have n0_ := Aside0.mk (below_step (by repeat (first | (with_reducible first | exact HB.out | apply below_alloc | apply pw_below_drewN | apply below_drew1) | exact HB.out)) hb); clear HB; have HB := n0_; clear n0_; (try clear hb); (try clear hb2); (try clear hk); (try clear hi)) | (go_at_call 20; (with_reducible refine (impl_BracketMates.calls k t303 t304 _ A4.out).mono ?_); rintro e w52 ⟨v305, rfl, ho0, hb⟩; have n0_ := Aside0.mk (Kd.R_lower ho0 (below_size (by repeat (first | (with_reducible first | exact HB.out | apply below_alloc | apply pw_below_drewN | apply below_drew1) | exact HB.out)))); have n1_ := Aside0.mk (below_step (by repeat (first | (with_reducible first | exact HB.out | apply below_alloc | apply pw_below_drewN | apply below_drew1) | exact HB.out)) hb); clear HB; have HO306 := n0_; have HB := n1_; clear n0_ n1_; (try clear hb); (try clear hb2); (try clear hk); (try clear hi); (try clear ho0)) | (go_at_call 19; (with_reducible refine (spec_BracketMates.calls k t303 t307 _ A5.out).mono ?_); rintro e w53 ⟨v308, rfl, ho0, hb⟩; have n0_ := Aside0.mk (Kd.R_elder' (by (with_reducible repeat (first | apply Kd.R_alloc | apply Kd.R_drewN | apply Kd.R_drew)); exact HO306.out) (Kd.R_base ho0) hb); have n1_ := Aside0.mk (Kd.R_lower (Kd.R_new' ho0 (Kd.R_lt (by (with_reducible repeat (first | apply Kd.R_alloc | apply Kd.R_drewN | apply Kd.R_drew)); exact HO306.out))) (below_size (by repeat (first | (with_reducible first | exact HB.out | apply below_alloc | apply pw_below_drewN | apply below_drew1) | exact HB.out)))); have n2_ := Aside0.mk (below_step (by repeat (first | (with_reducible first | exact HB.out | apply below_alloc | apply pw_below_drewN | apply below_drew1) | exact HB.out)) hb); clear HO306; clear HB; have HO306 := n0_; have HO309 := n1_; have HB := n2_; clear n0_ n1_ n2_; (try clear hb); (try clear hb2); (try clear hk); (try clear hi); (try clear ho0); obtain ⟨Ao54, co54, eo54⟩ := Kd.R_slice HO306.out; subst eo54; obtain ⟨Ao55, co55, eo55⟩ := Kd.R_slice HO309.out; subst eo55) | (go_at_call 27; (with_reducible refine (laws_sameInts.calls k _ _ t304 _ _ t307 true _ ?side1 ?side2 ?side3 ?side4 A6.out).mono ?_); (case side1 => repeat (first | exact (Kd.R_reads' HO306.out).2.2 | (with_reducible refine Kd.C_alloc ?_ _) | (with_reducible refine Kd.C_drewN ?_ _) | (with_reducible refine Kd.C_drew ?_))); (case side2 => exact (Kd.R_reads' HO306.out).2.1); (case side3 => repeat (first | exact (Kd.R_reads' HO309.out).2.2 | (with_reducible refine Kd.C_alloc ?_ _) | (with_reducible refine Kd.C_drewN ?_ _) | (with_reducible refine Kd.C_drew ?_))); (case side4 => exact (Kd.R_reads' HO309.out).2.1); rintro e w' ⟨rfl, ⟨nd, rfl⟩⟩; (try first | exact ⟨rfl, _, World.drewN_drewN _ _ _⟩ | exact ⟨rfl, _, Eq.trans (World.drewN_drewN _ _ _) (congrArg (World.drewN _) (Nat.add_assoc _ _ _))⟩)) | (go_at_call 28; (with_reducible refine (spec_TextValid.calls k t303 false _ A8.out).mono ?_); rintro e w' ⟨rfl, ⟨nd, rfl⟩⟩; (try first | exact ⟨rfl, _, World.drewN_drewN _ _ _⟩ | exact ⟨rfl, _, Eq.trans (World.drewN_drewN _ _ _) (congrArg (World.drewN _) (Nat.add_assoc _ _ _))⟩))); try go_wp2_with (first | (go_at_call 26; (with_reducible refine (spec_DrawBracketMates.calls k _ _ l0 t303 _ ?side1 ?side2 A3.out).mono ?_); (case side1 => repeat (first | exact HR0.out | (with_reducible refine Kd.C_alloc ?_ _) | (with_reducible refine Kd.C_drewN ?_ _) | (with_reducible refine Kd.C_drew ?_))); (case side2 => exact HC0.out); rintro e w51 ⟨rfl, hb⟩; have n0_ := Aside0.mk (below_step (by repeat (first | (with_reducible first | exact HB.out | apply below_alloc | apply pw_below_drewN | apply below_drew1) | exact HB.out)) hb); clear HB; have HB := n0_; clear n0_; (try clear hb); (try clear hb2); (try clear hk); (try clear hi)) | (go_at_call 20; (with_reducible refine (impl_BracketMates.calls k t303 t304 _ A4.out).mono ?_); rintro e w52 ⟨v305, rfl, ho0, hb⟩; have n0_ := Aside0.mk (Kd.R_lower ho0 (below_size (by repeat (first | (with_reducible first | exact HB.out | apply below_alloc | apply pw_below_drewN | apply below_drew1) | exact HB.out)))); have n1_ := Aside0.mk (below_step (by repeat (first | (with_reducible first | exact HB.out | apply below_alloc | apply pw_below_drewN | apply below_drew1) | exact HB.out)) hb); clear HB; have HO306 := n0_; have HB := n1_; clear n0_ n1_; (try clear hb); (try clear hb2); (try clear hk); (try clear hi); (try clear ho0)) | (go_at_call 19; (with_reducible refine (spec_BracketMates.calls k t303 t307 _ A5.out).mono ?_); rintro e w53 ⟨v308, rfl, ho0, hb⟩; have n0_ := Aside0.mk (Kd.R_elder' (by (with_reducible repeat (first | apply Kd.R_alloc | apply Kd.R_drewN | apply Kd.R_drew)); exact HO306.out) (Kd.R_base ho0) hb); have n1_ := Aside0.mk (Kd.R_lower (Kd.R_new' ho0 (Kd.R_lt (by (with_reducible repeat (first | apply Kd.R_alloc | apply Kd.R_drewN | apply Kd.R_drew)); exact HO306.out))) (below_size (by repeat (first | (with_reducible first | exact HB.out | apply below_alloc | apply pw_below_drewN | apply below_drew1) | exact HB.out)))); have n2_ := Aside0.mk (below_step (by repeat (first | (with_reducible first | exact HB.out | apply below_alloc | apply pw_below_drewN | apply below_drew1) | exact HB.out)) hb); clear HO306; clear HB; have HO306 := n0_; have HO309 := n1_; have HB := n2_; clear n0_ n1_ n2_; (try clear hb); (try clear hb2); (try clear hk); (try clear hi); (try clear ho0); obtain ⟨Ao54, co54, eo54⟩ := Kd.R_slice HO306.out; subst eo54; obtain ⟨Ao55, co55, eo55⟩ := Kd.R_slice HO309.out; subst eo55) | (go_at_call 27; (with_reducible refine (laws_sameInts.calls k _ _ t304 _ _ t307 true _ ?side1 ?side2 ?side3 ?side4 A6.out).mono ?_); (case side1 => repeat (first | exact (Kd.R_reads' HO306.out).2.2 | (with_reducible refine Kd.C_alloc ?_ _) | (with_reducible refine Kd.C_drewN ?_ _) | (with_reducible refine Kd.C_drew ?_))); (case side2 => exact (Kd.R_reads' HO306.out).2.1); (case side3 => repeat (first | exact (Kd.R_reads' HO309.out).2.2 | (with_reducible refine Kd.C_alloc ?_ _) | (with_reducible refine Kd.C_drewN ?_ _) | (with_reducible refine Kd.C_drew ?_))); (case side4 => exact (Kd.R_reads' HO309.out).2.1); rintro e w' ⟨rfl, ⟨nd, rfl⟩⟩; (try first | exact ⟨rfl, _, World.drewN_drewN _ _ _⟩ | exact ⟨rfl, _, Eq.trans (World.drewN_drewN _ _ _) (congrArg (World.drewN _) (Nat.add_assoc _ _ _))⟩)) | (go_at_call 28; (with_reducible refine (spec_TextValid.calls k t303 false _ A8.out).mono ?_); rintro e w' ⟨rfl, ⟨nd, rfl⟩⟩; (try first | exact ⟨rfl, _, World.drewN_drewN _ _ _⟩ | exact ⟨rfl, _, Eq.trans (World.drewN_drewN _ _ _) (congrArg (World.drewN _) (Nat.add_assoc _ _ _))⟩))))
          go_ret
          exact ⟨by first | rfl | (simp [errW_none, errW_some] <;> rfl) | (simp [*, errW_none, errW_some] <;> rfl), by repeat (first | (with_reducible first | exact HB.out | apply below_alloc | apply pw_below_drewN | apply below_drew1) | exact HB.out)⟩
    · replace c7 := Bool.eq_false_iff.mpr c7
      subst c7
      have H1 : (some false) = some r := by rw [if_neg (show ¬ (false = true) by decide)] at H; exact H
      clear H
      have H := H1
      clear H1
      obtain rfl := Option.some.inj H
      go_enter Try.func7, Try.ntmps7
      go_wp2_with (first | (go_at_call 26; (with_reducible refine (spec_DrawBracketMates.calls k _ _ l0 t303 _ ?side1 ?side2 A3.out).mono ?_); (case side1 => repeat (first | exact HR0.out | (with_reducible refine Kd.C_alloc ?_ _) | (with_reducible refine Kd.C_drewN ?_ _) | (with_reducible refine Kd.C_drew ?_))); (case side2 => exact HC0.out); rintro e w56 ⟨rfl, hb⟩; have n0_ := Aside0.mk (below_step (by repeat (first | (with_reducible first | exact HB.out | apply below_alloc | apply pw_below_drewN | apply below_drew1) | exact HB.out)) hb); clear HB; have HB := n0_; clear n0_; (try clear hb); (try clear hb2); (try clear hk); (try clear hi)) | (go_at_call 20; (with_reducible refine (impl_BracketMates.calls k t303 t304 _ A4.out).mono ?_); rintro e w57 ⟨v305, rfl, ho0, hb⟩; have n0_ := Aside0.mk (Kd.R_lower ho0 (below_size (by repeat (first | (with_reducible first | exact HB.out | apply below_alloc | apply pw_below_drewN | apply below_drew1) | exact HB.out)))); have n1_ := Aside0.mk (below_step (by repeat (first | (with_reducible first | exact HB.out | apply below_alloc | apply pw_below_drewN | apply below_drew1) | exact HB.out)) hb); clear HB; have HO306 := n0_; have HB := n1_; clear n0_ n1_; (try clear hb); (try clear hb2); (try clear hk); (try clear hi); (try clear ho0)) | (go_at_call 19; (with_reducible refine (spec_BracketMates.calls k t303 t307 _ A5.out).mono ?_); rintro e w58 ⟨v308, rfl, ho0, hb⟩; have n0_ := Aside0.mk (Kd.R_elder' (by (with_reducible repeat (first | apply Kd.R_alloc | apply Kd.R_drewN | apply Kd.R_drew)); exact HO306.out) (Kd.R_base ho0) hb); have n1_ := Aside0.mk (Kd.R_lower (Kd.R_new' ho0 (Kd.R_lt (by (with_reducible repeat (first | apply Kd.R_alloc | apply Kd.R_drewN | apply Kd.R_drew)); exact HO306.out))) (below_size (by repeat (first | (with_reducible first | exact HB.out | apply below_alloc | apply pw_below_drewN | apply below_drew1) | exact HB.out)))); have n2_ := Aside0.mk (below_step (by repeat (first | (with_reducible first | exact HB.out | apply below_alloc | apply pw_below_drewN | apply below_drew1) | exact HB.out)) hb); clear HO306; clear HB; have HO306 := n0_; have HO309 := n1_; have HB := n2_; clear n0_ n1_ n2_; (try clear hb); (try clear hb2); (try clear hk); (try clear hi); (try clear ho0); obtain ⟨Ao59, co59, eo59⟩ := Kd.R_slice HO306.out; subst eo59; obtain ⟨Ao60, co60, eo60⟩ := Kd.R_slice HO309.out; subst eo60) | (go_at_call 27; (with_reducible refine (laws_sameInts.calls k _ _ t304 _ _ t307 false _ ?side1 ?side2 ?side3 ?side4 A6.out).mono ?_); (case side1 => repeat (first | exact (Kd.R_reads' HO306.out).2.2 | (with_reducible refine Kd.C_alloc ?_ _) | (with_reducible refine Kd.C_drewN ?_ _) | (with_reducible refine Kd.C_drew ?_))); (case side2 => exact (Kd.R_reads' HO306.out).2.1); (case side3 => repeat (first | exact (Kd.R_reads' HO309.out).2.2 | (with_reducible refine Kd.C_alloc ?_ _) | (with_reducible refine Kd.C_drewN ?_ _) | (with_reducible refine Kd.C_drew ?_))); (case side4 => exact (Kd.R_reads' HO309.out).2.1); rintro e w' ⟨rfl, ⟨nd, rfl⟩⟩; (try first | exact ⟨rfl, _, World.drewN_drewN _ _ _⟩ | exact ⟨rfl, _, Eq.trans (World.drewN_drewN _ _ _) (congrArg (World.drewN _) (Nat.add_assoc _ _ _))⟩)))
      repeat (go_quiet (first | (go_at_call 26; (with_reducible refine (spec_DrawBracketMates.calls k _ _ l0 t303 _ ?side1 ?side2 A3.out).mono ?_); (case side1 => repeat (first | exact HR0.out | (with_reducible refine Kd.C_alloc ?_ _) | (with_reducible refine Kd.C_drewN ?_ _) | (with_reducible refine Kd.C_drew ?_))); (case side2 => exact HC0.out); rintro e w56 ⟨rfl, hb⟩; have n0_ := Aside0.mk (below_step (by repeat (first | (with_reducible first | exact HB.out | apply below_alloc | apply pw_below_drewN | apply below_drew1) | exact HB.out)) hb); clear HB; have HB := n0_; clear n0_; (try clear hb); (try clear hb2); (try clear hk); (try clear hi)) | (go_at_call 20; (with_reducible refine (impl_BracketMates.calls k t303 t304 _ A4.out).mono ?_); rintro e w57 ⟨v305, rfl, ho0, hb⟩; have n0_ := Aside0.mk (Kd.R_lower ho0 (below_size (by repeat (first | (with_reducible first | exact HB.out | apply below_alloc | apply pw_below_drewN | apply below_drew1) | exact HB.out)))); have n1_ := Aside0.mk (below_step (by repeat (first | (with_reducible first | exact HB.out | apply below_alloc | apply pw_below_drewN | apply below_drew1) | exact HB.out)) hb); clear HB; have HO306 := n0_; have HB := n1_; clear n0_ n1_; (try clear hb); (try clear hb2); (try clear hk); (try clear hi); (try clear ho0)) | (go_at_call 19; (with_reducible refine (spec_BracketMates.calls k t303 t307 _ A5.out).mono ?_); rintro e w58 ⟨v308, rfl, ho0, hb⟩; have n0_ := Aside0.mk (Kd.R_elder' (by (with_reducible repeat (first | apply Kd.R_alloc | apply Kd.R_drewN | apply Kd.R_drew)); exact HO306.out) (Kd.R_base ho0) hb); have n1_ := Aside0.mk (Kd.R_lower (Kd.R_new' ho0 (Kd.R_lt (by (with_reducible repeat (first | apply Kd.R_alloc | apply Kd.R_drewN | apply Kd.R_drew)); exact HO306.out))) (below_size (by repeat (first | (with_reducible first | exact HB.out | apply below_alloc | apply pw_below_drewN | apply below_drew1) | exact HB.out)))); have n2_ := Aside0.mk (below_step (by repeat (first | (with_reducible first | exact HB.out | apply below_alloc | apply pw_below_drewN | apply below_drew1) | exact HB.out)) hb); clear HO306; clear HB; have HO306 := n0_; have HO309 := n1_; have HB := n2_; clear n0_ n1_ n2_; (try clear hb); (try clear hb2); (try clear hk); (try clear hi); (try clear ho0); obtain ⟨Ao59, co59, eo59⟩ := Kd.R_slice HO306.out; subst eo59; obtain ⟨Ao60, co60, eo60⟩ := Kd.R_slice HO309.out; subst eo60) | (go_at_call 27; (with_reducible refine (laws_sameInts.calls k _ _ t304 _ _ t307 false _ ?side1 ?side2 ?side3 ?side4 A6.out).mono ?_); (case side1 => repeat (first | exact (Kd.R_reads' HO306.out).2.2 | (with_reducible refine Kd.C_alloc ?_ _) | (with_reducible refine Kd.C_drewN ?_ _) | (with_reducible refine Kd.C_drew ?_))); (case side2 => exact (Kd.R_reads' HO306.out).2.1); (case side3 => repeat (first | exact (Kd.R_reads' HO309.out).2.2 | (with_reducible refine Kd.C_alloc ?_ _) | (with_reducible refine Kd.C_drewN ?_ _) | (with_reducible refine Kd.C_drew ?_))); (case side4 => exact (Kd.R_reads' HO309.out).2.1); rintro e w' ⟨rfl, ⟨nd, rfl⟩⟩; (try first | exact ⟨rfl, _, World.drewN_drewN _ _ _⟩ | exact ⟨rfl, _, Eq.trans (World.drewN_drewN _ _ _) (congrArg (World.drewN _) (Nat.add_assoc _ _ _))⟩))); try go_wp2_with (first | (go_at_call 26; (with_reducible refine (spec_DrawBracketMates.calls k _ _ l0 t303 _ ?side1 ?side2 A3.out).mono ?_); (case side1 => repeat (first | exact HR0.out | (with_reducible refine Kd.C_alloc ?_ _) | (with_reducible refine Kd.C_drewN ?_ _) | (with_reducible refine Kd.C_drew ?_))); (case side2 => exact HC0.out); rintro e w56 ⟨rfl, hb⟩; have n0_ := Aside0.mk (below_step (by repeat (first | (with_reducible first | exact HB.out | apply below_alloc | apply pw_below_drewN | apply below_drew1) | exact HB.out)) hb); clear HB; have HB := n0_; clear n0_; (try clear hb); (try clear hb2); (try clear hk); (try clear hi)) | (go_at_call 20; (with_reducible refine (impl_BracketMates.calls k t303 t304 _ A4.out).mono ?_); rintro e w57 ⟨v305, rfl, ho0, hb⟩; have n0_ := Aside0.mk (Kd.R_lower ho0 (below_size (by repeat (first | (with_reducible first | exact HB.out | apply below_alloc | apply pw_below_drewN | apply below_drew1) | exact HB.out)))); have n1_ := Aside0.mk (below_step (by repeat (first | (with_reducible first | exact HB.out | apply below_alloc | apply pw_below_drewN | apply below_drew1) | exact HB.out)) hb); clear HB; have HO306 := n0_; have HB := n1_; clear n0_ n1_; (try clear hb); (try clear hb2); (try clear hk); (try clear hi); (try clear ho0)) | (go_at_call 19; (with_reducible refine (spec_BracketMates.calls k t303 t307 _ A5.out).mono ?_); rintro e w58 ⟨v308, rfl, ho0, hb⟩; have n0_ := Aside0.mk (Kd.R_elder' (by (with_reducible repeat (first | apply Kd.R_alloc | apply Kd.R_drewN | apply Kd.R_drew)); exact HO306.out) (Kd.R_base ho0) hb); have n1_ := Aside0.mk (Kd.R_lower (Kd.R_new' ho0 (Kd.R_lt (by (with_reducible repeat (first | apply Kd.R_alloc | apply Kd.R_drewN | apply Kd.R_drew)); exact HO306.out))) (below_size (by repeat (first | (with_reducible first | exact HB.out | apply below_alloc | apply pw_below_drewN | apply below_drew1) | exact HB.out)))); have n2_ := Aside0.mk (below_step (by repeat (first | (with_reducible first | exact HB.out | apply below_alloc | apply pw_below_drewN | apply below_drew1) | exact HB.out)) hb); clear HO306; clear HB; have HO306 := n0_; have HO309 := n1_; have HB := n2_; clear n0_ n1_ n2_; (try clear hb); (try clear hb2); (try clear hk); (try clear hi); (try clear ho0); obtain ⟨Ao59, co59, eo59⟩ := Kd.R_slice HO306.out; subst eo59; obtain ⟨Ao60, co60, eo60⟩ := Kd.R_slice HO309.out; subst eo60) | (go_at_call 27; (with_reducible refine (laws_sameInts.calls k _ _ t304 _ _ t307 false _ ?side1 ?side2 ?side3 ?side4 A6.out).mono ?_); (case side1 => repeat (first | exact (Kd.R_reads' HO306.out).2.2 | (with_reducible refine Kd.C_alloc ?_ _) | (with_reducible refine Kd.C_drewN ?_ _) | (with_reducible refine Kd.C_drew ?_))); (case side2 => exact (Kd.R_reads' HO306.out).2.1); (case side3 => repeat (first | exact (Kd.R_reads' HO309.out).2.2 | (with_reducible refine Kd.C_alloc ?_ _) | (with_reducible refine Kd.C_drewN ?_ _) | (with_reducible refine Kd.C_drew ?_))); (case side4 => exact (Kd.R_reads' HO309.out).2.1); rintro e w' ⟨rfl, ⟨nd, rfl⟩⟩; (try first | exact ⟨rfl, _, World.drewN_drewN _ _ _⟩ | exact ⟨rfl, _, Eq.trans (World.drewN_drewN _ _ _) (congrArg (World.drewN _) (Nat.add_assoc _ _ _))⟩))))
      go_ret
      exact ⟨by first | rfl | (simp [errW_none, errW_some] <;> rfl) | (simp [*, errW_none, errW_some] <;> rfl), by repeat (first | (with_reducible first | exact HB.out | apply below_alloc | apply pw_below_drewN | apply below_drew1) | exact HB.out)⟩

/-- THE ONE PURE STATEMENT of laws_FnBracketMates: yours. -/
def laws_FnBracketMates.Pure : Prop := ∀ (l0 : List Int), l0.length ≤ maxLen → l0.length * 1 ≤ 140737488351232 → (∀ x ∈ l0, (Lit.int .u8 x).wf = true) → ∃ k, laws_FnBracketMates.f k l0 = some true
theorem laws_FnBracketMates.walk (P : laws_FnBracketMates.Pure) (a0 : Option Addr) (len0 cap0 : Nat) (z0 : List Int) (w : World) (w0 : (a0 = none ∧ len0 = 0 ∧ cap0 = 0 ∧ z0 = []) ∨ ∃ x, a0 = some x ∧ len0 ≤ cap0 ∧ cap0 ≤ maxLen ∧ z0.length = cap0 ∧ (∀ i, i < z0.length → w.cell? (x.add i) = some (.int .u8 (z0.getD i 0))) ∧ ∀ n ∈ z0, (Lit.int .u8 n).wf = true) (y0 : len0 * 1 ≤ 140737488351232) :
    Calls Try.prog 7 #[.slice a0 len0 cap0] w fun e w' => e = .returned (.bool true) ∧ Below w.heap.size w w' := by
  obtain ⟨l0, rfl, hr0, hm0, hw0, hc0⟩ := ReadsInt.ofRowC w0
  obtain ⟨k, h⟩ := P l0 hm0 y0 hw0
  refine (laws_FnBracketMates.calls k _ _ l0 true w (Kd.C_of_reads (d := (0 : Int)) (h1 := fun _ => rfl) hr0) hc0 h).mono ?_
  rintro e w' ⟨rfl, hd⟩
  exact ⟨rfl, hd⟩

end Go.Proofs.Ytbkdfiepdnbeoaa.X
