-- written by a program of this session (wip/xprint.py) out of the translation
import Derived.Test.YtbkdfiepdnbeoaaX0
import Derived.Test.YtbkdfiepdnbeoaaX6
import Derived.Test.YtbkdfiepdnbeoaaX7
import Derived.Test.YtbkdfiepdnbeoaaX10
import Derived.Test.YtbkdfiepdnbeoaaX12
import Derived.Test.YtbkdfiepdnbeoaaX13
namespace Go.Proofs.Ytbkdfiepdnbeoaa.X
open Go.RowKit Go.Proofs.YtbkdfiepdnbeoaaW.PrintWords Go.Proofs.YtbkdfiepdnbeoaaW.PrintLast Go.Proofs.YtbkdfiepdnbeoaaW.PrintMore
attribute [local go_sem] max2_int min2_int max_two min_two max_three min_three max_four min_four   -- for this text's walks alone
set_option linter.unusedVariables false
set_option linter.unusedSimpArgs false

/-! ### laws_FnBracketDeeper: function 10 -/
def laws_FnBracketDeeper.j0 : Nat → ByteArray → Int → Int → Bool → Option (Bool)
  | 0, _, _, _, _ => none
  | k + 1, x3, x4, x5, x33 => if x33 = true then ((laws_alive.f k).bind fun t377 => (some t377)) else (if 1 + x3.size ≤ 9223372036854775807 then (if ((⟨#[91]⟩ : ByteArray) ++ x3).size + 1 ≤ 9223372036854775807 then ((impl_BracketDepth.f k (((⟨#[91]⟩ : ByteArray) ++ x3) ++ (⟨#[93]⟩ : ByteArray)) (wrap64 (x4 + 1))).bind fun t378 => (some (t378 == (wrap64 (x5 + 1))))) else (none)) else (none))
def laws_FnBracketDeeper.f (k : Nat) (l0 : List Int) : Option (Bool) := if (l0.length : Int) > 1048576 then (some true) else ((spec_DrawBracketDepth.f k l0).bind fun bt372 => ((impl_BracketDepth.f k bt372.1 bt372.2).bind fun t374 => ((spec_BracketDepth.f k bt372.1 bt372.2).bind fun t375 => (if t374 = t375 then (if t374 < 0 then (laws_FnBracketDeeper.j0 k bt372.1 bt372.2 t374 true) else ((impl_BracketFault.f k bt372.1).bind fun t376 => (if t376 = (-1) then (laws_FnBracketDeeper.j0 k bt372.1 bt372.2 t374 (decide ((bt372.1.size : Int) > 118))) else (laws_FnBracketDeeper.j0 k bt372.1 bt372.2 t374 true)))) else (some false)))))
theorem laws_FnBracketDeeper.mono_l : ∀ k, (∀ y0 y1 y2 y3, LeO (laws_FnBracketDeeper.j0 k y0 y1 y2 y3) (laws_FnBracketDeeper.j0 (k + 1) y0 y1 y2 y3))
  | 0 => fun _ _ _ _ r h => by simp [laws_FnBracketDeeper.j0] at h
  | k + 1 => by
    have ih0 := laws_FnBracketDeeper.mono_l k
    · intro y0 y1 y2 y3
      unfold laws_FnBracketDeeper.j0
      repeat' first
      | (with_reducible exact ih0 _ _ _ _)
      | (with_reducible exact impl_BracketDepth.mono _ _ _)
      | (with_reducible exact impl_BracketFault.mono _ _)
      | (with_reducible exact laws_alive.mono _)
      | (with_reducible exact spec_BracketDepth.mono _ _ _)
      | (with_reducible exact spec_DrawBracketDepth.mono _ _)
      | (with_reducible exact LeO.refl _)
      | (with_reducible exact LeO.none _)
      | (with_reducible refine LeO.ite ?_ ?_)
      | (with_reducible refine LeO.bind ?_ (fun _ => ?_))
      | exact ih0 _ _ _ _
      | exact impl_BracketDepth.mono _ _ _
      | exact impl_BracketFault.mono _ _
      | exact laws_alive.mono _
      | exact spec_BracketDepth.mono _ _ _
      | exact spec_DrawBracketDepth.mono _ _
      | exact LeO.none _
      | refine LeO.ite ?_ ?_
      | refine LeO.bind ?_ (fun _ => ?_)
theorem laws_FnBracketDeeper.mono : ∀ a0 k, LeO (laws_FnBracketDeeper.f k a0) (laws_FnBracketDeeper.f (k + 1) a0) := by
  intro a0 k
  have ih0 := laws_FnBracketDeeper.mono_l k
  unfold laws_FnBracketDeeper.f
  repeat' first
      | (with_reducible exact ih0 _ _ _ _)
      | (with_reducible exact impl_BracketDepth.mono _ _ _)
      | (with_reducible exact impl_BracketFault.mono _ _)
      | (with_reducible exact laws_alive.mono _)
      | (with_reducible exact spec_BracketDepth.mono _ _ _)
      | (with_reducible exact spec_DrawBracketDepth.mono _ _)
      | (with_reducible exact LeO.refl _)
      | (with_reducible exact LeO.none _)
      | (with_reducible refine LeO.ite ?_ ?_)
      | (with_reducible refine LeO.bind ?_ (fun _ => ?_))
      | exact ih0 _ _ _ _
      | exact impl_BracketDepth.mono _ _ _
      | exact impl_BracketFault.mono _ _
      | exact laws_alive.mono _
      | exact spec_BracketDepth.mono _ _ _
      | exact spec_DrawBracketDepth.mono _ _
      | exact LeO.none _
      | refine LeO.ite ?_ ?_
      | refine LeO.bind ?_ (fun _ => ?_)
set_option maxHeartbeats 8000000 in
set_option maxRecDepth 100000 in
theorem laws_FnBracketDeeper.calls (k : Nat) (A0 : Option Addr) (c0 : Nat) (l0 : List Int) (r : Bool) (w : World) (hr0 : Kd.C (Kd.int .u8) w A0 l0.length l0) (hc0 : l0.length ≤ c0) (h : laws_FnBracketDeeper.f k l0 = some r) :
    Calls Try.prog 10 #[.slice A0 l0.length c0] w fun e w' => e = .returned (.bool r) ∧ Below w.heap.size w w' := by
  have HR0 := Aside0.mk hr0
  have HC0 := Aside0.mk hc0
  clear hr0 hc0
  have HB := Aside0.mk (Below.refl w.heap.size w)
  have H : (if (l0.length : Int) > 1048576 then (some true) else ((spec_DrawBracketDepth.f k l0).bind fun bt372 => ((impl_BracketDepth.f k bt372.1 bt372.2).bind fun t374 => ((spec_BracketDepth.f k bt372.1 bt372.2).bind fun t375 => (if t374 = t375 then (if t374 < 0 then (laws_FnBracketDeeper.j0 k bt372.1 bt372.2 t374 true) else ((impl_BracketFault.f k bt372.1).bind fun t376 => (if t376 = (-1) then (laws_FnBracketDeeper.j0 k bt372.1 bt372.2 t374 (decide ((bt372.1.size : Int) > 118))) else (laws_FnBracketDeeper.j0 k bt372.1 bt372.2 t374 true)))) else (some false)))))) = some r := h
  clear h
  by_cases c2 : (l0.length : Int) > 1048576
  · rw [if_pos c2] at H
    have c2b0 : decide (1048576 < (l0.length : Int)) = true := decide_eq_true c2
    have c2b1 : decide (1048576 < l0.length) = true := decide_eq_true (by omega)
    clear c2
    obtain rfl := Option.some.inj H
    go_enter Try.func10, Try.ntmps10
    go_wp2
    go_ret
    exact ⟨by first | rfl | (simp [errW_none, errW_some] <;> rfl) | (simp [*, errW_none, errW_some] <;> rfl), by repeat (first | (with_reducible first | exact HB.out | apply below_alloc | apply pw_below_drewN | apply below_drew1) | exact HB.out)⟩
  · rw [if_neg c2] at H
    have c2b0 : decide (1048576 < (l0.length : Int)) = false := decide_eq_false c2
    have c2b1 : decide (1048576 < l0.length) = false := decide_eq_false (by omega)
    clear c2
    replace H := Option.bind_eq_some_iff.mp H
    obtain ⟨⟨t372, t373⟩, A30, H⟩ := H
    replace H : ((impl_BracketDepth.f k t372 t373).bind fun t374 => ((spec_BracketDepth.f k t372 t373).bind fun t375 => (if t374 = t375 then (if t374 < 0 then (laws_FnBracketDeeper.j0 k t372 t373 t374 true) else ((impl_BracketFault.f k t372).bind fun t376 => (if t376 = (-1) then (laws_FnBracketDeeper.j0 k t372 t373 t374 (decide ((t372.size : Int) > 118))) else (laws_FnBracketDeeper.j0 k t372 t373 t374 true)))) else (some false)))) = some r := H
    have A3 := Aside0.mk A30
    clear A30
    replace H := Option.bind_eq_some_iff.mp H
    obtain ⟨t374, A40, H⟩ := H
    replace H : ((spec_BracketDepth.f k t372 t373).bind fun t375 => (if t374 = t375 then (if t374 < 0 then (laws_FnBracketDeeper.j0 k t372 t373 t374 true) else ((impl_BracketFault.f k t372).bind fun t376 => (if t376 = (-1) then (laws_FnBracketDeeper.j0 k t372 t373 t374 (decide ((t372.size : Int) > 118))) else (laws_FnBracketDeeper.j0 k t372 t373 t374 true)))) else (some false))) = some r := H
    have A4 := Aside0.mk A40
    clear A40
    replace H := Option.bind_eq_some_iff.mp H
    obtain ⟨t375, A50, H⟩ := H
    replace H : (if t374 = t375 then (if t374 < 0 then (laws_FnBracketDeeper.j0 k t372 t373 t374 true) else ((impl_BracketFault.f k t372).bind fun t376 => (if t376 = (-1) then (laws_FnBracketDeeper.j0 k t372 t373 t374 (decide ((t372.size : Int) > 118))) else (laws_FnBracketDeeper.j0 k t372 t373 t374 true)))) else (some false)) = some r := H
    have A5 := Aside0.mk A50
    clear A50
    by_cases c6 : t374 = t375
    · rw [if_pos c6] at H
      have c6b0 : (t374 == t375) = true := beq_iff_eq.mpr c6
      have c6b1 : (t374 != t375) = false := bne_eq_false_iff_eq.mpr c6
      clear c6
      have HC7 := Aside0.mk H
      clear H
      go_enter Try.func10, Try.ntmps10
      go_upto_region 7 with (first | ((with_reducible refine gate_callee (f := 31) rfl ?_); refine goesL_ (some 11) rfl rfl Try.func31 (by kernel_rfl) rfl #[.slice A0 l0.length c0] rfl (by (try simp only [List.map_toArray, List.map_cons, List.map_nil]); first | done | rfl | (simp only [List.length_drop, List.length_take]; rfl)) ?_; (with_reducible refine (spec_DrawBracketDepth.calls k _ _ l0 t372 t373 _ ?side1 ?side2 A3.out).mono ?_); (case side1 => repeat (first | exact HR0.out | (with_reducible refine Kd.C_alloc ?_ _) | (with_reducible refine Kd.C_drewN ?_ _) | (with_reducible refine Kd.C_drew ?_))); (case side2 => exact HC0.out); rintro e w8 ⟨rfl, hb⟩; refine ⟨_, rfl, ?_⟩; have n0_ := Aside0.mk (below_step (by repeat (first | (with_reducible first | exact HB.out | apply below_alloc | apply pw_below_drewN | apply below_drew1) | exact HB.out)) hb); clear HB; have HB := n0_; clear n0_; (try clear hb); (try clear hb2); (try clear hk); (try clear hi)) | ((with_reducible refine gate_callee (f := 18) rfl ?_); refine goesL_ (some 16) rfl rfl Try.func18 (by kernel_rfl) rfl #[.string t372, .int .i64 t373] rfl (by (try simp only [List.map_toArray, List.map_cons, List.map_nil]); first | done | rfl | (simp only [List.length_drop, List.length_take]; rfl)) ?_; (with_reducible refine (impl_BracketDepth.calls k t372 t373 t374 _ A4.out).mono ?_); rintro e w9 ⟨rfl, hb⟩; refine ⟨_, rfl, ?_⟩; have n0_ := Aside0.mk (below_step (by repeat (first | (with_reducible first | exact HB.out | apply below_alloc | apply pw_below_drewN | apply below_drew1) | exact HB.out)) hb); clear HB; have HB := n0_; clear n0_; (try clear hb); (try clear hb2); (try clear hk); (try clear hi)) | ((with_reducible refine gate_callee (f := 17) rfl ?_); refine goesL_ (some 20) rfl rfl Try.func17 (by kernel_rfl) rfl #[.string t372, .int .i64 t373] rfl (by (try simp only [List.map_toArray, List.map_cons, List.map_nil]); first | done | rfl | (simp only [List.length_drop, List.length_take]; rfl)) ?_; (with_reducible refine (spec_BracketDepth.calls k t372 t373 t375 _ A5.out).mono ?_); rintro e w10 ⟨rfl, hb⟩; refine ⟨_, rfl, ?_⟩; have n0_ := Aside0.mk (below_step (by repeat (first | (with_reducible first | exact HB.out | apply below_alloc | apply pw_below_drewN | apply below_drew1) | exact HB.out)) hb); clear HB; have HB := n0_; clear n0_; (try clear hb); (try clear hb2); (try clear hk); (try clear hi)))
      (try simp only [Act.put, List.setIfInBounds_toArray, List.set_cons_zero, List.set_cons_succ])
      go_cut [33] (fun v33 wc => ∃ (kq : Nat) (x33_6 : Bool), v33 = .bool x33_6 ∧ Aside0 (laws_FnBracketDeeper.j0 kq t372 t373 t374 x33_6 = some r) ∧ Aside0 (kq ≤ k) ∧ Aside0 (Below w.heap.size w wc))
      case first =>
        have H := HC7.out
        clear HC7
        by_cases c11 : t374 < 0
        · rw [if_pos c11] at H
          have c11b0 : decide (t374 < 0) = true := decide_eq_true c11
          clear c11
          (first | rw [c11b0] | (simp only [i64_w, i32_w]; rw [c11b0]) | skip)
          have H' := Aside0.mk H
          clear H
          go_wp2
          go_meet
          case rel => exact ⟨_, (true), (by first | rfl | (simp; done) | (simp [*]; done)), H', ⟨by first | omega | exact Nat.le_refl _⟩, ⟨by repeat (first | (with_reducible first | exact HB.out | apply below_alloc | apply pw_below_drewN | apply below_drew1) | exact HB.out)⟩⟩
        · rw [if_neg c11] at H
          have c11b0 : decide (t374 < 0) = false := decide_eq_false c11
          clear c11
          (first | rw [c11b0] | (simp only [i64_w, i32_w]; rw [c11b0]) | skip)
          replace H := Option.bind_eq_some_iff.mp H
          obtain ⟨t376, A120, H⟩ := H
          replace H : (if t376 = (-1) then (laws_FnBracketDeeper.j0 k t372 t373 t374 (decide ((t372.size : Int) > 118))) else (laws_FnBracketDeeper.j0 k t372 t373 t374 true)) = some r := H
          have A12 := Aside0.mk A120
          clear A120
          by_cases c13 : t376 = (-1)
          · rw [if_pos c13] at H
            have c13b0 : (t376 == (-1)) = true := beq_iff_eq.mpr c13
            have c13b1 : (t376 != (-1)) = false := bne_eq_false_iff_eq.mpr c13
            clear c13
            have H' := Aside0.mk H
            clear H
            go_wp2_with (first | (go_at_call 16; (with_reducible refine (impl_BracketFault.calls k t372 t376 _ A12.out).mono ?_); rintro e w14 ⟨rfl, hb⟩; have n0_ := Aside0.mk (below_step (by repeat (first | (with_reducible first | exact HB.out | apply below_alloc | apply pw_below_drewN | apply below_drew1) | exact HB.out)) hb); clear HB; have HB := n0_; clear n0_; (try clear hb); (try clear hb2); (try clear hk); (try clear hi)))
            go_meet
            case rel => exact ⟨_, (decide ((t372.size : Int) > 118)), (by first | rfl | (simp; done) | (simp [*]; done)), H', ⟨by first | omega | exact Nat.le_refl _⟩, ⟨by repeat (first | (with_reducible first | exact HB.out | apply below_alloc | apply pw_below_drewN | apply below_drew1) | exact HB.out)⟩⟩
          · rw [if_neg c13] at H
            have c13b0 : (t376 == (-1)) = false := beq_eq_false_iff_ne.mpr c13
            have c13b1 : (t376 != (-1)) = true := bne_iff_ne.mpr c13
            have H' := Aside0.mk H
            clear H
            go_wp2_with (first | (go_at_call 16; (with_reducible refine (impl_BracketFault.calls k t372 t376 _ A12.out).mono ?_); rintro e w15 ⟨rfl, hb⟩; have n0_ := Aside0.mk (below_step (by repeat (first | (with_reducible first | exact HB.out | apply below_alloc | apply pw_below_drewN | apply below_drew1) | exact HB.out)) hb); clear HB; have HB := n0_; clear n0_; (try clear hb); (try clear hb2); (try clear hk); (try clear hi)))
            go_meet
            case rel => exact ⟨_, (true), (by first | rfl | (simp; done) | (simp [*]; done)), H', ⟨by first | omega | exact Nat.le_refl _⟩, ⟨by repeat (first | (with_reducible first | exact HB.out | apply below_alloc | apply pw_below_drewN | apply below_drew1) | exact HB.out)⟩⟩
      case rest =>
        clear HC7
        try clear c1
        try clear c2
        try clear c2b0
        try clear c2b1
        try clear p2
        try clear c3
        try clear c6
        try clear c6b0
        try clear c6b1
        try clear c10
        try clear c11
        try clear c11b0
        try clear c13
        try clear c13b0
        try clear c13b1
        obtain ⟨kq, x33_6, rfl, HA, HJ6, HB⟩ := hcut
        cases kq with
        | zero => exact absurd HA.out (by simp [laws_FnBracketDeeper.j0])
        | succ kj6 =>
          have H := HA.out
          clear HA
          simp only [laws_FnBracketDeeper.j0] at H
          by_cases c16 : x33_6 = true
          · subst c16
            have H1 : ((laws_alive.f kj6).bind fun t377 => (some t377)) = some r := by rw [if_pos rfl] at H; exact H
            clear H
            have H := H1
            clear H1
            replace H := Option.bind_eq_some_iff.mp H
            obtain ⟨t377, A170, H⟩ := H
            replace H : (some t377) = some r := H
            have A17 := Aside0.mk A170
            clear A170
            obtain rfl := Option.some.inj H
            go_wp2_with (first | ((with_reducible refine gate_callee (f := 29) rfl ?_); refine goesL_ (some 34) rfl rfl Try.func29 (by kernel_rfl) rfl #[] rfl (by (try simp only [List.map_toArray, List.map_cons, List.map_nil]); first | done | rfl | (simp only [List.length_drop, List.length_take]; rfl)) ?_; (with_reducible refine (laws_alive.calls kj6  t377 _ A17.out).mono ?_); rintro e w' ⟨rfl, ⟨nd, rfl⟩⟩; refine ⟨_, rfl, ?_⟩))
            go_ret
            exact ⟨by first | rfl | (simp [errW_none, errW_some] <;> rfl) | (simp [*, errW_none, errW_some] <;> rfl), by repeat (first | (with_reducible first | exact HB.out | apply below_alloc | apply pw_below_drewN | apply below_drew1) | exact HB.out)⟩
          · replace c16 := Bool.eq_false_iff.mpr c16
            subst c16
            have H1 : (if 1 + t372.size ≤ 9223372036854775807 then (if ((⟨#[91]⟩ : ByteArray) ++ t372).size + 1 ≤ 9223372036854775807 then ((impl_BracketDepth.f kj6 (((⟨#[91]⟩ : ByteArray) ++ t372) ++ (⟨#[93]⟩ : ByteArray)) (wrap64 (t373 + 1))).bind fun t378 => (some (t378 == (wrap64 (t374 + 1))))) else (none)) else (none)) = some r := by rw [if_neg (show ¬ (false = true) by decide)] at H; exact H
            clear H
            have H := H1
            clear H1
            by_cases c18 : 1 + t372.size ≤ 9223372036854775807
            · rw [if_pos c18] at H
              have c18b0 := eq_true c18
              have c18b1 : decide (1 + t372.size ≤ 9223372036854775807) = true := decide_eq_true c18
              try have c18b2 : (9223372036854775807 < 1 + t372.size) = False := eq_false (Nat.not_lt.2 c18)
              by_cases c19 : ((⟨#[91]⟩ : ByteArray) ++ t372).size + 1 ≤ 9223372036854775807
              · rw [if_pos c19] at H
                have c19b0 := eq_true c19
                have c19b1 : decide (((⟨#[91]⟩ : ByteArray) ++ t372).size + 1 ≤ 9223372036854775807) = true := decide_eq_true c19
                try have c19b3 : (9223372036854775807 < 1 + t372.size + 1) = False := eq_false (by have h_ := c19; first | omega | (simp at h_ ⊢; omega) | (simp at h_ ⊢; exact h_))
                try have c19b2 : (9223372036854775807 < ((⟨#[91]⟩ : ByteArray) ++ t372).size + 1) = False := eq_false (Nat.not_lt.2 c19)
                replace H := Option.bind_eq_some_iff.mp H
                obtain ⟨t378, A200, H⟩ := H
                replace H : (some (t378 == (wrap64 (t374 + 1)))) = some r := H
                have A20 := Aside0.mk A200
                clear A200
                obtain rfl := Option.some.inj H
                go_wp2_with (first | ((with_reducible refine gate_callee (f := 18) rfl ?_); refine goesL_ (some 40) rfl rfl Try.func18 (by kernel_rfl) rfl #[.string (((⟨#[91]⟩ : ByteArray) ++ t372) ++ (⟨#[93]⟩ : ByteArray)), .int .i64 (wrap64 (t373 + 1))] rfl (by (try simp only [List.map_toArray, List.map_cons, List.map_nil]); first | done | rfl | (simp only [List.length_drop, List.length_take]; rfl)) ?_; (with_reducible refine (impl_BracketDepth.calls kj6 (((⟨#[91]⟩ : ByteArray) ++ t372) ++ (⟨#[93]⟩ : ByteArray)) (wrap64 (t373 + 1)) t378 _ A20.out).mono ?_); rintro e w21 ⟨rfl, hb⟩; refine ⟨_, rfl, ?_⟩; have n0_ := Aside0.mk (below_step (by repeat (first | (with_reducible first | exact HB.out | apply below_alloc | apply pw_below_drewN | apply below_drew1) | exact HB.out)) hb); clear HB; have HB := n0_; clear n0_; (try clear hb); (try clear hb2); (try clear hk); (try clear hi)))
                go_ret
                exact ⟨by first | rfl | (simp [errW_none, errW_some] <;> rfl) | (simp [*, errW_none, errW_some] <;> rfl), by repeat (first | (with_reducible first | exact HB.out | apply below_alloc | apply pw_below_drewN | apply below_drew1) | exact HB.out)⟩
              · rw [if_neg c19] at H
                exact absurd H (by simp)
            · rw [if_neg c18] at H
              exact absurd H (by simp)
    · rw [if_neg c6] at H
      have c6b0 : (t374 == t375) = false := beq_eq_false_iff_ne.mpr c6
      have c6b1 : (t374 != t375) = true := bne_iff_ne.mpr c6
      obtain rfl := Option.some.inj H
      go_enter Try.func10, Try.ntmps10
      go_wp2_with (first | ((with_reducible refine gate_callee (f := 31) rfl ?_); refine goesL_ (some 11) rfl rfl Try.func31 (by kernel_rfl) rfl #[.slice A0 l0.length c0] rfl (by (try simp only [List.map_toArray, List.map_cons, List.map_nil]); first | done | rfl | (simp only [List.length_drop, List.length_take]; rfl)) ?_; (with_reducible refine (spec_DrawBracketDepth.calls k _ _ l0 t372 t373 _ ?side1 ?side2 A3.out).mono ?_); (case side1 => repeat (first | exact HR0.out | (with_reducible refine Kd.C_alloc ?_ _) | (with_reducible refine Kd.C_drewN ?_ _) | (with_reducible refine Kd.C_drew ?_))); (case side2 => exact HC0.out); rintro e w22 ⟨rfl, hb⟩; refine ⟨_, rfl, ?_⟩; have n0_ := Aside0.mk (below_step (by repeat (first | (with_reducible first | exact HB.out | apply below_alloc | apply pw_below_drewN | apply below_drew1) | exact HB.out)) hb); clear HB; have HB := n0_; clear n0_; (try clear hb); (try clear hb2); (try clear hk); (try clear hi)) | ((with_reducible refine gate_callee (f := 18) rfl ?_); refine goesL_ (some 16) rfl rfl Try.func18 (by kernel_rfl) rfl #[.string t372, .int .i64 t373] rfl (by (try simp only [List.map_toArray, List.map_cons, List.map_nil]); first | done | rfl | (simp only [List.length_drop, List.length_take]; rfl)) ?_; (with_reducible refine (impl_BracketDepth.calls k t372 t373 t374 _ A4.out).mono ?_); rintro e w23 ⟨rfl, hb⟩; refine ⟨_, rfl, ?_⟩; have n0_ := Aside0.mk (below_step (by repeat (first | (with_reducible first | exact HB.out | apply below_alloc | apply pw_below_drewN | apply below_drew1) | exact HB.out)) hb); clear HB; have HB := n0_; clear n0_; (try clear hb); (try clear hb2); (try clear hk); (try clear hi)) | ((with_reducible refine gate_callee (f := 17) rfl ?_); refine goesL_ (some 20) rfl rfl Try.func17 (by kernel_rfl) rfl #[.string t372, .int .i64 t373] rfl (by (try simp only [List.map_toArray, List.map_cons, List.map_nil]); first | done | rfl | (simp only [List.length_drop, List.length_take]; rfl)) ?_; (with_reducible refine (spec_BracketDepth.calls k t372 t373 t375 _ A5.out).mono ?_); rintro e w24 ⟨rfl, hb⟩; refine ⟨_, rfl, ?_⟩; have n0_ := Aside0.mk (below_step (by repeat (first | (with_reducible first | exact HB.out | apply below_alloc | apply pw_below_drewN | apply below_drew1) | exact HB.out)) hb); clear HB; have HB := n0_; clear n0_; (try clear hb); (try clear hb2); (try clear hk); (try clear hi)))
      go_ret
      exact ⟨by first | rfl | (simp [errW_none, errW_some] <;> rfl) | (simp [*, errW_none, errW_some] <;> rfl), by repeat (first | (with_reducible first | exact HB.out | apply below_alloc | apply pw_below_drewN | apply below_drew1) | exact HB.out)⟩

/-- THE ONE PURE STATEMENT of laws_FnBracketDeeper: yours. -/
def laws_FnBracketDeeper.Pure : Prop := ∀ (l0 : List Int), l0.length ≤ maxLen → l0.length * 1 ≤ 140737488351232 → (∀ x ∈ l0, (Lit.int .u8 x).wf = true) → ∃ k, laws_FnBracketDeeper.f k l0 = some true
theorem laws_FnBracketDeeper.walk (P : laws_FnBracketDeeper.Pure) (a0 : Option Addr) (len0 cap0 : Nat) (z0 : List Int) (w : World) (w0 : (a0 = none ∧ len0 = 0 ∧ cap0 = 0 ∧ z0 = []) ∨ ∃ x, a0 = some x ∧ len0 ≤ cap0 ∧ cap0 ≤ maxLen ∧ z0.length = cap0 ∧ (∀ i, i < z0.length → w.cell? (x.add i) = some (.int .u8 (z0.getD i 0))) ∧ ∀ n ∈ z0, (Lit.int .u8 n).wf = true) (y0 : len0 * 1 ≤ 140737488351232) :
    Calls Try.prog 10 #[.slice a0 len0 cap0] w fun e w' => e = .returned (.bool true) ∧ Below w.heap.size w w' := by
  obtain ⟨l0, rfl, hr0, hm0, hw0, hc0⟩ := ReadsInt.ofRowC w0
  obtain ⟨k, h⟩ := P l0 hm0 y0 hw0
  refine (laws_FnBracketDeeper.calls k _ _ l0 true w (Kd.C_of_reads (d := (0 : Int)) (h1 := fun _ => rfl) hr0) hc0 h).mono ?_
  rintro e w' ⟨rfl, hd⟩
  exact ⟨rfl, hd⟩

end Go.Proofs.Ytbkdfiepdnbeoaa.X
