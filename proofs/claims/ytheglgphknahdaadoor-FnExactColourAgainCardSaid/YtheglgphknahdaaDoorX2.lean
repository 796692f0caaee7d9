-- written by a program of this session (wip/xprint.py) out of the translation
import Derived.Test.YtheglgphknahdaaDoorX0
namespace Go.Proofs.YtheglgphknahdaaDoor.X
open Go.RowKit Go.Proofs.YtheglgphknahdaaDoorW.PrintWords Go.Proofs.YtheglgphknahdaaDoorW.PrintLast Go.Proofs.YtheglgphknahdaaDoorW.PrintMore
attribute [local go_sem] max2_int min2_int max_two min_two max_three min_three max_four min_four   -- for this text's walks alone
set_option linter.unusedVariables false
set_option linter.unusedSimpArgs false

/-! ### impl_class: function 59 -/
def impl_class.j0 : Nat → Int → Bool → Option (Int)
 | 0, _, _ => none
 | k + 1, x0, x3 => if x3 = true then (some 0) else (if x0 ≥ 48 then (if x0 ≤ 57 then (some 1) else (if x0 ≥ 97 then (if x0 ≤ 122 then (some 1) else (if x0 ≥ 65 then (if x0 ≤ 90 then (some 1) else (some 2)) else (some 2))) else (if x0 ≥ 65 then (if x0 ≤ 90 then (some 1) else (some 2)) else (some 2)))) else (if x0 ≥ 97 then (if x0 ≤ 122 then (some 1) else (if x0 ≥ 65 then (if x0 ≤ 90 then (some 1) else (some 2)) else (some 2))) else (if x0 ≥ 65 then (if x0 ≤ 90 then (some 1) else (some 2)) else (some 2))))
def impl_class.f (k : Nat) (a0 : Int) : Option (Int) := if a0 = 32 then (impl_class.j0 k a0 true) else (impl_class.j0 k a0 (a0 == 10))
theorem impl_class.mono_l : ∀ k, (∀ y0 y1, LeO (impl_class.j0 k y0 y1) (impl_class.j0 (k + 1) y0 y1))
 | 0 => fun _ _ r h => by simp [impl_class.j0] at h
 | k + 1 => by
  have ih0 := impl_class.mono_l k
  ·intro y0 y1
   unfold impl_class.j0
   repeat' first
   | (with_reducible exact ih0 _ _)
   | (with_reducible exact LeO.refl _)
   | (with_reducible exact LeO.none _)
   | (with_reducible refine LeO.ite ?_ ?_)
   | (with_reducible refine LeO.bind ?_ (fun _ => ?_))
   | exact ih0 _ _
   | exact LeO.none _
   | refine LeO.ite ?_ ?_
   | refine LeO.bind ?_ (fun _ => ?_)
theorem impl_class.mono : ∀ a0 k, LeO (impl_class.f k a0) (impl_class.f (k + 1) a0) := by
 intro a0 k
 have ih0 := impl_class.mono_l k
 unfold impl_class.f
 repeat' first
   | (with_reducible exact ih0 _ _)
   | (with_reducible exact LeO.refl _)
   | (with_reducible exact LeO.none _)
   | (with_reducible refine LeO.ite ?_ ?_)
   | (with_reducible refine LeO.bind ?_ (fun _ => ?_))
   | exact ih0 _ _
   | exact LeO.none _
   | refine LeO.ite ?_ ?_
   | refine LeO.bind ?_ (fun _ => ?_)
set_option maxHeartbeats 8000000 in
set_option maxRecDepth 100000 in
theorem impl_class.calls (k : Nat) (a0 : Int) (r : Int) (w : World) (h : impl_class.f k a0 = some r) :
  Calls Tryd.prog 59 #[.int .u8 a0] w fun e w' => e = .returned (.int .i64 r) ∧ Drawn0 w w' := by
 have H : (if a0 = 32 then (impl_class.j0 k a0 true) else (impl_class.j0 k a0 (a0 == 10))) = some r := h
 clear h
 have HC2 := Aside0.mk H
 clear H
 go_enter Tryd.func59, Tryd.ntmps59
 go_upto_region 1 with (fail)
 go_cut [3] (fun v3 wc => ∃ (kq : Nat) (x3_1 : Bool), v3 = .bool x3_1 ∧ Aside0 (impl_class.j0 kq a0 x3_1 = some r) ∧ Aside0 (kq ≤ k) ∧ Drawn0 w wc)
 case first =>
  have H := HC2.out
  clear HC2
  by_cases c3 : a0 = 32
  ·rw [if_pos c3] at H
   have c3b0 : (a0 == 32) = true := beq_iff_eq.mpr c3
   have c3b1 : (a0 != 32) = false := bne_eq_false_iff_eq.mpr c3
   clear c3
   (first | rw [c3b0] | (simp only [i64_w, i32_w]; rw [c3b0]) | skip)
   have H' := Aside0.mk H
   clear H
   go_wp2
   go_meet
   case rel => exact ⟨_, (true), (by first | rfl | (simp; done) | (simp [*]; done)), H', ⟨by first | omega | exact Nat.le_refl _⟩, by repeat (first | exact Drawn0.refl _ | apply Drawn0.step)⟩
  ·rw [if_neg c3] at H
   have c3b0 : (a0 == 32) = false := beq_eq_false_iff_ne.mpr c3
   have c3b1 : (a0 != 32) = true := bne_iff_ne.mpr c3
   (first | rw [c3b0] | (simp only [i64_w, i32_w]; rw [c3b0]) | skip)
   have H' := Aside0.mk H
   clear H
   go_wp2
   go_meet
   case rel => exact ⟨_, ((a0 == 10)), (by first | rfl | (simp; done) | (simp [*]; done)), H', ⟨by first | omega | exact Nat.le_refl _⟩, by repeat (first | exact Drawn0.refl _ | apply Drawn0.step)⟩
 case rest =>
  clear HC2
  try clear p2
  try clear c3
  try clear c3b0
  try clear c3b1
  obtain ⟨kq, x3_1, rfl, HA, HJ1, ⟨mc1, rfl⟩⟩ := hcut
  cases kq with
  | zero => exact absurd HA.out (by simp [impl_class.j0])
  | succ kj1 =>
   have H := HA.out
   clear HA
   simp only [impl_class.j0] at H
   by_cases c4 : x3_1 = true
   ·subst c4
    have H1 : (some 0) = some r := by rw [if_pos rfl] at H; exact H
    clear H
    have H := H1
    clear H1
    obtain rfl := Option.some.inj H
    go_wp2
    go_ret
    exact ⟨by first | rfl | (simp; done) | (simp [*]; done), by repeat (first | exact Drawn0.refl _ | apply Drawn0.step)⟩
   ·replace c4 := Bool.eq_false_iff.mpr c4
    subst c4
    have H1 : (if a0 ≥ 48 then (if a0 ≤ 57 then (some 1) else (if a0 ≥ 97 then (if a0 ≤ 122 then (some 1) else (if a0 ≥ 65 then (if a0 ≤ 90 then (some 1) else (some 2)) else (some 2))) else (if a0 ≥ 65 then (if a0 ≤ 90 then (some 1) else (some 2)) else (some 2)))) else (if a0 ≥ 97 then (if a0 ≤ 122 then (some 1) else (if a0 ≥ 65 then (if a0 ≤ 90 then (some 1) else (some 2)) else (some 2))) else (if a0 ≥ 65 then (if a0 ≤ 90 then (some 1) else (some 2)) else (some 2)))) = some r := by rw [if_neg (show ¬ (false = true) by decide)] at H; exact H
    clear H
    have H := H1
    clear H1
    by_cases c5 : a0 ≥ 48
    ·rw [if_pos c5] at H
     have c5b0 : decide (48 ≤ a0) = true := decide_eq_true c5
     clear c5
     by_cases c6 : a0 ≤ 57
     ·rw [if_pos c6] at H
      have c6b0 : decide (a0 ≤ 57) = true := decide_eq_true c6
      clear c6
      obtain rfl := Option.some.inj H
      go_wp2
      go_ret
      exact ⟨by first | rfl | (simp; done) | (simp [*]; done), by repeat (first | exact Drawn0.refl _ | apply Drawn0.step)⟩
     ·rw [if_neg c6] at H
      have c6b0 : decide (a0 ≤ 57) = false := decide_eq_false c6
      clear c6
      by_cases c7 : a0 ≥ 97
      ·rw [if_pos c7] at H
       have c7b0 : decide (97 ≤ a0) = true := decide_eq_true c7
       clear c7
       by_cases c8 : a0 ≤ 122
       ·rw [if_pos c8] at H
        have c8b0 : decide (a0 ≤ 122) = true := decide_eq_true c8
        clear c8
        obtain rfl := Option.some.inj H
        go_wp2
        go_ret
        exact ⟨by first | rfl | (simp; done) | (simp [*]; done), by repeat (first | exact Drawn0.refl _ | apply Drawn0.step)⟩
       ·rw [if_neg c8] at H
        have c8b0 : decide (a0 ≤ 122) = false := decide_eq_false c8
        clear c8
        by_cases c9 : a0 ≥ 65
        ·rw [if_pos c9] at H
         have c9b0 : decide (65 ≤ a0) = true := decide_eq_true c9
         clear c9
         by_cases c10 : a0 ≤ 90
         ·rw [if_pos c10] at H
          have c10b0 : decide (a0 ≤ 90) = true := decide_eq_true c10
          clear c10
          obtain rfl := Option.some.inj H
          go_wp2
          go_ret
          exact ⟨by first | rfl | (simp; done) | (simp [*]; done), by repeat (first | exact Drawn0.refl _ | apply Drawn0.step)⟩
         ·rw [if_neg c10] at H
          have c10b0 : decide (a0 ≤ 90) = false := decide_eq_false c10
          clear c10
          obtain rfl := Option.some.inj H
          go_wp2
          go_ret
          exact ⟨by first | rfl | (simp; done) | (simp [*]; done), by repeat (first | exact Drawn0.refl _ | apply Drawn0.step)⟩
        ·rw [if_neg c9] at H
         have c9b0 : decide (65 ≤ a0) = false := decide_eq_false c9
         clear c9
         obtain rfl := Option.some.inj H
         go_wp2
         go_ret
         exact ⟨by first | rfl | (simp; done) | (simp [*]; done), by repeat (first | exact Drawn0.refl _ | apply Drawn0.step)⟩
      ·rw [if_neg c7] at H
       have c7b0 : decide (97 ≤ a0) = false := decide_eq_false c7
       clear c7
       by_cases c11 : a0 ≥ 65
       ·rw [if_pos c11] at H
        have c11b0 : decide (65 ≤ a0) = true := decide_eq_true c11
        clear c11
        by_cases c12 : a0 ≤ 90
        ·rw [if_pos c12] at H
         have c12b0 : decide (a0 ≤ 90) = true := decide_eq_true c12
         clear c12
         obtain rfl := Option.some.inj H
         go_wp2
         go_ret
         exact ⟨by first | rfl | (simp; done) | (simp [*]; done), by repeat (first | exact Drawn0.refl _ | apply Drawn0.step)⟩
        ·rw [if_neg c12] at H
         have c12b0 : decide (a0 ≤ 90) = false := decide_eq_false c12
         clear c12
         obtain rfl := Option.some.inj H
         go_wp2
         go_ret
         exact ⟨by first | rfl | (simp; done) | (simp [*]; done), by repeat (first | exact Drawn0.refl _ | apply Drawn0.step)⟩
       ·rw [if_neg c11] at H
        have c11b0 : decide (65 ≤ a0) = false := decide_eq_false c11
        clear c11
        obtain rfl := Option.some.inj H
        go_wp2
        go_ret
        exact ⟨by first | rfl | (simp; done) | (simp [*]; done), by repeat (first | exact Drawn0.refl _ | apply Drawn0.step)⟩
    ·rw [if_neg c5] at H
     have c5b0 : decide (48 ≤ a0) = false := decide_eq_false c5
     clear c5
     by_cases c13 : a0 ≥ 97
     ·rw [if_pos c13] at H
      have c13b0 : decide (97 ≤ a0) = true := decide_eq_true c13
      clear c13
      by_cases c14 : a0 ≤ 122
      ·rw [if_pos c14] at H
       have c14b0 : decide (a0 ≤ 122) = true := decide_eq_true c14
       clear c14
       obtain rfl := Option.some.inj H
       go_wp2
       go_ret
       exact ⟨by first | rfl | (simp; done) | (simp [*]; done), by repeat (first | exact Drawn0.refl _ | apply Drawn0.step)⟩
      ·rw [if_neg c14] at H
       have c14b0 : decide (a0 ≤ 122) = false := decide_eq_false c14
       clear c14
       by_cases c15 : a0 ≥ 65
       ·rw [if_pos c15] at H
        have c15b0 : decide (65 ≤ a0) = true := decide_eq_true c15
        clear c15
        by_cases c16 : a0 ≤ 90
        ·rw [if_pos c16] at H
         have c16b0 : decide (a0 ≤ 90) = true := decide_eq_true c16
         clear c16
         obtain rfl := Option.some.inj H
         go_wp2
         go_ret
         exact ⟨by first | rfl | (simp; done) | (simp [*]; done), by repeat (first | exact Drawn0.refl _ | apply Drawn0.step)⟩
        ·rw [if_neg c16] at H
         have c16b0 : decide (a0 ≤ 90) = false := decide_eq_false c16
         clear c16
         obtain rfl := Option.some.inj H
         go_wp2
         go_ret
         exact ⟨by first | rfl | (simp; done) | (simp [*]; done), by repeat (first | exact Drawn0.refl _ | apply Drawn0.step)⟩
       ·rw [if_neg c15] at H
        have c15b0 : decide (65 ≤ a0) = false := decide_eq_false c15
        clear c15
        obtain rfl := Option.some.inj H
        go_wp2
        go_ret
        exact ⟨by first | rfl | (simp; done) | (simp [*]; done), by repeat (first | exact Drawn0.refl _ | apply Drawn0.step)⟩
     ·rw [if_neg c13] at H
      have c13b0 : decide (97 ≤ a0) = false := decide_eq_false c13
      clear c13
      by_cases c17 : a0 ≥ 65
      ·rw [if_pos c17] at H
       have c17b0 : decide (65 ≤ a0) = true := decide_eq_true c17
       clear c17
       by_cases c18 : a0 ≤ 90
       ·rw [if_pos c18] at H
        have c18b0 : decide (a0 ≤ 90) = true := decide_eq_true c18
        clear c18
        obtain rfl := Option.some.inj H
        go_wp2
        go_ret
        exact ⟨by first | rfl | (simp; done) | (simp [*]; done), by repeat (first | exact Drawn0.refl _ | apply Drawn0.step)⟩
       ·rw [if_neg c18] at H
        have c18b0 : decide (a0 ≤ 90) = false := decide_eq_false c18
        clear c18
        obtain rfl := Option.some.inj H
        go_wp2
        go_ret
        exact ⟨by first | rfl | (simp; done) | (simp [*]; done), by repeat (first | exact Drawn0.refl _ | apply Drawn0.step)⟩
      ·rw [if_neg c17] at H
       have c17b0 : decide (65 ≤ a0) = false := decide_eq_false c17
       clear c17
       obtain rfl := Option.some.inj H
       go_wp2
       go_ret
       exact ⟨by first | rfl | (simp; done) | (simp [*]; done), by repeat (first | exact Drawn0.refl _ | apply Drawn0.step)⟩

end Go.Proofs.YtheglgphknahdaaDoor.X
