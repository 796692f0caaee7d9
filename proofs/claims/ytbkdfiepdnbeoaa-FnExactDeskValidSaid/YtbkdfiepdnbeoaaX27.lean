-- written by a program of this session (wip/xprint.py) out of the translation
import Derived.Test.YtbkdfiepdnbeoaaX0
import Derived.Test.YtbkdfiepdnbeoaaX1
import Derived.Test.YtbkdfiepdnbeoaaX2
import Derived.Test.YtbkdfiepdnbeoaaX6
import Derived.Test.YtbkdfiepdnbeoaaX11
import Derived.Test.YtbkdfiepdnbeoaaX16
namespace Go.Proofs.Ytbkdfiepdnbeoaa.X
open Go.RowKit Go.Proofs.YtbkdfiepdnbeoaaW.PrintWords Go.Proofs.YtbkdfiepdnbeoaaW.PrintLast Go.Proofs.YtbkdfiepdnbeoaaW.PrintMore
attribute [local go_sem] max2_int min2_int max_two min_two max_three min_three max_four min_four   -- for this text's walks alone
set_option linter.unusedVariables false
set_option linter.unusedSimpArgs false

/-! ### spec_LineMany: function 71 -/
def spec_LineMany.l0 : Nat → ByteArray → Int → Int → Option (Int)
  | 0, _, _, _ => none
  | k + 1, x0, x3, x4 => if x4 < (x0.size : Int) then (if 0 ≤ x4 then (if (bt x0 x4) = 10 then (spec_LineMany.l0 k x0 (wrap64 (x3 + 1)) (wrap64 (x4 + 1))) else (spec_LineMany.l0 k x0 x3 (wrap64 (x4 + 1)))) else (none)) else (some x3)
def spec_LineMany.f (k : Nat) (a0 : ByteArray) : Option (Int) := (spec_TextValid.f k a0).bind fun t415 => (if t415 = true then (spec_LineMany.l0 k a0 1 0) else (some (-1)))
theorem spec_LineMany.mono_l : ∀ k, (∀ y0 y1 y2, LeO (spec_LineMany.l0 k y0 y1 y2) (spec_LineMany.l0 (k + 1) y0 y1 y2))
  | 0 => fun _ _ _ r h => by simp [spec_LineMany.l0] at h
  | k + 1 => by
    have ih0 := spec_LineMany.mono_l k
    · intro y0 y1 y2
      unfold spec_LineMany.l0
      repeat' first
      | (with_reducible exact ih0 _ _ _)
      | (with_reducible exact spec_TextValid.mono _ _)
      | (with_reducible exact LeO.refl _)
      | (with_reducible exact LeO.none _)
      | (with_reducible refine LeO.ite ?_ ?_)
      | (with_reducible refine LeO.bind ?_ (fun _ => ?_))
      | exact ih0 _ _ _
      | exact spec_TextValid.mono _ _
      | exact LeO.none _
      | refine LeO.ite ?_ ?_
      | refine LeO.bind ?_ (fun _ => ?_)
theorem spec_LineMany.mono : ∀ a0 k, LeO (spec_LineMany.f k a0) (spec_LineMany.f (k + 1) a0) := by
  intro a0 k
  have ih0 := spec_LineMany.mono_l k
  unfold spec_LineMany.f
  repeat' first
      | (with_reducible exact ih0 _ _ _)
      | (with_reducible exact spec_TextValid.mono _ _)
      | (with_reducible exact LeO.refl _)
      | (with_reducible exact LeO.none _)
      | (with_reducible refine LeO.ite ?_ ?_)
      | (with_reducible refine LeO.bind ?_ (fun _ => ?_))
      | exact ih0 _ _ _
      | exact spec_TextValid.mono _ _
      | exact LeO.none _
      | refine LeO.ite ?_ ?_
      | refine LeO.bind ?_ (fun _ => ?_)
set_option maxHeartbeats 8000000 in
set_option maxRecDepth 100000 in
theorem spec_LineMany.calls (k : Nat) (a0 : ByteArray) (r : Int) (w : World) (h : spec_LineMany.f k a0 = some r) :
    Calls Try.prog 71 #[.string a0] w fun e w' => e = .returned (.int .i64 r) ∧ Drawn0 w w' := by
  have H : ((spec_TextValid.f k a0).bind fun t415 => (if t415 = true then (spec_LineMany.l0 k a0 1 0) else (some (-1)))) = some r := h
  clear h
  replace H := Option.bind_eq_some_iff.mp H
  obtain ⟨t415, A20, H⟩ := H
  replace H : (if t415 = true then (spec_LineMany.l0 k a0 1 0) else (some (-1))) = some r := H
  have A2 := Aside0.mk A20
  clear A20
  by_cases c3 : t415 = true
  · subst c3
    have H1 : (spec_LineMany.l0 k a0 1 0) = some r := by rw [if_pos rfl] at H; exact H
    clear H
    have H := H1
    clear H1
    have H' := Aside0.mk H
    clear H
    go_enter Try.func71, Try.ntmps71
    go_wp2_with (first | ((with_reducible refine gate_callee (f := 28) rfl ?_); refine goesL_ (some 6) rfl rfl Try.func28 (by kernel_rfl) rfl #[.string a0] rfl (by (try simp only [List.map_toArray, List.map_cons, List.map_nil]); first | done | rfl | (simp only [List.length_drop, List.length_take]; rfl)) ?_; (with_reducible refine (spec_TextValid.calls k a0 true _ A2.out).mono ?_); rintro e w' ⟨rfl, ⟨nd, rfl⟩⟩; refine ⟨_, rfl, ?_⟩))
    go_loopg [3, 4] k (fun kq v3 v4 w' => ∃ (x3_1 : Int) (x4_1 : Int), v3 = .int .i64 x3_1 ∧ v4 = .int .i64 x4_1 ∧ Aside0 (spec_LineMany.l0 kq a0 x3_1 x4_1 = some r) ∧ Aside0 (kq ≤ k) ∧ Drawn0 w w')
    case atStart => exact ⟨(1), (0), (by first | rfl | (simp; done) | (simp [*]; done)), (by first | rfl | (simp; done) | (simp [*]; done)), H', ⟨Nat.le_refl _⟩, by repeat (first | exact Drawn0.refl _ | apply Drawn0.step)⟩
    case round =>
      clear H'
      try clear c2
      try clear p2
      try clear c3
      obtain ⟨x3_1, x4_1, rfl, rfl, HA, HK1, ⟨m1, rfl⟩⟩ := hrel
      cases gk with
      | zero => exact absurd HA.out (by simp [spec_LineMany.l0])
      | succ k1 =>
        have H := HA.out
        clear HA
        simp only [spec_LineMany.l0] at H
        by_cases c4 : x4_1 < (a0.size : Int)
        · rw [if_pos c4] at H
          have c4b0 : decide (x4_1 < (a0.size : Int)) = true := decide_eq_true c4
          clear c4
          by_cases c5 : 0 ≤ x4_1
          · rw [if_pos c5] at H
            have c5b0 : decide (0 ≤ x4_1) = true := decide_eq_true c5
            clear c5
            by_cases c7 : (bt a0 x4_1) = 10
            · rw [if_pos c7] at H
              have c7b0 : ((bt a0 x4_1) == 10) = true := beq_iff_eq.mpr c7
              have c7b1 : ((bt a0 x4_1) != 10) = false := bne_eq_false_iff_eq.mpr c7
              clear c7
              have H' := Aside0.mk H
              clear H
              have p6 : 0 ≤ (x4_1 : Int) := of_decide_eq_true (by first | (with_reducible assumption) | assumption)
              have q6 : x4_1 < (a0.size : Int) := of_decide_eq_true (by first | (with_reducible assumption) | assumption)
              have hx6 := bt_at a0 x4_1
              replace p6 := eq_true p6
              replace q6 := eq_true q6
              go_wp2
              go_roundg k1
              case measure => have := HK1.out; omega
              case rel => exact ⟨(wrap64 (x3_1 + 1)), (wrap64 (x4_1 + 1)), (by first | rfl | (simp; done) | (simp [*]; done)), (by first | rfl | (simp; done) | (simp [*]; done)), H', ⟨by have := HK1.out; omega⟩, by repeat (first | exact Drawn0.refl _ | apply Drawn0.step)⟩
            · rw [if_neg c7] at H
              have c7b0 : ((bt a0 x4_1) == 10) = false := beq_eq_false_iff_ne.mpr c7
              have c7b1 : ((bt a0 x4_1) != 10) = true := bne_iff_ne.mpr c7
              have H' := Aside0.mk H
              clear H
              have p6 : 0 ≤ (x4_1 : Int) := of_decide_eq_true (by first | (with_reducible assumption) | assumption)
              have q6 : x4_1 < (a0.size : Int) := of_decide_eq_true (by first | (with_reducible assumption) | assumption)
              have hx6 := bt_at a0 x4_1
              replace p6 := eq_true p6
              replace q6 := eq_true q6
              go_wp2
              go_roundg k1
              case measure => have := HK1.out; omega
              case rel => exact ⟨(x3_1), (wrap64 (x4_1 + 1)), (by first | rfl | (simp; done) | (simp [*]; done)), (by first | rfl | (simp; done) | (simp [*]; done)), H', ⟨by have := HK1.out; omega⟩, by repeat (first | exact Drawn0.refl _ | apply Drawn0.step)⟩
          · rw [if_neg c5] at H
            exact absurd H (by simp)
        · rw [if_neg c4] at H
          have c4b0 : decide (x4_1 < (a0.size : Int)) = false := decide_eq_false c4
          clear c4
          obtain rfl := Option.some.inj H
          go_wp2
          go_ret
          exact ⟨by first | rfl | (simp; done) | (simp [*]; done), by repeat (first | exact Drawn0.refl _ | apply Drawn0.step)⟩
  · replace c3 := Bool.eq_false_iff.mpr c3
    subst c3
    have H1 : (some (-1)) = some r := by rw [if_neg (show ¬ (false = true) by decide)] at H; exact H
    clear H
    have H := H1
    clear H1
    obtain rfl := Option.some.inj H
    go_enter Try.func71, Try.ntmps71
    go_wp2_with (first | ((with_reducible refine gate_callee (f := 28) rfl ?_); refine goesL_ (some 6) rfl rfl Try.func28 (by kernel_rfl) rfl #[.string a0] rfl (by (try simp only [List.map_toArray, List.map_cons, List.map_nil]); first | done | rfl | (simp only [List.length_drop, List.length_take]; rfl)) ?_; (with_reducible refine (spec_TextValid.calls k a0 false _ A2.out).mono ?_); rintro e w' ⟨rfl, ⟨nd, rfl⟩⟩; refine ⟨_, rfl, ?_⟩))
    go_ret
    exact ⟨by first | rfl | (simp; done) | (simp [*]; done), by repeat (first | exact Drawn0.refl _ | apply Drawn0.step)⟩

/-! ### spec_LineOf: function 68 -/
def spec_LineOf.f (k : Nat) (a0 : ByteArray) (a1 : Int) : Option (Int) := (spec_TextValid.f k a0).bind fun t416 => (if t416 = true then ((spec_l1In.f a1 0 (a0.size : Int)).bind fun t417 => (if t417 = true then (if 0 ≤ a1 then (if a1 ≤ (a0.size : Int) then ((spec_LineMany.f k (a0.extract 0 (a1 : Int).toNat)).bind fun t418 => (some (wrap64 (t418 - 1)))) else (none)) else (none)) else (some (-1)))) else (some (-1)))
theorem spec_LineOf.mono : ∀ a0 a1 k, LeO (spec_LineOf.f k a0 a1) (spec_LineOf.f (k + 1) a0 a1) := by
  intro a0 a1 k
  unfold spec_LineOf.f
  repeat' first
      | (with_reducible exact spec_LineMany.mono _ _)
      | (with_reducible exact spec_TextValid.mono _ _)
      | (with_reducible exact LeO.refl _)
      | (with_reducible exact LeO.none _)
      | (with_reducible refine LeO.ite ?_ ?_)
      | (with_reducible refine LeO.bind ?_ (fun _ => ?_))
      | exact spec_LineMany.mono _ _
      | exact spec_TextValid.mono _ _
      | exact LeO.none _
      | refine LeO.ite ?_ ?_
      | refine LeO.bind ?_ (fun _ => ?_)
set_option maxHeartbeats 8000000 in
set_option maxRecDepth 100000 in
theorem spec_LineOf.calls (k : Nat) (a0 : ByteArray) (a1 : Int) (r : Int) (w : World) (h : spec_LineOf.f k a0 a1 = some r) :
    Calls Try.prog 68 #[.string a0, .int .i64 a1] w fun e w' => e = .returned (.int .i64 r) ∧ Drawn0 w w' := by
  have H : ((spec_TextValid.f k a0).bind fun t416 => (if t416 = true then ((spec_l1In.f a1 0 (a0.size : Int)).bind fun t417 => (if t417 = true then (if 0 ≤ a1 then (if a1 ≤ (a0.size : Int) then ((spec_LineMany.f k (a0.extract 0 (a1 : Int).toNat)).bind fun t418 => (some (wrap64 (t418 - 1)))) else (none)) else (none)) else (some (-1)))) else (some (-1)))) = some r := h
  clear h
  replace H := Option.bind_eq_some_iff.mp H
  obtain ⟨t416, A30, H⟩ := H
  replace H : (if t416 = true then ((spec_l1In.f a1 0 (a0.size : Int)).bind fun t417 => (if t417 = true then (if 0 ≤ a1 then (if a1 ≤ (a0.size : Int) then ((spec_LineMany.f k (a0.extract 0 (a1 : Int).toNat)).bind fun t418 => (some (wrap64 (t418 - 1)))) else (none)) else (none)) else (some (-1)))) else (some (-1))) = some r := H
  have A3 := Aside0.mk A30
  clear A30
  by_cases c4 : t416 = true
  · subst c4
    have H1 : ((spec_l1In.f a1 0 (a0.size : Int)).bind fun t417 => (if t417 = true then (if 0 ≤ a1 then (if a1 ≤ (a0.size : Int) then ((spec_LineMany.f k (a0.extract 0 (a1 : Int).toNat)).bind fun t418 => (some (wrap64 (t418 - 1)))) else (none)) else (none)) else (some (-1)))) = some r := by rw [if_pos rfl] at H; exact H
    clear H
    have H := H1
    clear H1
    replace H := Option.bind_eq_some_iff.mp H
    obtain ⟨t417, A50, H⟩ := H
    replace H : (if t417 = true then (if 0 ≤ a1 then (if a1 ≤ (a0.size : Int) then ((spec_LineMany.f k (a0.extract 0 (a1 : Int).toNat)).bind fun t418 => (some (wrap64 (t418 - 1)))) else (none)) else (none)) else (some (-1))) = some r := H
    have A5 := Aside0.mk A50
    clear A50
    by_cases c6 : t417 = true
    · subst c6
      have H1 : (if 0 ≤ a1 then (if a1 ≤ (a0.size : Int) then ((spec_LineMany.f k (a0.extract 0 (a1 : Int).toNat)).bind fun t418 => (some (wrap64 (t418 - 1)))) else (none)) else (none)) = some r := by rw [if_pos rfl] at H; exact H
      clear H
      have H := H1
      clear H1
      by_cases c7 : 0 ≤ a1
      · rw [if_pos c7] at H
        have c7b0 := eq_true c7
        have c7b1 : decide (0 ≤ a1) = true := decide_eq_true c7
        clear c7
        by_cases c8 : a1 ≤ (a0.size : Int)
        · rw [if_pos c8] at H
          have c8b0 := eq_true c8
          have c8b1 : decide (a1 ≤ (a0.size : Int)) = true := decide_eq_true c8
          clear c8
          replace H := Option.bind_eq_some_iff.mp H
          obtain ⟨t418, A90, H⟩ := H
          replace H : (some (wrap64 (t418 - 1))) = some r := H
          have A9 := Aside0.mk A90
          clear A90
          obtain rfl := Option.some.inj H
          go_enter Try.func68, Try.ntmps68
          go_wp2_with (first | ((with_reducible refine gate_callee (f := 28) rfl ?_); refine goesL_ (some 6) rfl rfl Try.func28 (by kernel_rfl) rfl #[.string a0] rfl (by (try simp only [List.map_toArray, List.map_cons, List.map_nil]); first | done | rfl | (simp only [List.length_drop, List.length_take]; rfl)) ?_; (with_reducible refine (spec_TextValid.calls k a0 true _ A3.out).mono ?_); rintro e w' ⟨rfl, ⟨nd, rfl⟩⟩; refine ⟨_, rfl, ?_⟩) | (go_at_call 42; (with_reducible refine (spec_l1In.calls a1 0 (a0.size : Int) true _ A5.out).mono ?_); rintro e w' ⟨rfl, ⟨nd, rfl⟩⟩) | ((with_reducible refine gate_callee (f := 71) rfl ?_); refine goesL_ (some 18) rfl rfl Try.func71 (by kernel_rfl) rfl #[.string (a0.extract 0 (a1 : Int).toNat)] rfl (by (try simp only [List.map_toArray, List.map_cons, List.map_nil]); first | done | rfl | (simp only [List.length_drop, List.length_take]; rfl)) ?_; (with_reducible refine (spec_LineMany.calls k (a0.extract 0 (a1 : Int).toNat) t418 _ A9.out).mono ?_); rintro e w' ⟨rfl, ⟨nd, rfl⟩⟩; refine ⟨_, rfl, ?_⟩))
          go_ret
          exact ⟨by first | rfl | (simp; done) | (simp [*]; done), by repeat (first | exact Drawn0.refl _ | apply Drawn0.step)⟩
        · rw [if_neg c8] at H
          exact absurd H (by simp)
      · rw [if_neg c7] at H
        exact absurd H (by simp)
    · replace c6 := Bool.eq_false_iff.mpr c6
      subst c6
      have H1 : (some (-1)) = some r := by rw [if_neg (show ¬ (false = true) by decide)] at H; exact H
      clear H
      have H := H1
      clear H1
      obtain rfl := Option.some.inj H
      go_enter Try.func68, Try.ntmps68
      go_wp2_with (first | ((with_reducible refine gate_callee (f := 28) rfl ?_); refine goesL_ (some 6) rfl rfl Try.func28 (by kernel_rfl) rfl #[.string a0] rfl (by (try simp only [List.map_toArray, List.map_cons, List.map_nil]); first | done | rfl | (simp only [List.length_drop, List.length_take]; rfl)) ?_; (with_reducible refine (spec_TextValid.calls k a0 true _ A3.out).mono ?_); rintro e w' ⟨rfl, ⟨nd, rfl⟩⟩; refine ⟨_, rfl, ?_⟩) | (go_at_call 42; (with_reducible refine (spec_l1In.calls a1 0 (a0.size : Int) false _ A5.out).mono ?_); rintro e w' ⟨rfl, ⟨nd, rfl⟩⟩))
      go_ret
      exact ⟨by first | rfl | (simp; done) | (simp [*]; done), by repeat (first | exact Drawn0.refl _ | apply Drawn0.step)⟩
  · replace c4 := Bool.eq_false_iff.mpr c4
    subst c4
    have H1 : (some (-1)) = some r := by rw [if_neg (show ¬ (false = true) by decide)] at H; exact H
    clear H
    have H := H1
    clear H1
    obtain rfl := Option.some.inj H
    go_enter Try.func68, Try.ntmps68
    go_wp2_with (first | ((with_reducible refine gate_callee (f := 28) rfl ?_); refine goesL_ (some 6) rfl rfl Try.func28 (by kernel_rfl) rfl #[.string a0] rfl (by (try simp only [List.map_toArray, List.map_cons, List.map_nil]); first | done | rfl | (simp only [List.length_drop, List.length_take]; rfl)) ?_; (with_reducible refine (spec_TextValid.calls k a0 false _ A3.out).mono ?_); rintro e w' ⟨rfl, ⟨nd, rfl⟩⟩; refine ⟨_, rfl, ?_⟩))
    go_ret
    exact ⟨by first | rfl | (simp; done) | (simp [*]; done), by repeat (first | exact Drawn0.refl _ | apply Drawn0.step)⟩

/-! ### spec_LineStart: function 69 -/
mutual
def spec_LineStart.j0 : Nat → ByteArray → Int → Bool → Option (Int)
  | 0, _, _, _ => none
  | k + 1, x0, x1, x13 => if x13 = true then (some (-1)) else (spec_LineStart.l0 k x0 x1 0 0)
def spec_LineStart.l0 : Nat → ByteArray → Int → Int → Int → Option (Int)
  | 0, _, _, _, _ => none
  | k + 1, x0, x1, x5, x6 => if x6 ≤ (x0.size : Int) then (if x5 = x1 then (if x6 = 0 then (spec_LineStart.j2 k x0 x1 x5 x6 true) else (if 0 ≤ (wrap64 (x6 - 1)) then (if (wrap64 (x6 - 1)) < (x0.size : Int) then (spec_LineStart.j2 k x0 x1 x5 x6 ((bt x0 (wrap64 (x6 - 1))) == 10)) else (none)) else (none))) else (spec_LineStart.j2 k x0 x1 x5 x6 false)) else (some (-1))
def spec_LineStart.j2 : Nat → ByteArray → Int → Int → Int → Bool → Option (Int)
  | 0, _, _, _, _, _ => none
  | k + 1, x0, x1, x5, x6, x33 => if x33 = true then (some x6) else (if x6 < (x0.size : Int) then (if 0 ≤ x6 then (if (bt x0 x6) = 10 then (spec_LineStart.l0 k x0 x1 (wrap64 (x5 + 1)) (wrap64 (x6 + 1))) else (spec_LineStart.l0 k x0 x1 x5 (wrap64 (x6 + 1)))) else (none)) else (spec_LineStart.l0 k x0 x1 x5 (wrap64 (x6 + 1))))
end
def spec_LineStart.f (k : Nat) (a0 : ByteArray) (a1 : Int) : Option (Int) := (spec_TextValid.f k a0).bind fun t419 => (if t419 = true then (spec_LineStart.j0 k a0 a1 (decide (a1 < 0))) else (spec_LineStart.j0 k a0 a1 true))
theorem spec_LineStart.mono_l : ∀ k, (∀ y0 y1 y2, LeO (spec_LineStart.j0 k y0 y1 y2) (spec_LineStart.j0 (k + 1) y0 y1 y2)) ∧ (∀ y0 y1 y2 y3, LeO (spec_LineStart.l0 k y0 y1 y2 y3) (spec_LineStart.l0 (k + 1) y0 y1 y2 y3)) ∧ (∀ y0 y1 y2 y3 y4, LeO (spec_LineStart.j2 k y0 y1 y2 y3 y4) (spec_LineStart.j2 (k + 1) y0 y1 y2 y3 y4))
  | 0 => ⟨fun _ _ _ r h => by simp [spec_LineStart.j0] at h, fun _ _ _ _ r h => by simp [spec_LineStart.l0] at h, fun _ _ _ _ _ r h => by simp [spec_LineStart.j2] at h⟩
  | k + 1 => by
    obtain ⟨ih0, ih1, ih2⟩ := spec_LineStart.mono_l k
    refine ⟨?_, ?_, ?_⟩
    · intro y0 y1 y2
      unfold spec_LineStart.j0
      repeat' first
      | (with_reducible exact ih0 _ _ _)
      | (with_reducible exact ih1 _ _ _ _)
      | (with_reducible exact ih2 _ _ _ _ _)
      | (with_reducible exact spec_TextValid.mono _ _)
      | (with_reducible exact LeO.refl _)
      | (with_reducible exact LeO.none _)
      | (with_reducible refine LeO.ite ?_ ?_)
      | (with_reducible refine LeO.bind ?_ (fun _ => ?_))
      | exact ih0 _ _ _
      | exact ih1 _ _ _ _
      | exact ih2 _ _ _ _ _
      | exact spec_TextValid.mono _ _
      | exact LeO.none _
      | refine LeO.ite ?_ ?_
      | refine LeO.bind ?_ (fun _ => ?_)
    · intro y0 y1 y2 y3
      unfold spec_LineStart.l0
      repeat' first
      | (with_reducible exact ih0 _ _ _)
      | (with_reducible exact ih1 _ _ _ _)
      | (with_reducible exact ih2 _ _ _ _ _)
      | (with_reducible exact spec_TextValid.mono _ _)
      | (with_reducible exact LeO.refl _)
      | (with_reducible exact LeO.none _)
      | (with_reducible refine LeO.ite ?_ ?_)
      | (with_reducible refine LeO.bind ?_ (fun _ => ?_))
      | exact ih0 _ _ _
      | exact ih1 _ _ _ _
      | exact ih2 _ _ _ _ _
      | exact spec_TextValid.mono _ _
      | exact LeO.none _
      | refine LeO.ite ?_ ?_
      | refine LeO.bind ?_ (fun _ => ?_)
    · intro y0 y1 y2 y3 y4
      unfold spec_LineStart.j2
      repeat' first
      | (with_reducible exact ih0 _ _ _)
      | (with_reducible exact ih1 _ _ _ _)
      | (with_reducible exact ih2 _ _ _ _ _)
      | (with_reducible exact spec_TextValid.mono _ _)
      | (with_reducible exact LeO.refl _)
      | (with_reducible exact LeO.none _)
      | (with_reducible refine LeO.ite ?_ ?_)
      | (with_reducible refine LeO.bind ?_ (fun _ => ?_))
      | exact ih0 _ _ _
      | exact ih1 _ _ _ _
      | exact ih2 _ _ _ _ _
      | exact spec_TextValid.mono _ _
      | exact LeO.none _
      | refine LeO.ite ?_ ?_
      | refine LeO.bind ?_ (fun _ => ?_)
theorem spec_LineStart.mono : ∀ a0 a1 k, LeO (spec_LineStart.f k a0 a1) (spec_LineStart.f (k + 1) a0 a1) := by
  intro a0 a1 k
  obtain ⟨ih0, ih1, ih2⟩ := spec_LineStart.mono_l k
  unfold spec_LineStart.f
  repeat' first
      | (with_reducible exact ih0 _ _ _)
      | (with_reducible exact ih1 _ _ _ _)
      | (with_reducible exact ih2 _ _ _ _ _)
      | (with_reducible exact spec_TextValid.mono _ _)
      | (with_reducible exact LeO.refl _)
      | (with_reducible exact LeO.none _)
      | (with_reducible refine LeO.ite ?_ ?_)
      | (with_reducible refine LeO.bind ?_ (fun _ => ?_))
      | exact ih0 _ _ _
      | exact ih1 _ _ _ _
      | exact ih2 _ _ _ _ _
      | exact spec_TextValid.mono _ _
      | exact LeO.none _
      | refine LeO.ite ?_ ?_
      | refine LeO.bind ?_ (fun _ => ?_)
set_option maxHeartbeats 8000000 in
set_option maxRecDepth 100000 in
theorem spec_LineStart.calls (k : Nat) (a0 : ByteArray) (a1 : Int) (r : Int) (w : World) (h : spec_LineStart.f k a0 a1 = some r) :
    Calls Try.prog 69 #[.string a0, .int .i64 a1] w fun e w' => e = .returned (.int .i64 r) ∧ Drawn0 w w' := by
  have H : ((spec_TextValid.f k a0).bind fun t419 => (if t419 = true then (spec_LineStart.j0 k a0 a1 (decide (a1 < 0))) else (spec_LineStart.j0 k a0 a1 true))) = some r := h
  clear h
  have HC3 := Aside0.mk H
  clear H
  go_enter Try.func69, Try.ntmps69
  go_upto_region 1 with (fail)
  go_cut [13] (fun v13 wc => ∃ (kq : Nat) (x13_2 : Bool), v13 = .bool x13_2 ∧ Aside0 (spec_LineStart.j0 kq a0 a1 x13_2 = some r) ∧ Aside0 (kq ≤ k) ∧ Drawn0 w wc)
  case first =>
    have H := HC3.out
    clear HC3
    replace H := Option.bind_eq_some_iff.mp H
    obtain ⟨t419, A40, H⟩ := H
    replace H : (if t419 = true then (spec_LineStart.j0 k a0 a1 (decide (a1 < 0))) else (spec_LineStart.j0 k a0 a1 true)) = some r := H
    have A4 := Aside0.mk A40
    clear A40
    by_cases c5 : t419 = true
    · subst c5
      have H1 : (spec_LineStart.j0 k a0 a1 (decide (a1 < 0))) = some r := by rw [if_pos rfl] at H; exact H
      clear H
      have H := H1
      clear H1
      have H' := Aside0.mk H
      clear H
      go_wp2_with (first | ((with_reducible refine gate_callee (f := 28) rfl ?_); refine goesL_ (some 8) rfl rfl Try.func28 (by kernel_rfl) rfl #[.string a0] rfl (by (try simp only [List.map_toArray, List.map_cons, List.map_nil]); first | done | rfl | (simp only [List.length_drop, List.length_take]; rfl)) ?_; (with_reducible refine (spec_TextValid.calls k a0 true _ A4.out).mono ?_); rintro e w' ⟨rfl, ⟨nd, rfl⟩⟩; refine ⟨_, rfl, ?_⟩))
      go_meet
      case rel => exact ⟨_, (decide (a1 < 0)), (by first | rfl | (simp; done) | (simp [*]; done)), H', ⟨by first | omega | exact Nat.le_refl _⟩, by repeat (first | exact Drawn0.refl _ | apply Drawn0.step)⟩
    · replace c5 := Bool.eq_false_iff.mpr c5
      subst c5
      have H1 : (spec_LineStart.j0 k a0 a1 true) = some r := by rw [if_neg (show ¬ (false = true) by decide)] at H; exact H
      clear H
      have H := H1
      clear H1
      have H' := Aside0.mk H
      clear H
      go_wp2_with (first | ((with_reducible refine gate_callee (f := 28) rfl ?_); refine goesL_ (some 8) rfl rfl Try.func28 (by kernel_rfl) rfl #[.string a0] rfl (by (try simp only [List.map_toArray, List.map_cons, List.map_nil]); first | done | rfl | (simp only [List.length_drop, List.length_take]; rfl)) ?_; (with_reducible refine (spec_TextValid.calls k a0 false _ A4.out).mono ?_); rintro e w' ⟨rfl, ⟨nd, rfl⟩⟩; refine ⟨_, rfl, ?_⟩))
      go_meet
      case rel => exact ⟨_, (true), (by first | rfl | (simp; done) | (simp [*]; done)), H', ⟨by first | omega | exact Nat.le_refl _⟩, by repeat (first | exact Drawn0.refl _ | apply Drawn0.step)⟩
  case rest =>
    clear HC3
    try clear c2
    try clear p2
    try clear c5
    obtain ⟨kq, x13_2, rfl, HA, HJ2, ⟨mc2, rfl⟩⟩ := hcut
    cases kq with
    | zero => exact absurd HA.out (by simp [spec_LineStart.j0])
    | succ kj2 =>
      have H := HA.out
      clear HA
      simp only [spec_LineStart.j0] at H
      by_cases c6 : x13_2 = true
      · subst c6
        have H1 : (some (-1)) = some r := by rw [if_pos rfl] at H; exact H
        clear H
        have H := H1
        clear H1
        obtain rfl := Option.some.inj H
        go_wp2
        go_ret
        exact ⟨by first | rfl | (simp; done) | (simp [*]; done), by repeat (first | exact Drawn0.refl _ | apply Drawn0.step)⟩
      · replace c6 := Bool.eq_false_iff.mpr c6
        subst c6
        have H1 : (spec_LineStart.l0 kj2 a0 a1 0 0) = some r := by rw [if_neg (show ¬ (false = true) by decide)] at H; exact H
        clear H
        have H := H1
        clear H1
        have H' := Aside0.mk H
        clear H
        go_wp2
        go_loopg [5, 6] kj2 (fun kq v5 v6 w' => ∃ (x5_2 : Int) (x6_2 : Int), v5 = .int .i64 x5_2 ∧ v6 = .int .i64 x6_2 ∧ Aside0 (spec_LineStart.l0 kq a0 a1 x5_2 x6_2 = some r) ∧ Aside0 (kq ≤ kj2) ∧ Drawn0 w w')
        case atStart => exact ⟨(0), (0), (by first | rfl | (simp; done) | (simp [*]; done)), (by first | rfl | (simp; done) | (simp [*]; done)), H', ⟨Nat.le_refl _⟩, by repeat (first | exact Drawn0.refl _ | apply Drawn0.step)⟩
        case round =>
          clear H'
          try clear c2
          try clear p2
          try clear c5
          try clear c6
          try clear p2
          obtain ⟨x5_2, x6_2, rfl, rfl, HA, HK2, ⟨m2, rfl⟩⟩ := hrel
          cases gk with
          | zero => exact absurd HA.out (by simp [spec_LineStart.l0])
          | succ k2 =>
            have H := HA.out
            clear HA
            simp only [spec_LineStart.l0] at H
            by_cases c7 : x6_2 ≤ (a0.size : Int)
            · rw [if_pos c7] at H
              have c7b0 : decide (x6_2 ≤ (a0.size : Int)) = true := decide_eq_true c7
              clear c7
              have HC8 := Aside0.mk H
              clear H
              go_upto_region 7 with (fail)
              go_cut [33] (fun v33 wc => ∃ (kq : Nat) (x33_7 : Bool), v33 = .bool x33_7 ∧ Aside0 (spec_LineStart.j2 kq a0 a1 x5_2 x6_2 x33_7 = some r) ∧ Aside0 (kq ≤ k2) ∧ Drawn0 w wc)
              case first =>
                have H := HC8.out
                clear HC8
                by_cases c9 : x5_2 = a1
                · rw [if_pos c9] at H
                  have c9b0 : (x5_2 == a1) = true := beq_iff_eq.mpr c9
                  have c9b1 : (x5_2 != a1) = false := bne_eq_false_iff_eq.mpr c9
                  clear c9
                  (first | rw [c9b0] | (simp only [i64_w, i32_w]; rw [c9b0]) | skip)
                  by_cases c10 : x6_2 = 0
                  · rw [if_pos c10] at H
                    have c10b0 : (x6_2 == 0) = true := beq_iff_eq.mpr c10
                    have c10b1 : (x6_2 != 0) = false := bne_eq_false_iff_eq.mpr c10
                    clear c10
                    have H' := Aside0.mk H
                    clear H
                    go_wp2
                    go_meet
                    case rel => exact ⟨_, (true), (by first | rfl | (simp; done) | (simp [*]; done)), H', ⟨by have := HJ2.out; have := HK2.out; first | omega | exact Nat.le_refl _⟩, by repeat (first | exact Drawn0.refl _ | apply Drawn0.step)⟩
                  · rw [if_neg c10] at H
                    have c10b0 : (x6_2 == 0) = false := beq_eq_false_iff_ne.mpr c10
                    have c10b1 : (x6_2 != 0) = true := bne_iff_ne.mpr c10
                    obtain ⟨ji11, hji11⟩ : ∃ j_ : Int, (wrap64 (x6_2 - 1)) = j_ := ⟨_, rfl⟩
                    replace H : (if 0 ≤ (ji11) then (if (ji11) < (a0.size : Int) then (spec_LineStart.j2 k2 a0 a1 x5_2 x6_2 ((bt a0 (ji11)) == 10)) else (none)) else (none)) = some r := by first | (rw [hji11] at H; exact H) | (simp only [hji11] at H ⊢; exact H)
                    have hji11w : (IntKind.i64.wrap (x6_2 - 1)) = ji11 := (i64_w _).trans hji11
                    by_cases c12 : 0 ≤ (ji11)
                    · rw [if_pos c12] at H
                      have c12b0 : decide (0 ≤ (ji11)) = true := decide_eq_true c12
                      clear c12
                      by_cases c13 : (ji11) < (a0.size : Int)
                      · rw [if_pos c13] at H
                        have c13b0 : decide ((ji11) < (a0.size : Int)) = true := decide_eq_true c13
                        clear c13
                        have H' := Aside0.mk H
                        clear H
                        have p14 : 0 ≤ ((ji11) : Int) := of_decide_eq_true (by first | (with_reducible assumption) | assumption)
                        have q14 : (ji11) < (a0.size : Int) := of_decide_eq_true (by first | (with_reducible assumption) | assumption)
                        have hx14 := bt_at a0 (ji11)
                        replace p14 := eq_true p14
                        replace q14 := eq_true q14
                        go_wp2
                        go_meet
                        case rel => exact ⟨_, (((bt a0 (ji11)) == 10)), (by first | rfl | (simp; done) | (simp only [← hji11] <;> (first | rfl | simp)) | (simp [*]; done)), H', ⟨by have := HJ2.out; have := HK2.out; first | omega | exact Nat.le_refl _⟩, by repeat (first | exact Drawn0.refl _ | apply Drawn0.step)⟩
                      · rw [if_neg c13] at H
                        exact absurd H (by simp)
                    · rw [if_neg c12] at H
                      exact absurd H (by simp)
                · rw [if_neg c9] at H
                  have c9b0 : (x5_2 == a1) = false := beq_eq_false_iff_ne.mpr c9
                  have c9b1 : (x5_2 != a1) = true := bne_iff_ne.mpr c9
                  (first | rw [c9b0] | (simp only [i64_w, i32_w]; rw [c9b0]) | skip)
                  have H' := Aside0.mk H
                  clear H
                  go_wp2
                  go_meet
                  case rel => exact ⟨_, (false), (by first | rfl | (simp; done) | (simp [*]; done)), H', ⟨by have := HJ2.out; have := HK2.out; first | omega | exact Nat.le_refl _⟩, by repeat (first | exact Drawn0.refl _ | apply Drawn0.step)⟩
              case rest =>
                clear HC8
                try clear c1
                try clear p1
                try clear q1
                try clear hx1
                try clear c2
                try clear p2
                try clear c5
                try clear c6
                try clear p6
                try clear c7
                try clear c7b0
                try clear c9
                try clear c9b0
                try clear c9b1
                try clear c10
                try clear c10b0
                try clear c10b1
                try clear c12
                try clear c12b0
                try clear c13
                try clear c13b0
                try clear p14
                try clear q14
                try clear hx14
                try clear p14
                try clear p2
                try clear q14
                obtain ⟨kq, x33_7, rfl, HA, HJ7, ⟨mc7, rfl⟩⟩ := hcut
                cases kq with
                | zero => exact absurd HA.out (by simp [spec_LineStart.j2])
                | succ kj7 =>
                  have H := HA.out
                  clear HA
                  simp only [spec_LineStart.j2] at H
                  by_cases c15 : x33_7 = true
                  · subst c15
                    have H1 : (some x6_2) = some r := by rw [if_pos rfl] at H; exact H
                    clear H
                    have H := H1
                    clear H1
                    obtain rfl := Option.some.inj H
                    go_wp2
                    go_ret
                    exact ⟨by first | rfl | (simp; done) | (simp [*]; done), by repeat (first | exact Drawn0.refl _ | apply Drawn0.step)⟩
                  · replace c15 := Bool.eq_false_iff.mpr c15
                    subst c15
                    have H1 : (if x6_2 < (a0.size : Int) then (if 0 ≤ x6_2 then (if (bt a0 x6_2) = 10 then (spec_LineStart.l0 kj7 a0 a1 (wrap64 (x5_2 + 1)) (wrap64 (x6_2 + 1))) else (spec_LineStart.l0 kj7 a0 a1 x5_2 (wrap64 (x6_2 + 1)))) else (none)) else (spec_LineStart.l0 kj7 a0 a1 x5_2 (wrap64 (x6_2 + 1)))) = some r := by rw [if_neg (show ¬ (false = true) by decide)] at H; exact H
                    clear H
                    have H := H1
                    clear H1
                    by_cases c16 : x6_2 < (a0.size : Int)
                    · rw [if_pos c16] at H
                      have c16b0 : decide (x6_2 < (a0.size : Int)) = true := decide_eq_true c16
                      clear c16
                      by_cases c17 : 0 ≤ x6_2
                      · rw [if_pos c17] at H
                        have c17b0 : decide (0 ≤ x6_2) = true := decide_eq_true c17
                        clear c17
                        by_cases c19 : (bt a0 x6_2) = 10
                        · rw [if_pos c19] at H
                          have c19b0 : ((bt a0 x6_2) == 10) = true := beq_iff_eq.mpr c19
                          have c19b1 : ((bt a0 x6_2) != 10) = false := bne_eq_false_iff_eq.mpr c19
                          clear c19
                          have H' := Aside0.mk H
                          clear H
                          have p18 : 0 ≤ (x6_2 : Int) := of_decide_eq_true (by first | (with_reducible assumption) | assumption)
                          have q18 : x6_2 < (a0.size : Int) := of_decide_eq_true (by first | (with_reducible assumption) | assumption)
                          have hx18 := bt_at a0 x6_2
                          replace p18 := eq_true p18
                          replace q18 := eq_true q18
                          go_wp2
                          go_roundg kj7
                          case measure => have := HJ2.out; have := HK2.out; have := HJ7.out; omega
                          case rel => exact ⟨(wrap64 (x5_2 + 1)), (wrap64 (x6_2 + 1)), (by first | rfl | (simp; done) | (simp [*]; done)), (by first | rfl | (simp; done) | (simp [*]; done)), H', ⟨by have := HJ2.out; have := HK2.out; have := HJ7.out; omega⟩, by repeat (first | exact Drawn0.refl _ | apply Drawn0.step)⟩
                        · rw [if_neg c19] at H
                          have c19b0 : ((bt a0 x6_2) == 10) = false := beq_eq_false_iff_ne.mpr c19
                          have c19b1 : ((bt a0 x6_2) != 10) = true := bne_iff_ne.mpr c19
                          have H' := Aside0.mk H
                          clear H
                          have p18 : 0 ≤ (x6_2 : Int) := of_decide_eq_true (by first | (with_reducible assumption) | assumption)
                          have q18 : x6_2 < (a0.size : Int) := of_decide_eq_true (by first | (with_reducible assumption) | assumption)
                          have hx18 := bt_at a0 x6_2
                          replace p18 := eq_true p18
                          replace q18 := eq_true q18
                          go_wp2
                          go_roundg kj7
                          case measure => have := HJ2.out; have := HK2.out; have := HJ7.out; omega
                          case rel => exact ⟨(x5_2), (wrap64 (x6_2 + 1)), (by first | rfl | (simp; done) | (simp [*]; done)), (by first | rfl | (simp; done) | (simp [*]; done)), H', ⟨by have := HJ2.out; have := HK2.out; have := HJ7.out; omega⟩, by repeat (first | exact Drawn0.refl _ | apply Drawn0.step)⟩
                      · rw [if_neg c17] at H
                        exact absurd H (by simp)
                    · rw [if_neg c16] at H
                      have c16b0 : decide (x6_2 < (a0.size : Int)) = false := decide_eq_false c16
                      clear c16
                      have H' := Aside0.mk H
                      clear H
                      go_wp2
                      go_roundg kj7
                      case measure => have := HJ2.out; have := HK2.out; have := HJ7.out; omega
                      case rel => exact ⟨(x5_2), (wrap64 (x6_2 + 1)), (by first | rfl | (simp; done) | (simp [*]; done)), (by first | rfl | (simp; done) | (simp [*]; done)), H', ⟨by have := HJ2.out; have := HK2.out; have := HJ7.out; omega⟩, by repeat (first | exact Drawn0.refl _ | apply Drawn0.step)⟩
            · rw [if_neg c7] at H
              have c7b0 : decide (x6_2 ≤ (a0.size : Int)) = false := decide_eq_false c7
              clear c7
              obtain rfl := Option.some.inj H
              go_wp2
              go_ret
              exact ⟨by first | rfl | (simp; done) | (simp [*]; done), by repeat (first | exact Drawn0.refl _ | apply Drawn0.step)⟩

/-! ### spec_ColumnOf: function 62 -/
def spec_ColumnOf.f (k : Nat) (a0 : ByteArray) (a1 : Int) : Option (Int) := (spec_LineOf.f k a0 a1).bind fun t420 => (if t420 < 0 then (some (-1)) else ((spec_LineStart.f k a0 t420).bind fun t421 => (some (wrap64 (a1 - t421)))))
theorem spec_ColumnOf.mono : ∀ a0 a1 k, LeO (spec_ColumnOf.f k a0 a1) (spec_ColumnOf.f (k + 1) a0 a1) := by
  intro a0 a1 k
  unfold spec_ColumnOf.f
  repeat' first
      | (with_reducible exact spec_LineOf.mono _ _ _)
      | (with_reducible exact spec_LineStart.mono _ _ _)
      | (with_reducible exact LeO.refl _)
      | (with_reducible exact LeO.none _)
      | (with_reducible refine LeO.ite ?_ ?_)
      | (with_reducible refine LeO.bind ?_ (fun _ => ?_))
      | exact spec_LineOf.mono _ _ _
      | exact spec_LineStart.mono _ _ _
      | exact LeO.none _
      | refine LeO.ite ?_ ?_
      | refine LeO.bind ?_ (fun _ => ?_)
set_option maxHeartbeats 8000000 in
set_option maxRecDepth 100000 in
theorem spec_ColumnOf.calls (k : Nat) (a0 : ByteArray) (a1 : Int) (r : Int) (w : World) (h : spec_ColumnOf.f k a0 a1 = some r) :
    Calls Try.prog 62 #[.string a0, .int .i64 a1] w fun e w' => e = .returned (.int .i64 r) ∧ Drawn0 w w' := by
  have H : ((spec_LineOf.f k a0 a1).bind fun t420 => (if t420 < 0 then (some (-1)) else ((spec_LineStart.f k a0 t420).bind fun t421 => (some (wrap64 (a1 - t421)))))) = some r := h
  clear h
  replace H := Option.bind_eq_some_iff.mp H
  obtain ⟨t420, A30, H⟩ := H
  replace H : (if t420 < 0 then (some (-1)) else ((spec_LineStart.f k a0 t420).bind fun t421 => (some (wrap64 (a1 - t421))))) = some r := H
  have A3 := Aside0.mk A30
  clear A30
  by_cases c4 : t420 < 0
  · rw [if_pos c4] at H
    have c4b0 : decide (t420 < 0) = true := decide_eq_true c4
    clear c4
    obtain rfl := Option.some.inj H
    go_enter Try.func62, Try.ntmps62
    go_wp2_with (first | ((with_reducible refine gate_callee (f := 68) rfl ?_); refine goesL_ (some 8) rfl rfl Try.func68 (by kernel_rfl) rfl #[.string a0, .int .i64 a1] rfl (by (try simp only [List.map_toArray, List.map_cons, List.map_nil]); first | done | rfl | (simp only [List.length_drop, List.length_take]; rfl)) ?_; (with_reducible refine (spec_LineOf.calls k a0 a1 t420 _ A3.out).mono ?_); rintro e w' ⟨rfl, ⟨nd, rfl⟩⟩; refine ⟨_, rfl, ?_⟩))
    go_ret
    exact ⟨by first | rfl | (simp; done) | (simp [*]; done), by repeat (first | exact Drawn0.refl _ | apply Drawn0.step)⟩
  · rw [if_neg c4] at H
    have c4b0 : decide (t420 < 0) = false := decide_eq_false c4
    clear c4
    replace H := Option.bind_eq_some_iff.mp H
    obtain ⟨t421, A50, H⟩ := H
    replace H : (some (wrap64 (a1 - t421))) = some r := H
    have A5 := Aside0.mk A50
    clear A50
    obtain rfl := Option.some.inj H
    go_enter Try.func62, Try.ntmps62
    go_wp2_with (first | ((with_reducible refine gate_callee (f := 68) rfl ?_); refine goesL_ (some 8) rfl rfl Try.func68 (by kernel_rfl) rfl #[.string a0, .int .i64 a1] rfl (by (try simp only [List.map_toArray, List.map_cons, List.map_nil]); first | done | rfl | (simp only [List.length_drop, List.length_take]; rfl)) ?_; (with_reducible refine (spec_LineOf.calls k a0 a1 t420 _ A3.out).mono ?_); rintro e w' ⟨rfl, ⟨nd, rfl⟩⟩; refine ⟨_, rfl, ?_⟩) | ((with_reducible refine gate_callee (f := 69) rfl ?_); refine goesL_ (some 14) rfl rfl Try.func69 (by kernel_rfl) rfl #[.string a0, .int .i64 t420] rfl (by (try simp only [List.map_toArray, List.map_cons, List.map_nil]); first | done | rfl | (simp only [List.length_drop, List.length_take]; rfl)) ?_; (with_reducible refine (spec_LineStart.calls k a0 t420 t421 _ A5.out).mono ?_); rintro e w' ⟨rfl, ⟨nd, rfl⟩⟩; refine ⟨_, rfl, ?_⟩))
    go_ret
    exact ⟨by first | rfl | (simp; done) | (simp [*]; done), by repeat (first | exact Drawn0.refl _ | apply Drawn0.step)⟩

/-! ### spec_l20Desk: function 53 -/
def spec_l20Desk.j0 : Nat → Int → ByteArray → List Int → Int → ByteArray → Int → Int → Option (ByteArray × Int × Int × Int)
  | 0, _, _, _, _, _, _, _ => none
  | k + 1, x1, x5, x1000, x1001, x428000, x428001, x428002 => (spec_l20Rd_odd.f k x1000 x1001 x1).bind fun bt433 => (if bt433.1 = true then ((spec_l20Rd_pick.f k x1000 bt433.2 2).bind fun bt435 => (if bt435.1 = 0 then ((spec_l20Place.f k x1000 bt435.2 x5 1).bind fun bt437 => (some (x428000, bt437.1, x428002, bt437.2))) else ((some (([(-1), 121] : List Int) : List Int)).bind fun y439 => ((spec_l20Rd_pick.f k x1000 bt435.2 2).bind fun bt442 => (if 0 ≤ bt442.1 then (if bt442.1 < (y439.length : Int) then (some (x428000, x428001, rd y439 bt442.1, bt442.2)) else (none)) else (none)))))) else (some (x428000, x428001, x428002, bt433.2)))
def spec_l20Desk.f (k : Nat) (s0_0 : List Int) (s0_1 : Int) (a1 : Int) : Option (ByteArray × Int × Int × Int) := (spec_l20Text.f k s0_0 s0_1 a1).bind fun bt423 => ((spec_l20Place.f k s0_0 bt423.2 bt423.1 0).bind fun bt425 => ((spec_ColumnOf.f k bt423.1 bt425.1).bind fun t428 => ((spec_l20Rd_pick.f k s0_0 bt425.2 3).bind fun bt429 => (if bt429.1 = 0 then ((spec_l20Rd_pick.f k s0_0 bt429.2 9).bind fun bt431 => (spec_l20Desk.j0 k a1 bt423.1 s0_0 bt431.2 bt423.1 bt425.1 bt431.1)) else (spec_l20Desk.j0 k a1 bt423.1 s0_0 bt429.2 bt423.1 bt425.1 (mx 0 t428))))))
theorem spec_l20Desk.mono_l : ∀ k, (∀ y0 y1 y2 y3 y4 y5 y6, LeO (spec_l20Desk.j0 k y0 y1 y2 y3 y4 y5 y6) (spec_l20Desk.j0 (k + 1) y0 y1 y2 y3 y4 y5 y6))
  | 0 => fun _ _ _ _ _ _ _ r h => by simp [spec_l20Desk.j0] at h
  | k + 1 => by
    have ih0 := spec_l20Desk.mono_l k
    · intro y0 y1 y2 y3 y4 y5 y6
      unfold spec_l20Desk.j0
      repeat' first
      | (with_reducible exact ih0 _ _ _ _ _ _ _)
      | (with_reducible exact spec_ColumnOf.mono _ _ _)
      | (with_reducible exact spec_l20Place.mono _ _ _ _ _)
      | (with_reducible exact spec_l20Rd_odd.mono _ _ _ _)
      | (with_reducible exact spec_l20Rd_pick.mono _ _ _ _)
      | (with_reducible exact spec_l20Text.mono _ _ _ _)
      | (with_reducible exact LeO.refl _)
      | (with_reducible exact LeO.none _)
      | (with_reducible refine LeO.ite ?_ ?_)
      | (with_reducible refine LeO.bind ?_ (fun _ => ?_))
      | exact ih0 _ _ _ _ _ _ _
      | exact spec_ColumnOf.mono _ _ _
      | exact spec_l20Place.mono _ _ _ _ _
      | exact spec_l20Rd_odd.mono _ _ _ _
      | exact spec_l20Rd_pick.mono _ _ _ _
      | exact spec_l20Text.mono _ _ _ _
      | exact LeO.none _
      | refine LeO.ite ?_ ?_
      | refine LeO.bind ?_ (fun _ => ?_)
theorem spec_l20Desk.mono : ∀ a0 a1 a2 k, LeO (spec_l20Desk.f k a0 a1 a2) (spec_l20Desk.f (k + 1) a0 a1 a2) := by
  intro a0 a1 a2 k
  have ih0 := spec_l20Desk.mono_l k
  unfold spec_l20Desk.f
  repeat' first
      | (with_reducible exact ih0 _ _ _ _ _ _ _)
      | (with_reducible exact spec_ColumnOf.mono _ _ _)
      | (with_reducible exact spec_l20Place.mono _ _ _ _ _)
      | (with_reducible exact spec_l20Rd_odd.mono _ _ _ _)
      | (with_reducible exact spec_l20Rd_pick.mono _ _ _ _)
      | (with_reducible exact spec_l20Text.mono _ _ _ _)
      | (with_reducible exact LeO.refl _)
      | (with_reducible exact LeO.none _)
      | (with_reducible refine LeO.ite ?_ ?_)
      | (with_reducible refine LeO.bind ?_ (fun _ => ?_))
      | exact ih0 _ _ _ _ _ _ _
      | exact spec_ColumnOf.mono _ _ _
      | exact spec_l20Place.mono _ _ _ _ _
      | exact spec_l20Rd_odd.mono _ _ _ _
      | exact spec_l20Rd_pick.mono _ _ _ _
      | exact spec_l20Text.mono _ _ _ _
      | exact LeO.none _
      | refine LeO.ite ?_ ?_
      | refine LeO.bind ?_ (fun _ => ?_)
set_option maxHeartbeats 8000000 in
set_option maxRecDepth 100000 in
theorem spec_l20Desk.calls (k : Nat) (g : Nat) (s0_0 : List Int) (s0_1 : Int) (a1 : Int) (r1 : ByteArray) (r2 : Int) (r3 : Int) (r4 : Int) (w0 w : World) (hI : IsS62 w0 w g s0_0 s0_1) (hB : Below w0.heap.size w0 w) (h : spec_l20Desk.f k s0_0 s0_1 a1 = some (r1, r2, r3, r4)) :
    Calls Try.prog 53 #[.pointer (some ⟨g, 0, none⟩), .int .i64 a1] w fun e w' => e = .returned (.agg #[.string r1, .int .i64 r2, .int .i64 r3]) ∧ IsS62 w0 w' g s0_0 r4 ∧ Below w0.heap.size w0 w' ∧ KeepBut w w' g none := by
  have hu42 := Try.underlying42
  have HI0 := Aside0.mk hI
  have HK := Aside0.mk (KeepBut.refl w g none)
  have HL := Aside0.mk hB.size
  clear hI
  have HW0 := Aside0.mk hB.size
  have HB := Aside0.mk hB
  clear hB
  have H : ((spec_l20Text.f k s0_0 s0_1 a1).bind fun bt423 => ((spec_l20Place.f k s0_0 bt423.2 bt423.1 0).bind fun bt425 => ((spec_ColumnOf.f k bt423.1 bt425.1).bind fun t428 => ((spec_l20Rd_pick.f k s0_0 bt425.2 3).bind fun bt429 => (if bt429.1 = 0 then ((spec_l20Rd_pick.f k s0_0 bt429.2 9).bind fun bt431 => (spec_l20Desk.j0 k a1 bt423.1 s0_0 bt431.2 bt423.1 bt425.1 bt431.1)) else (spec_l20Desk.j0 k a1 bt423.1 s0_0 bt429.2 bt423.1 bt425.1 (mx 0 t428))))))) = some (r1, r2, r3, r4) := h
  clear h
  replace H := Option.bind_eq_some_iff.mp H
  obtain ⟨⟨t423, t424⟩, A30, H⟩ := H
  replace H : ((spec_l20Place.f k s0_0 t424 t423 0).bind fun bt425 => ((spec_ColumnOf.f k t423 bt425.1).bind fun t428 => ((spec_l20Rd_pick.f k s0_0 bt425.2 3).bind fun bt429 => (if bt429.1 = 0 then ((spec_l20Rd_pick.f k s0_0 bt429.2 9).bind fun bt431 => (spec_l20Desk.j0 k a1 t423 s0_0 bt431.2 t423 bt425.1 bt431.1)) else (spec_l20Desk.j0 k a1 t423 s0_0 bt429.2 t423 bt425.1 (mx 0 t428)))))) = some (r1, r2, r3, r4) := H
  have A3 := Aside0.mk A30
  clear A30
  replace H := Option.bind_eq_some_iff.mp H
  obtain ⟨⟨t425, t426⟩, A40, H⟩ := H
  replace H : ((spec_ColumnOf.f k t423 t425).bind fun t428 => ((spec_l20Rd_pick.f k s0_0 t426 3).bind fun bt429 => (if bt429.1 = 0 then ((spec_l20Rd_pick.f k s0_0 bt429.2 9).bind fun bt431 => (spec_l20Desk.j0 k a1 t423 s0_0 bt431.2 t423 t425 bt431.1)) else (spec_l20Desk.j0 k a1 t423 s0_0 bt429.2 t423 t425 (mx 0 t428))))) = some (r1, r2, r3, r4) := H
  have A4 := Aside0.mk A40
  clear A40
  replace H := Option.bind_eq_some_iff.mp H
  obtain ⟨t428, A50, H⟩ := H
  replace H : ((spec_l20Rd_pick.f k s0_0 t426 3).bind fun bt429 => (if bt429.1 = 0 then ((spec_l20Rd_pick.f k s0_0 bt429.2 9).bind fun bt431 => (spec_l20Desk.j0 k a1 t423 s0_0 bt431.2 t423 t425 bt431.1)) else (spec_l20Desk.j0 k a1 t423 s0_0 bt429.2 t423 t425 (mx 0 t428)))) = some (r1, r2, r3, r4) := H
  have A5 := Aside0.mk A50
  clear A50
  obtain ⟨ji6, hji6⟩ : ∃ j_ : Int, (mx 0 t428) = j_ := ⟨_, rfl⟩
  replace H : ((spec_l20Rd_pick.f k s0_0 t426 3).bind fun bt429 => (if bt429.1 = 0 then ((spec_l20Rd_pick.f k s0_0 bt429.2 9).bind fun bt431 => (spec_l20Desk.j0 k a1 t423 s0_0 bt431.2 t423 t425 bt431.1)) else (spec_l20Desk.j0 k a1 t423 s0_0 bt429.2 t423 t425 ji6))) = some (r1, r2, r3, r4) := by first | (rw [hji6] at H; exact H) | (simp only [hji6] at H ⊢; exact H)
  (try rw [hji6] at A3)
  (try rw [hji6] at A4)
  (try rw [hji6] at A5)
  (try (have hji6l : 0 ≤ ji6 := by (rw [← hji6]; unfold mx; (repeat' split) <;> omega)))
  (try (have hji6m : 0 ≤ ji6 := by omega))
  have hji6_ : (if 0 < t428 then t428 else 0) = ji6 := hji6
  replace H := Option.bind_eq_some_iff.mp H
  obtain ⟨⟨t429, t430⟩, A70, H⟩ := H
  replace H : (if t429 = 0 then ((spec_l20Rd_pick.f k s0_0 t430 9).bind fun bt431 => (spec_l20Desk.j0 k a1 t423 s0_0 bt431.2 t423 t425 bt431.1)) else (spec_l20Desk.j0 k a1 t423 s0_0 t430 t423 t425 ji6)) = some (r1, r2, r3, r4) := H
  have A7 := Aside0.mk A70
  clear A70
  have HC8 := Aside0.mk H
  clear H
  go_enter Try.func53, Try.ntmps53
  go_upto_if 23 with (first | ((with_reducible refine gate_dst (N := 4) rfl ?_); refine box_event ?hg (N := 4) ?hd (cs := #[.string (⟨#[]⟩ : ByteArray), .int .i64 0, .int .i64 0]) (t := 42) ?hr ?_; (case hd => rfl); (case hg => rfl); (case hr => first | (go_simp; done) | (go_simp; rfl)); intro gb422 hg w9 hbox hb; have n0_ := Aside0.mk (IsS62.below (by repeat (first | (with_reducible first | exact HI0.out | apply IsS62.alloc | apply IsS62.drewN | apply IsS62.drew | apply IsS62.set_1) | exact HI0.out)) hb); have n1_ := Aside0.mk (KeepBut.trans (by repeat (first | (with_reducible first | exact HK.out | apply KeepBut.set_ | apply keep_drewN | apply keep_drew | apply keep_alloc) | exact HK.out)) (KeepBut.of_below hb g none) (.inl rfl)); have n2_ := Aside0.mk (below_step (by repeat (first | (with_reducible first | exact HB.out | apply below_alloc | apply pw_below_drewN | apply below_drew1 | refine below_set ?_ (IsS62.ge HI0.out)) | exact HB.out)) hb); have n3_ := Aside0.mk (hbox); have n4_ := Aside0.mk ((by rw [hg]; exact (keep_size (w := w) (g := g) (row := none) (by repeat (first | (with_reducible first | exact HK.out | apply KeepBut.set_ | apply keep_drewN | apply keep_drew | apply keep_alloc) | exact HK.out))) : w.heap.size ≤ gb422)); have n5_ := Aside0.mk ((Nat.le_trans HW0.out (by rw [hg]; exact (keep_size (w := w) (g := g) (row := none) (by repeat (first | (with_reducible first | exact HK.out | apply KeepBut.set_ | apply keep_drewN | apply keep_drew | apply keep_alloc) | exact HK.out))) : w.heap.size ≤ gb422) : w0.heap.size ≤ gb422)); have n6_ := Aside0.mk ((by rw [hg]; exact Nat.ne_of_lt (IsS62.lt (show IsS62 w0 _ g s0_0 s0_1 from by repeat (first | (with_reducible first | exact HI0.out | apply IsS62.alloc | apply IsS62.drewN | apply IsS62.drew | apply IsS62.set_1) | exact HI0.out))) : g ≠ gb422)); have n7_ := Aside0.mk ((by rw [hg]; exact Nat.ne_of_gt (IsS62.lt (show IsS62 w0 _ g s0_0 s0_1 from by repeat (first | (with_reducible first | exact HI0.out | apply IsS62.alloc | apply IsS62.drewN | apply IsS62.drew | apply IsS62.set_1) | exact HI0.out))) : gb422 ≠ g)); clear HI0; clear HK; clear HB; have HI0 := n0_; have HK := n1_; have HB := n2_; have BK422 := n3_; have GW422 := n4_; have GE422 := n5_; have NB0_422 := n6_; have NB422_0 := n7_; clear n0_ n1_ n2_ n3_ n4_ n5_ n6_ n7_; clear hb hbox hg) | ((with_reducible refine gate_callee (f := 60) rfl ?_); refine goesL_ (some 9) rfl rfl Try.func60 (by kernel_rfl) rfl #[.pointer (some ⟨g, 0, none⟩), .int .i64 a1] rfl (by (try simp only [List.map_toArray, List.map_cons, List.map_nil]); first | done | rfl | (simp only [List.length_drop, List.length_take]; rfl)) ?_; (with_reducible refine (spec_l20Text.calls k g s0_0 s0_1 a1 t423 t424 w0 _ ?side1 ?side2 A3.out).mono ?_); (case side1 => repeat (first | (with_reducible first | exact HI0.out | apply IsS62.alloc | apply IsS62.drewN | apply IsS62.drew | apply IsS62.set_1 | refine IsS62.far ?_ NB0_422.out _) | exact HI0.out)); (case side2 => repeat (first | (with_reducible first | exact HB.out | apply below_alloc | apply pw_below_drewN | apply below_drew1 | refine below_set ?_ (IsS62.ge HI0.out) | refine below_set ?_ GE422.out) | exact HB.out)); rintro e w10 ⟨rfl, hi, hb, hk⟩; refine ⟨_, rfl, ?_⟩; have n0_ := Aside0.mk (KeepBut.blk hk (g' := gb422) (o := .cells #[.string (⟨#[]⟩ : ByteArray), .int .i64 0, .int .i64 0] 42 (0, 0)) (by (with_reducible repeat (first | refine blk_drewN ?_ _ | refine blk_drew ?_ | refine blk_alloc ?_ _)); exact BK422.out) NB422_0.out (by simp)); have n1_ := Aside0.mk (KeepBut.trans (by repeat (first | (with_reducible first | exact HK.out | apply KeepBut.set_ | apply keep_drewN | apply keep_drew | apply keep_alloc | refine keep_far ?_ GW422.out _) | exact HK.out)) hk (.inl rfl)); have n2_ := Aside0.mk (hb); have n3_ := Aside0.mk (hi); clear BK422; clear HK; clear HB; clear HI0; have BK422 := n0_; have HK := n1_; have HB := n2_; have HI0 := n3_; clear n0_ n1_ n2_ n3_; (try clear hb); (try clear hb2); (try clear hk); (try clear hi)) | ((with_reducible refine gate_callee (f := 51) rfl ?_); refine goesL_ (some 13) rfl rfl Try.func51 (by kernel_rfl) rfl #[.pointer (some ⟨g, 0, none⟩), .string t423, .int .i64 0] rfl (by (try simp only [List.map_toArray, List.map_cons, List.map_nil]); first | done | rfl | (simp only [List.length_drop, List.length_take]; rfl)) ?_; (with_reducible refine (spec_l20Place.calls k g s0_0 t424 t423 0 t425 t426 w0 _ ?side1 ?side2 A4.out).mono ?_); (case side1 => repeat (first | (with_reducible first | exact HI0.out | apply IsS62.alloc | apply IsS62.drewN | apply IsS62.drew | apply IsS62.set_1 | refine IsS62.far ?_ NB0_422.out _) | exact HI0.out)); (case side2 => repeat (first | (with_reducible first | exact HB.out | apply below_alloc | apply pw_below_drewN | apply below_drew1 | refine below_set ?_ (IsS62.ge HI0.out) | refine below_set ?_ GE422.out) | exact HB.out)); rintro e w11 ⟨rfl, hi, hb, hk⟩; refine ⟨_, rfl, ?_⟩; have n0_ := Aside0.mk (KeepBut.blk hk (g' := gb422) (o := .cells #[.string (⟨#[]⟩ : ByteArray), .int .i64 0, .int .i64 0] 42 (0, 0)) (by (with_reducible repeat (first | refine blk_drewN ?_ _ | refine blk_drew ?_ | refine blk_alloc ?_ _)); exact BK422.out) NB422_0.out (by simp)); have n1_ := Aside0.mk (KeepBut.trans (by repeat (first | (with_reducible first | exact HK.out | apply KeepBut.set_ | apply keep_drewN | apply keep_drew | apply keep_alloc | refine keep_far ?_ GW422.out _) | exact HK.out)) hk (.inl rfl)); have n2_ := Aside0.mk (hb); have n3_ := Aside0.mk (hi); clear BK422; clear HK; clear HB; clear HI0; have BK422 := n0_; have HK := n1_; have HB := n2_; have HI0 := n3_; clear n0_ n1_ n2_ n3_; (try clear hb); (try clear hb2); (try clear hk); (try clear hi)) | ((with_reducible refine gate_dst (N := 6) rfl ?_); refine box_event ?hg (N := 6) ?hd (cs := #[.string (⟨#[]⟩ : ByteArray), .int .i64 0, .int .i64 0]) (t := 42) ?hr ?_; (case hd => rfl); (case hg => rfl); (case hr => first | (go_simp; done) | (go_simp; rfl)); intro gb427 hg w12 hbox hb; have n0_ := Aside0.mk (IsS62.below (by repeat (first | (with_reducible first | exact HI0.out | apply IsS62.alloc | apply IsS62.drewN | apply IsS62.drew | apply IsS62.set_1 | refine IsS62.far ?_ NB0_422.out _) | exact HI0.out)) hb); have n1_ := Aside0.mk (blk_below (g := gb422) (o := .cells #[.string (⟨#[]⟩ : ByteArray), .int .i64 0, .int .i64 0] 42 (0, 0)) (by (with_reducible repeat (first | refine blk_drewN ?_ _ | refine blk_drew ?_ | refine blk_alloc ?_ _)); exact BK422.out) hb); have n2_ := Aside0.mk (KeepBut.trans (by repeat (first | (with_reducible first | exact HK.out | apply KeepBut.set_ | apply keep_drewN | apply keep_drew | apply keep_alloc | refine keep_far ?_ GW422.out _) | exact HK.out)) (KeepBut.of_below hb g none) (.inl rfl)); have n3_ := Aside0.mk (below_step (by repeat (first | (with_reducible first | exact HB.out | apply below_alloc | apply pw_below_drewN | apply below_drew1 | refine below_set ?_ (IsS62.ge HI0.out) | refine below_set ?_ GE422.out) | exact HB.out)) hb); have n4_ := Aside0.mk (hbox); have n5_ := Aside0.mk ((by rw [hg]; exact (keep_size (w := w) (g := g) (row := none) (by repeat (first | (with_reducible first | exact HK.out | apply KeepBut.set_ | apply keep_drewN | apply keep_drew | apply keep_alloc | refine keep_far ?_ GW422.out _) | exact HK.out))) : w.heap.size ≤ gb427)); have n6_ := Aside0.mk ((Nat.le_trans HW0.out (by rw [hg]; exact (keep_size (w := w) (g := g) (row := none) (by repeat (first | (with_reducible first | exact HK.out | apply KeepBut.set_ | apply keep_drewN | apply keep_drew | apply keep_alloc | refine keep_far ?_ GW422.out _) | exact HK.out))) : w.heap.size ≤ gb427) : w0.heap.size ≤ gb427)); have n7_ := Aside0.mk ((by rw [hg]; exact Nat.ne_of_lt (blk_lt (g := gb422) (o := .cells #[.string (⟨#[]⟩ : ByteArray), .int .i64 0, .int .i64 0] 42 (0, 0)) (by (with_reducible repeat (first | refine blk_drewN ?_ _ | refine blk_drew ?_ | refine blk_alloc ?_ _)); exact BK422.out)) : gb422 ≠ gb427)); have n8_ := Aside0.mk ((by rw [hg]; exact Nat.ne_of_gt (blk_lt (g := gb422) (o := .cells #[.string (⟨#[]⟩ : ByteArray), .int .i64 0, .int .i64 0] 42 (0, 0)) (by (with_reducible repeat (first | refine blk_drewN ?_ _ | refine blk_drew ?_ | refine blk_alloc ?_ _)); exact BK422.out)) : gb427 ≠ gb422)); have n9_ := Aside0.mk ((by rw [hg]; exact Nat.ne_of_lt (IsS62.lt (show IsS62 w0 _ g s0_0 t426 from by repeat (first | (with_reducible first | exact HI0.out | apply IsS62.alloc | apply IsS62.drewN | apply IsS62.drew | apply IsS62.set_1 | refine IsS62.far ?_ NB0_422.out _) | exact HI0.out))) : g ≠ gb427)); have n10_ := Aside0.mk ((by rw [hg]; exact Nat.ne_of_gt (IsS62.lt (show IsS62 w0 _ g s0_0 t426 from by repeat (first | (with_reducible first | exact HI0.out | apply IsS62.alloc | apply IsS62.drewN | apply IsS62.drew | apply IsS62.set_1 | refine IsS62.far ?_ NB0_422.out _) | exact HI0.out))) : gb427 ≠ g)); clear HI0; clear BK422; clear HK; clear HB; have HI0 := n0_; have BK422 := n1_; have HK := n2_; have HB := n3_; have BK427 := n4_; have GW427 := n5_; have GE427 := n6_; have NB422_427 := n7_; have NB427_422 := n8_; have NB0_427 := n9_; have NB427_0 := n10_; clear n0_ n1_ n2_ n3_ n4_ n5_ n6_ n7_ n8_ n9_ n10_; clear hb hbox hg; have hnb13 := NB427_422.out; have hnc13 := NB422_427.out; have hnb14 := NB427_0.out; have hnc14 := NB0_427.out; have hcz15_0 : w12.cell? ⟨gb427, 0, none⟩ = some (.string (⟨#[]⟩ : ByteArray)) := (blk_cell BK427.out 0).trans rfl; have hcz15_1 : w12.cell? ⟨gb427, 1, none⟩ = some (.int .i64 0) := (blk_cell BK427.out 1).trans rfl; have hcz15_2 : w12.cell? ⟨gb427, 2, none⟩ = some (.int .i64 0) := (blk_cell BK427.out 2).trans rfl; have hfz15_0 := blk_frozen BK427.out 0; have hfz15_1 := blk_frozen BK427.out 1; have hfz15_2 := blk_frozen BK427.out 2) | ((with_reducible refine gate_callee (f := 62) rfl ?_); refine goesL_ (some 18) rfl rfl Try.func62 (by kernel_rfl) rfl #[.string t423, .int .i64 t425] rfl (by (try simp only [List.map_toArray, List.map_cons, List.map_nil]); first | done | rfl | (simp only [List.length_drop, List.length_take]; rfl)) ?_; (with_reducible refine (spec_ColumnOf.calls k t423 t425 t428 _ A5.out).mono ?_); rintro e w' ⟨rfl, ⟨nd, rfl⟩⟩; refine ⟨_, rfl, ?_⟩) | ((with_reducible refine gate_callee (f := 58) rfl ?_); refine goesL_ (some 22) rfl rfl Try.func58 (by kernel_rfl) rfl #[.pointer (some ⟨g, 0, none⟩), .int .i64 3] rfl (by (try simp only [List.map_toArray, List.map_cons, List.map_nil]); first | done | rfl | (simp only [List.length_drop, List.length_take]; rfl)) ?_; (with_reducible refine (spec_l20Rd_pick.calls k g s0_0 t426 3 t429 t430 w0 _ ?side1 ?side2 A7.out).mono ?_); (case side1 => repeat (first | (with_reducible first | exact HI0.out | apply IsS62.alloc | apply IsS62.drewN | apply IsS62.drew | apply IsS62.set_1 | refine IsS62.far ?_ NB0_422.out _ | refine IsS62.far ?_ NB0_427.out _) | exact HI0.out)); (case side2 => repeat (first | (with_reducible first | exact HB.out | apply below_alloc | apply pw_below_drewN | apply below_drew1 | refine below_set ?_ (IsS62.ge HI0.out) | refine below_set ?_ GE422.out | refine below_set ?_ GE427.out) | exact HB.out)); rintro e w16 ⟨rfl, hi, hb, hk⟩; refine ⟨_, rfl, ?_⟩; have n0_ := Aside0.mk (KeepBut.blk hk (g' := gb422) (o := .cells #[.string (⟨#[]⟩ : ByteArray), .int .i64 0, .int .i64 0] 42 (0, 0)) (by (with_reducible repeat (first | refine blk_drewN ?_ _ | refine blk_drew ?_ | refine blk_alloc ?_ _)); refine blk_far ?_ NB422_427.out _; (with_reducible repeat (first | refine blk_drewN ?_ _ | refine blk_drew ?_ | refine blk_alloc ?_ _)); refine blk_far ?_ NB422_427.out _; (with_reducible repeat (first | refine blk_drewN ?_ _ | refine blk_drew ?_ | refine blk_alloc ?_ _)); refine blk_far ?_ NB422_427.out _; (with_reducible repeat (first | refine blk_drewN ?_ _ | refine blk_drew ?_ | refine blk_alloc ?_ _)); refine blk_far ?_ NB422_427.out _; (with_reducible repeat (first | refine blk_drewN ?_ _ | refine blk_drew ?_ | refine blk_alloc ?_ _)); exact BK422.out) NB422_0.out (by simp)); have n1_ := Aside0.mk (KeepBut.blk hk (g' := gb427) (o := .cells #[.string t423, .int .i64 t425, .int .i64 ji6] 42 (0, 0)) (by (with_reducible repeat (first | refine blk_drewN ?_ _ | refine blk_drew ?_ | refine blk_alloc ?_ _)); refine blk_put (cs := #[.string t423, .int .i64 t425, .int .i64 0]) ?_ 2 _ rfl; (with_reducible repeat (first | refine blk_drewN ?_ _ | refine blk_drew ?_ | refine blk_alloc ?_ _)); refine blk_put (cs := #[.string t423, .int .i64 t425, .int .i64 0]) ?_ 2 _ rfl; (with_reducible repeat (first | refine blk_drewN ?_ _ | refine blk_drew ?_ | refine blk_alloc ?_ _)); refine blk_put (cs := #[.string t423, .int .i64 0, .int .i64 0]) ?_ 1 _ rfl; (with_reducible repeat (first | refine blk_drewN ?_ _ | refine blk_drew ?_ | refine blk_alloc ?_ _)); refine blk_put (cs := #[.string (⟨#[]⟩ : ByteArray), .int .i64 0, .int .i64 0]) ?_ 0 _ rfl; (with_reducible repeat (first | refine blk_drewN ?_ _ | refine blk_drew ?_ | refine blk_alloc ?_ _)); exact BK427.out) NB427_0.out (by simp)); have n2_ := Aside0.mk (KeepBut.trans (by repeat (first | (with_reducible first | exact HK.out | apply KeepBut.set_ | apply keep_drewN | apply keep_drew | apply keep_alloc | refine keep_far ?_ GW422.out _ | refine keep_far ?_ GW427.out _) | exact HK.out)) hk (.inl rfl)); have n3_ := Aside0.mk (hb); have n4_ := Aside0.mk (hi); clear BK422; clear BK427; clear HK; clear HB; clear HI0; have BK422 := n0_; have BK427 := n1_; have HK := n2_; have HB := n3_; have HI0 := n4_; clear n0_ n1_ n2_ n3_ n4_; (try clear hb); (try clear hb2); (try clear hk); (try clear hi)))
  (try simp only [Act.put, List.setIfInBounds_toArray, List.set_cons_zero, List.set_cons_succ])
  go_cut [] (fun wc => ∃ (kq : Nat) (x1001_7 : Int) (x428002_7 : Int), Aside0 (spec_l20Desk.j0 kq a1 t423 s0_0 x1001_7 t423 t425 x428002_7 = some (r1, r2, r3, r4)) ∧ Aside0 (kq ≤ k) ∧ Aside0 (wc.heap[gb422]? = some (.cells #[.string (⟨#[]⟩ : ByteArray), .int .i64 0, .int .i64 0] 42 (0, 0))) ∧ Aside0 (wc.heap[gb427]? = some (.cells #[.string t423, .int .i64 t425, .int .i64 x428002_7] 42 (0, 0))) ∧ Aside0 (IsS62 w0 wc g s0_0 x1001_7) ∧ Aside0 (KeepBut w wc g none) ∧ Aside0 (Below w0.heap.size w0 wc))
  case first =>
    have H := HC8.out
    clear HC8
    by_cases c17 : t429 = 0
    · rw [if_pos c17] at H
      have c17b0 : (t429 == 0) = true := beq_iff_eq.mpr c17
      have c17b1 : (t429 != 0) = false := bne_eq_false_iff_eq.mpr c17
      clear c17
      (first | rw [c17b0] | (simp only [i64_w, i32_w]; rw [c17b0]) | skip)
      replace H := Option.bind_eq_some_iff.mp H
      obtain ⟨⟨t431, t432⟩, A180, H⟩ := H
      replace H : (spec_l20Desk.j0 k a1 t423 s0_0 t432 t423 t425 t431) = some (r1, r2, r3, r4) := H
      have A18 := Aside0.mk A180
      clear A180
      have H' := Aside0.mk H
      clear H
      go_wp2_with (first | ((with_reducible refine gate_callee (f := 58) rfl ?_); refine goesL_ (some 25) rfl rfl Try.func58 (by kernel_rfl) rfl #[.pointer (some ⟨g, 0, none⟩), .int .i64 9] rfl (by (try simp only [List.map_toArray, List.map_cons, List.map_nil]); first | done | rfl | (simp only [List.length_drop, List.length_take]; rfl)) ?_; (with_reducible refine (spec_l20Rd_pick.calls k g s0_0 t430 9 t431 t432 w0 _ ?side1 ?side2 A18.out).mono ?_); (case side1 => repeat (first | (with_reducible first | exact HI0.out | apply IsS62.alloc | apply IsS62.drewN | apply IsS62.drew | apply IsS62.set_1 | refine IsS62.far ?_ NB0_422.out _ | refine IsS62.far ?_ NB0_427.out _) | exact HI0.out)); (case side2 => repeat (first | (with_reducible first | exact HB.out | apply below_alloc | apply pw_below_drewN | apply below_drew1 | refine below_set ?_ (IsS62.ge HI0.out) | refine below_set ?_ GE422.out | refine below_set ?_ GE427.out) | exact HB.out)); rintro e w19 ⟨rfl, hi, hb, hk⟩; refine ⟨_, rfl, ?_⟩; have n0_ := Aside0.mk (KeepBut.blk hk (g' := gb422) (o := .cells #[.string (⟨#[]⟩ : ByteArray), .int .i64 0, .int .i64 0] 42 (0, 0)) (by (with_reducible repeat (first | refine blk_drewN ?_ _ | refine blk_drew ?_ | refine blk_alloc ?_ _)); exact BK422.out) NB422_0.out (by simp)); have n1_ := Aside0.mk (KeepBut.blk hk (g' := gb427) (o := .cells #[.string t423, .int .i64 t425, .int .i64 ji6] 42 (0, 0)) (by (with_reducible repeat (first | refine blk_drewN ?_ _ | refine blk_drew ?_ | refine blk_alloc ?_ _)); exact BK427.out) NB427_0.out (by simp)); have n2_ := Aside0.mk (KeepBut.trans (by repeat (first | (with_reducible first | exact HK.out | apply KeepBut.set_ | apply keep_drewN | apply keep_drew | apply keep_alloc | refine keep_far ?_ GW422.out _ | refine keep_far ?_ GW427.out _) | exact HK.out)) hk (.inl rfl)); have n3_ := Aside0.mk (hb); have n4_ := Aside0.mk (hi); clear BK422; clear BK427; clear HK; clear HB; clear HI0; have BK422 := n0_; have BK427 := n1_; have HK := n2_; have HB := n3_; have HI0 := n4_; clear n0_ n1_ n2_ n3_ n4_; (try clear hb); (try clear hb2); (try clear hk); (try clear hi); have hnb20 := NB427_422.out; have hnc20 := NB422_427.out; have hnb21 := NB427_0.out; have hnc21 := NB0_427.out; have hcz22_0 : w19.cell? ⟨gb427, 0, none⟩ = some (.string t423) := (blk_cell BK427.out 0).trans rfl; have hcz22_1 : w19.cell? ⟨gb427, 1, none⟩ = some (.int .i64 t425) := (blk_cell BK427.out 1).trans rfl; have hcz22_2 : w19.cell? ⟨gb427, 2, none⟩ = some (.int .i64 ji6) := (blk_cell BK427.out 2).trans rfl; have hfz22_0 := blk_frozen BK427.out 0; have hfz22_1 := blk_frozen BK427.out 1; have hfz22_2 := blk_frozen BK427.out 2))
      go_meet
      case rel => exact ⟨_, (t432), (t431), H', ⟨by first | omega | exact Nat.le_refl _⟩, ⟨by (with_reducible repeat (first | refine blk_drewN ?_ _ | refine blk_drew ?_ | refine blk_alloc ?_ _)); refine blk_far ?_ NB422_427.out _; (with_reducible repeat (first | refine blk_drewN ?_ _ | refine blk_drew ?_ | refine blk_alloc ?_ _)); exact BK422.out⟩, ⟨by (with_reducible repeat (first | refine blk_drewN ?_ _ | refine blk_drew ?_ | refine blk_alloc ?_ _)); refine blk_put (cs := #[.string t423, .int .i64 t425, .int .i64 ji6]) ?_ 2 _ rfl; (with_reducible repeat (first | refine blk_drewN ?_ _ | refine blk_drew ?_ | refine blk_alloc ?_ _)); exact BK427.out⟩, ⟨by repeat (first | (with_reducible first | exact HI0.out | apply IsS62.alloc | apply IsS62.drewN | apply IsS62.drew | apply IsS62.set_1 | refine IsS62.far ?_ NB0_422.out _ | refine IsS62.far ?_ NB0_427.out _) | exact HI0.out)⟩, ⟨by repeat (first | (with_reducible first | exact HK.out | apply KeepBut.set_ | apply keep_drewN | apply keep_drew | apply keep_alloc | refine keep_far ?_ GW422.out _ | refine keep_far ?_ GW427.out _) | exact HK.out)⟩, ⟨by repeat (first | (with_reducible first | exact HB.out | apply below_alloc | apply pw_below_drewN | apply below_drew1 | refine below_set ?_ (IsS62.ge HI0.out) | refine below_set ?_ GE422.out | refine below_set ?_ GE427.out) | exact HB.out)⟩⟩
    · rw [if_neg c17] at H
      have c17b0 : (t429 == 0) = false := beq_eq_false_iff_ne.mpr c17
      have c17b1 : (t429 != 0) = true := bne_iff_ne.mpr c17
      (first | rw [c17b0] | (simp only [i64_w, i32_w]; rw [c17b0]) | skip)
      have H' := Aside0.mk H
      clear H
      go_wp2
      go_meet
      case rel => exact ⟨_, (t430), (ji6), H', ⟨by first | omega | exact Nat.le_refl _⟩, ⟨by (with_reducible repeat (first | refine blk_drewN ?_ _ | refine blk_drew ?_ | refine blk_alloc ?_ _)); exact BK422.out⟩, ⟨by (with_reducible repeat (first | refine blk_drewN ?_ _ | refine blk_drew ?_ | refine blk_alloc ?_ _)); exact BK427.out⟩, ⟨by repeat (first | (with_reducible first | exact HI0.out | apply IsS62.alloc | apply IsS62.drewN | apply IsS62.drew | apply IsS62.set_1 | refine IsS62.far ?_ NB0_422.out _ | refine IsS62.far ?_ NB0_427.out _) | exact HI0.out)⟩, ⟨by repeat (first | (with_reducible first | exact HK.out | apply KeepBut.set_ | apply keep_drewN | apply keep_drew | apply keep_alloc | refine keep_far ?_ GW422.out _ | refine keep_far ?_ GW427.out _) | exact HK.out)⟩, ⟨by repeat (first | (with_reducible first | exact HB.out | apply below_alloc | apply pw_below_drewN | apply below_drew1 | refine below_set ?_ (IsS62.ge HI0.out) | refine below_set ?_ GE422.out | refine below_set ?_ GE427.out) | exact HB.out)⟩⟩
  case rest =>
    clear HC8
    try clear c1
    try clear c2
    try clear p2
    try clear c5
    try clear c6
    try clear c13
    try clear c14
    try clear c17
    try clear c17b0
    try clear c17b1
    try clear c20
    try clear c21
    try clear hcz15_0
    try clear hcz15_1
    try clear hcz15_2
    try clear hcz22_0
    try clear hcz22_1
    try clear hcz22_2
    try clear hfz15_0
    try clear hfz15_1
    try clear hfz15_2
    try clear hfz22_0
    try clear hfz22_1
    try clear hfz22_2
    obtain ⟨kq, x1001_7, x428002_7, HA, HJ7, BK422, BK427, HI0, HK, HB⟩ := hcut
    cases kq with
    | zero => exact absurd HA.out (by simp [spec_l20Desk.j0])
    | succ kj7 =>
      have H := HA.out
      clear HA
      simp only [spec_l20Desk.j0] at H
      replace H := Option.bind_eq_some_iff.mp H
      obtain ⟨⟨t433, t434⟩, A230, H⟩ := H
      replace H : (if t433 = true then ((spec_l20Rd_pick.f kj7 s0_0 t434 2).bind fun bt435 => (if bt435.1 = 0 then ((spec_l20Place.f kj7 s0_0 bt435.2 t423 1).bind fun bt437 => (some (t423, bt437.1, x428002_7, bt437.2))) else ((some (([(-1), 121] : List Int) : List Int)).bind fun y439 => ((spec_l20Rd_pick.f kj7 s0_0 bt435.2 2).bind fun bt442 => (if 0 ≤ bt442.1 then (if bt442.1 < (y439.length : Int) then (some (t423, t425, rd y439 bt442.1, bt442.2)) else (none)) else (none)))))) else (some (t423, t425, x428002_7, t434))) = some (r1, r2, r3, r4) := H
      have A23 := Aside0.mk A230
      clear A230
      by_cases c24 : t433 = true
      · subst c24
        have H1 : ((spec_l20Rd_pick.f kj7 s0_0 t434 2).bind fun bt435 => (if bt435.1 = 0 then ((spec_l20Place.f kj7 s0_0 bt435.2 t423 1).bind fun bt437 => (some (t423, bt437.1, x428002_7, bt437.2))) else ((some (([(-1), 121] : List Int) : List Int)).bind fun y439 => ((spec_l20Rd_pick.f kj7 s0_0 bt435.2 2).bind fun bt442 => (if 0 ≤ bt442.1 then (if bt442.1 < (y439.length : Int) then (some (t423, t425, rd y439 bt442.1, bt442.2)) else (none)) else (none)))))) = some (r1, r2, r3, r4) := by rw [if_pos rfl] at H; exact H
        clear H
        have H := H1
        clear H1
        replace H := Option.bind_eq_some_iff.mp H
        obtain ⟨⟨t435, t436⟩, A250, H⟩ := H
        replace H : (if t435 = 0 then ((spec_l20Place.f kj7 s0_0 t436 t423 1).bind fun bt437 => (some (t423, bt437.1, x428002_7, bt437.2))) else ((some (([(-1), 121] : List Int) : List Int)).bind fun y439 => ((spec_l20Rd_pick.f kj7 s0_0 t436 2).bind fun bt442 => (if 0 ≤ bt442.1 then (if bt442.1 < (y439.length : Int) then (some (t423, t425, rd y439 bt442.1, bt442.2)) else (none)) else (none))))) = some (r1, r2, r3, r4) := H
        have A25 := Aside0.mk A250
        clear A250
        by_cases c26 : t435 = 0
        · rw [if_pos c26] at H
          have c26b0 : (t435 == 0) = true := beq_iff_eq.mpr c26
          have c26b1 : (t435 != 0) = false := bne_eq_false_iff_eq.mpr c26
          clear c26
          replace H := Option.bind_eq_some_iff.mp H
          obtain ⟨⟨t437, t438⟩, A270, H⟩ := H
          replace H : (some (t423, t437, x428002_7, t438)) = some (r1, r2, r3, r4) := H
          have A27 := Aside0.mk A270
          clear A270
          simp only [Option.some.injEq, Prod.mk.injEq] at H
          obtain ⟨rfl, rfl, rfl, rfl⟩ := H
          go_wp2_with (first | ((with_reducible refine gate_callee (f := 59) rfl ?_); refine goesL_ (some 29) rfl rfl Try.func59 (by kernel_rfl) rfl #[.pointer (some ⟨g, 0, none⟩), .int .i64 a1] rfl (by (try simp only [List.map_toArray, List.map_cons, List.map_nil]); first | done | rfl | (simp only [List.length_drop, List.length_take]; rfl)) ?_; (with_reducible refine (spec_l20Rd_odd.calls kj7 g s0_0 x1001_7 a1 true t434 w0 _ ?side1 ?side2 A23.out).mono ?_); (case side1 => repeat (first | (with_reducible first | exact HI0.out | apply IsS62.alloc | apply IsS62.drewN | apply IsS62.drew | apply IsS62.set_1 | refine IsS62.far ?_ NB0_422.out _ | refine IsS62.far ?_ NB0_427.out _) | exact HI0.out)); (case side2 => repeat (first | (with_reducible first | exact HB.out | apply below_alloc | apply pw_below_drewN | apply below_drew1 | refine below_set ?_ (IsS62.ge HI0.out) | refine below_set ?_ GE422.out | refine below_set ?_ GE427.out) | exact HB.out)); rintro e w28 ⟨rfl, hi, hb, hk⟩; refine ⟨_, rfl, ?_⟩; have n0_ := Aside0.mk (KeepBut.blk hk (g' := gb422) (o := .cells #[.string (⟨#[]⟩ : ByteArray), .int .i64 0, .int .i64 0] 42 (0, 0)) (by (with_reducible repeat (first | refine blk_drewN ?_ _ | refine blk_drew ?_ | refine blk_alloc ?_ _)); exact BK422.out) NB422_0.out (by simp)); have n1_ := Aside0.mk (KeepBut.blk hk (g' := gb427) (o := .cells #[.string t423, .int .i64 t425, .int .i64 x428002_7] 42 (0, 0)) (by (with_reducible repeat (first | refine blk_drewN ?_ _ | refine blk_drew ?_ | refine blk_alloc ?_ _)); exact BK427.out) NB427_0.out (by simp)); have n2_ := Aside0.mk (KeepBut.trans (by repeat (first | (with_reducible first | exact HK.out | apply KeepBut.set_ | apply keep_drewN | apply keep_drew | apply keep_alloc | refine keep_far ?_ GW422.out _ | refine keep_far ?_ GW427.out _) | exact HK.out)) hk (.inl rfl)); have n3_ := Aside0.mk (hb); have n4_ := Aside0.mk (hi); clear BK422; clear BK427; clear HK; clear HB; clear HI0; have BK422 := n0_; have BK427 := n1_; have HK := n2_; have HB := n3_; have HI0 := n4_; clear n0_ n1_ n2_ n3_ n4_; (try clear hb); (try clear hb2); (try clear hk); (try clear hi)) | ((with_reducible refine gate_callee (f := 58) rfl ?_); refine goesL_ (some 31) rfl rfl Try.func58 (by kernel_rfl) rfl #[.pointer (some ⟨g, 0, none⟩), .int .i64 2] rfl (by (try simp only [List.map_toArray, List.map_cons, List.map_nil]); first | done | rfl | (simp only [List.length_drop, List.length_take]; rfl)) ?_; (with_reducible refine (spec_l20Rd_pick.calls kj7 g s0_0 t434 2 t435 t436 w0 _ ?side1 ?side2 A25.out).mono ?_); (case side1 => repeat (first | (with_reducible first | exact HI0.out | apply IsS62.alloc | apply IsS62.drewN | apply IsS62.drew | apply IsS62.set_1 | refine IsS62.far ?_ NB0_422.out _ | refine IsS62.far ?_ NB0_427.out _) | exact HI0.out)); (case side2 => repeat (first | (with_reducible first | exact HB.out | apply below_alloc | apply pw_below_drewN | apply below_drew1 | refine below_set ?_ (IsS62.ge HI0.out) | refine below_set ?_ GE422.out | refine below_set ?_ GE427.out) | exact HB.out)); rintro e w29 ⟨rfl, hi, hb, hk⟩; refine ⟨_, rfl, ?_⟩; have n0_ := Aside0.mk (KeepBut.blk hk (g' := gb422) (o := .cells #[.string (⟨#[]⟩ : ByteArray), .int .i64 0, .int .i64 0] 42 (0, 0)) (by (with_reducible repeat (first | refine blk_drewN ?_ _ | refine blk_drew ?_ | refine blk_alloc ?_ _)); exact BK422.out) NB422_0.out (by simp)); have n1_ := Aside0.mk (KeepBut.blk hk (g' := gb427) (o := .cells #[.string t423, .int .i64 t425, .int .i64 x428002_7] 42 (0, 0)) (by (with_reducible repeat (first | refine blk_drewN ?_ _ | refine blk_drew ?_ | refine blk_alloc ?_ _)); exact BK427.out) NB427_0.out (by simp)); have n2_ := Aside0.mk (KeepBut.trans (by repeat (first | (with_reducible first | exact HK.out | apply KeepBut.set_ | apply keep_drewN | apply keep_drew | apply keep_alloc | refine keep_far ?_ GW422.out _ | refine keep_far ?_ GW427.out _) | exact HK.out)) hk (.inl rfl)); have n3_ := Aside0.mk (hb); have n4_ := Aside0.mk (hi); clear BK422; clear BK427; clear HK; clear HB; clear HI0; have BK422 := n0_; have BK427 := n1_; have HK := n2_; have HB := n3_; have HI0 := n4_; clear n0_ n1_ n2_ n3_ n4_; (try clear hb); (try clear hb2); (try clear hk); (try clear hi)) | ((with_reducible refine gate_callee (f := 51) rfl ?_); refine goesL_ (some 35) rfl rfl Try.func51 (by kernel_rfl) rfl #[.pointer (some ⟨g, 0, none⟩), .string t423, .int .i64 1] rfl (by (try simp only [List.map_toArray, List.map_cons, List.map_nil]); first | done | rfl | (simp only [List.length_drop, List.length_take]; rfl)) ?_; (with_reducible refine (spec_l20Place.calls kj7 g s0_0 t436 t423 1 t437 t438 w0 _ ?side1 ?side2 A27.out).mono ?_); (case side1 => repeat (first | (with_reducible first | exact HI0.out | apply IsS62.alloc | apply IsS62.drewN | apply IsS62.drew | apply IsS62.set_1 | refine IsS62.far ?_ NB0_422.out _ | refine IsS62.far ?_ NB0_427.out _) | exact HI0.out)); (case side2 => repeat (first | (with_reducible first | exact HB.out | apply below_alloc | apply pw_below_drewN | apply below_drew1 | refine below_set ?_ (IsS62.ge HI0.out) | refine below_set ?_ GE422.out | refine below_set ?_ GE427.out) | exact HB.out)); rintro e w30 ⟨rfl, hi, hb, hk⟩; refine ⟨_, rfl, ?_⟩; have n0_ := Aside0.mk (KeepBut.blk hk (g' := gb422) (o := .cells #[.string (⟨#[]⟩ : ByteArray), .int .i64 0, .int .i64 0] 42 (0, 0)) (by (with_reducible repeat (first | refine blk_drewN ?_ _ | refine blk_drew ?_ | refine blk_alloc ?_ _)); exact BK422.out) NB422_0.out (by simp)); have n1_ := Aside0.mk (KeepBut.blk hk (g' := gb427) (o := .cells #[.string t423, .int .i64 t425, .int .i64 x428002_7] 42 (0, 0)) (by (with_reducible repeat (first | refine blk_drewN ?_ _ | refine blk_drew ?_ | refine blk_alloc ?_ _)); exact BK427.out) NB427_0.out (by simp)); have n2_ := Aside0.mk (KeepBut.trans (by repeat (first | (with_reducible first | exact HK.out | apply KeepBut.set_ | apply keep_drewN | apply keep_drew | apply keep_alloc | refine keep_far ?_ GW422.out _ | refine keep_far ?_ GW427.out _) | exact HK.out)) hk (.inl rfl)); have n3_ := Aside0.mk (hb); have n4_ := Aside0.mk (hi); clear BK422; clear BK427; clear HK; clear HB; clear HI0; have BK422 := n0_; have BK427 := n1_; have HK := n2_; have HB := n3_; have HI0 := n4_; clear n0_ n1_ n2_ n3_ n4_; (try clear hb); (try clear hb2); (try clear hk); (try clear hi); have hnb31 := NB427_422.out; have hnc31 := NB422_427.out; have hnb32 := NB427_0.out; have hnc32 := NB0_427.out; have hcz33_0 : w30.cell? ⟨gb427, 0, none⟩ = some (.string t423) := (blk_cell BK427.out 0).trans rfl; have hcz33_1 : w30.cell? ⟨gb427, 1, none⟩ = some (.int .i64 t425) := (blk_cell BK427.out 1).trans rfl; have hcz33_2 : w30.cell? ⟨gb427, 2, none⟩ = some (.int .i64 x428002_7) := (blk_cell BK427.out 2).trans rfl; have hfz33_0 := blk_frozen BK427.out 0; have hfz33_1 := blk_frozen BK427.out 1; have hfz33_2 := blk_frozen BK427.out 2; have hnb34 := NB422_0.out; have hnc34 := NB0_422.out; have hcz35_0 : w30.cell? ⟨gb422, 0, none⟩ = some (.string (⟨#[]⟩ : ByteArray)) := (blk_cell BK422.out 0).trans rfl; have hcz35_1 : w30.cell? ⟨gb422, 1, none⟩ = some (.int .i64 0) := (blk_cell BK422.out 1).trans rfl; have hcz35_2 : w30.cell? ⟨gb422, 2, none⟩ = some (.int .i64 0) := (blk_cell BK422.out 2).trans rfl; have hfz35_0 := blk_frozen BK422.out 0; have hfz35_1 := blk_frozen BK422.out 1; have hfz35_2 := blk_frozen BK422.out 2))
          refine bodyPost_ret (results_cell_row rfl _ _ gb422 42 #[.string t423, .int .i64 t437, .int .i64 x428002_7] (0, 0) _ rfl (by (with_reducible repeat (first | refine blk_drewN ?_ _ | refine blk_drew ?_ | refine blk_alloc ?_ _)); refine blk_put (cs := #[.string t423, .int .i64 t437, .int .i64 0]) ?_ 2 _ rfl; (with_reducible repeat (first | refine blk_drewN ?_ _ | refine blk_drew ?_ | refine blk_alloc ?_ _)); refine blk_put (cs := #[.string t423, .int .i64 0, .int .i64 0]) ?_ 1 _ rfl; (with_reducible repeat (first | refine blk_drewN ?_ _ | refine blk_drew ?_ | refine blk_alloc ?_ _)); refine blk_put (cs := #[.string (⟨#[]⟩ : ByteArray), .int .i64 0, .int .i64 0]) ?_ 0 _ rfl; (with_reducible repeat (first | refine blk_drewN ?_ _ | refine blk_drew ?_ | refine blk_alloc ?_ _)); refine blk_far ?_ NB422_427.out _; (with_reducible repeat (first | refine blk_drewN ?_ _ | refine blk_drew ?_ | refine blk_alloc ?_ _)); exact BK422.out) Try.underlying42 rfl (by kernel_rfl)) rfl ?_
          exact ⟨by first | rfl | (simp [errW_none, errW_some] <;> rfl) | (simp only [← hji6]; first | rfl | (simp [errW_none, errW_some] <;> rfl)) | (simp [*, errW_none, errW_some] <;> rfl), by repeat (first | (with_reducible first | exact HI0.out | apply IsS62.alloc | apply IsS62.drewN | apply IsS62.drew | apply IsS62.set_1 | refine IsS62.far ?_ NB0_422.out _ | refine IsS62.far ?_ NB0_427.out _) | exact HI0.out), by repeat (first | (with_reducible first | exact HB.out | apply below_alloc | apply pw_below_drewN | apply below_drew1 | refine below_set ?_ (IsS62.ge HI0.out) | refine below_set ?_ GE422.out | refine below_set ?_ GE427.out) | exact HB.out), by repeat (first | (with_reducible first | exact HK.out | apply KeepBut.set_ | apply keep_drewN | apply keep_drew | apply keep_alloc | refine keep_far ?_ GW422.out _ | refine keep_far ?_ GW427.out _) | exact HK.out)⟩
        · rw [if_neg c26] at H
          have c26b0 : (t435 == 0) = false := beq_eq_false_iff_ne.mpr c26
          have c26b1 : (t435 != 0) = true := bne_iff_ne.mpr c26
          obtain ⟨y439, hy439⟩ : ∃ y_ : List Int, y_ = (([(-1), 121] : List Int)) := ⟨_, rfl⟩
          replace H : ((spec_l20Rd_pick.f kj7 s0_0 t436 2).bind fun bt442 => (if 0 ≤ bt442.1 then (if bt442.1 < (y439.length : Int) then (some (t423, t425, rd y439 bt442.1, bt442.2)) else (none)) else (none))) = some (r1, r2, r3, r4) := by first | (rw [hy439]; with_reducible exact H) | (have H2_ := (Option.bind_some _ _).symm.trans H; rw [hy439]; with_reducible exact H2_) | (have H2_ := (Option.bind_some _ _).symm.trans H; with_reducible exact H2_) | with_reducible exact H | (rw [hy439]; exact H) | exact H
          have Ny439 := Aside0.mk hy439
          clear hy439
          replace H := Option.bind_eq_some_iff.mp H
          obtain ⟨⟨t442, t443⟩, A360, H⟩ := H
          replace H : (if 0 ≤ t442 then (if t442 < (y439.length : Int) then (some (t423, t425, rd y439 t442, t443)) else (none)) else (none)) = some (r1, r2, r3, r4) := H
          have A36 := Aside0.mk A360
          clear A360
          by_cases c37 : 0 ≤ t442
          · rw [if_pos c37] at H
            have c37b0 : decide (0 ≤ t442) = true := decide_eq_true c37
            clear c37
            by_cases c38 : t442 < (y439.length : Int)
            · rw [if_pos c38] at H
              have c38b0 : decide (t442 < (y439.length : Int)) = true := decide_eq_true c38
              clear c38
              simp only [Option.some.injEq, Prod.mk.injEq] at H
              obtain ⟨rfl, rfl, rfl, rfl⟩ := H
              go_wp2_with (first | ((with_reducible refine gate_callee (f := 59) rfl ?_); refine goesL_ (some 29) rfl rfl Try.func59 (by kernel_rfl) rfl #[.pointer (some ⟨g, 0, none⟩), .int .i64 a1] rfl (by (try simp only [List.map_toArray, List.map_cons, List.map_nil]); first | done | rfl | (simp only [List.length_drop, List.length_take]; rfl)) ?_; (with_reducible refine (spec_l20Rd_odd.calls kj7 g s0_0 x1001_7 a1 true t434 w0 _ ?side1 ?side2 A23.out).mono ?_); (case side1 => repeat (first | (with_reducible first | exact HI0.out | apply IsS62.alloc | apply IsS62.drewN | apply IsS62.drew | apply IsS62.set_1 | refine IsS62.far ?_ NB0_422.out _ | refine IsS62.far ?_ NB0_427.out _) | exact HI0.out)); (case side2 => repeat (first | (with_reducible first | exact HB.out | apply below_alloc | apply pw_below_drewN | apply below_drew1 | refine below_set ?_ (IsS62.ge HI0.out) | refine below_set ?_ GE422.out | refine below_set ?_ GE427.out) | exact HB.out)); rintro e w39 ⟨rfl, hi, hb, hk⟩; refine ⟨_, rfl, ?_⟩; have n0_ := Aside0.mk (KeepBut.blk hk (g' := gb422) (o := .cells #[.string (⟨#[]⟩ : ByteArray), .int .i64 0, .int .i64 0] 42 (0, 0)) (by (with_reducible repeat (first | refine blk_drewN ?_ _ | refine blk_drew ?_ | refine blk_alloc ?_ _)); exact BK422.out) NB422_0.out (by simp)); have n1_ := Aside0.mk (KeepBut.blk hk (g' := gb427) (o := .cells #[.string t423, .int .i64 t425, .int .i64 x428002_7] 42 (0, 0)) (by (with_reducible repeat (first | refine blk_drewN ?_ _ | refine blk_drew ?_ | refine blk_alloc ?_ _)); exact BK427.out) NB427_0.out (by simp)); have n2_ := Aside0.mk (KeepBut.trans (by repeat (first | (with_reducible first | exact HK.out | apply KeepBut.set_ | apply keep_drewN | apply keep_drew | apply keep_alloc | refine keep_far ?_ GW422.out _ | refine keep_far ?_ GW427.out _) | exact HK.out)) hk (.inl rfl)); have n3_ := Aside0.mk (hb); have n4_ := Aside0.mk (hi); clear BK422; clear BK427; clear HK; clear HB; clear HI0; have BK422 := n0_; have BK427 := n1_; have HK := n2_; have HB := n3_; have HI0 := n4_; clear n0_ n1_ n2_ n3_ n4_; (try clear hb); (try clear hb2); (try clear hk); (try clear hi)) | ((with_reducible refine gate_callee (f := 58) rfl ?_); refine goesL_ (some 31) rfl rfl Try.func58 (by kernel_rfl) rfl #[.pointer (some ⟨g, 0, none⟩), .int .i64 2] rfl (by (try simp only [List.map_toArray, List.map_cons, List.map_nil]); first | done | rfl | (simp only [List.length_drop, List.length_take]; rfl)) ?_; (with_reducible refine (spec_l20Rd_pick.calls kj7 g s0_0 t434 2 t435 t436 w0 _ ?side1 ?side2 A25.out).mono ?_); (case side1 => repeat (first | (with_reducible first | exact HI0.out | apply IsS62.alloc | apply IsS62.drewN | apply IsS62.drew | apply IsS62.set_1 | refine IsS62.far ?_ NB0_422.out _ | refine IsS62.far ?_ NB0_427.out _) | exact HI0.out)); (case side2 => repeat (first | (with_reducible first | exact HB.out | apply below_alloc | apply pw_below_drewN | apply below_drew1 | refine below_set ?_ (IsS62.ge HI0.out) | refine below_set ?_ GE422.out | refine below_set ?_ GE427.out) | exact HB.out)); rintro e w40 ⟨rfl, hi, hb, hk⟩; refine ⟨_, rfl, ?_⟩; have n0_ := Aside0.mk (KeepBut.blk hk (g' := gb422) (o := .cells #[.string (⟨#[]⟩ : ByteArray), .int .i64 0, .int .i64 0] 42 (0, 0)) (by (with_reducible repeat (first | refine blk_drewN ?_ _ | refine blk_drew ?_ | refine blk_alloc ?_ _)); exact BK422.out) NB422_0.out (by simp)); have n1_ := Aside0.mk (KeepBut.blk hk (g' := gb427) (o := .cells #[.string t423, .int .i64 t425, .int .i64 x428002_7] 42 (0, 0)) (by (with_reducible repeat (first | refine blk_drewN ?_ _ | refine blk_drew ?_ | refine blk_alloc ?_ _)); exact BK427.out) NB427_0.out (by simp)); have n2_ := Aside0.mk (KeepBut.trans (by repeat (first | (with_reducible first | exact HK.out | apply KeepBut.set_ | apply keep_drewN | apply keep_drew | apply keep_alloc | refine keep_far ?_ GW422.out _ | refine keep_far ?_ GW427.out _) | exact HK.out)) hk (.inl rfl)); have n3_ := Aside0.mk (hb); have n4_ := Aside0.mk (hi); clear BK422; clear BK427; clear HK; clear HB; clear HI0; have BK422 := n0_; have BK427 := n1_; have HK := n2_; have HB := n3_; have HI0 := n4_; clear n0_ n1_ n2_ n3_ n4_; (try clear hb); (try clear hb2); (try clear hk); (try clear hi)) | ((with_reducible refine gate_dst (N := 37) rfl ?_); refine Kd.R_lit (Kd.int .i64) _ 3 ?hg (N := 37) ?hd (xs := ([(-1), 121] : List Int)) (inner := [.int .i64 (-1), .int .i64 121]) (ok := fun _ => True) (okp := fun _ => True) ?hr ?hp (fun _ hk => hk) trivial (Below.refl _ _) (Nat.le_refl _) (by simp) ?_; (case hd => rfl); (case hg => rfl); (case hr => first | (go_simp; done) | (go_simp; rfl)); (case hp => exact (Reps.one (show Kd.M (Kd.int .i64) _ _ _ (-1) [.int .i64 (-1)] from rfl) (Reps.one (show Kd.M (Kd.int .i64) _ _ _ 121 [.int .i64 121] from rfl) (Reps.none _ _)))); intro v440 w41 ho42 hb hg_ hnew_; clear hg_ hnew_; (first | rw [← Ny439.out] at ho42 | (simp only [Int.reduceToNat] at ho42; rw [← Ny439.out] at ho42)); have n0_ := Aside0.mk (Kd.R_lower ho42 (keep_size (w := w) (g := g) (row := none) (by repeat (first | (with_reducible first | exact HK.out | apply KeepBut.set_ | apply keep_drewN | apply keep_drew | apply keep_alloc | refine keep_far ?_ GW422.out _ | refine keep_far ?_ GW427.out _) | exact HK.out)))); have n1_ := Aside0.mk (blk_below (g := gb422) (o := .cells #[.string (⟨#[]⟩ : ByteArray), .int .i64 0, .int .i64 0] 42 (0, 0)) (by (with_reducible repeat (first | refine blk_drewN ?_ _ | refine blk_drew ?_ | refine blk_alloc ?_ _)); exact BK422.out) hb); have n2_ := Aside0.mk (blk_below (g := gb427) (o := .cells #[.string t423, .int .i64 t425, .int .i64 x428002_7] 42 (0, 0)) (by (with_reducible repeat (first | refine blk_drewN ?_ _ | refine blk_drew ?_ | refine blk_alloc ?_ _)); exact BK427.out) hb); have n3_ := Aside0.mk (IsS62.below (by repeat (first | (with_reducible first | exact HI0.out | apply IsS62.alloc | apply IsS62.drewN | apply IsS62.drew | apply IsS62.set_1 | refine IsS62.far ?_ NB0_422.out _ | refine IsS62.far ?_ NB0_427.out _) | exact HI0.out)) hb); have n4_ := Aside0.mk (KeepBut.trans (by repeat (first | (with_reducible first | exact HK.out | apply KeepBut.set_ | apply keep_drewN | apply keep_drew | apply keep_alloc | refine keep_far ?_ GW422.out _ | refine keep_far ?_ GW427.out _) | exact HK.out)) (KeepBut.of_below hb g none) (.inl rfl)); have n5_ := Aside0.mk (below_step (by repeat (first | (with_reducible first | exact HB.out | apply below_alloc | apply pw_below_drewN | apply below_drew1 | refine below_set ?_ (IsS62.ge HI0.out) | refine below_set ?_ GE422.out | refine below_set ?_ GE427.out) | exact HB.out)) hb); clear BK422; clear BK427; clear HI0; clear HK; clear HB; have HO441 := n0_; have BK422 := n1_; have BK427 := n2_; have HI0 := n3_; have HK := n4_; have HB := n5_; clear n0_ n1_ n2_ n3_ n4_ n5_; clear hb ho42) | ((with_reducible refine gate_callee (f := 58) rfl ?_); refine goesL_ (some 39) rfl rfl Try.func58 (by kernel_rfl) rfl #[.pointer (some ⟨g, 0, none⟩), .int .i64 2] rfl (by (try simp only [List.map_toArray, List.map_cons, List.map_nil]); first | done | rfl | (simp only [List.length_drop, List.length_take]; rfl)) ?_; (with_reducible refine (spec_l20Rd_pick.calls kj7 g s0_0 t436 2 t442 t443 w0 _ ?side1 ?side2 A36.out).mono ?_); (case side1 => repeat (first | (with_reducible first | exact HI0.out | apply IsS62.alloc | apply IsS62.drewN | apply IsS62.drew | apply IsS62.set_1 | refine IsS62.far ?_ NB0_422.out _ | refine IsS62.far ?_ NB0_427.out _) | exact HI0.out)); (case side2 => repeat (first | (with_reducible first | exact HB.out | apply below_alloc | apply pw_below_drewN | apply below_drew1 | refine below_set ?_ (IsS62.ge HI0.out) | refine below_set ?_ GE422.out | refine below_set ?_ GE427.out) | exact HB.out)); rintro e w43 ⟨rfl, hi, hb, hk⟩; refine ⟨_, rfl, ?_⟩; have n0_ := Aside0.mk (KeepBut.blk hk (g' := gb422) (o := .cells #[.string (⟨#[]⟩ : ByteArray), .int .i64 0, .int .i64 0] 42 (0, 0)) (by (with_reducible repeat (first | refine blk_drewN ?_ _ | refine blk_drew ?_ | refine blk_alloc ?_ _)); exact BK422.out) NB422_0.out (by simp)); have n1_ := Aside0.mk (KeepBut.blk hk (g' := gb427) (o := .cells #[.string t423, .int .i64 t425, .int .i64 x428002_7] 42 (0, 0)) (by (with_reducible repeat (first | refine blk_drewN ?_ _ | refine blk_drew ?_ | refine blk_alloc ?_ _)); exact BK427.out) NB427_0.out (by simp)); have n2_ := Aside0.mk (Kd.R_mono (Kd.R_keep (IsS62.apart (show IsS62 w0 _ g s0_0 t436 from by repeat (first | (with_reducible first | exact HI0.out | apply IsS62.alloc | apply IsS62.drewN | apply IsS62.drew | apply IsS62.set_1 | refine IsS62.far ?_ NB0_422.out _ | refine IsS62.far ?_ NB0_427.out _) | exact HI0.out)) (by (with_reducible repeat (first | apply Kd.R_alloc | apply Kd.R_drewN | apply Kd.R_drew)); exact HO441.out) (by decide)) hk (fun _ h => h.2)) (fun _ h => h.1)); have n3_ := Aside0.mk (KeepBut.trans (by repeat (first | (with_reducible first | exact HK.out | apply KeepBut.set_ | apply keep_drewN | apply keep_drew | apply keep_alloc | refine keep_far ?_ GW422.out _ | refine keep_far ?_ GW427.out _) | exact HK.out)) hk (.inl rfl)); have n4_ := Aside0.mk (hb); have n5_ := Aside0.mk (hi); clear BK422; clear BK427; clear HO441; clear HK; clear HB; clear HI0; have BK422 := n0_; have BK427 := n1_; have HO441 := n2_; have HK := n3_; have HB := n4_; have HI0 := n5_; clear n0_ n1_ n2_ n3_ n4_ n5_; (try clear hb); (try clear hb2); (try clear hk); (try clear hi); obtain ⟨Ao44, co44, eo44⟩ := Kd.R_slice HO441.out; subst eo44; have p444 : 0 ≤ (t442 : Int) := of_decide_eq_true (by first | (with_reducible assumption) | assumption); have q444 : t442 < (y439.length : Int) := of_decide_eq_true (by first | (with_reducible assumption) | assumption); obtain ⟨ad444, e444, hx444_0⟩ := Kd.at_int (Kd.R_reads' HO441.out).2.2 t442 p444 q444; cases e444; replace p444 := eq_true p444; replace q444 := eq_true q444; have hnb45 := NB427_422.out; have hnc45 := NB422_427.out; have hnb46 := NB427_0.out; have hnc46 := NB0_427.out; have hcz47_0 : w43.cell? ⟨gb427, 0, none⟩ = some (.string t423) := (blk_cell BK427.out 0).trans rfl; have hcz47_1 : w43.cell? ⟨gb427, 1, none⟩ = some (.int .i64 t425) := (blk_cell BK427.out 1).trans rfl; have hcz47_2 : w43.cell? ⟨gb427, 2, none⟩ = some (.int .i64 x428002_7) := (blk_cell BK427.out 2).trans rfl; have hfz47_0 := blk_frozen BK427.out 0; have hfz47_1 := blk_frozen BK427.out 1; have hfz47_2 := blk_frozen BK427.out 2; have hnb48 := NB422_0.out; have hnc48 := NB0_422.out; have hcz49_0 : w43.cell? ⟨gb422, 0, none⟩ = some (.string (⟨#[]⟩ : ByteArray)) := (blk_cell BK422.out 0).trans rfl; have hcz49_1 : w43.cell? ⟨gb422, 1, none⟩ = some (.int .i64 0) := (blk_cell BK422.out 1).trans rfl; have hcz49_2 : w43.cell? ⟨gb422, 2, none⟩ = some (.int .i64 0) := (blk_cell BK422.out 2).trans rfl; have hfz49_0 := blk_frozen BK422.out 0; have hfz49_1 := blk_frozen BK422.out 1; have hfz49_2 := blk_frozen BK422.out 2))
              refine bodyPost_ret (results_cell_row rfl _ _ gb422 42 #[.string t423, .int .i64 t425, .int .i64 (rd y439 t442)] (0, 0) _ rfl (by (with_reducible repeat (first | refine blk_drewN ?_ _ | refine blk_drew ?_ | refine blk_alloc ?_ _)); refine blk_put (cs := #[.string t423, .int .i64 t425, .int .i64 0]) ?_ 2 _ rfl; (with_reducible repeat (first | refine blk_drewN ?_ _ | refine blk_drew ?_ | refine blk_alloc ?_ _)); refine blk_put (cs := #[.string t423, .int .i64 0, .int .i64 0]) ?_ 1 _ rfl; (with_reducible repeat (first | refine blk_drewN ?_ _ | refine blk_drew ?_ | refine blk_alloc ?_ _)); refine blk_put (cs := #[.string (⟨#[]⟩ : ByteArray), .int .i64 0, .int .i64 0]) ?_ 0 _ rfl; (with_reducible repeat (first | refine blk_drewN ?_ _ | refine blk_drew ?_ | refine blk_alloc ?_ _)); refine blk_far ?_ NB422_427.out _; (with_reducible repeat (first | refine blk_drewN ?_ _ | refine blk_drew ?_ | refine blk_alloc ?_ _)); exact BK422.out) Try.underlying42 rfl (by kernel_rfl)) rfl ?_
              exact ⟨by first | rfl | (simp [errW_none, errW_some] <;> rfl) | (simp only [← hji6]; first | rfl | (simp [errW_none, errW_some] <;> rfl)) | (simp [*, errW_none, errW_some] <;> rfl), by repeat (first | (with_reducible first | exact HI0.out | apply IsS62.alloc | apply IsS62.drewN | apply IsS62.drew | apply IsS62.set_1 | refine IsS62.far ?_ NB0_422.out _ | refine IsS62.far ?_ NB0_427.out _) | exact HI0.out), by repeat (first | (with_reducible first | exact HB.out | apply below_alloc | apply pw_below_drewN | apply below_drew1 | refine below_set ?_ (IsS62.ge HI0.out) | refine below_set ?_ GE422.out | refine below_set ?_ GE427.out) | exact HB.out), by repeat (first | (with_reducible first | exact HK.out | apply KeepBut.set_ | apply keep_drewN | apply keep_drew | apply keep_alloc | refine keep_far ?_ GW422.out _ | refine keep_far ?_ GW427.out _) | exact HK.out)⟩
            · rw [if_neg c38] at H
              exact absurd H (by simp)
          · rw [if_neg c37] at H
            exact absurd H (by simp)
      · replace c24 := Bool.eq_false_iff.mpr c24
        subst c24
        have H1 : (some (t423, t425, x428002_7, t434)) = some (r1, r2, r3, r4) := by rw [if_neg (show ¬ (false = true) by decide)] at H; exact H
        clear H
        have H := H1
        clear H1
        simp only [Option.some.injEq, Prod.mk.injEq] at H
        obtain ⟨rfl, rfl, rfl, rfl⟩ := H
        go_wp2_with (first | ((with_reducible refine gate_callee (f := 59) rfl ?_); refine goesL_ (some 29) rfl rfl Try.func59 (by kernel_rfl) rfl #[.pointer (some ⟨g, 0, none⟩), .int .i64 a1] rfl (by (try simp only [List.map_toArray, List.map_cons, List.map_nil]); first | done | rfl | (simp only [List.length_drop, List.length_take]; rfl)) ?_; (with_reducible refine (spec_l20Rd_odd.calls kj7 g s0_0 x1001_7 a1 false t434 w0 _ ?side1 ?side2 A23.out).mono ?_); (case side1 => repeat (first | (with_reducible first | exact HI0.out | apply IsS62.alloc | apply IsS62.drewN | apply IsS62.drew | apply IsS62.set_1 | refine IsS62.far ?_ NB0_422.out _ | refine IsS62.far ?_ NB0_427.out _) | exact HI0.out)); (case side2 => repeat (first | (with_reducible first | exact HB.out | apply below_alloc | apply pw_below_drewN | apply below_drew1 | refine below_set ?_ (IsS62.ge HI0.out) | refine below_set ?_ GE422.out | refine below_set ?_ GE427.out) | exact HB.out)); rintro e w50 ⟨rfl, hi, hb, hk⟩; refine ⟨_, rfl, ?_⟩; have n0_ := Aside0.mk (KeepBut.blk hk (g' := gb422) (o := .cells #[.string (⟨#[]⟩ : ByteArray), .int .i64 0, .int .i64 0] 42 (0, 0)) (by (with_reducible repeat (first | refine blk_drewN ?_ _ | refine blk_drew ?_ | refine blk_alloc ?_ _)); exact BK422.out) NB422_0.out (by simp)); have n1_ := Aside0.mk (KeepBut.blk hk (g' := gb427) (o := .cells #[.string t423, .int .i64 t425, .int .i64 x428002_7] 42 (0, 0)) (by (with_reducible repeat (first | refine blk_drewN ?_ _ | refine blk_drew ?_ | refine blk_alloc ?_ _)); exact BK427.out) NB427_0.out (by simp)); have n2_ := Aside0.mk (KeepBut.trans (by repeat (first | (with_reducible first | exact HK.out | apply KeepBut.set_ | apply keep_drewN | apply keep_drew | apply keep_alloc | refine keep_far ?_ GW422.out _ | refine keep_far ?_ GW427.out _) | exact HK.out)) hk (.inl rfl)); have n3_ := Aside0.mk (hb); have n4_ := Aside0.mk (hi); clear BK422; clear BK427; clear HK; clear HB; clear HI0; have BK422 := n0_; have BK427 := n1_; have HK := n2_; have HB := n3_; have HI0 := n4_; clear n0_ n1_ n2_ n3_ n4_; (try clear hb); (try clear hb2); (try clear hk); (try clear hi); have hnb51 := NB427_422.out; have hnc51 := NB422_427.out; have hnb52 := NB427_0.out; have hnc52 := NB0_427.out; have hcz53_0 : w50.cell? ⟨gb427, 0, none⟩ = some (.string t423) := (blk_cell BK427.out 0).trans rfl; have hcz53_1 : w50.cell? ⟨gb427, 1, none⟩ = some (.int .i64 t425) := (blk_cell BK427.out 1).trans rfl; have hcz53_2 : w50.cell? ⟨gb427, 2, none⟩ = some (.int .i64 x428002_7) := (blk_cell BK427.out 2).trans rfl; have hfz53_0 := blk_frozen BK427.out 0; have hfz53_1 := blk_frozen BK427.out 1; have hfz53_2 := blk_frozen BK427.out 2; have hnb54 := NB422_0.out; have hnc54 := NB0_422.out; have hcz55_0 : w50.cell? ⟨gb422, 0, none⟩ = some (.string (⟨#[]⟩ : ByteArray)) := (blk_cell BK422.out 0).trans rfl; have hcz55_1 : w50.cell? ⟨gb422, 1, none⟩ = some (.int .i64 0) := (blk_cell BK422.out 1).trans rfl; have hcz55_2 : w50.cell? ⟨gb422, 2, none⟩ = some (.int .i64 0) := (blk_cell BK422.out 2).trans rfl; have hfz55_0 := blk_frozen BK422.out 0; have hfz55_1 := blk_frozen BK422.out 1; have hfz55_2 := blk_frozen BK422.out 2))
        refine bodyPost_ret (results_cell_row rfl _ _ gb422 42 #[.string t423, .int .i64 t425, .int .i64 x428002_7] (0, 0) _ rfl (by (with_reducible repeat (first | refine blk_drewN ?_ _ | refine blk_drew ?_ | refine blk_alloc ?_ _)); refine blk_put (cs := #[.string t423, .int .i64 t425, .int .i64 0]) ?_ 2 _ rfl; (with_reducible repeat (first | refine blk_drewN ?_ _ | refine blk_drew ?_ | refine blk_alloc ?_ _)); refine blk_put (cs := #[.string t423, .int .i64 0, .int .i64 0]) ?_ 1 _ rfl; (with_reducible repeat (first | refine blk_drewN ?_ _ | refine blk_drew ?_ | refine blk_alloc ?_ _)); refine blk_put (cs := #[.string (⟨#[]⟩ : ByteArray), .int .i64 0, .int .i64 0]) ?_ 0 _ rfl; (with_reducible repeat (first | refine blk_drewN ?_ _ | refine blk_drew ?_ | refine blk_alloc ?_ _)); exact BK422.out) Try.underlying42 rfl (by kernel_rfl)) rfl ?_
        exact ⟨by first | rfl | (simp [errW_none, errW_some] <;> rfl) | (simp only [← hji6]; first | rfl | (simp [errW_none, errW_some] <;> rfl)) | (simp [*, errW_none, errW_some] <;> rfl), by repeat (first | (with_reducible first | exact HI0.out | apply IsS62.alloc | apply IsS62.drewN | apply IsS62.drew | apply IsS62.set_1 | refine IsS62.far ?_ NB0_422.out _ | refine IsS62.far ?_ NB0_427.out _) | exact HI0.out), by repeat (first | (with_reducible first | exact HB.out | apply below_alloc | apply pw_below_drewN | apply below_drew1 | refine below_set ?_ (IsS62.ge HI0.out) | refine below_set ?_ GE422.out | refine below_set ?_ GE427.out) | exact HB.out), by repeat (first | (with_reducible first | exact HK.out | apply KeepBut.set_ | apply keep_drewN | apply keep_drew | apply keep_alloc | refine keep_far ?_ GW422.out _ | refine keep_far ?_ GW427.out _) | exact HK.out)⟩

/-! ### spec_DrawDeskValid: function 38 -/
def spec_DrawDeskValid.f (k : Nat) (l0 : List Int) : Option (ByteArray × Int × Int) := (spec_l20Open.f l0).bind fun bt446 => ((spec_l20Desk.f k bt446.1 bt446.2 2).bind fun bt449 => (some (bt449.1, bt449.2.1, bt449.2.2.1)))
theorem spec_DrawDeskValid.mono : ∀ a0 k, LeO (spec_DrawDeskValid.f k a0) (spec_DrawDeskValid.f (k + 1) a0) := by
  intro a0 k
  unfold spec_DrawDeskValid.f
  repeat' first
      | (with_reducible exact spec_l20Desk.mono _ _ _ _)
      | (with_reducible exact LeO.refl _)
      | (with_reducible exact LeO.none _)
      | (with_reducible refine LeO.ite ?_ ?_)
      | (with_reducible refine LeO.bind ?_ (fun _ => ?_))
      | exact spec_l20Desk.mono _ _ _ _
      | exact LeO.none _
      | refine LeO.ite ?_ ?_
      | refine LeO.bind ?_ (fun _ => ?_)
set_option maxHeartbeats 8000000 in
set_option maxRecDepth 100000 in
theorem spec_DrawDeskValid.calls (k : Nat) (A0 : Option Addr) (c0 : Nat) (l0 : List Int) (r1 : ByteArray) (r2 : Int) (r3 : Int) (w : World) (hr0 : Kd.C (Kd.int .u8) w A0 l0.length l0) (hc0 : l0.length ≤ c0) (h : spec_DrawDeskValid.f k l0 = some (r1, r2, r3)) :
    Calls Try.prog 38 #[.slice A0 l0.length c0] w fun e w' => e = .returned (.agg #[.string r1, .int .i64 r2, .int .i64 r3]) ∧ Below w.heap.size w w' := by
  have hu42 := Try.underlying42
  have HR0 := Aside0.mk hr0
  have HC0 := Aside0.mk hc0
  clear hr0 hc0
  have HB := Aside0.mk (Below.refl w.heap.size w)
  have H : ((spec_l20Open.f l0).bind fun bt446 => ((spec_l20Desk.f k bt446.1 bt446.2 2).bind fun bt449 => (some (bt449.1, bt449.2.1, bt449.2.2.1)))) = some (r1, r2, r3) := h
  clear h
  replace H := Option.bind_eq_some_iff.mp H
  obtain ⟨⟨t446, t447⟩, A20, H⟩ := H
  replace H : ((spec_l20Desk.f k t446 t447 2).bind fun bt449 => (some (bt449.1, bt449.2.1, bt449.2.2.1))) = some (r1, r2, r3) := H
  have A2 := Aside0.mk A20
  clear A20
  replace H := Option.bind_eq_some_iff.mp H
  obtain ⟨⟨t449, t450, t451, t452⟩, A30, H⟩ := H
  replace H : (some (t449, t450, t451)) = some (r1, r2, r3) := H
  have A3 := Aside0.mk A30
  clear A30
  simp only [Option.some.injEq, Prod.mk.injEq] at H
  obtain ⟨rfl, rfl, rfl⟩ := H
  go_enter Try.func38, Try.ntmps38
  go_wp2_with (first | ((with_reducible refine gate_dst (N := 2) rfl ?_); refine box_event ?hg (N := 2) ?hd (cs := #[.string (⟨#[]⟩ : ByteArray), .int .i64 0, .int .i64 0]) (t := 42) ?hr ?_; (case hd => rfl); (case hg => rfl); (case hr => first | (go_simp; done) | (go_simp; rfl)); intro gb445 hg w4 hbox hb; have n0_ := Aside0.mk (below_step (by repeat (first | (with_reducible first | exact HB.out | apply below_alloc | apply pw_below_drewN | apply below_drew1) | exact HB.out)) hb); have n1_ := Aside0.mk (hbox); have n2_ := Aside0.mk ((by rw [hg]; exact (below_size (by repeat (first | (with_reducible first | exact HB.out | apply below_alloc | apply pw_below_drewN | apply below_drew1) | exact HB.out))) : w.heap.size ≤ gb445)); have n3_ := Aside0.mk ((by rw [hg]; exact (below_size (by repeat (first | (with_reducible first | exact HB.out | apply below_alloc | apply pw_below_drewN | apply below_drew1) | exact HB.out))) : w.heap.size ≤ gb445)); clear HB; have HB := n0_; have BK445 := n1_; have GW445 := n2_; have GE445 := n3_; clear n0_ n1_ n2_ n3_; clear hb hbox hg) | ((with_reducible refine gate_callee (f := 48) rfl ?_); refine goesL_ (some 4) rfl rfl Try.func48 (by kernel_rfl) rfl #[.slice A0 l0.length c0] rfl (by (try simp only [List.map_toArray, List.map_cons, List.map_nil]); first | done | rfl | (simp only [List.length_drop, List.length_take]; rfl)) ?_; (with_reducible refine (spec_l20Open.calls _ _ l0 t446 t447 w _ ?side1 ?side2 ?side3 A2.out).mono ?_); (case side1 => repeat (first | (with_reducible first | exact HB.out | apply below_alloc | apply pw_below_drewN | apply below_drew1 | refine below_set ?_ GE445.out) | exact HB.out)); (case side2 => exact HR0.out); (case side3 => exact HC0.out); rintro e w5 ⟨g448, rfl, hi, hb, hb2⟩; refine ⟨_, rfl, ?_⟩; have n0_ := Aside0.mk (blk_below (g := gb445) (o := .cells #[.string (⟨#[]⟩ : ByteArray), .int .i64 0, .int .i64 0] 42 (0, 0)) (by (with_reducible repeat (first | refine blk_drewN ?_ _ | refine blk_drew ?_ | refine blk_alloc ?_ _)); exact BK445.out) hb2); have n1_ := Aside0.mk (hb); have n2_ := Aside0.mk (hi); have n3_ := Aside0.mk (IsS62.ne_blk hi (blk_below (g := gb445) (o := .cells #[.string (⟨#[]⟩ : ByteArray), .int .i64 0, .int .i64 0] 42 (0, 0)) (by (with_reducible repeat (first | refine blk_drewN ?_ _ | refine blk_drew ?_ | refine blk_alloc ?_ _)); exact BK445.out) hb2) (by decide)); have n4_ := Aside0.mk (Ne.symm (IsS62.ne_blk hi (blk_below (g := gb445) (o := .cells #[.string (⟨#[]⟩ : ByteArray), .int .i64 0, .int .i64 0] 42 (0, 0)) (by (with_reducible repeat (first | refine blk_drewN ?_ _ | refine blk_drew ?_ | refine blk_alloc ?_ _)); exact BK445.out) hb2) (by decide))); clear BK445; clear HB; have BK445 := n0_; have HB := n1_; have HI448 := n2_; have NB448_445 := n3_; have NB445_448 := n4_; clear n0_ n1_ n2_ n3_ n4_; (try clear hb); (try clear hb2); (try clear hk); (try clear hi)) | ((with_reducible refine gate_callee (f := 53) rfl ?_); refine goesL_ (some 5) rfl rfl Try.func53 (by kernel_rfl) rfl #[.pointer (some ⟨g448, 0, none⟩), .int .i64 2] rfl (by (try simp only [List.map_toArray, List.map_cons, List.map_nil]); first | done | rfl | (simp only [List.length_drop, List.length_take]; rfl)) ?_; (with_reducible refine (spec_l20Desk.calls k g448 t446 t447 2 t449 t450 t451 t452 w _ ?side1 ?side2 A3.out).mono ?_); (case side1 => repeat (first | (with_reducible first | exact HI448.out | apply IsS62.alloc | apply IsS62.drewN | apply IsS62.drew | apply IsS62.set_1 | refine IsS62.far ?_ NB448_445.out _) | exact HI448.out)); (case side2 => repeat (first | (with_reducible first | exact HB.out | apply below_alloc | apply pw_below_drewN | apply below_drew1 | refine below_set ?_ (IsS62.ge HI448.out) | refine below_set ?_ GE445.out) | exact HB.out)); rintro e w6 ⟨rfl, hi, hb, hk⟩; refine ⟨_, rfl, ?_⟩; have n0_ := Aside0.mk (KeepBut.blk hk (g' := gb445) (o := .cells #[.string (⟨#[]⟩ : ByteArray), .int .i64 0, .int .i64 0] 42 (0, 0)) (by (with_reducible repeat (first | refine blk_drewN ?_ _ | refine blk_drew ?_ | refine blk_alloc ?_ _)); exact BK445.out) NB445_448.out (by simp)); have n1_ := Aside0.mk (hb); have n2_ := Aside0.mk (hi); clear BK445; clear HB; clear HI448; have BK445 := n0_; have HB := n1_; have HI448 := n2_; clear n0_ n1_ n2_; (try clear hb); (try clear hb2); (try clear hk); (try clear hi); have hnb7 := NB445_448.out; have hnc7 := NB448_445.out; have hcz8_0 : w6.cell? ⟨gb445, 0, none⟩ = some (.string (⟨#[]⟩ : ByteArray)) := (blk_cell BK445.out 0).trans rfl; have hcz8_1 : w6.cell? ⟨gb445, 1, none⟩ = some (.int .i64 0) := (blk_cell BK445.out 1).trans rfl; have hcz8_2 : w6.cell? ⟨gb445, 2, none⟩ = some (.int .i64 0) := (blk_cell BK445.out 2).trans rfl; have hfz8_0 := blk_frozen BK445.out 0; have hfz8_1 := blk_frozen BK445.out 1; have hfz8_2 := blk_frozen BK445.out 2))
  refine bodyPost_ret (results_cell_row rfl _ _ gb445 42 #[.string t449, .int .i64 t450, .int .i64 t451] (0, 0) _ rfl (by (with_reducible repeat (first | refine blk_drewN ?_ _ | refine blk_drew ?_ | refine blk_alloc ?_ _)); refine blk_put (cs := #[.string t449, .int .i64 t450, .int .i64 0]) ?_ 2 _ rfl; (with_reducible repeat (first | refine blk_drewN ?_ _ | refine blk_drew ?_ | refine blk_alloc ?_ _)); refine blk_put (cs := #[.string t449, .int .i64 0, .int .i64 0]) ?_ 1 _ rfl; (with_reducible repeat (first | refine blk_drewN ?_ _ | refine blk_drew ?_ | refine blk_alloc ?_ _)); refine blk_put (cs := #[.string (⟨#[]⟩ : ByteArray), .int .i64 0, .int .i64 0]) ?_ 0 _ rfl; (with_reducible repeat (first | refine blk_drewN ?_ _ | refine blk_drew ?_ | refine blk_alloc ?_ _)); exact BK445.out) Try.underlying42 rfl (by kernel_rfl)) rfl ?_
  exact ⟨by first | rfl | (simp [errW_none, errW_some] <;> rfl) | (simp [*, errW_none, errW_some] <;> rfl), by repeat (first | (with_reducible first | exact HB.out | apply below_alloc | apply pw_below_drewN | apply below_drew1 | refine below_set ?_ (IsS62.ge HI448.out) | refine below_set ?_ GE445.out) | exact HB.out)⟩

/-! ### laws_FnDeskValid: function 13 -/
def laws_FnDeskValid.f (k : Nat) (l0 : List Int) : Option (Bool) := if (l0.length : Int) > 1048576 then (some true) else ((spec_DrawDeskValid.f k l0).bind fun bt453 => ((impl_DeskValid.f k bt453.1 bt453.2.1 bt453.2.2).bind fun t457 => ((spec_DeskValid.f k bt453.1 bt453.2.1 bt453.2.2).bind fun t458 => (if (t457 != t458) = true then (some false) else ((impl_DeskValid.f k bt453.1 (wrap64 ((bt453.1.size : Int) + 1)) 0).bind fun t459 => (if t459 = true then (some false) else ((impl_DeskValid.f k bt453.1 0 (-1)).bind fun t460 => (if t460 = true then (some false) else ((laws_alive.f k).bind fun t461 => (some t461))))))))))
theorem laws_FnDeskValid.mono : ∀ a0 k, LeO (laws_FnDeskValid.f k a0) (laws_FnDeskValid.f (k + 1) a0) := by
  intro a0 k
  unfold laws_FnDeskValid.f
  repeat' first
      | (with_reducible exact impl_DeskValid.mono _ _ _ _)
      | (with_reducible exact laws_alive.mono _)
      | (with_reducible exact spec_DeskValid.mono _ _ _ _)
      | (with_reducible exact spec_DrawDeskValid.mono _ _)
      | (with_reducible exact LeO.refl _)
      | (with_reducible exact LeO.none _)
      | (with_reducible refine LeO.ite ?_ ?_)
      | (with_reducible refine LeO.bind ?_ (fun _ => ?_))
      | exact impl_DeskValid.mono _ _ _ _
      | exact laws_alive.mono _
      | exact spec_DeskValid.mono _ _ _ _
      | exact spec_DrawDeskValid.mono _ _
      | exact LeO.none _
      | refine LeO.ite ?_ ?_
      | refine LeO.bind ?_ (fun _ => ?_)
set_option maxHeartbeats 8000000 in
set_option maxRecDepth 100000 in
theorem laws_FnDeskValid.calls (k : Nat) (A0 : Option Addr) (c0 : Nat) (l0 : List Int) (r : Bool) (w : World) (hr0 : Kd.C (Kd.int .u8) w A0 l0.length l0) (hc0 : l0.length ≤ c0) (h : laws_FnDeskValid.f k l0 = some r) :
    Calls Try.prog 13 #[.slice A0 l0.length c0] w fun e w' => e = .returned (.bool r) ∧ Below w.heap.size w w' := by
  have hu42 := Try.underlying42
  have HR0 := Aside0.mk hr0
  have HC0 := Aside0.mk hc0
  clear hr0 hc0
  have HB := Aside0.mk (Below.refl w.heap.size w)
  have H : (if (l0.length : Int) > 1048576 then (some true) else ((spec_DrawDeskValid.f k l0).bind fun bt453 => ((impl_DeskValid.f k bt453.1 bt453.2.1 bt453.2.2).bind fun t457 => ((spec_DeskValid.f k bt453.1 bt453.2.1 bt453.2.2).bind fun t458 => (if (t457 != t458) = true then (some false) else ((impl_DeskValid.f k bt453.1 (wrap64 ((bt453.1.size : Int) + 1)) 0).bind fun t459 => (if t459 = true then (some false) else ((impl_DeskValid.f k bt453.1 0 (-1)).bind fun t460 => (if t460 = true then (some false) else ((laws_alive.f k).bind fun t461 => (some t461))))))))))) = some r := h
  clear h
  by_cases c2 : (l0.length : Int) > 1048576
  · rw [if_pos c2] at H
    have c2b0 : decide (1048576 < (l0.length : Int)) = true := decide_eq_true c2
    have c2b1 : decide (1048576 < l0.length) = true := decide_eq_true (by omega)
    clear c2
    obtain rfl := Option.some.inj H
    go_enter Try.func13, Try.ntmps13
    go_wp2
    go_ret
    exact ⟨by first | rfl | (simp [errW_none, errW_some] <;> rfl) | (simp [*, errW_none, errW_some] <;> rfl), by repeat (first | (with_reducible first | exact HB.out | apply below_alloc | apply pw_below_drewN | apply below_drew1) | exact HB.out)⟩
  · rw [if_neg c2] at H
    have c2b0 : decide (1048576 < (l0.length : Int)) = false := decide_eq_false c2
    have c2b1 : decide (1048576 < l0.length) = false := decide_eq_false (by omega)
    clear c2
    replace H := Option.bind_eq_some_iff.mp H
    obtain ⟨⟨t453, t454, t455⟩, A30, H⟩ := H
    replace H : ((impl_DeskValid.f k t453 t454 t455).bind fun t457 => ((spec_DeskValid.f k t453 t454 t455).bind fun t458 => (if (t457 != t458) = true then (some false) else ((impl_DeskValid.f k t453 (wrap64 ((t453.size : Int) + 1)) 0).bind fun t459 => (if t459 = true then (some false) else ((impl_DeskValid.f k t453 0 (-1)).bind fun t460 => (if t460 = true then (some false) else ((laws_alive.f k).bind fun t461 => (some t461))))))))) = some r := H
    have A3 := Aside0.mk A30
    clear A30
    replace H := Option.bind_eq_some_iff.mp H
    obtain ⟨t457, A40, H⟩ := H
    replace H : ((spec_DeskValid.f k t453 t454 t455).bind fun t458 => (if (t457 != t458) = true then (some false) else ((impl_DeskValid.f k t453 (wrap64 ((t453.size : Int) + 1)) 0).bind fun t459 => (if t459 = true then (some false) else ((impl_DeskValid.f k t453 0 (-1)).bind fun t460 => (if t460 = true then (some false) else ((laws_alive.f k).bind fun t461 => (some t461)))))))) = some r := H
    have A4 := Aside0.mk A40
    clear A40
    replace H := Option.bind_eq_some_iff.mp H
    obtain ⟨t458, A50, H⟩ := H
    replace H : (if (t457 != t458) = true then (some false) else ((impl_DeskValid.f k t453 (wrap64 ((t453.size : Int) + 1)) 0).bind fun t459 => (if t459 = true then (some false) else ((impl_DeskValid.f k t453 0 (-1)).bind fun t460 => (if t460 = true then (some false) else ((laws_alive.f k).bind fun t461 => (some t461))))))) = some r := H
    have A5 := Aside0.mk A50
    clear A50
    by_cases c6 : (t457 != t458) = true
    · rw [if_pos c6] at H
      have c6b0 : (t457 != t458) = true := c6
      (try (have c6b1 : decide (t457 = t458) = false := by simpa using c6))
      (try (have c6b2 : (t457 == t458) = false := by simpa using c6))
      (try (have c6b3 : ¬ (t457 = t458) := by simpa using c6))
      clear c6
      obtain rfl := Option.some.inj H
      go_enter Try.func13, Try.ntmps13
      go_wp2_with (first | ((with_reducible refine gate_callee (f := 38) rfl ?_); refine goesL_ (some 9) rfl rfl Try.func38 (by kernel_rfl) rfl #[.slice A0 l0.length c0] rfl (by (try simp only [List.map_toArray, List.map_cons, List.map_nil]); first | done | rfl | (simp only [List.length_drop, List.length_take]; rfl)) ?_; (with_reducible refine (spec_DrawDeskValid.calls k _ _ l0 t453 t454 t455 _ ?side1 ?side2 A3.out).mono ?_); (case side1 => repeat (first | exact HR0.out | (with_reducible refine Kd.C_alloc ?_ _) | (with_reducible refine Kd.C_drewN ?_ _) | (with_reducible refine Kd.C_drew ?_))); (case side2 => exact HC0.out); rintro e w7 ⟨rfl, hb⟩; refine ⟨_, rfl, ?_⟩; have n0_ := Aside0.mk (below_step (by repeat (first | (with_reducible first | exact HB.out | apply below_alloc | apply pw_below_drewN | apply below_drew1) | exact HB.out)) hb); clear HB; have HB := n0_; clear n0_; (try clear hb); (try clear hb2); (try clear hk); (try clear hi)) | ((with_reducible refine gate_dst (N := 3) rfl ?_); refine box_event ?hg (N := 3) ?hd (cs := #[.string (⟨#[]⟩ : ByteArray), .int .i64 0, .int .i64 0]) (t := 42) ?hr ?_; (case hd => rfl); (case hg => rfl); (case hr => first | (go_simp; done) | (go_simp; rfl)); intro gb456 hg w8 hbox hb; have n0_ := Aside0.mk (below_step (by repeat (first | (with_reducible first | exact HB.out | apply below_alloc | apply pw_below_drewN | apply below_drew1) | exact HB.out)) hb); have n1_ := Aside0.mk (hbox); have n2_ := Aside0.mk ((by rw [hg]; exact (below_size (by repeat (first | (with_reducible first | exact HB.out | apply below_alloc | apply pw_below_drewN | apply below_drew1) | exact HB.out))) : w.heap.size ≤ gb456)); have n3_ := Aside0.mk ((by rw [hg]; exact (below_size (by repeat (first | (with_reducible first | exact HB.out | apply below_alloc | apply pw_below_drewN | apply below_drew1) | exact HB.out))) : w.heap.size ≤ gb456)); clear HB; have HB := n0_; have BK456 := n1_; have GW456 := n2_; have GE456 := n3_; clear n0_ n1_ n2_ n3_; clear hb hbox hg; have hcz9_0 : w8.cell? ⟨gb456, 0, none⟩ = some (.string (⟨#[]⟩ : ByteArray)) := (blk_cell BK456.out 0).trans rfl; have hcz9_1 : w8.cell? ⟨gb456, 1, none⟩ = some (.int .i64 0) := (blk_cell BK456.out 1).trans rfl; have hcz9_2 : w8.cell? ⟨gb456, 2, none⟩ = some (.int .i64 0) := (blk_cell BK456.out 2).trans rfl; have hfz9_0 := blk_frozen BK456.out 0; have hfz9_1 := blk_frozen BK456.out 1; have hfz9_2 := blk_frozen BK456.out 2) | ((with_reducible refine gate_callee (f := 37) rfl ?_); refine goesL_ (some 11) rfl rfl Try.func37 (by kernel_rfl) rfl #[.agg #[.string t453, .int .i64 t454, .int .i64 t455]] rfl (by (try simp only [List.map_toArray, List.map_cons, List.map_nil]); first | done | rfl | (simp only [List.length_drop, List.length_take]; rfl)) ?_; (with_reducible refine (impl_DeskValid.calls k t453 t454 t455 t457 _ A4.out).mono ?_); rintro e w10 ⟨rfl, hb⟩; refine ⟨_, rfl, ?_⟩; have n0_ := Aside0.mk (blk_below (g := gb456) (o := .cells #[.string t453, .int .i64 t454, .int .i64 t455] 42 (0, 0)) (by (with_reducible repeat (first | refine blk_drewN ?_ _ | refine blk_drew ?_ | refine blk_alloc ?_ _)); refine blk_put (cs := #[.string t453, .int .i64 t454, .int .i64 0]) ?_ 2 _ rfl; (with_reducible repeat (first | refine blk_drewN ?_ _ | refine blk_drew ?_ | refine blk_alloc ?_ _)); refine blk_put (cs := #[.string t453, .int .i64 0, .int .i64 0]) ?_ 1 _ rfl; (with_reducible repeat (first | refine blk_drewN ?_ _ | refine blk_drew ?_ | refine blk_alloc ?_ _)); refine blk_put (cs := #[.string (⟨#[]⟩ : ByteArray), .int .i64 0, .int .i64 0]) ?_ 0 _ rfl; (with_reducible repeat (first | refine blk_drewN ?_ _ | refine blk_drew ?_ | refine blk_alloc ?_ _)); exact BK456.out) hb); have n1_ := Aside0.mk (below_step (by repeat (first | (with_reducible first | exact HB.out | apply below_alloc | apply pw_below_drewN | apply below_drew1 | refine below_set ?_ GE456.out) | exact HB.out)) hb); clear BK456; clear HB; have BK456 := n0_; have HB := n1_; clear n0_ n1_; (try clear hb); (try clear hb2); (try clear hk); (try clear hi); have hcz11_0 : w10.cell? ⟨gb456, 0, none⟩ = some (.string t453) := (blk_cell BK456.out 0).trans rfl; have hcz11_1 : w10.cell? ⟨gb456, 1, none⟩ = some (.int .i64 t454) := (blk_cell BK456.out 1).trans rfl; have hcz11_2 : w10.cell? ⟨gb456, 2, none⟩ = some (.int .i64 t455) := (blk_cell BK456.out 2).trans rfl; have hfz11_0 := blk_frozen BK456.out 0; have hfz11_1 := blk_frozen BK456.out 1; have hfz11_2 := blk_frozen BK456.out 2) | ((with_reducible refine gate_callee (f := 35) rfl ?_); refine goesL_ (some 14) rfl rfl Try.func35 (by kernel_rfl) rfl #[.agg #[.string t453, .int .i64 t454, .int .i64 t455]] rfl (by (try simp only [List.map_toArray, List.map_cons, List.map_nil]); first | done | rfl | (simp only [List.length_drop, List.length_take]; rfl)) ?_; (with_reducible refine (spec_DeskValid.calls k t453 t454 t455 t458 _ A5.out).mono ?_); rintro e w12 ⟨rfl, hb⟩; refine ⟨_, rfl, ?_⟩; have n0_ := Aside0.mk (blk_below (g := gb456) (o := .cells #[.string t453, .int .i64 t454, .int .i64 t455] 42 (0, 0)) (by (with_reducible repeat (first | refine blk_drewN ?_ _ | refine blk_drew ?_ | refine blk_alloc ?_ _)); exact BK456.out) hb); have n1_ := Aside0.mk (below_step (by repeat (first | (with_reducible first | exact HB.out | apply below_alloc | apply pw_below_drewN | apply below_drew1 | refine below_set ?_ GE456.out) | exact HB.out)) hb); clear BK456; clear HB; have BK456 := n0_; have HB := n1_; clear n0_ n1_; (try clear hb); (try clear hb2); (try clear hk); (try clear hi)))
      go_ret
      exact ⟨by first | rfl | (simp [errW_none, errW_some] <;> rfl) | (simp [*, errW_none, errW_some] <;> rfl), by repeat (first | (with_reducible first | exact HB.out | apply below_alloc | apply pw_below_drewN | apply below_drew1 | refine below_set ?_ GE456.out) | exact HB.out)⟩
    · rw [if_neg c6] at H
      have c6b0 : (t457 != t458) = false := by simpa using c6
      (try (have c6b1 : decide (t457 = t458) = true := by simpa using c6))
      (try (have c6b2 : (t457 == t458) = true := by simpa using c6))
      clear c6
      replace H := Option.bind_eq_some_iff.mp H
      obtain ⟨t459, A130, H⟩ := H
      replace H : (if t459 = true then (some false) else ((impl_DeskValid.f k t453 0 (-1)).bind fun t460 => (if t460 = true then (some false) else ((laws_alive.f k).bind fun t461 => (some t461))))) = some r := H
      have A13 := Aside0.mk A130
      clear A130
      by_cases c14 : t459 = true
      · subst c14
        have H1 : (some false) = some r := by rw [if_pos rfl] at H; exact H
        clear H
        have H := H1
        clear H1
        obtain rfl := Option.some.inj H
        go_enter Try.func13, Try.ntmps13
        go_wp2_with (first | ((with_reducible refine gate_callee (f := 38) rfl ?_); refine goesL_ (some 9) rfl rfl Try.func38 (by kernel_rfl) rfl #[.slice A0 l0.length c0] rfl (by (try simp only [List.map_toArray, List.map_cons, List.map_nil]); first | done | rfl | (simp only [List.length_drop, List.length_take]; rfl)) ?_; (with_reducible refine (spec_DrawDeskValid.calls k _ _ l0 t453 t454 t455 _ ?side1 ?side2 A3.out).mono ?_); (case side1 => repeat (first | exact HR0.out | (with_reducible refine Kd.C_alloc ?_ _) | (with_reducible refine Kd.C_drewN ?_ _) | (with_reducible refine Kd.C_drew ?_))); (case side2 => exact HC0.out); rintro e w15 ⟨rfl, hb⟩; refine ⟨_, rfl, ?_⟩; have n0_ := Aside0.mk (below_step (by repeat (first | (with_reducible first | exact HB.out | apply below_alloc | apply pw_below_drewN | apply below_drew1) | exact HB.out)) hb); clear HB; have HB := n0_; clear n0_; (try clear hb); (try clear hb2); (try clear hk); (try clear hi)) | ((with_reducible refine gate_dst (N := 3) rfl ?_); refine box_event ?hg (N := 3) ?hd (cs := #[.string (⟨#[]⟩ : ByteArray), .int .i64 0, .int .i64 0]) (t := 42) ?hr ?_; (case hd => rfl); (case hg => rfl); (case hr => first | (go_simp; done) | (go_simp; rfl)); intro gb456 hg w16 hbox hb; have n0_ := Aside0.mk (below_step (by repeat (first | (with_reducible first | exact HB.out | apply below_alloc | apply pw_below_drewN | apply below_drew1) | exact HB.out)) hb); have n1_ := Aside0.mk (hbox); have n2_ := Aside0.mk ((by rw [hg]; exact (below_size (by repeat (first | (with_reducible first | exact HB.out | apply below_alloc | apply pw_below_drewN | apply below_drew1) | exact HB.out))) : w.heap.size ≤ gb456)); have n3_ := Aside0.mk ((by rw [hg]; exact (below_size (by repeat (first | (with_reducible first | exact HB.out | apply below_alloc | apply pw_below_drewN | apply below_drew1) | exact HB.out))) : w.heap.size ≤ gb456)); clear HB; have HB := n0_; have BK456 := n1_; have GW456 := n2_; have GE456 := n3_; clear n0_ n1_ n2_ n3_; clear hb hbox hg; have hcz17_0 : w16.cell? ⟨gb456, 0, none⟩ = some (.string (⟨#[]⟩ : ByteArray)) := (blk_cell BK456.out 0).trans rfl; have hcz17_1 : w16.cell? ⟨gb456, 1, none⟩ = some (.int .i64 0) := (blk_cell BK456.out 1).trans rfl; have hcz17_2 : w16.cell? ⟨gb456, 2, none⟩ = some (.int .i64 0) := (blk_cell BK456.out 2).trans rfl; have hfz17_0 := blk_frozen BK456.out 0; have hfz17_1 := blk_frozen BK456.out 1; have hfz17_2 := blk_frozen BK456.out 2) | ((with_reducible refine gate_callee (f := 37) rfl ?_); refine goesL_ (some 11) rfl rfl Try.func37 (by kernel_rfl) rfl #[.agg #[.string t453, .int .i64 t454, .int .i64 t455]] rfl (by (try simp only [List.map_toArray, List.map_cons, List.map_nil]); first | done | rfl | (simp only [List.length_drop, List.length_take]; rfl)) ?_; (with_reducible refine (impl_DeskValid.calls k t453 t454 t455 t457 _ A4.out).mono ?_); rintro e w18 ⟨rfl, hb⟩; refine ⟨_, rfl, ?_⟩; have n0_ := Aside0.mk (blk_below (g := gb456) (o := .cells #[.string t453, .int .i64 t454, .int .i64 t455] 42 (0, 0)) (by (with_reducible repeat (first | refine blk_drewN ?_ _ | refine blk_drew ?_ | refine blk_alloc ?_ _)); refine blk_put (cs := #[.string t453, .int .i64 t454, .int .i64 0]) ?_ 2 _ rfl; (with_reducible repeat (first | refine blk_drewN ?_ _ | refine blk_drew ?_ | refine blk_alloc ?_ _)); refine blk_put (cs := #[.string t453, .int .i64 0, .int .i64 0]) ?_ 1 _ rfl; (with_reducible repeat (first | refine blk_drewN ?_ _ | refine blk_drew ?_ | refine blk_alloc ?_ _)); refine blk_put (cs := #[.string (⟨#[]⟩ : ByteArray), .int .i64 0, .int .i64 0]) ?_ 0 _ rfl; (with_reducible repeat (first | refine blk_drewN ?_ _ | refine blk_drew ?_ | refine blk_alloc ?_ _)); exact BK456.out) hb); have n1_ := Aside0.mk (below_step (by repeat (first | (with_reducible first | exact HB.out | apply below_alloc | apply pw_below_drewN | apply below_drew1 | refine below_set ?_ GE456.out) | exact HB.out)) hb); clear BK456; clear HB; have BK456 := n0_; have HB := n1_; clear n0_ n1_; (try clear hb); (try clear hb2); (try clear hk); (try clear hi); have hcz19_0 : w18.cell? ⟨gb456, 0, none⟩ = some (.string t453) := (blk_cell BK456.out 0).trans rfl; have hcz19_1 : w18.cell? ⟨gb456, 1, none⟩ = some (.int .i64 t454) := (blk_cell BK456.out 1).trans rfl; have hcz19_2 : w18.cell? ⟨gb456, 2, none⟩ = some (.int .i64 t455) := (blk_cell BK456.out 2).trans rfl; have hfz19_0 := blk_frozen BK456.out 0; have hfz19_1 := blk_frozen BK456.out 1; have hfz19_2 := blk_frozen BK456.out 2) | ((with_reducible refine gate_callee (f := 35) rfl ?_); refine goesL_ (some 14) rfl rfl Try.func35 (by kernel_rfl) rfl #[.agg #[.string t453, .int .i64 t454, .int .i64 t455]] rfl (by (try simp only [List.map_toArray, List.map_cons, List.map_nil]); first | done | rfl | (simp only [List.length_drop, List.length_take]; rfl)) ?_; (with_reducible refine (spec_DeskValid.calls k t453 t454 t455 t458 _ A5.out).mono ?_); rintro e w20 ⟨rfl, hb⟩; refine ⟨_, rfl, ?_⟩; have n0_ := Aside0.mk (blk_below (g := gb456) (o := .cells #[.string t453, .int .i64 t454, .int .i64 t455] 42 (0, 0)) (by (with_reducible repeat (first | refine blk_drewN ?_ _ | refine blk_drew ?_ | refine blk_alloc ?_ _)); exact BK456.out) hb); have n1_ := Aside0.mk (below_step (by repeat (first | (with_reducible first | exact HB.out | apply below_alloc | apply pw_below_drewN | apply below_drew1 | refine below_set ?_ GE456.out) | exact HB.out)) hb); clear BK456; clear HB; have BK456 := n0_; have HB := n1_; clear n0_ n1_; (try clear hb); (try clear hb2); (try clear hk); (try clear hi); have hcz21_0 : w20.cell? ⟨gb456, 0, none⟩ = some (.string t453) := (blk_cell BK456.out 0).trans rfl; have hcz21_1 : w20.cell? ⟨gb456, 1, none⟩ = some (.int .i64 t454) := (blk_cell BK456.out 1).trans rfl; have hcz21_2 : w20.cell? ⟨gb456, 2, none⟩ = some (.int .i64 t455) := (blk_cell BK456.out 2).trans rfl; have hfz21_0 := blk_frozen BK456.out 0; have hfz21_1 := blk_frozen BK456.out 1; have hfz21_2 := blk_frozen BK456.out 2) | ((with_reducible refine gate_callee (f := 37) rfl ?_); refine goesL_ (some 23) rfl rfl Try.func37 (by kernel_rfl) rfl #[.agg #[.string t453, .int .i64 (wrap64 ((t453.size : Int) + 1)), .int .i64 0]] rfl (by (try simp only [List.map_toArray, List.map_cons, List.map_nil]); first | done | rfl | (simp only [List.length_drop, List.length_take]; rfl)) ?_; (with_reducible refine (impl_DeskValid.calls k t453 (wrap64 ((t453.size : Int) + 1)) 0 true _ A13.out).mono ?_); rintro e w22 ⟨rfl, hb⟩; refine ⟨_, rfl, ?_⟩; have n0_ := Aside0.mk (blk_below (g := gb456) (o := .cells #[.string t453, .int .i64 t454, .int .i64 t455] 42 (0, 0)) (by (with_reducible repeat (first | refine blk_drewN ?_ _ | refine blk_drew ?_ | refine blk_alloc ?_ _)); exact BK456.out) hb); have n1_ := Aside0.mk (below_step (by repeat (first | (with_reducible first | exact HB.out | apply below_alloc | apply pw_below_drewN | apply below_drew1 | refine below_set ?_ GE456.out) | exact HB.out)) hb); clear BK456; clear HB; have BK456 := n0_; have HB := n1_; clear n0_ n1_; (try clear hb); (try clear hb2); (try clear hk); (try clear hi)))
        go_ret
        exact ⟨by first | rfl | (simp [errW_none, errW_some] <;> rfl) | (simp [*, errW_none, errW_some] <;> rfl), by repeat (first | (with_reducible first | exact HB.out | apply below_alloc | apply pw_below_drewN | apply below_drew1 | refine below_set ?_ GE456.out) | exact HB.out)⟩
      · replace c14 := Bool.eq_false_iff.mpr c14
        subst c14
        have H1 : ((impl_DeskValid.f k t453 0 (-1)).bind fun t460 => (if t460 = true then (some false) else ((laws_alive.f k).bind fun t461 => (some t461)))) = some r := by rw [if_neg (show ¬ (false = true) by decide)] at H; exact H
        clear H
        have H := H1
        clear H1
        replace H := Option.bind_eq_some_iff.mp H
        obtain ⟨t460, A230, H⟩ := H
        replace H : (if t460 = true then (some false) else ((laws_alive.f k).bind fun t461 => (some t461))) = some r := H
        have A23 := Aside0.mk A230
        clear A230
        by_cases c24 : t460 = true
        · subst c24
          have H1 : (some false) = some r := by rw [if_pos rfl] at H; exact H
          clear H
          have H := H1
          clear H1
          obtain rfl := Option.some.inj H
          go_enter Try.func13, Try.ntmps13
          go_wp2_with (first | ((with_reducible refine gate_callee (f := 38) rfl ?_); refine goesL_ (some 9) rfl rfl Try.func38 (by kernel_rfl) rfl #[.slice A0 l0.length c0] rfl (by (try simp only [List.map_toArray, List.map_cons, List.map_nil]); first | done | rfl | (simp only [List.length_drop, List.length_take]; rfl)) ?_; (with_reducible refine (spec_DrawDeskValid.calls k _ _ l0 t453 t454 t455 _ ?side1 ?side2 A3.out).mono ?_); (case side1 => repeat (first | exact HR0.out | (with_reducible refine Kd.C_alloc ?_ _) | (with_reducible refine Kd.C_drewN ?_ _) | (with_reducible refine Kd.C_drew ?_))); (case side2 => exact HC0.out); rintro e w25 ⟨rfl, hb⟩; refine ⟨_, rfl, ?_⟩; have n0_ := Aside0.mk (below_step (by repeat (first | (with_reducible first | exact HB.out | apply below_alloc | apply pw_below_drewN | apply below_drew1) | exact HB.out)) hb); clear HB; have HB := n0_; clear n0_; (try clear hb); (try clear hb2); (try clear hk); (try clear hi)) | ((with_reducible refine gate_dst (N := 3) rfl ?_); refine box_event ?hg (N := 3) ?hd (cs := #[.string (⟨#[]⟩ : ByteArray), .int .i64 0, .int .i64 0]) (t := 42) ?hr ?_; (case hd => rfl); (case hg => rfl); (case hr => first | (go_simp; done) | (go_simp; rfl)); intro gb456 hg w26 hbox hb; have n0_ := Aside0.mk (below_step (by repeat (first | (with_reducible first | exact HB.out | apply below_alloc | apply pw_below_drewN | apply below_drew1) | exact HB.out)) hb); have n1_ := Aside0.mk (hbox); have n2_ := Aside0.mk ((by rw [hg]; exact (below_size (by repeat (first | (with_reducible first | exact HB.out | apply below_alloc | apply pw_below_drewN | apply below_drew1) | exact HB.out))) : w.heap.size ≤ gb456)); have n3_ := Aside0.mk ((by rw [hg]; exact (below_size (by repeat (first | (with_reducible first | exact HB.out | apply below_alloc | apply pw_below_drewN | apply below_drew1) | exact HB.out))) : w.heap.size ≤ gb456)); clear HB; have HB := n0_; have BK456 := n1_; have GW456 := n2_; have GE456 := n3_; clear n0_ n1_ n2_ n3_; clear hb hbox hg; have hcz27_0 : w26.cell? ⟨gb456, 0, none⟩ = some (.string (⟨#[]⟩ : ByteArray)) := (blk_cell BK456.out 0).trans rfl; have hcz27_1 : w26.cell? ⟨gb456, 1, none⟩ = some (.int .i64 0) := (blk_cell BK456.out 1).trans rfl; have hcz27_2 : w26.cell? ⟨gb456, 2, none⟩ = some (.int .i64 0) := (blk_cell BK456.out 2).trans rfl; have hfz27_0 := blk_frozen BK456.out 0; have hfz27_1 := blk_frozen BK456.out 1; have hfz27_2 := blk_frozen BK456.out 2) | ((with_reducible refine gate_callee (f := 37) rfl ?_); refine goesL_ (some 11) rfl rfl Try.func37 (by kernel_rfl) rfl #[.agg #[.string t453, .int .i64 t454, .int .i64 t455]] rfl (by (try simp only [List.map_toArray, List.map_cons, List.map_nil]); first | done | rfl | (simp only [List.length_drop, List.length_take]; rfl)) ?_; (with_reducible refine (impl_DeskValid.calls k t453 t454 t455 t457 _ A4.out).mono ?_); rintro e w28 ⟨rfl, hb⟩; refine ⟨_, rfl, ?_⟩; have n0_ := Aside0.mk (blk_below (g := gb456) (o := .cells #[.string t453, .int .i64 t454, .int .i64 t455] 42 (0, 0)) (by (with_reducible repeat (first | refine blk_drewN ?_ _ | refine blk_drew ?_ | refine blk_alloc ?_ _)); refine blk_put (cs := #[.string t453, .int .i64 t454, .int .i64 0]) ?_ 2 _ rfl; (with_reducible repeat (first | refine blk_drewN ?_ _ | refine blk_drew ?_ | refine blk_alloc ?_ _)); refine blk_put (cs := #[.string t453, .int .i64 0, .int .i64 0]) ?_ 1 _ rfl; (with_reducible repeat (first | refine blk_drewN ?_ _ | refine blk_drew ?_ | refine blk_alloc ?_ _)); refine blk_put (cs := #[.string (⟨#[]⟩ : ByteArray), .int .i64 0, .int .i64 0]) ?_ 0 _ rfl; (with_reducible repeat (first | refine blk_drewN ?_ _ | refine blk_drew ?_ | refine blk_alloc ?_ _)); exact BK456.out) hb); have n1_ := Aside0.mk (below_step (by repeat (first | (with_reducible first | exact HB.out | apply below_alloc | apply pw_below_drewN | apply below_drew1 | refine below_set ?_ GE456.out) | exact HB.out)) hb); clear BK456; clear HB; have BK456 := n0_; have HB := n1_; clear n0_ n1_; (try clear hb); (try clear hb2); (try clear hk); (try clear hi); have hcz29_0 : w28.cell? ⟨gb456, 0, none⟩ = some (.string t453) := (blk_cell BK456.out 0).trans rfl; have hcz29_1 : w28.cell? ⟨gb456, 1, none⟩ = some (.int .i64 t454) := (blk_cell BK456.out 1).trans rfl; have hcz29_2 : w28.cell? ⟨gb456, 2, none⟩ = some (.int .i64 t455) := (blk_cell BK456.out 2).trans rfl; have hfz29_0 := blk_frozen BK456.out 0; have hfz29_1 := blk_frozen BK456.out 1; have hfz29_2 := blk_frozen BK456.out 2) | ((with_reducible refine gate_callee (f := 35) rfl ?_); refine goesL_ (some 14) rfl rfl Try.func35 (by kernel_rfl) rfl #[.agg #[.string t453, .int .i64 t454, .int .i64 t455]] rfl (by (try simp only [List.map_toArray, List.map_cons, List.map_nil]); first | done | rfl | (simp only [List.length_drop, List.length_take]; rfl)) ?_; (with_reducible refine (spec_DeskValid.calls k t453 t454 t455 t458 _ A5.out).mono ?_); rintro e w30 ⟨rfl, hb⟩; refine ⟨_, rfl, ?_⟩; have n0_ := Aside0.mk (blk_below (g := gb456) (o := .cells #[.string t453, .int .i64 t454, .int .i64 t455] 42 (0, 0)) (by (with_reducible repeat (first | refine blk_drewN ?_ _ | refine blk_drew ?_ | refine blk_alloc ?_ _)); exact BK456.out) hb); have n1_ := Aside0.mk (below_step (by repeat (first | (with_reducible first | exact HB.out | apply below_alloc | apply pw_below_drewN | apply below_drew1 | refine below_set ?_ GE456.out) | exact HB.out)) hb); clear BK456; clear HB; have BK456 := n0_; have HB := n1_; clear n0_ n1_; (try clear hb); (try clear hb2); (try clear hk); (try clear hi); have hcz31_0 : w30.cell? ⟨gb456, 0, none⟩ = some (.string t453) := (blk_cell BK456.out 0).trans rfl; have hcz31_1 : w30.cell? ⟨gb456, 1, none⟩ = some (.int .i64 t454) := (blk_cell BK456.out 1).trans rfl; have hcz31_2 : w30.cell? ⟨gb456, 2, none⟩ = some (.int .i64 t455) := (blk_cell BK456.out 2).trans rfl; have hfz31_0 := blk_frozen BK456.out 0; have hfz31_1 := blk_frozen BK456.out 1; have hfz31_2 := blk_frozen BK456.out 2) | ((with_reducible refine gate_callee (f := 37) rfl ?_); refine goesL_ (some 23) rfl rfl Try.func37 (by kernel_rfl) rfl #[.agg #[.string t453, .int .i64 (wrap64 ((t453.size : Int) + 1)), .int .i64 0]] rfl (by (try simp only [List.map_toArray, List.map_cons, List.map_nil]); first | done | rfl | (simp only [List.length_drop, List.length_take]; rfl)) ?_; (with_reducible refine (impl_DeskValid.calls k t453 (wrap64 ((t453.size : Int) + 1)) 0 false _ A13.out).mono ?_); rintro e w32 ⟨rfl, hb⟩; refine ⟨_, rfl, ?_⟩; have n0_ := Aside0.mk (blk_below (g := gb456) (o := .cells #[.string t453, .int .i64 t454, .int .i64 t455] 42 (0, 0)) (by (with_reducible repeat (first | refine blk_drewN ?_ _ | refine blk_drew ?_ | refine blk_alloc ?_ _)); exact BK456.out) hb); have n1_ := Aside0.mk (below_step (by repeat (first | (with_reducible first | exact HB.out | apply below_alloc | apply pw_below_drewN | apply below_drew1 | refine below_set ?_ GE456.out) | exact HB.out)) hb); clear BK456; clear HB; have BK456 := n0_; have HB := n1_; clear n0_ n1_; (try clear hb); (try clear hb2); (try clear hk); (try clear hi); have hcz33_0 : w32.cell? ⟨gb456, 0, none⟩ = some (.string t453) := (blk_cell BK456.out 0).trans rfl; have hcz33_1 : w32.cell? ⟨gb456, 1, none⟩ = some (.int .i64 t454) := (blk_cell BK456.out 1).trans rfl; have hcz33_2 : w32.cell? ⟨gb456, 2, none⟩ = some (.int .i64 t455) := (blk_cell BK456.out 2).trans rfl; have hfz33_0 := blk_frozen BK456.out 0; have hfz33_1 := blk_frozen BK456.out 1; have hfz33_2 := blk_frozen BK456.out 2) | (go_at_call 37; (with_reducible refine (impl_DeskValid.calls k t453 0 (-1) true _ A23.out).mono ?_); rintro e w34 ⟨rfl, hb⟩; have n0_ := Aside0.mk (blk_below (g := gb456) (o := .cells #[.string t453, .int .i64 t454, .int .i64 t455] 42 (0, 0)) (by (with_reducible repeat (first | refine blk_drewN ?_ _ | refine blk_drew ?_ | refine blk_alloc ?_ _)); exact BK456.out) hb); have n1_ := Aside0.mk (below_step (by repeat (first | (with_reducible first | exact HB.out | apply below_alloc | apply pw_below_drewN | apply below_drew1 | refine below_set ?_ GE456.out) | exact HB.out)) hb); clear BK456; clear HB; have BK456 := n0_; have HB := n1_; clear n0_ n1_; (try clear hb); (try clear hb2); (try clear hk); (try clear hi)))
          go_ret
          exact ⟨by first | rfl | (simp [errW_none, errW_some] <;> rfl) | (simp [*, errW_none, errW_some] <;> rfl), by repeat (first | (with_reducible first | exact HB.out | apply below_alloc | apply pw_below_drewN | apply below_drew1 | refine below_set ?_ GE456.out) | exact HB.out)⟩
        · replace c24 := Bool.eq_false_iff.mpr c24
          subst c24
          have H1 : ((laws_alive.f k).bind fun t461 => (some t461)) = some r := by rw [if_neg (show ¬ (false = true) by decide)] at H; exact H
          clear H
          have H := H1
          clear H1
          replace H := Option.bind_eq_some_iff.mp H
          obtain ⟨t461, A350, H⟩ := H
          replace H : (some t461) = some r := H
          have A35 := Aside0.mk A350
          clear A350
          obtain rfl := Option.some.inj H
          go_enter Try.func13, Try.ntmps13
          go_wp2_with (first | ((with_reducible refine gate_callee (f := 38) rfl ?_); refine goesL_ (some 9) rfl rfl Try.func38 (by kernel_rfl) rfl #[.slice A0 l0.length c0] rfl (by (try simp only [List.map_toArray, List.map_cons, List.map_nil]); first | done | rfl | (simp only [List.length_drop, List.length_take]; rfl)) ?_; (with_reducible refine (spec_DrawDeskValid.calls k _ _ l0 t453 t454 t455 _ ?side1 ?side2 A3.out).mono ?_); (case side1 => repeat (first | exact HR0.out | (with_reducible refine Kd.C_alloc ?_ _) | (with_reducible refine Kd.C_drewN ?_ _) | (with_reducible refine Kd.C_drew ?_))); (case side2 => exact HC0.out); rintro e w36 ⟨rfl, hb⟩; refine ⟨_, rfl, ?_⟩; have n0_ := Aside0.mk (below_step (by repeat (first | (with_reducible first | exact HB.out | apply below_alloc | apply pw_below_drewN | apply below_drew1) | exact HB.out)) hb); clear HB; have HB := n0_; clear n0_; (try clear hb); (try clear hb2); (try clear hk); (try clear hi)) | ((with_reducible refine gate_dst (N := 3) rfl ?_); refine box_event ?hg (N := 3) ?hd (cs := #[.string (⟨#[]⟩ : ByteArray), .int .i64 0, .int .i64 0]) (t := 42) ?hr ?_; (case hd => rfl); (case hg => rfl); (case hr => first | (go_simp; done) | (go_simp; rfl)); intro gb456 hg w37 hbox hb; have n0_ := Aside0.mk (below_step (by repeat (first | (with_reducible first | exact HB.out | apply below_alloc | apply pw_below_drewN | apply below_drew1) | exact HB.out)) hb); have n1_ := Aside0.mk (hbox); have n2_ := Aside0.mk ((by rw [hg]; exact (below_size (by repeat (first | (with_reducible first | exact HB.out | apply below_alloc | apply pw_below_drewN | apply below_drew1) | exact HB.out))) : w.heap.size ≤ gb456)); have n3_ := Aside0.mk ((by rw [hg]; exact (below_size (by repeat (first | (with_reducible first | exact HB.out | apply below_alloc | apply pw_below_drewN | apply below_drew1) | exact HB.out))) : w.heap.size ≤ gb456)); clear HB; have HB := n0_; have BK456 := n1_; have GW456 := n2_; have GE456 := n3_; clear n0_ n1_ n2_ n3_; clear hb hbox hg; have hcz38_0 : w37.cell? ⟨gb456, 0, none⟩ = some (.string (⟨#[]⟩ : ByteArray)) := (blk_cell BK456.out 0).trans rfl; have hcz38_1 : w37.cell? ⟨gb456, 1, none⟩ = some (.int .i64 0) := (blk_cell BK456.out 1).trans rfl; have hcz38_2 : w37.cell? ⟨gb456, 2, none⟩ = some (.int .i64 0) := (blk_cell BK456.out 2).trans rfl; have hfz38_0 := blk_frozen BK456.out 0; have hfz38_1 := blk_frozen BK456.out 1; have hfz38_2 := blk_frozen BK456.out 2) | ((with_reducible refine gate_callee (f := 37) rfl ?_); refine goesL_ (some 11) rfl rfl Try.func37 (by kernel_rfl) rfl #[.agg #[.string t453, .int .i64 t454, .int .i64 t455]] rfl (by (try simp only [List.map_toArray, List.map_cons, List.map_nil]); first | done | rfl | (simp only [List.length_drop, List.length_take]; rfl)) ?_; (with_reducible refine (impl_DeskValid.calls k t453 t454 t455 t457 _ A4.out).mono ?_); rintro e w39 ⟨rfl, hb⟩; refine ⟨_, rfl, ?_⟩; have n0_ := Aside0.mk (blk_below (g := gb456) (o := .cells #[.string t453, .int .i64 t454, .int .i64 t455] 42 (0, 0)) (by (with_reducible repeat (first | refine blk_drewN ?_ _ | refine blk_drew ?_ | refine blk_alloc ?_ _)); refine blk_put (cs := #[.string t453, .int .i64 t454, .int .i64 0]) ?_ 2 _ rfl; (with_reducible repeat (first | refine blk_drewN ?_ _ | refine blk_drew ?_ | refine blk_alloc ?_ _)); refine blk_put (cs := #[.string t453, .int .i64 0, .int .i64 0]) ?_ 1 _ rfl; (with_reducible repeat (first | refine blk_drewN ?_ _ | refine blk_drew ?_ | refine blk_alloc ?_ _)); refine blk_put (cs := #[.string (⟨#[]⟩ : ByteArray), .int .i64 0, .int .i64 0]) ?_ 0 _ rfl; (with_reducible repeat (first | refine blk_drewN ?_ _ | refine blk_drew ?_ | refine blk_alloc ?_ _)); exact BK456.out) hb); have n1_ := Aside0.mk (below_step (by repeat (first | (with_reducible first | exact HB.out | apply below_alloc | apply pw_below_drewN | apply below_drew1 | refine below_set ?_ GE456.out) | exact HB.out)) hb); clear BK456; clear HB; have BK456 := n0_; have HB := n1_; clear n0_ n1_; (try clear hb); (try clear hb2); (try clear hk); (try clear hi); have hcz40_0 : w39.cell? ⟨gb456, 0, none⟩ = some (.string t453) := (blk_cell BK456.out 0).trans rfl; have hcz40_1 : w39.cell? ⟨gb456, 1, none⟩ = some (.int .i64 t454) := (blk_cell BK456.out 1).trans rfl; have hcz40_2 : w39.cell? ⟨gb456, 2, none⟩ = some (.int .i64 t455) := (blk_cell BK456.out 2).trans rfl; have hfz40_0 := blk_frozen BK456.out 0; have hfz40_1 := blk_frozen BK456.out 1; have hfz40_2 := blk_frozen BK456.out 2) | ((with_reducible refine gate_callee (f := 35) rfl ?_); refine goesL_ (some 14) rfl rfl Try.func35 (by kernel_rfl) rfl #[.agg #[.string t453, .int .i64 t454, .int .i64 t455]] rfl (by (try simp only [List.map_toArray, List.map_cons, List.map_nil]); first | done | rfl | (simp only [List.length_drop, List.length_take]; rfl)) ?_; (with_reducible refine (spec_DeskValid.calls k t453 t454 t455 t458 _ A5.out).mono ?_); rintro e w41 ⟨rfl, hb⟩; refine ⟨_, rfl, ?_⟩; have n0_ := Aside0.mk (blk_below (g := gb456) (o := .cells #[.string t453, .int .i64 t454, .int .i64 t455] 42 (0, 0)) (by (with_reducible repeat (first | refine blk_drewN ?_ _ | refine blk_drew ?_ | refine blk_alloc ?_ _)); exact BK456.out) hb); have n1_ := Aside0.mk (below_step (by repeat (first | (with_reducible first | exact HB.out | apply below_alloc | apply pw_below_drewN | apply below_drew1 | refine below_set ?_ GE456.out) | exact HB.out)) hb); clear BK456; clear HB; have BK456 := n0_; have HB := n1_; clear n0_ n1_; (try clear hb); (try clear hb2); (try clear hk); (try clear hi); have hcz42_0 : w41.cell? ⟨gb456, 0, none⟩ = some (.string t453) := (blk_cell BK456.out 0).trans rfl; have hcz42_1 : w41.cell? ⟨gb456, 1, none⟩ = some (.int .i64 t454) := (blk_cell BK456.out 1).trans rfl; have hcz42_2 : w41.cell? ⟨gb456, 2, none⟩ = some (.int .i64 t455) := (blk_cell BK456.out 2).trans rfl; have hfz42_0 := blk_frozen BK456.out 0; have hfz42_1 := blk_frozen BK456.out 1; have hfz42_2 := blk_frozen BK456.out 2) | ((with_reducible refine gate_callee (f := 37) rfl ?_); refine goesL_ (some 23) rfl rfl Try.func37 (by kernel_rfl) rfl #[.agg #[.string t453, .int .i64 (wrap64 ((t453.size : Int) + 1)), .int .i64 0]] rfl (by (try simp only [List.map_toArray, List.map_cons, List.map_nil]); first | done | rfl | (simp only [List.length_drop, List.length_take]; rfl)) ?_; (with_reducible refine (impl_DeskValid.calls k t453 (wrap64 ((t453.size : Int) + 1)) 0 false _ A13.out).mono ?_); rintro e w43 ⟨rfl, hb⟩; refine ⟨_, rfl, ?_⟩; have n0_ := Aside0.mk (blk_below (g := gb456) (o := .cells #[.string t453, .int .i64 t454, .int .i64 t455] 42 (0, 0)) (by (with_reducible repeat (first | refine blk_drewN ?_ _ | refine blk_drew ?_ | refine blk_alloc ?_ _)); exact BK456.out) hb); have n1_ := Aside0.mk (below_step (by repeat (first | (with_reducible first | exact HB.out | apply below_alloc | apply pw_below_drewN | apply below_drew1 | refine below_set ?_ GE456.out) | exact HB.out)) hb); clear BK456; clear HB; have BK456 := n0_; have HB := n1_; clear n0_ n1_; (try clear hb); (try clear hb2); (try clear hk); (try clear hi); have hcz44_0 : w43.cell? ⟨gb456, 0, none⟩ = some (.string t453) := (blk_cell BK456.out 0).trans rfl; have hcz44_1 : w43.cell? ⟨gb456, 1, none⟩ = some (.int .i64 t454) := (blk_cell BK456.out 1).trans rfl; have hcz44_2 : w43.cell? ⟨gb456, 2, none⟩ = some (.int .i64 t455) := (blk_cell BK456.out 2).trans rfl; have hfz44_0 := blk_frozen BK456.out 0; have hfz44_1 := blk_frozen BK456.out 1; have hfz44_2 := blk_frozen BK456.out 2) | (go_at_call 37; (with_reducible refine (impl_DeskValid.calls k t453 0 (-1) false _ A23.out).mono ?_); rintro e w45 ⟨rfl, hb⟩; have n0_ := Aside0.mk (blk_below (g := gb456) (o := .cells #[.string t453, .int .i64 t454, .int .i64 t455] 42 (0, 0)) (by (with_reducible repeat (first | refine blk_drewN ?_ _ | refine blk_drew ?_ | refine blk_alloc ?_ _)); exact BK456.out) hb); have n1_ := Aside0.mk (below_step (by repeat (first | (with_reducible first | exact HB.out | apply below_alloc | apply pw_below_drewN | apply below_drew1 | refine below_set ?_ GE456.out) | exact HB.out)) hb); clear BK456; clear HB; have BK456 := n0_; have HB := n1_; clear n0_ n1_; (try clear hb); (try clear hb2); (try clear hk); (try clear hi)) | (go_at_call 29; (with_reducible refine (laws_alive.calls k  t461 _ A35.out).mono ?_); rintro e w' ⟨rfl, ⟨nd, rfl⟩⟩))
          go_ret
          exact ⟨by first | rfl | (simp [errW_none, errW_some] <;> rfl) | (simp [*, errW_none, errW_some] <;> rfl), by repeat (first | (with_reducible first | exact HB.out | apply below_alloc | apply pw_below_drewN | apply below_drew1 | refine below_set ?_ GE456.out) | exact HB.out)⟩

/-- THE ONE PURE STATEMENT of laws_FnDeskValid: yours. -/
def laws_FnDeskValid.Pure : Prop := ∀ (l0 : List Int), l0.length ≤ maxLen → l0.length * 1 ≤ 140737488351232 → (∀ x ∈ l0, (Lit.int .u8 x).wf = true) → ∃ k, laws_FnDeskValid.f k l0 = some true
theorem laws_FnDeskValid.walk (P : laws_FnDeskValid.Pure) (a0 : Option Addr) (len0 cap0 : Nat) (z0 : List Int) (w : World) (w0 : (a0 = none ∧ len0 = 0 ∧ cap0 = 0 ∧ z0 = []) ∨ ∃ x, a0 = some x ∧ len0 ≤ cap0 ∧ cap0 ≤ maxLen ∧ z0.length = cap0 ∧ (∀ i, i < z0.length → w.cell? (x.add i) = some (.int .u8 (z0.getD i 0))) ∧ ∀ n ∈ z0, (Lit.int .u8 n).wf = true) (y0 : len0 * 1 ≤ 140737488351232) :
    Calls Try.prog 13 #[.slice a0 len0 cap0] w fun e w' => e = .returned (.bool true) ∧ Below w.heap.size w w' := by
  obtain ⟨l0, rfl, hr0, hm0, hw0, hc0⟩ := ReadsInt.ofRowC w0
  obtain ⟨k, h⟩ := P l0 hm0 y0 hw0
  refine (laws_FnDeskValid.calls k _ _ l0 true w (Kd.C_of_reads (d := (0 : Int)) (h1 := fun _ => rfl) hr0) hc0 h).mono ?_
  rintro e w' ⟨rfl, hd⟩
  exact ⟨rfl, hd⟩

end Go.Proofs.Ytbkdfiepdnbeoaa.X
