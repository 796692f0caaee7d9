-- written by a program of this session (wip/xprint.py) out of the translation
import Derived.Test.YtpaijbpenjjmkaaX0
import Derived.Test.YtpaijbpenjjmkaaX4
import Derived.Test.YtpaijbpenjjmkaaX6
namespace Go.Proofs.Ytpaijbpenjjmkaa.X
open Go.RowKit Go.Proofs.YtpaijbpenjjmkaaW.PrintWords Go.Proofs.YtpaijbpenjjmkaaW.PrintLast Go.Proofs.YtpaijbpenjjmkaaW.PrintMore
attribute [local go_sem] max2_int min2_int max_two min_two max_three min_three max_four min_four   -- for this text's walks alone
set_option linter.unusedVariables false
set_option linter.unusedSimpArgs false

/-! ### impl_skip: function 56 -/
def impl_skip.l0 : Nat → ByteArray → Int → Int → Option (Int)
  | 0, _, _, _ => none
  | k + 1, x0, x1, x2 => if x1 < (x0.size : Int) then (if 0 ≤ x1 then ((impl_class.f k (bt x0 x1)).bind fun t421 => (if t421 = x2 then (impl_skip.l0 k x0 (wrap64 (x1 + 1)) x2) else (some x1))) else (none)) else (some x1)
def impl_skip.f (k : Nat) (a0 : ByteArray) (a1 : Int) (a2 : Int) : Option (Int) := impl_skip.l0 k a0 a1 a2
theorem impl_skip.mono_l : ∀ k, (∀ y0 y1 y2, LeO (impl_skip.l0 k y0 y1 y2) (impl_skip.l0 (k + 1) y0 y1 y2))
  | 0 => fun _ _ _ r h => by simp [impl_skip.l0] at h
  | k + 1 => by
    have ih0 := impl_skip.mono_l k
    · intro y0 y1 y2
      unfold impl_skip.l0
      repeat' first
      | (with_reducible exact ih0 _ _ _)
      | (with_reducible exact impl_class.mono _ _)
      | (with_reducible exact LeO.refl _)
      | (with_reducible exact LeO.none _)
      | (with_reducible refine LeO.ite ?_ ?_)
      | (with_reducible refine LeO.bind ?_ (fun _ => ?_))
      | exact ih0 _ _ _
      | exact impl_class.mono _ _
      | exact LeO.none _
      | refine LeO.ite ?_ ?_
      | refine LeO.bind ?_ (fun _ => ?_)
theorem impl_skip.mono : ∀ a0 a1 a2 k, LeO (impl_skip.f k a0 a1 a2) (impl_skip.f (k + 1) a0 a1 a2) := by
  intro a0 a1 a2 k
  have ih0 := impl_skip.mono_l k
  unfold impl_skip.f
  repeat' first
      | (with_reducible exact ih0 _ _ _)
      | (with_reducible exact impl_class.mono _ _)
      | (with_reducible exact LeO.refl _)
      | (with_reducible exact LeO.none _)
      | (with_reducible refine LeO.ite ?_ ?_)
      | (with_reducible refine LeO.bind ?_ (fun _ => ?_))
      | exact ih0 _ _ _
      | exact impl_class.mono _ _
      | exact LeO.none _
      | refine LeO.ite ?_ ?_
      | refine LeO.bind ?_ (fun _ => ?_)
set_option maxHeartbeats 8000000 in
set_option maxRecDepth 100000 in
theorem impl_skip.calls (k : Nat) (a0 : ByteArray) (a1 : Int) (a2 : Int) (r : Int) (w : World) (h : impl_skip.f k a0 a1 a2 = some r) :
    Calls Try.prog 56 #[.string a0, .int .i64 a1, .int .i64 a2] w fun e w' => e = .returned (.int .i64 r) ∧ Drawn0 w w' := by
  have H : (impl_skip.l0 k a0 a1 a2) = some r := h
  clear h
  have H' := Aside0.mk H
  clear H
  go_enter Try.func56, Try.ntmps56
  go_wp2
  go_loopg [1] k (fun kq v1 w' => ∃ (x1_1 : Int), v1 = .int .i64 x1_1 ∧ Aside0 (impl_skip.l0 kq a0 x1_1 a2 = some r) ∧ Aside0 (kq ≤ k) ∧ Drawn0 w w')
  case atStart => exact ⟨(a1), (by first | rfl | (simp; done) | (simp [*]; done)), H', ⟨Nat.le_refl _⟩, by repeat (first | exact Drawn0.refl _ | apply Drawn0.step)⟩
  case round =>
    clear H'
    try clear p2
    obtain ⟨x1_1, rfl, HA, HK1, ⟨m1, rfl⟩⟩ := hrel
    cases gk with
    | zero => exact absurd HA.out (by simp [impl_skip.l0])
    | succ k1 =>
      have H := HA.out
      clear HA
      simp only [impl_skip.l0] at H
      by_cases c4 : x1_1 < (a0.size : Int)
      · rw [if_pos c4] at H
        have c4b0 : decide (x1_1 < (a0.size : Int)) = true := decide_eq_true c4
        clear c4
        by_cases c5 : 0 ≤ x1_1
        · rw [if_pos c5] at H
          have c5b0 : decide (0 ≤ x1_1) = true := decide_eq_true c5
          clear c5
          replace H := Option.bind_eq_some_iff.mp H
          obtain ⟨t421, A70, H⟩ := H
          replace H : (if t421 = a2 then (impl_skip.l0 k1 a0 (wrap64 (x1_1 + 1)) a2) else (some x1_1)) = some r := H
          have A7 := Aside0.mk A70
          clear A70
          by_cases c8 : t421 = a2
          · rw [if_pos c8] at H
            have c8b0 : (t421 == a2) = true := beq_iff_eq.mpr c8
            have c8b1 : (t421 != a2) = false := bne_eq_false_iff_eq.mpr c8
            clear c8
            have H' := Aside0.mk H
            clear H
            have p6 : 0 ≤ (x1_1 : Int) := of_decide_eq_true (by first | (with_reducible assumption) | assumption)
            have q6 : x1_1 < (a0.size : Int) := of_decide_eq_true (by first | (with_reducible assumption) | assumption)
            have hx6 := bt_at a0 x1_1
            replace p6 := eq_true p6
            replace q6 := eq_true q6
            go_wp2_with (first | (go_at_call 45; (with_reducible refine (impl_class.calls k1 (bt a0 x1_1) t421 _ A7.out).mono ?_); rintro e w' ⟨rfl, ⟨nd, rfl⟩⟩))
            go_roundg k1
            case measure => have := HK1.out; omega
            case rel => exact ⟨(wrap64 (x1_1 + 1)), (by first | rfl | (simp; done) | (simp [*]; done)), H', ⟨by have := HK1.out; omega⟩, by repeat (first | exact Drawn0.refl _ | apply Drawn0.step)⟩
          · rw [if_neg c8] at H
            have c8b0 : (t421 == a2) = false := beq_eq_false_iff_ne.mpr c8
            have c8b1 : (t421 != a2) = true := bne_iff_ne.mpr c8
            obtain rfl := Option.some.inj H
            have p6 : 0 ≤ (x1_1 : Int) := of_decide_eq_true (by first | (with_reducible assumption) | assumption)
            have q6 : x1_1 < (a0.size : Int) := of_decide_eq_true (by first | (with_reducible assumption) | assumption)
            have hx6 := bt_at a0 x1_1
            replace p6 := eq_true p6
            replace q6 := eq_true q6
            go_wp2_with (first | (go_at_call 45; (with_reducible refine (impl_class.calls k1 (bt a0 x1_1) t421 _ A7.out).mono ?_); rintro e w' ⟨rfl, ⟨nd, rfl⟩⟩))
            go_ret
            exact ⟨by first | rfl | (simp; done) | (simp [*]; done), by repeat (first | exact Drawn0.refl _ | apply Drawn0.step)⟩
        · rw [if_neg c5] at H
          exact absurd H (by simp)
      · rw [if_neg c4] at H
        have c4b0 : decide (x1_1 < (a0.size : Int)) = false := decide_eq_false c4
        clear c4
        obtain rfl := Option.some.inj H
        go_wp2
        go_ret
        exact ⟨by first | rfl | (simp; done) | (simp [*]; done), by repeat (first | exact Drawn0.refl _ | apply Drawn0.step)⟩

/-! ### impl_WordAround: function 29 -/
def impl_WordAround.j0 : Nat → ByteArray → Int → Bool → Option (Int × Int)
  | 0, _, _, _ => none
  | k + 1, x0, x1, x21 => if x21 = true then (some (x1, x1)) else (if 0 ≤ x1 then (if x1 < (x0.size : Int) then ((impl_class.f k (bt x0 x1)).bind fun t424 => ((impl_skipBack.f k x0 x1 t424).bind fun t425 => ((impl_skip.f k x0 x1 t424).bind fun t426 => (some (t425, t426))))) else (none)) else (none))
def impl_WordAround.f (k : Nat) (a0 : ByteArray) (a1 : Int) : Option (Int × Int) := (impl_isPlace.f k a0 a1).bind fun t422 => (if t422 = true then (if a1 = (a0.size : Int) then (impl_WordAround.j0 k a0 a1 true) else (if 0 ≤ a1 then (if a1 < (a0.size : Int) then ((impl_class.f k (bt a0 a1)).bind fun t423 => (impl_WordAround.j0 k a0 a1 (t423 == 0))) else (none)) else (none))) else (some ((-1), (-1))))
theorem impl_WordAround.mono_l : ∀ k, (∀ y0 y1 y2, LeO (impl_WordAround.j0 k y0 y1 y2) (impl_WordAround.j0 (k + 1) y0 y1 y2))
  | 0 => fun _ _ _ r h => by simp [impl_WordAround.j0] at h
  | k + 1 => by
    have ih0 := impl_WordAround.mono_l k
    · intro y0 y1 y2
      unfold impl_WordAround.j0
      repeat' first
      | (with_reducible exact ih0 _ _ _)
      | (with_reducible exact impl_class.mono _ _)
      | (with_reducible exact impl_isPlace.mono _ _ _)
      | (with_reducible exact impl_skip.mono _ _ _ _)
      | (with_reducible exact impl_skipBack.mono _ _ _ _)
      | (with_reducible exact LeO.refl _)
      | (with_reducible exact LeO.none _)
      | (with_reducible refine LeO.ite ?_ ?_)
      | (with_reducible refine LeO.bind ?_ (fun _ => ?_))
      | exact ih0 _ _ _
      | exact impl_class.mono _ _
      | exact impl_isPlace.mono _ _ _
      | exact impl_skip.mono _ _ _ _
      | exact impl_skipBack.mono _ _ _ _
      | exact LeO.none _
      | refine LeO.ite ?_ ?_
      | refine LeO.bind ?_ (fun _ => ?_)
theorem impl_WordAround.mono : ∀ a0 a1 k, LeO (impl_WordAround.f k a0 a1) (impl_WordAround.f (k + 1) a0 a1) := by
  intro a0 a1 k
  have ih0 := impl_WordAround.mono_l k
  unfold impl_WordAround.f
  repeat' first
      | (with_reducible exact ih0 _ _ _)
      | (with_reducible exact impl_class.mono _ _)
      | (with_reducible exact impl_isPlace.mono _ _ _)
      | (with_reducible exact impl_skip.mono _ _ _ _)
      | (with_reducible exact impl_skipBack.mono _ _ _ _)
      | (with_reducible exact LeO.refl _)
      | (with_reducible exact LeO.none _)
      | (with_reducible refine LeO.ite ?_ ?_)
      | (with_reducible refine LeO.bind ?_ (fun _ => ?_))
      | exact ih0 _ _ _
      | exact impl_class.mono _ _
      | exact impl_isPlace.mono _ _ _
      | exact impl_skip.mono _ _ _ _
      | exact impl_skipBack.mono _ _ _ _
      | exact LeO.none _
      | refine LeO.ite ?_ ?_
      | refine LeO.bind ?_ (fun _ => ?_)
set_option maxHeartbeats 8000000 in
set_option maxRecDepth 100000 in
theorem impl_WordAround.calls (k : Nat) (a0 : ByteArray) (a1 : Int) (r1 : Int) (r2 : Int) (w : World) (h : impl_WordAround.f k a0 a1 = some (r1, r2)) :
    Calls Try.prog 29 #[.string a0, .int .i64 a1] w fun e w' => e = .returned (.tuple #[.int .i64 r1, .int .i64 r2]) ∧ Drawn0 w w' := by
  have H : ((impl_isPlace.f k a0 a1).bind fun t422 => (if t422 = true then (if a1 = (a0.size : Int) then (impl_WordAround.j0 k a0 a1 true) else (if 0 ≤ a1 then (if a1 < (a0.size : Int) then ((impl_class.f k (bt a0 a1)).bind fun t423 => (impl_WordAround.j0 k a0 a1 (t423 == 0))) else (none)) else (none))) else (some ((-1), (-1))))) = some (r1, r2) := h
  clear h
  replace H := Option.bind_eq_some_iff.mp H
  obtain ⟨t422, A30, H⟩ := H
  replace H : (if t422 = true then (if a1 = (a0.size : Int) then (impl_WordAround.j0 k a0 a1 true) else (if 0 ≤ a1 then (if a1 < (a0.size : Int) then ((impl_class.f k (bt a0 a1)).bind fun t423 => (impl_WordAround.j0 k a0 a1 (t423 == 0))) else (none)) else (none))) else (some ((-1), (-1)))) = some (r1, r2) := H
  have A3 := Aside0.mk A30
  clear A30
  by_cases c4 : t422 = true
  · subst c4
    have H1 : (if a1 = (a0.size : Int) then (impl_WordAround.j0 k a0 a1 true) else (if 0 ≤ a1 then (if a1 < (a0.size : Int) then ((impl_class.f k (bt a0 a1)).bind fun t423 => (impl_WordAround.j0 k a0 a1 (t423 == 0))) else (none)) else (none))) = some (r1, r2) := by rw [if_pos rfl] at H; exact H
    clear H
    have H := H1
    clear H1
    have HC5 := Aside0.mk H
    clear H
    go_enter Try.func29, Try.ntmps29
    go_upto_region 3 with (first | ((with_reducible refine gate_callee (f := 35) rfl ?_); refine goesL_ (some 9) rfl rfl Try.func35 (by kernel_rfl) rfl #[.string a0, .int .i64 a1] rfl (by (try simp only [List.map_toArray, List.map_cons, List.map_nil]); first | done | rfl | (simp only [List.length_drop, List.length_take]; rfl)) ?_; (with_reducible refine (impl_isPlace.calls k a0 a1 true _ A3.out).mono ?_); rintro e w' ⟨rfl, ⟨nd, rfl⟩⟩; refine ⟨_, rfl, ?_⟩))
    (try simp only [Act.put, List.setIfInBounds_toArray, List.set_cons_zero, List.set_cons_succ])
    go_cut [21] (fun v21 wc => ∃ (kq : Nat) (x21_4 : Bool), v21 = .bool x21_4 ∧ Aside0 (impl_WordAround.j0 kq a0 a1 x21_4 = some (r1, r2)) ∧ Aside0 (kq ≤ k) ∧ Drawn0 w wc)
    case first =>
      have H := HC5.out
      clear HC5
      by_cases c6 : a1 = (a0.size : Int)
      · rw [if_pos c6] at H
        have c6b0 : (a1 == (a0.size : Int)) = true := beq_iff_eq.mpr c6
        have c6b1 : (a1 != (a0.size : Int)) = false := bne_eq_false_iff_eq.mpr c6
        clear c6
        (first | rw [c6b0] | (simp only [i64_w, i32_w]; rw [c6b0]) | skip)
        have H' := Aside0.mk H
        clear H
        go_wp2
        go_meet
        case rel => exact ⟨_, (true), (by first | rfl | (simp; done) | (simp [*]; done)), H', ⟨by first | omega | exact Nat.le_refl _⟩, by repeat (first | exact Drawn0.refl _ | apply Drawn0.step)⟩
      · rw [if_neg c6] at H
        have c6b0 : (a1 == (a0.size : Int)) = false := beq_eq_false_iff_ne.mpr c6
        have c6b1 : (a1 != (a0.size : Int)) = true := bne_iff_ne.mpr c6
        (first | rw [c6b0] | (simp only [i64_w, i32_w]; rw [c6b0]) | skip)
        by_cases c7 : 0 ≤ a1
        · rw [if_pos c7] at H
          have c7b0 : decide (0 ≤ a1) = true := decide_eq_true c7
          clear c7
          by_cases c8 : a1 < (a0.size : Int)
          · rw [if_pos c8] at H
            have c8b0 : decide (a1 < (a0.size : Int)) = true := decide_eq_true c8
            clear c8
            replace H := Option.bind_eq_some_iff.mp H
            obtain ⟨t423, A100, H⟩ := H
            replace H : (impl_WordAround.j0 k a0 a1 (t423 == 0)) = some (r1, r2) := H
            have A10 := Aside0.mk A100
            clear A100
            have H' := Aside0.mk H
            clear H
            have p9 : 0 ≤ (a1 : Int) := of_decide_eq_true (by first | (with_reducible assumption) | assumption)
            have q9 : a1 < (a0.size : Int) := of_decide_eq_true (by first | (with_reducible assumption) | assumption)
            have hx9 := bt_at a0 a1
            replace p9 := eq_true p9
            replace q9 := eq_true q9
            go_wp2_with (first | (go_at_call 45; (with_reducible refine (impl_class.calls k (bt a0 a1) t423 _ A10.out).mono ?_); rintro e w' ⟨rfl, ⟨nd, rfl⟩⟩))
            go_meet
            case rel => exact ⟨_, ((t423 == 0)), (by first | rfl | (simp; done) | (simp [*]; done)), H', ⟨by first | omega | exact Nat.le_refl _⟩, by repeat (first | exact Drawn0.refl _ | apply Drawn0.step)⟩
          · rw [if_neg c8] at H
            exact absurd H (by simp)
        · rw [if_neg c7] at H
          exact absurd H (by simp)
    case rest =>
      clear HC5
      try clear c2
      try clear p2
      try clear c3
      try clear c4
      try clear c6
      try clear c6b0
      try clear c6b1
      try clear c7
      try clear c7b0
      try clear c8
      try clear c8b0
      try clear p9
      try clear q9
      try clear hx9
      try clear p9
      try clear q9
      obtain ⟨kq, x21_4, rfl, HA, HJ4, ⟨mc4, rfl⟩⟩ := hcut
      cases kq with
      | zero => exact absurd HA.out (by simp [impl_WordAround.j0])
      | succ kj4 =>
        have H := HA.out
        clear HA
        simp only [impl_WordAround.j0] at H
        by_cases c11 : x21_4 = true
        · subst c11
          have H1 : (some (a1, a1)) = some (r1, r2) := by rw [if_pos rfl] at H; exact H
          clear H
          have H := H1
          clear H1
          simp only [Option.some.injEq, Prod.mk.injEq] at H
          obtain ⟨rfl, rfl⟩ := H
          go_wp2
          go_ret2
          exact ⟨by first | rfl | (simp; done) | (simp [*]; done), by repeat (first | exact Drawn0.refl _ | apply Drawn0.step)⟩
        · replace c11 := Bool.eq_false_iff.mpr c11
          subst c11
          have H1 : (if 0 ≤ a1 then (if a1 < (a0.size : Int) then ((impl_class.f kj4 (bt a0 a1)).bind fun t424 => ((impl_skipBack.f kj4 a0 a1 t424).bind fun t425 => ((impl_skip.f kj4 a0 a1 t424).bind fun t426 => (some (t425, t426))))) else (none)) else (none)) = some (r1, r2) := by rw [if_neg (show ¬ (false = true) by decide)] at H; exact H
          clear H
          have H := H1
          clear H1
          by_cases c12 : 0 ≤ a1
          · rw [if_pos c12] at H
            have c12b0 : decide (0 ≤ a1) = true := decide_eq_true c12
            clear c12
            by_cases c13 : a1 < (a0.size : Int)
            · rw [if_pos c13] at H
              have c13b0 : decide (a1 < (a0.size : Int)) = true := decide_eq_true c13
              clear c13
              replace H := Option.bind_eq_some_iff.mp H
              obtain ⟨t424, A150, H⟩ := H
              replace H : ((impl_skipBack.f kj4 a0 a1 t424).bind fun t425 => ((impl_skip.f kj4 a0 a1 t424).bind fun t426 => (some (t425, t426)))) = some (r1, r2) := H
              have A15 := Aside0.mk A150
              clear A150
              replace H := Option.bind_eq_some_iff.mp H
              obtain ⟨t425, A160, H⟩ := H
              replace H : ((impl_skip.f kj4 a0 a1 t424).bind fun t426 => (some (t425, t426))) = some (r1, r2) := H
              have A16 := Aside0.mk A160
              clear A160
              replace H := Option.bind_eq_some_iff.mp H
              obtain ⟨t426, A170, H⟩ := H
              replace H : (some (t425, t426)) = some (r1, r2) := H
              have A17 := Aside0.mk A170
              clear A170
              simp only [Option.some.injEq, Prod.mk.injEq] at H
              obtain ⟨rfl, rfl⟩ := H
              have p14 : 0 ≤ (a1 : Int) := of_decide_eq_true (by first | (with_reducible assumption) | assumption)
              have q14 : a1 < (a0.size : Int) := of_decide_eq_true (by first | (with_reducible assumption) | assumption)
              have hx14 := bt_at a0 a1
              replace p14 := eq_true p14
              replace q14 := eq_true q14
              go_wp2_with (first | ((with_reducible refine gate_callee (f := 45) rfl ?_); refine goesL_ (some 27) rfl rfl Try.func45 (by kernel_rfl) rfl #[.int .u8 (bt a0 a1)] rfl (by (try simp only [List.map_toArray, List.map_cons, List.map_nil]); first | done | rfl | (simp only [List.length_drop, List.length_take]; rfl)) ?_; (with_reducible refine (impl_class.calls kj4 (bt a0 a1) t424 _ A15.out).mono ?_); rintro e w' ⟨rfl, ⟨nd, rfl⟩⟩; refine ⟨_, rfl, ?_⟩) | ((with_reducible refine gate_callee (f := 36) rfl ?_); refine goesL_ (some 31) rfl rfl Try.func36 (by kernel_rfl) rfl #[.string a0, .int .i64 a1, .int .i64 t424] rfl (by (try simp only [List.map_toArray, List.map_cons, List.map_nil]); first | done | rfl | (simp only [List.length_drop, List.length_take]; rfl)) ?_; (with_reducible refine (impl_skipBack.calls kj4 a0 a1 t424 t425 _ A16.out).mono ?_); rintro e w' ⟨rfl, ⟨nd, rfl⟩⟩; refine ⟨_, rfl, ?_⟩) | ((with_reducible refine gate_callee (f := 56) rfl ?_); refine goesL_ (some 35) rfl rfl Try.func56 (by kernel_rfl) rfl #[.string a0, .int .i64 a1, .int .i64 t424] rfl (by (try simp only [List.map_toArray, List.map_cons, List.map_nil]); first | done | rfl | (simp only [List.length_drop, List.length_take]; rfl)) ?_; (with_reducible refine (impl_skip.calls kj4 a0 a1 t424 t426 _ A17.out).mono ?_); rintro e w' ⟨rfl, ⟨nd, rfl⟩⟩; refine ⟨_, rfl, ?_⟩))
              go_ret2
              exact ⟨by first | rfl | (simp; done) | (simp [*]; done), by repeat (first | exact Drawn0.refl _ | apply Drawn0.step)⟩
            · rw [if_neg c13] at H
              exact absurd H (by simp)
          · rw [if_neg c12] at H
            exact absurd H (by simp)
  · replace c4 := Bool.eq_false_iff.mpr c4
    subst c4
    have H1 : (some ((-1), (-1))) = some (r1, r2) := by rw [if_neg (show ¬ (false = true) by decide)] at H; exact H
    clear H
    have H := H1
    clear H1
    simp only [Option.some.injEq, Prod.mk.injEq] at H
    obtain ⟨rfl, rfl⟩ := H
    go_enter Try.func29, Try.ntmps29
    go_wp2_with (first | ((with_reducible refine gate_callee (f := 35) rfl ?_); refine goesL_ (some 9) rfl rfl Try.func35 (by kernel_rfl) rfl #[.string a0, .int .i64 a1] rfl (by (try simp only [List.map_toArray, List.map_cons, List.map_nil]); first | done | rfl | (simp only [List.length_drop, List.length_take]; rfl)) ?_; (with_reducible refine (impl_isPlace.calls k a0 a1 false _ A3.out).mono ?_); rintro e w' ⟨rfl, ⟨nd, rfl⟩⟩; refine ⟨_, rfl, ?_⟩))
    go_ret2
    exact ⟨by first | rfl | (simp; done) | (simp [*]; done), by repeat (first | exact Drawn0.refl _ | apply Drawn0.step)⟩

/-! ### impl_WordRight: function 30 -/
def impl_WordRight.j0 : Nat → ByteArray → Int → Bool → Option (Int)
  | 0, _, _, _ => none
  | k + 1, x0, x1, x19 => if x19 = true then (if 0 ≤ x1 then (if x1 < (x0.size : Int) then ((impl_class.f k (bt x0 x1)).bind fun t429 => ((impl_skip.f k x0 x1 t429).bind fun t430 => ((impl_skip.f k x0 t430 0).bind fun t431 => (some t431)))) else (none)) else (none)) else ((impl_skip.f k x0 x1 0).bind fun t432 => (some t432))
def impl_WordRight.f (k : Nat) (a0 : ByteArray) (a1 : Int) : Option (Int) := (impl_isPlace.f k a0 a1).bind fun t427 => (if t427 = true then (if a1 < (a0.size : Int) then (if 0 ≤ a1 then ((impl_class.f k (bt a0 a1)).bind fun t428 => (impl_WordRight.j0 k a0 a1 (t428 != 0))) else (none)) else (impl_WordRight.j0 k a0 a1 false)) else (some (-1)))
theorem impl_WordRight.mono_l : ∀ k, (∀ y0 y1 y2, LeO (impl_WordRight.j0 k y0 y1 y2) (impl_WordRight.j0 (k + 1) y0 y1 y2))
  | 0 => fun _ _ _ r h => by simp [impl_WordRight.j0] at h
  | k + 1 => by
    have ih0 := impl_WordRight.mono_l k
    · intro y0 y1 y2
      unfold impl_WordRight.j0
      repeat' first
      | (with_reducible exact ih0 _ _ _)
      | (with_reducible exact impl_class.mono _ _)
      | (with_reducible exact impl_isPlace.mono _ _ _)
      | (with_reducible exact impl_skip.mono _ _ _ _)
      | (with_reducible exact LeO.refl _)
      | (with_reducible exact LeO.none _)
      | (with_reducible refine LeO.ite ?_ ?_)
      | (with_reducible refine LeO.bind ?_ (fun _ => ?_))
      | exact ih0 _ _ _
      | exact impl_class.mono _ _
      | exact impl_isPlace.mono _ _ _
      | exact impl_skip.mono _ _ _ _
      | exact LeO.none _
      | refine LeO.ite ?_ ?_
      | refine LeO.bind ?_ (fun _ => ?_)
theorem impl_WordRight.mono : ∀ a0 a1 k, LeO (impl_WordRight.f k a0 a1) (impl_WordRight.f (k + 1) a0 a1) := by
  intro a0 a1 k
  have ih0 := impl_WordRight.mono_l k
  unfold impl_WordRight.f
  repeat' first
      | (with_reducible exact ih0 _ _ _)
      | (with_reducible exact impl_class.mono _ _)
      | (with_reducible exact impl_isPlace.mono _ _ _)
      | (with_reducible exact impl_skip.mono _ _ _ _)
      | (with_reducible exact LeO.refl _)
      | (with_reducible exact LeO.none _)
      | (with_reducible refine LeO.ite ?_ ?_)
      | (with_reducible refine LeO.bind ?_ (fun _ => ?_))
      | exact ih0 _ _ _
      | exact impl_class.mono _ _
      | exact impl_isPlace.mono _ _ _
      | exact impl_skip.mono _ _ _ _
      | exact LeO.none _
      | refine LeO.ite ?_ ?_
      | refine LeO.bind ?_ (fun _ => ?_)
set_option maxHeartbeats 8000000 in
set_option maxRecDepth 100000 in
theorem impl_WordRight.calls (k : Nat) (a0 : ByteArray) (a1 : Int) (r : Int) (w : World) (h : impl_WordRight.f k a0 a1 = some r) :
    Calls Try.prog 30 #[.string a0, .int .i64 a1] w fun e w' => e = .returned (.int .i64 r) ∧ Drawn0 w w' := by
  have H : ((impl_isPlace.f k a0 a1).bind fun t427 => (if t427 = true then (if a1 < (a0.size : Int) then (if 0 ≤ a1 then ((impl_class.f k (bt a0 a1)).bind fun t428 => (impl_WordRight.j0 k a0 a1 (t428 != 0))) else (none)) else (impl_WordRight.j0 k a0 a1 false)) else (some (-1)))) = some r := h
  clear h
  replace H := Option.bind_eq_some_iff.mp H
  obtain ⟨t427, A30, H⟩ := H
  replace H : (if t427 = true then (if a1 < (a0.size : Int) then (if 0 ≤ a1 then ((impl_class.f k (bt a0 a1)).bind fun t428 => (impl_WordRight.j0 k a0 a1 (t428 != 0))) else (none)) else (impl_WordRight.j0 k a0 a1 false)) else (some (-1))) = some r := H
  have A3 := Aside0.mk A30
  clear A30
  by_cases c4 : t427 = true
  · subst c4
    have H1 : (if a1 < (a0.size : Int) then (if 0 ≤ a1 then ((impl_class.f k (bt a0 a1)).bind fun t428 => (impl_WordRight.j0 k a0 a1 (t428 != 0))) else (none)) else (impl_WordRight.j0 k a0 a1 false)) = some r := by rw [if_pos rfl] at H; exact H
    clear H
    have H := H1
    clear H1
    have HC5 := Aside0.mk H
    clear H
    go_enter Try.func30, Try.ntmps30
    go_upto_region 3 with (first | ((with_reducible refine gate_callee (f := 35) rfl ?_); refine goesL_ (some 7) rfl rfl Try.func35 (by kernel_rfl) rfl #[.string a0, .int .i64 a1] rfl (by (try simp only [List.map_toArray, List.map_cons, List.map_nil]); first | done | rfl | (simp only [List.length_drop, List.length_take]; rfl)) ?_; (with_reducible refine (impl_isPlace.calls k a0 a1 true _ A3.out).mono ?_); rintro e w' ⟨rfl, ⟨nd, rfl⟩⟩; refine ⟨_, rfl, ?_⟩))
    (try simp only [Act.put, List.setIfInBounds_toArray, List.set_cons_zero, List.set_cons_succ])
    go_cut [19] (fun v19 wc => ∃ (kq : Nat) (x19_4 : Bool), v19 = .bool x19_4 ∧ Aside0 (impl_WordRight.j0 kq a0 a1 x19_4 = some r) ∧ Aside0 (kq ≤ k) ∧ Drawn0 w wc)
    case first =>
      have H := HC5.out
      clear HC5
      by_cases c6 : a1 < (a0.size : Int)
      · rw [if_pos c6] at H
        have c6b0 : decide (a1 < (a0.size : Int)) = true := decide_eq_true c6
        clear c6
        (first | rw [c6b0] | (simp only [i64_w, i32_w]; rw [c6b0]) | skip)
        by_cases c7 : 0 ≤ a1
        · rw [if_pos c7] at H
          have c7b0 : decide (0 ≤ a1) = true := decide_eq_true c7
          clear c7
          replace H := Option.bind_eq_some_iff.mp H
          obtain ⟨t428, A90, H⟩ := H
          replace H : (impl_WordRight.j0 k a0 a1 (t428 != 0)) = some r := H
          have A9 := Aside0.mk A90
          clear A90
          have H' := Aside0.mk H
          clear H
          have p8 : 0 ≤ (a1 : Int) := of_decide_eq_true (by first | (with_reducible assumption) | assumption)
          have q8 : a1 < (a0.size : Int) := of_decide_eq_true (by first | (with_reducible assumption) | assumption)
          have hx8 := bt_at a0 a1
          replace p8 := eq_true p8
          replace q8 := eq_true q8
          go_wp2_with (first | (go_at_call 45; (with_reducible refine (impl_class.calls k (bt a0 a1) t428 _ A9.out).mono ?_); rintro e w' ⟨rfl, ⟨nd, rfl⟩⟩))
          go_meet
          case rel => exact ⟨_, ((t428 != 0)), (by first | rfl | (simp; done) | (simp [*]; done)), H', ⟨by first | omega | exact Nat.le_refl _⟩, by repeat (first | exact Drawn0.refl _ | apply Drawn0.step)⟩
        · rw [if_neg c7] at H
          exact absurd H (by simp)
      · rw [if_neg c6] at H
        have c6b0 : decide (a1 < (a0.size : Int)) = false := decide_eq_false c6
        clear c6
        (first | rw [c6b0] | (simp only [i64_w, i32_w]; rw [c6b0]) | skip)
        have H' := Aside0.mk H
        clear H
        go_wp2
        go_meet
        case rel => exact ⟨_, (false), (by first | rfl | (simp; done) | (simp [*]; done)), H', ⟨by first | omega | exact Nat.le_refl _⟩, by repeat (first | exact Drawn0.refl _ | apply Drawn0.step)⟩
    case rest =>
      clear HC5
      try clear p2
      try clear c3
      try clear c4
      try clear c6
      try clear c6b0
      try clear c7
      try clear c7b0
      try clear p8
      try clear q8
      try clear hx8
      try clear p8
      try clear q8
      obtain ⟨kq, x19_4, rfl, HA, HJ4, ⟨mc4, rfl⟩⟩ := hcut
      cases kq with
      | zero => exact absurd HA.out (by simp [impl_WordRight.j0])
      | succ kj4 =>
        have H := HA.out
        clear HA
        simp only [impl_WordRight.j0] at H
        by_cases c10 : x19_4 = true
        · subst c10
          have H1 : (if 0 ≤ a1 then (if a1 < (a0.size : Int) then ((impl_class.f kj4 (bt a0 a1)).bind fun t429 => ((impl_skip.f kj4 a0 a1 t429).bind fun t430 => ((impl_skip.f kj4 a0 t430 0).bind fun t431 => (some t431)))) else (none)) else (none)) = some r := by rw [if_pos rfl] at H; exact H
          clear H
          have H := H1
          clear H1
          by_cases c11 : 0 ≤ a1
          · rw [if_pos c11] at H
            have c11b0 : decide (0 ≤ a1) = true := decide_eq_true c11
            clear c11
            by_cases c12 : a1 < (a0.size : Int)
            · rw [if_pos c12] at H
              have c12b0 : decide (a1 < (a0.size : Int)) = true := decide_eq_true c12
              clear c12
              replace H := Option.bind_eq_some_iff.mp H
              obtain ⟨t429, A140, H⟩ := H
              replace H : ((impl_skip.f kj4 a0 a1 t429).bind fun t430 => ((impl_skip.f kj4 a0 t430 0).bind fun t431 => (some t431))) = some r := H
              have A14 := Aside0.mk A140
              clear A140
              replace H := Option.bind_eq_some_iff.mp H
              obtain ⟨t430, A150, H⟩ := H
              replace H : ((impl_skip.f kj4 a0 t430 0).bind fun t431 => (some t431)) = some r := H
              have A15 := Aside0.mk A150
              clear A150
              replace H := Option.bind_eq_some_iff.mp H
              obtain ⟨t431, A160, H⟩ := H
              replace H : (some t431) = some r := H
              have A16 := Aside0.mk A160
              clear A160
              obtain rfl := Option.some.inj H
              have p13 : 0 ≤ (a1 : Int) := of_decide_eq_true (by first | (with_reducible assumption) | assumption)
              have q13 : a1 < (a0.size : Int) := of_decide_eq_true (by first | (with_reducible assumption) | assumption)
              have hx13 := bt_at a0 a1
              replace p13 := eq_true p13
              replace q13 := eq_true q13
              go_wp2_with (first | ((with_reducible refine gate_callee (f := 45) rfl ?_); refine goesL_ (some 25) rfl rfl Try.func45 (by kernel_rfl) rfl #[.int .u8 (bt a0 a1)] rfl (by (try simp only [List.map_toArray, List.map_cons, List.map_nil]); first | done | rfl | (simp only [List.length_drop, List.length_take]; rfl)) ?_; (with_reducible refine (impl_class.calls kj4 (bt a0 a1) t429 _ A14.out).mono ?_); rintro e w' ⟨rfl, ⟨nd, rfl⟩⟩; refine ⟨_, rfl, ?_⟩) | ((with_reducible refine gate_callee (f := 56) rfl ?_); refine goesL_ (some 26) rfl rfl Try.func56 (by kernel_rfl) rfl #[.string a0, .int .i64 a1, .int .i64 t429] rfl (by (try simp only [List.map_toArray, List.map_cons, List.map_nil]); first | done | rfl | (simp only [List.length_drop, List.length_take]; rfl)) ?_; (with_reducible refine (impl_skip.calls kj4 a0 a1 t429 t430 _ A15.out).mono ?_); rintro e w' ⟨rfl, ⟨nd, rfl⟩⟩; refine ⟨_, rfl, ?_⟩) | ((with_reducible refine gate_callee (f := 56) rfl ?_); refine goesL_ (some 29) rfl rfl Try.func56 (by kernel_rfl) rfl #[.string a0, .int .i64 t430, .int .i64 0] rfl (by (try simp only [List.map_toArray, List.map_cons, List.map_nil]); first | done | rfl | (simp only [List.length_drop, List.length_take]; rfl)) ?_; (with_reducible refine (impl_skip.calls kj4 a0 t430 0 t431 _ A16.out).mono ?_); rintro e w' ⟨rfl, ⟨nd, rfl⟩⟩; refine ⟨_, rfl, ?_⟩))
              go_ret
              exact ⟨by first | rfl | (simp; done) | (simp [*]; done), by repeat (first | exact Drawn0.refl _ | apply Drawn0.step)⟩
            · rw [if_neg c12] at H
              exact absurd H (by simp)
          · rw [if_neg c11] at H
            exact absurd H (by simp)
        · replace c10 := Bool.eq_false_iff.mpr c10
          subst c10
          have H1 : ((impl_skip.f kj4 a0 a1 0).bind fun t432 => (some t432)) = some r := by rw [if_neg (show ¬ (false = true) by decide)] at H; exact H
          clear H
          have H := H1
          clear H1
          replace H := Option.bind_eq_some_iff.mp H
          obtain ⟨t432, A170, H⟩ := H
          replace H : (some t432) = some r := H
          have A17 := Aside0.mk A170
          clear A170
          obtain rfl := Option.some.inj H
          go_wp2_with (first | ((with_reducible refine gate_callee (f := 56) rfl ?_); refine goesL_ (some 29) rfl rfl Try.func56 (by kernel_rfl) rfl #[.string a0, .int .i64 a1, .int .i64 0] rfl (by (try simp only [List.map_toArray, List.map_cons, List.map_nil]); first | done | rfl | (simp only [List.length_drop, List.length_take]; rfl)) ?_; (with_reducible refine (impl_skip.calls kj4 a0 a1 0 t432 _ A17.out).mono ?_); rintro e w' ⟨rfl, ⟨nd, rfl⟩⟩; refine ⟨_, rfl, ?_⟩))
          go_ret
          exact ⟨by first | rfl | (simp; done) | (simp [*]; done), by repeat (first | exact Drawn0.refl _ | apply Drawn0.step)⟩
  · replace c4 := Bool.eq_false_iff.mpr c4
    subst c4
    have H1 : (some (-1)) = some r := by rw [if_neg (show ¬ (false = true) by decide)] at H; exact H
    clear H
    have H := H1
    clear H1
    obtain rfl := Option.some.inj H
    go_enter Try.func30, Try.ntmps30
    go_wp2_with (first | ((with_reducible refine gate_callee (f := 35) rfl ?_); refine goesL_ (some 7) rfl rfl Try.func35 (by kernel_rfl) rfl #[.string a0, .int .i64 a1] rfl (by (try simp only [List.map_toArray, List.map_cons, List.map_nil]); first | done | rfl | (simp only [List.length_drop, List.length_take]; rfl)) ?_; (with_reducible refine (impl_isPlace.calls k a0 a1 false _ A3.out).mono ?_); rintro e w' ⟨rfl, ⟨nd, rfl⟩⟩; refine ⟨_, rfl, ?_⟩))
    go_ret
    exact ⟨by first | rfl | (simp; done) | (simp [*]; done), by repeat (first | exact Drawn0.refl _ | apply Drawn0.step)⟩

end Go.Proofs.Ytpaijbpenjjmkaa.X
