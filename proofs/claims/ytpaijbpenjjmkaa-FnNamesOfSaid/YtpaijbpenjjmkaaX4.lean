-- written by a program of this session (wip/xprint.py) out of the translation
import Derived.Test.YtpaijbpenjjmkaaX0
import Derived.Test.YtpaijbpenjjmkaaX1
import Derived.Test.YtpaijbpenjjmkaaX3
import Derived.Laws.Cover1
namespace Go.Proofs.Ytpaijbpenjjmkaa.X
open Go.RowKit Go.Proofs.YtpaijbpenjjmkaaW.PrintWords Go.Proofs.YtpaijbpenjjmkaaW.PrintLast Go.Proofs.YtpaijbpenjjmkaaW.PrintMore
attribute [local go_sem] max2_int min2_int max_two min_two max_three min_three max_four min_four   -- for this text's walks alone
set_option linter.unusedVariables false
set_option linter.unusedSimpArgs false

/-! ### spec_WordAround: function 40 -/
mutual
def spec_WordAround.j0 : Nat → ByteArray → Int → Bool → Option (Int × Int)
  | 0, _, _, _ => none
  | k + 1, x0, x1, x18 => if x18 = true then (some ((-1), (-1))) else (if x1 = (x0.size : Int) then (spec_WordAround.j1 k x0 x1 x1 x1 true) else (if 0 ≤ x1 then (if x1 < (x0.size : Int) then ((spec_l8Kind.f k (bt x0 x1)).bind fun t109 => (spec_WordAround.j1 k x0 x1 x1 x1 (t109 == 0))) else (none)) else (none)))
def spec_WordAround.j1 : Nat → ByteArray → Int → Int → Int → Bool → Option (Int × Int)
  | 0, _, _, _, _, _ => none
  | k + 1, x0, x1, x6, x7, x31 => if x31 = true then (some (x6, x7)) else (if 0 ≤ x1 then (if x1 < (x0.size : Int) then ((spec_l8Kind.f k (bt x0 x1)).bind fun t110 => (spec_WordAround.l0 k x0 x6 x7 t110)) else (none)) else (none))
def spec_WordAround.j3 : Nat → ByteArray → Int → Int → Int → Option (Int × Int)
  | 0, _, _, _, _ => none
  | k + 1, x0, x6, x7, x8 => spec_WordAround.l1 k x0 x6 x7 x8
def spec_WordAround.l1 : Nat → ByteArray → Int → Int → Int → Option (Int × Int)
  | 0, _, _, _, _ => none
  | k + 1, x0, x6, x7, x8 => if x7 < (x0.size : Int) then (if 0 ≤ x7 then ((spec_l8Kind.f k (bt x0 x7)).bind fun t112 => (if t112 = x8 then (spec_WordAround.l1 k x0 x6 (wrap64 (x7 + 1)) x8) else (some (x6, x7)))) else (none)) else (some (x6, x7))
def spec_WordAround.l0 : Nat → ByteArray → Int → Int → Int → Option (Int × Int)
  | 0, _, _, _, _ => none
  | k + 1, x0, x6, x7, x8 => if x6 > 0 then (if 0 ≤ (wrap64 (x6 - 1)) then (if (wrap64 (x6 - 1)) < (x0.size : Int) then ((spec_l8Kind.f k (bt x0 (wrap64 (x6 - 1)))).bind fun t111 => (if t111 = x8 then (spec_WordAround.l0 k x0 (wrap64 (x6 - 1)) x7 x8) else (spec_WordAround.j3 k x0 x6 x7 x8))) else (none)) else (none)) else (spec_WordAround.j3 k x0 x6 x7 x8)
end
def spec_WordAround.f (k : Nat) (a0 : ByteArray) (a1 : Int) : Option (Int × Int) := (spec_TextValid.f k a0).bind fun t107 => (if t107 = true then ((spec_l1In.f a1 0 (a0.size : Int)).bind fun t108 => (spec_WordAround.j0 k a0 a1 (!t108))) else (spec_WordAround.j0 k a0 a1 true))
theorem spec_WordAround.mono_l : ∀ k, (∀ y0 y1 y2, LeO (spec_WordAround.j0 k y0 y1 y2) (spec_WordAround.j0 (k + 1) y0 y1 y2)) ∧ (∀ y0 y1 y2 y3 y4, LeO (spec_WordAround.j1 k y0 y1 y2 y3 y4) (spec_WordAround.j1 (k + 1) y0 y1 y2 y3 y4)) ∧ (∀ y0 y1 y2 y3, LeO (spec_WordAround.j3 k y0 y1 y2 y3) (spec_WordAround.j3 (k + 1) y0 y1 y2 y3)) ∧ (∀ y0 y1 y2 y3, LeO (spec_WordAround.l1 k y0 y1 y2 y3) (spec_WordAround.l1 (k + 1) y0 y1 y2 y3)) ∧ (∀ y0 y1 y2 y3, LeO (spec_WordAround.l0 k y0 y1 y2 y3) (spec_WordAround.l0 (k + 1) y0 y1 y2 y3))
  | 0 => ⟨fun _ _ _ r h => by simp [spec_WordAround.j0] at h, fun _ _ _ _ _ r h => by simp [spec_WordAround.j1] at h, fun _ _ _ _ r h => by simp [spec_WordAround.j3] at h, fun _ _ _ _ r h => by simp [spec_WordAround.l1] at h, fun _ _ _ _ r h => by simp [spec_WordAround.l0] at h⟩
  | k + 1 => by
    obtain ⟨ih0, ih1, ih2, ih3, ih4⟩ := spec_WordAround.mono_l k
    refine ⟨?_, ?_, ?_, ?_, ?_⟩
    · intro y0 y1 y2
      unfold spec_WordAround.j0
      repeat' first
      | (with_reducible exact ih0 _ _ _)
      | (with_reducible exact ih1 _ _ _ _ _)
      | (with_reducible exact ih2 _ _ _ _)
      | (with_reducible exact ih3 _ _ _ _)
      | (with_reducible exact ih4 _ _ _ _)
      | (with_reducible exact spec_TextValid.mono _ _)
      | (with_reducible exact spec_l8Kind.mono _ _)
      | (with_reducible exact LeO.refl _)
      | (with_reducible exact LeO.none _)
      | (with_reducible refine LeO.ite ?_ ?_)
      | (with_reducible refine LeO.bind ?_ (fun _ => ?_))
      | exact ih0 _ _ _
      | exact ih1 _ _ _ _ _
      | exact ih2 _ _ _ _
      | exact ih3 _ _ _ _
      | exact ih4 _ _ _ _
      | exact spec_TextValid.mono _ _
      | exact spec_l8Kind.mono _ _
      | exact LeO.none _
      | refine LeO.ite ?_ ?_
      | refine LeO.bind ?_ (fun _ => ?_)
    · intro y0 y1 y2 y3 y4
      unfold spec_WordAround.j1
      repeat' first
      | (with_reducible exact ih0 _ _ _)
      | (with_reducible exact ih1 _ _ _ _ _)
      | (with_reducible exact ih2 _ _ _ _)
      | (with_reducible exact ih3 _ _ _ _)
      | (with_reducible exact ih4 _ _ _ _)
      | (with_reducible exact spec_TextValid.mono _ _)
      | (with_reducible exact spec_l8Kind.mono _ _)
      | (with_reducible exact LeO.refl _)
      | (with_reducible exact LeO.none _)
      | (with_reducible refine LeO.ite ?_ ?_)
      | (with_reducible refine LeO.bind ?_ (fun _ => ?_))
      | exact ih0 _ _ _
      | exact ih1 _ _ _ _ _
      | exact ih2 _ _ _ _
      | exact ih3 _ _ _ _
      | exact ih4 _ _ _ _
      | exact spec_TextValid.mono _ _
      | exact spec_l8Kind.mono _ _
      | exact LeO.none _
      | refine LeO.ite ?_ ?_
      | refine LeO.bind ?_ (fun _ => ?_)
    · intro y0 y1 y2 y3
      unfold spec_WordAround.j3
      repeat' first
      | (with_reducible exact ih0 _ _ _)
      | (with_reducible exact ih1 _ _ _ _ _)
      | (with_reducible exact ih2 _ _ _ _)
      | (with_reducible exact ih3 _ _ _ _)
      | (with_reducible exact ih4 _ _ _ _)
      | (with_reducible exact spec_TextValid.mono _ _)
      | (with_reducible exact spec_l8Kind.mono _ _)
      | (with_reducible exact LeO.refl _)
      | (with_reducible exact LeO.none _)
      | (with_reducible refine LeO.ite ?_ ?_)
      | (with_reducible refine LeO.bind ?_ (fun _ => ?_))
      | exact ih0 _ _ _
      | exact ih1 _ _ _ _ _
      | exact ih2 _ _ _ _
      | exact ih3 _ _ _ _
      | exact ih4 _ _ _ _
      | exact spec_TextValid.mono _ _
      | exact spec_l8Kind.mono _ _
      | exact LeO.none _
      | refine LeO.ite ?_ ?_
      | refine LeO.bind ?_ (fun _ => ?_)
    · intro y0 y1 y2 y3
      unfold spec_WordAround.l1
      repeat' first
      | (with_reducible exact ih0 _ _ _)
      | (with_reducible exact ih1 _ _ _ _ _)
      | (with_reducible exact ih2 _ _ _ _)
      | (with_reducible exact ih3 _ _ _ _)
      | (with_reducible exact ih4 _ _ _ _)
      | (with_reducible exact spec_TextValid.mono _ _)
      | (with_reducible exact spec_l8Kind.mono _ _)
      | (with_reducible exact LeO.refl _)
      | (with_reducible exact LeO.none _)
      | (with_reducible refine LeO.ite ?_ ?_)
      | (with_reducible refine LeO.bind ?_ (fun _ => ?_))
      | exact ih0 _ _ _
      | exact ih1 _ _ _ _ _
      | exact ih2 _ _ _ _
      | exact ih3 _ _ _ _
      | exact ih4 _ _ _ _
      | exact spec_TextValid.mono _ _
      | exact spec_l8Kind.mono _ _
      | exact LeO.none _
      | refine LeO.ite ?_ ?_
      | refine LeO.bind ?_ (fun _ => ?_)
    · intro y0 y1 y2 y3
      unfold spec_WordAround.l0
      repeat' first
      | (with_reducible exact ih0 _ _ _)
      | (with_reducible exact ih1 _ _ _ _ _)
      | (with_reducible exact ih2 _ _ _ _)
      | (with_reducible exact ih3 _ _ _ _)
      | (with_reducible exact ih4 _ _ _ _)
      | (with_reducible exact spec_TextValid.mono _ _)
      | (with_reducible exact spec_l8Kind.mono _ _)
      | (with_reducible exact LeO.refl _)
      | (with_reducible exact LeO.none _)
      | (with_reducible refine LeO.ite ?_ ?_)
      | (with_reducible refine LeO.bind ?_ (fun _ => ?_))
      | exact ih0 _ _ _
      | exact ih1 _ _ _ _ _
      | exact ih2 _ _ _ _
      | exact ih3 _ _ _ _
      | exact ih4 _ _ _ _
      | exact spec_TextValid.mono _ _
      | exact spec_l8Kind.mono _ _
      | exact LeO.none _
      | refine LeO.ite ?_ ?_
      | refine LeO.bind ?_ (fun _ => ?_)
theorem spec_WordAround.mono : ∀ a0 a1 k, LeO (spec_WordAround.f k a0 a1) (spec_WordAround.f (k + 1) a0 a1) := by
  intro a0 a1 k
  obtain ⟨ih0, ih1, ih2, ih3, ih4⟩ := spec_WordAround.mono_l k
  unfold spec_WordAround.f
  repeat' first
      | (with_reducible exact ih0 _ _ _)
      | (with_reducible exact ih1 _ _ _ _ _)
      | (with_reducible exact ih2 _ _ _ _)
      | (with_reducible exact ih3 _ _ _ _)
      | (with_reducible exact ih4 _ _ _ _)
      | (with_reducible exact spec_TextValid.mono _ _)
      | (with_reducible exact spec_l8Kind.mono _ _)
      | (with_reducible exact LeO.refl _)
      | (with_reducible exact LeO.none _)
      | (with_reducible refine LeO.ite ?_ ?_)
      | (with_reducible refine LeO.bind ?_ (fun _ => ?_))
      | exact ih0 _ _ _
      | exact ih1 _ _ _ _ _
      | exact ih2 _ _ _ _
      | exact ih3 _ _ _ _
      | exact ih4 _ _ _ _
      | exact spec_TextValid.mono _ _
      | exact spec_l8Kind.mono _ _
      | exact LeO.none _
      | refine LeO.ite ?_ ?_
      | refine LeO.bind ?_ (fun _ => ?_)
set_option maxHeartbeats 8000000 in
set_option maxRecDepth 100000 in
theorem spec_WordAround.calls (k : Nat) (a0 : ByteArray) (a1 : Int) (r1 : Int) (r2 : Int) (w : World) (h : spec_WordAround.f k a0 a1 = some (r1, r2)) :
    Calls Try.prog 40 #[.string a0, .int .i64 a1] w fun e w' => e = .returned (.tuple #[.int .i64 r1, .int .i64 r2]) ∧ Drawn0 w w' := by
  have H : ((spec_TextValid.f k a0).bind fun t107 => (if t107 = true then ((spec_l1In.f a1 0 (a0.size : Int)).bind fun t108 => (spec_WordAround.j0 k a0 a1 (!t108))) else (spec_WordAround.j0 k a0 a1 true))) = some (r1, r2) := h
  clear h
  have HC3 := Aside0.mk H
  clear H
  go_enter Try.func40, Try.ntmps40
  go_upto_region 1 with (fail)
  go_cut [18] (fun v18 wc => ∃ (kq : Nat) (x18_2 : Bool), v18 = .bool x18_2 ∧ Aside0 (spec_WordAround.j0 kq a0 a1 x18_2 = some (r1, r2)) ∧ Aside0 (kq ≤ k) ∧ Drawn0 w wc)
  case first =>
    have H := HC3.out
    clear HC3
    replace H := Option.bind_eq_some_iff.mp H
    obtain ⟨t107, A40, H⟩ := H
    replace H : (if t107 = true then ((spec_l1In.f a1 0 (a0.size : Int)).bind fun t108 => (spec_WordAround.j0 k a0 a1 (!t108))) else (spec_WordAround.j0 k a0 a1 true)) = some (r1, r2) := H
    have A4 := Aside0.mk A40
    clear A40
    by_cases c5 : t107 = true
    · subst c5
      have H1 : ((spec_l1In.f a1 0 (a0.size : Int)).bind fun t108 => (spec_WordAround.j0 k a0 a1 (!t108))) = some (r1, r2) := by rw [if_pos rfl] at H; exact H
      clear H
      have H := H1
      clear H1
      replace H := Option.bind_eq_some_iff.mp H
      obtain ⟨t108, A60, H⟩ := H
      replace H : (spec_WordAround.j0 k a0 a1 (!t108)) = some (r1, r2) := H
      have A6 := Aside0.mk A60
      clear A60
      have H' := Aside0.mk H
      clear H
      go_wp2_with (first | ((with_reducible refine gate_callee (f := 27) rfl ?_); refine goesL_ (some 10) rfl rfl Try.func27 (by kernel_rfl) rfl #[.string a0] rfl (by (try simp only [List.map_toArray, List.map_cons, List.map_nil]); first | done | rfl | (simp only [List.length_drop, List.length_take]; rfl)) ?_; (with_reducible refine (spec_TextValid.calls k a0 true _ A4.out).mono ?_); rintro e w' ⟨rfl, ⟨nd, rfl⟩⟩; refine ⟨_, rfl, ?_⟩) | (go_at_call 37; (with_reducible refine (spec_l1In.calls a1 0 (a0.size : Int) t108 _ A6.out).mono ?_); rintro e w' ⟨rfl, ⟨nd, rfl⟩⟩))
      go_meet
      case rel => exact ⟨_, (!t108), (by first | rfl | (simp; done) | (simp [*]; done)), H', ⟨by first | omega | exact Nat.le_refl _⟩, by repeat (first | exact Drawn0.refl _ | apply Drawn0.step)⟩
    · replace c5 := Bool.eq_false_iff.mpr c5
      subst c5
      have H1 : (spec_WordAround.j0 k a0 a1 true) = some (r1, r2) := by rw [if_neg (show ¬ (false = true) by decide)] at H; exact H
      clear H
      have H := H1
      clear H1
      have H' := Aside0.mk H
      clear H
      go_wp2_with (first | ((with_reducible refine gate_callee (f := 27) rfl ?_); refine goesL_ (some 10) rfl rfl Try.func27 (by kernel_rfl) rfl #[.string a0] rfl (by (try simp only [List.map_toArray, List.map_cons, List.map_nil]); first | done | rfl | (simp only [List.length_drop, List.length_take]; rfl)) ?_; (with_reducible refine (spec_TextValid.calls k a0 false _ A4.out).mono ?_); rintro e w' ⟨rfl, ⟨nd, rfl⟩⟩; refine ⟨_, rfl, ?_⟩))
      go_meet
      case rel => exact ⟨_, (true), (by first | rfl | (simp; done) | (simp [*]; done)), H', ⟨by first | omega | exact Nat.le_refl _⟩, by repeat (first | exact Drawn0.refl _ | apply Drawn0.step)⟩
  case rest =>
    clear HC3
    try clear c2
    try clear p2
    try clear c4
    try clear c5
    obtain ⟨kq, x18_2, rfl, HA, HJ2, ⟨mc2, rfl⟩⟩ := hcut
    cases kq with
    | zero => exact absurd HA.out (by simp [spec_WordAround.j0])
    | succ kj2 =>
      have H := HA.out
      clear HA
      simp only [spec_WordAround.j0] at H
      by_cases c7 : x18_2 = true
      · subst c7
        have H1 : (some ((-1), (-1))) = some (r1, r2) := by rw [if_pos rfl] at H; exact H
        clear H
        have H := H1
        clear H1
        simp only [Option.some.injEq, Prod.mk.injEq] at H
        obtain ⟨rfl, rfl⟩ := H
        go_wp2
        go_ret2
        exact ⟨by first | rfl | (simp; done) | (simp [*]; done), by repeat (first | exact Drawn0.refl _ | apply Drawn0.step)⟩
      · replace c7 := Bool.eq_false_iff.mpr c7
        subst c7
        have H1 : (if a1 = (a0.size : Int) then (spec_WordAround.j1 kj2 a0 a1 a1 a1 true) else (if 0 ≤ a1 then (if a1 < (a0.size : Int) then ((spec_l8Kind.f kj2 (bt a0 a1)).bind fun t109 => (spec_WordAround.j1 kj2 a0 a1 a1 a1 (t109 == 0))) else (none)) else (none))) = some (r1, r2) := by rw [if_neg (show ¬ (false = true) by decide)] at H; exact H
        clear H
        have H := H1
        clear H1
        have HC8 := Aside0.mk H
        clear H
        go_upto_region 5 with (fail)
        go_cut [31] (fun v31 wc => ∃ (kq : Nat) (x31_7 : Bool), v31 = .bool x31_7 ∧ Aside0 (spec_WordAround.j1 kq a0 a1 a1 a1 x31_7 = some (r1, r2)) ∧ Aside0 (kq ≤ kj2) ∧ Drawn0 w wc)
        case first =>
          have H := HC8.out
          clear HC8
          by_cases c9 : a1 = (a0.size : Int)
          · rw [if_pos c9] at H
            have c9b0 : (a1 == (a0.size : Int)) = true := beq_iff_eq.mpr c9
            have c9b1 : (a1 != (a0.size : Int)) = false := bne_eq_false_iff_eq.mpr c9
            clear c9
            (first | rw [c9b0] | (simp only [i64_w, i32_w]; rw [c9b0]) | skip)
            have H' := Aside0.mk H
            clear H
            go_wp2
            go_meet
            case rel => exact ⟨_, (true), (by first | rfl | (simp; done) | (simp [*]; done)), H', ⟨by have := HJ2.out; first | omega | exact Nat.le_refl _⟩, by repeat (first | exact Drawn0.refl _ | apply Drawn0.step)⟩
          · rw [if_neg c9] at H
            have c9b0 : (a1 == (a0.size : Int)) = false := beq_eq_false_iff_ne.mpr c9
            have c9b1 : (a1 != (a0.size : Int)) = true := bne_iff_ne.mpr c9
            (first | rw [c9b0] | (simp only [i64_w, i32_w]; rw [c9b0]) | skip)
            by_cases c10 : 0 ≤ a1
            · rw [if_pos c10] at H
              have c10b0 : decide (0 ≤ a1) = true := decide_eq_true c10
              clear c10
              by_cases c11 : a1 < (a0.size : Int)
              · rw [if_pos c11] at H
                have c11b0 : decide (a1 < (a0.size : Int)) = true := decide_eq_true c11
                clear c11
                replace H := Option.bind_eq_some_iff.mp H
                obtain ⟨t109, A130, H⟩ := H
                replace H : (spec_WordAround.j1 kj2 a0 a1 a1 a1 (t109 == 0)) = some (r1, r2) := H
                have A13 := Aside0.mk A130
                clear A130
                have H' := Aside0.mk H
                clear H
                have p12 : 0 ≤ (a1 : Int) := of_decide_eq_true (by first | (with_reducible assumption) | assumption)
                have q12 : a1 < (a0.size : Int) := of_decide_eq_true (by first | (with_reducible assumption) | assumption)
                have hx12 := bt_at a0 a1
                replace p12 := eq_true p12
                replace q12 := eq_true q12
                go_wp2_with (first | (go_at_call 38; (with_reducible refine (spec_l8Kind.calls kj2 (bt a0 a1) t109 _ A13.out).mono ?_); rintro e w' ⟨rfl, ⟨nd, rfl⟩⟩))
                go_meet
                case rel => exact ⟨_, ((t109 == 0)), (by first | rfl | (simp; done) | (simp [*]; done)), H', ⟨by have := HJ2.out; first | omega | exact Nat.le_refl _⟩, by repeat (first | exact Drawn0.refl _ | apply Drawn0.step)⟩
              · rw [if_neg c11] at H
                exact absurd H (by simp)
            · rw [if_neg c10] at H
              exact absurd H (by simp)
        case rest =>
          clear HC8
          try clear c1
          try clear p1
          try clear q1
          try clear hx1
          try clear c2
          try clear p2
          try clear c4
          try clear c5
          try clear c7
          try clear c9
          try clear c9b0
          try clear c9b1
          try clear c10
          try clear c10b0
          try clear c11
          try clear c11b0
          try clear p12
          try clear q12
          try clear hx12
          try clear p12
          try clear p2
          try clear q12
          obtain ⟨kq, x31_7, rfl, HA, HJ7, ⟨mc7, rfl⟩⟩ := hcut
          cases kq with
          | zero => exact absurd HA.out (by simp [spec_WordAround.j1])
          | succ kj7 =>
            have H := HA.out
            clear HA
            simp only [spec_WordAround.j1] at H
            by_cases c14 : x31_7 = true
            · subst c14
              have H1 : (some (a1, a1)) = some (r1, r2) := by rw [if_pos rfl] at H; exact H
              clear H
              have H := H1
              clear H1
              simp only [Option.some.injEq, Prod.mk.injEq] at H
              obtain ⟨rfl, rfl⟩ := H
              go_wp2
              go_ret2
              exact ⟨by first | rfl | (simp; done) | (simp [*]; done), by repeat (first | exact Drawn0.refl _ | apply Drawn0.step)⟩
            · replace c14 := Bool.eq_false_iff.mpr c14
              subst c14
              have H1 : (if 0 ≤ a1 then (if a1 < (a0.size : Int) then ((spec_l8Kind.f kj7 (bt a0 a1)).bind fun t110 => (spec_WordAround.l0 kj7 a0 a1 a1 t110)) else (none)) else (none)) = some (r1, r2) := by rw [if_neg (show ¬ (false = true) by decide)] at H; exact H
              clear H
              have H := H1
              clear H1
              by_cases c15 : 0 ≤ a1
              · rw [if_pos c15] at H
                have c15b0 : decide (0 ≤ a1) = true := decide_eq_true c15
                clear c15
                by_cases c16 : a1 < (a0.size : Int)
                · rw [if_pos c16] at H
                  have c16b0 : decide (a1 < (a0.size : Int)) = true := decide_eq_true c16
                  clear c16
                  replace H := Option.bind_eq_some_iff.mp H
                  obtain ⟨t110, A180, H⟩ := H
                  replace H : (spec_WordAround.l0 kj7 a0 a1 a1 t110) = some (r1, r2) := H
                  have A18 := Aside0.mk A180
                  clear A180
                  have HC19 := Aside0.mk H
                  clear H
                  have p17 : 0 ≤ (a1 : Int) := of_decide_eq_true (by first | (with_reducible assumption) | assumption)
                  have q17 : a1 < (a0.size : Int) := of_decide_eq_true (by first | (with_reducible assumption) | assumption)
                  have hx17 := bt_at a0 a1
                  replace p17 := eq_true p17
                  replace q17 := eq_true q17
                  go_upto_block 0 with (first | ((with_reducible refine gate_callee (f := 38) rfl ?_); refine goesL_ (some 37) rfl rfl Try.func38 (by kernel_rfl) rfl #[.int .u8 (bt a0 a1)] rfl (by (try simp only [List.map_toArray, List.map_cons, List.map_nil]); first | done | rfl | (simp only [List.length_drop, List.length_take]; rfl)) ?_; (with_reducible refine (spec_l8Kind.calls kj7 (bt a0 a1) t110 _ A18.out).mono ?_); rintro e w' ⟨rfl, ⟨nd, rfl⟩⟩; refine ⟨_, rfl, ?_⟩))
                  (try simp only [Act.put, List.setIfInBounds_toArray, List.set_cons_zero, List.set_cons_succ])
                  go_cut [6] (fun v6 wc => ∃ (kq : Nat) (x6_18 : Int), v6 = .int .i64 x6_18 ∧ Aside0 (spec_WordAround.j3 kq a0 x6_18 a1 t110 = some (r1, r2)) ∧ Aside0 (kq ≤ kj7) ∧ Drawn0 w wc)
                  case first =>
                    have H := HC19.out
                    clear HC19
                    have H' := Aside0.mk H
                    clear H
                    go_wp2
                    go_loopg [6] kj7 (fun kq v6 w' => ∃ (x6_3 : Int), v6 = .int .i64 x6_3 ∧ Aside0 (spec_WordAround.l0 kq a0 x6_3 a1 t110 = some (r1, r2)) ∧ Aside0 (kq ≤ kj7) ∧ Drawn0 w w')
                    case atStart => exact ⟨(a1), (by first | rfl | (simp; done) | (simp [*]; done)), H', ⟨Nat.le_refl _⟩, by repeat (first | exact Drawn0.refl _ | apply Drawn0.step)⟩
                    case round =>
                      clear H'
                      try clear c1
                      try clear p1
                      try clear q1
                      try clear hx1
                      try clear c2
                      try clear p2
                      try clear c3
                      try clear c4
                      try clear c5
                      try clear c7
                      try clear c9
                      try clear c9b0
                      try clear c9b1
                      try clear c10
                      try clear c10b0
                      try clear c11
                      try clear c11b0
                      try clear p12
                      try clear q12
                      try clear hx12
                      try clear c14
                      try clear c15
                      try clear c15b0
                      try clear c16
                      try clear c16b0
                      try clear p17
                      try clear q17
                      try clear hx17
                      try clear p1
                      try clear p12
                      try clear p17
                      try clear p2
                      try clear q1
                      try clear q12
                      try clear q17
                      obtain ⟨x6_3, rfl, HA, HK3, ⟨m3, rfl⟩⟩ := hrel
                      cases gk with
                      | zero => exact absurd HA.out (by simp [spec_WordAround.l0])
                      | succ k3 =>
                        have H := HA.out
                        clear HA
                        simp only [spec_WordAround.l0] at H
                        by_cases c20 : x6_3 > 0
                        · rw [if_pos c20] at H
                          have c20b0 : decide (0 < x6_3) = true := decide_eq_true c20
                          clear c20
                          (first | rw [c20b0] | (simp only [i64_w, i32_w]; rw [c20b0]) | skip)
                          obtain ⟨ji21, hji21⟩ : ∃ j_ : Int, (wrap64 (x6_3 - 1)) = j_ := ⟨_, rfl⟩
                          replace H : (if 0 ≤ (ji21) then (if (ji21) < (a0.size : Int) then ((spec_l8Kind.f k3 (bt a0 (ji21))).bind fun t111 => (if t111 = t110 then (spec_WordAround.l0 k3 a0 ji21 a1 t110) else (spec_WordAround.j3 k3 a0 x6_3 a1 t110))) else (none)) else (none)) = some (r1, r2) := by first | (rw [hji21] at H; exact H) | (simp only [hji21] at H ⊢; exact H)
                          have hji21w : (IntKind.i64.wrap (x6_3 - 1)) = ji21 := (i64_w _).trans hji21
                          by_cases c22 : 0 ≤ (ji21)
                          · rw [if_pos c22] at H
                            have c22b0 : decide (0 ≤ (ji21)) = true := decide_eq_true c22
                            clear c22
                            by_cases c23 : (ji21) < (a0.size : Int)
                            · rw [if_pos c23] at H
                              have c23b0 : decide ((ji21) < (a0.size : Int)) = true := decide_eq_true c23
                              clear c23
                              replace H := Option.bind_eq_some_iff.mp H
                              obtain ⟨t111, A250, H⟩ := H
                              replace H : (if t111 = t110 then (spec_WordAround.l0 k3 a0 ji21 a1 t110) else (spec_WordAround.j3 k3 a0 x6_3 a1 t110)) = some (r1, r2) := H
                              have A25 := Aside0.mk A250
                              clear A250
                              by_cases c26 : t111 = t110
                              · rw [if_pos c26] at H
                                have c26b0 : (t111 == t110) = true := beq_iff_eq.mpr c26
                                have c26b1 : (t111 != t110) = false := bne_eq_false_iff_eq.mpr c26
                                clear c26
                                have H' := Aside0.mk H
                                clear H
                                have p24 : 0 ≤ ((ji21) : Int) := of_decide_eq_true (by first | (with_reducible assumption) | assumption)
                                have q24 : (ji21) < (a0.size : Int) := of_decide_eq_true (by first | (with_reducible assumption) | assumption)
                                have hx24 := bt_at a0 (ji21)
                                replace p24 := eq_true p24
                                replace q24 := eq_true q24
                                go_wp2_with (first | (go_at_call 38; (with_reducible refine (spec_l8Kind.calls k3 (bt a0 (ji21)) t111 _ A25.out).mono ?_); rintro e w' ⟨rfl, ⟨nd, rfl⟩⟩))
                                go_roundg k3
                                case measure => have := HJ2.out; have := HJ7.out; have := HK3.out; omega
                                case rel => exact ⟨(ji21), (by first | rfl | (simp; done) | (simp only [← hji21] <;> (first | rfl | simp)) | (simp [*]; done)), H', ⟨by have := HJ2.out; have := HJ7.out; have := HK3.out; omega⟩, by repeat (first | exact Drawn0.refl _ | apply Drawn0.step)⟩
                              · rw [if_neg c26] at H
                                have c26b0 : (t111 == t110) = false := beq_eq_false_iff_ne.mpr c26
                                have c26b1 : (t111 != t110) = true := bne_iff_ne.mpr c26
                                have H' := Aside0.mk H
                                clear H
                                have p24 : 0 ≤ ((ji21) : Int) := of_decide_eq_true (by first | (with_reducible assumption) | assumption)
                                have q24 : (ji21) < (a0.size : Int) := of_decide_eq_true (by first | (with_reducible assumption) | assumption)
                                have hx24 := bt_at a0 (ji21)
                                replace p24 := eq_true p24
                                replace q24 := eq_true q24
                                go_wp2_with (first | (go_at_call 38; (with_reducible refine (spec_l8Kind.calls k3 (bt a0 (ji21)) t111 _ A25.out).mono ?_); rintro e w' ⟨rfl, ⟨nd, rfl⟩⟩))
                                go_meet
                                case rel => exact ⟨_, (x6_3), (by first | rfl | (simp; done) | (simp [*]; done)), H', ⟨by have := HJ2.out; have := HJ7.out; have := HK3.out; first | omega | exact Nat.le_refl _⟩, by repeat (first | exact Drawn0.refl _ | apply Drawn0.step)⟩
                            · rw [if_neg c23] at H
                              exact absurd H (by simp)
                          · rw [if_neg c22] at H
                            exact absurd H (by simp)
                        · rw [if_neg c20] at H
                          have c20b0 : decide (0 < x6_3) = false := decide_eq_false c20
                          clear c20
                          (first | rw [c20b0] | (simp only [i64_w, i32_w]; rw [c20b0]) | skip)
                          have H' := Aside0.mk H
                          clear H
                          go_wp2
                          go_meet
                          case rel => exact ⟨_, (x6_3), (by first | rfl | (simp; done) | (simp [*]; done)), H', ⟨by have := HJ2.out; have := HJ7.out; have := HK3.out; first | omega | exact Nat.le_refl _⟩, by repeat (first | exact Drawn0.refl _ | apply Drawn0.step)⟩
                  case rest =>
                    clear HC19
                    try clear c1
                    try clear p1
                    try clear q1
                    try clear hx1
                    try clear c2
                    try clear p2
                    try clear q2
                    try clear hx2
                    try clear c3
                    try clear c4
                    try clear c5
                    try clear p6
                    try clear c7
                    try clear c9
                    try clear c9b0
                    try clear c9b1
                    try clear c10
                    try clear c10b0
                    try clear c11
                    try clear c11b0
                    try clear p12
                    try clear q12
                    try clear hx12
                    try clear c14
                    try clear c15
                    try clear c15b0
                    try clear c16
                    try clear c16b0
                    try clear p17
                    try clear q17
                    try clear hx17
                    try clear c20
                    try clear c20b0
                    try clear c22
                    try clear c22b0
                    try clear c23
                    try clear c23b0
                    try clear p24
                    try clear q24
                    try clear hx24
                    try clear c26
                    try clear c26b0
                    try clear c26b1
                    try clear p1
                    try clear p12
                    try clear p17
                    try clear p2
                    try clear p24
                    try clear q1
                    try clear q12
                    try clear q17
                    try clear q24
                    obtain ⟨kq, x6_18, rfl, HA, HJ18, ⟨mc18, rfl⟩⟩ := hcut
                    cases kq with
                    | zero => exact absurd HA.out (by simp [spec_WordAround.j3])
                    | succ kj18 =>
                      have H := HA.out
                      clear HA
                      simp only [spec_WordAround.j3] at H
                      have H' := Aside0.mk H
                      clear H
                      go_wp2
                      go_loopg [7] kj18 (fun kq v7 w' => ∃ (x7_4 : Int), v7 = .int .i64 x7_4 ∧ Aside0 (spec_WordAround.l1 kq a0 x6_18 x7_4 t110 = some (r1, r2)) ∧ Aside0 (kq ≤ kj18) ∧ Drawn0 w w')
                      case atStart => exact ⟨(a1), (by first | rfl | (simp; done) | (simp [*]; done)), H', ⟨Nat.le_refl _⟩, by repeat (first | exact Drawn0.refl _ | apply Drawn0.step)⟩
                      case round =>
                        clear H'
                        try clear c1
                        try clear p1
                        try clear q1
                        try clear hx1
                        try clear c2
                        try clear p2
                        try clear q2
                        try clear hx2
                        try clear c3
                        try clear c4
                        try clear c5
                        try clear p6
                        try clear c7
                        try clear c9
                        try clear c9b0
                        try clear c9b1
                        try clear c10
                        try clear c10b0
                        try clear c11
                        try clear c11b0
                        try clear p12
                        try clear q12
                        try clear hx12
                        try clear c14
                        try clear c15
                        try clear c15b0
                        try clear c16
                        try clear c16b0
                        try clear p17
                        try clear q17
                        try clear hx17
                        try clear c18
                        try clear c20
                        try clear c20b0
                        try clear c22
                        try clear c22b0
                        try clear c23
                        try clear c23b0
                        try clear p24
                        try clear q24
                        try clear hx24
                        try clear c26
                        try clear c26b0
                        try clear c26b1
                        try clear p1
                        try clear p12
                        try clear p17
                        try clear p2
                        try clear p24
                        try clear p6
                        try clear q1
                        try clear q12
                        try clear q17
                        try clear q2
                        try clear q24
                        obtain ⟨x7_4, rfl, HA, HK4, ⟨m4, rfl⟩⟩ := hrel
                        cases gk with
                        | zero => exact absurd HA.out (by simp [spec_WordAround.l1])
                        | succ k4 =>
                          have H := HA.out
                          clear HA
                          simp only [spec_WordAround.l1] at H
                          by_cases c27 : x7_4 < (a0.size : Int)
                          · rw [if_pos c27] at H
                            have c27b0 : decide (x7_4 < (a0.size : Int)) = true := decide_eq_true c27
                            clear c27
                            by_cases c28 : 0 ≤ x7_4
                            · rw [if_pos c28] at H
                              have c28b0 : decide (0 ≤ x7_4) = true := decide_eq_true c28
                              clear c28
                              replace H := Option.bind_eq_some_iff.mp H
                              obtain ⟨t112, A300, H⟩ := H
                              replace H : (if t112 = t110 then (spec_WordAround.l1 k4 a0 x6_18 (wrap64 (x7_4 + 1)) t110) else (some (x6_18, x7_4))) = some (r1, r2) := H
                              have A30 := Aside0.mk A300
                              clear A300
                              by_cases c31 : t112 = t110
                              · rw [if_pos c31] at H
                                have c31b0 : (t112 == t110) = true := beq_iff_eq.mpr c31
                                have c31b1 : (t112 != t110) = false := bne_eq_false_iff_eq.mpr c31
                                clear c31
                                have H' := Aside0.mk H
                                clear H
                                have p29 : 0 ≤ (x7_4 : Int) := of_decide_eq_true (by first | (with_reducible assumption) | assumption)
                                have q29 : x7_4 < (a0.size : Int) := of_decide_eq_true (by first | (with_reducible assumption) | assumption)
                                have hx29 := bt_at a0 x7_4
                                replace p29 := eq_true p29
                                replace q29 := eq_true q29
                                go_wp2_with (first | (go_at_call 38; (with_reducible refine (spec_l8Kind.calls k4 (bt a0 x7_4) t112 _ A30.out).mono ?_); rintro e w' ⟨rfl, ⟨nd, rfl⟩⟩))
                                go_roundg k4
                                case measure => have := HJ2.out; have := HJ7.out; have := HJ18.out; have := HK4.out; omega
                                case rel => exact ⟨(wrap64 (x7_4 + 1)), (by first | rfl | (simp; done) | (simp [*]; done)), H', ⟨by have := HJ2.out; have := HJ7.out; have := HJ18.out; have := HK4.out; omega⟩, by repeat (first | exact Drawn0.refl _ | apply Drawn0.step)⟩
                              · rw [if_neg c31] at H
                                have c31b0 : (t112 == t110) = false := beq_eq_false_iff_ne.mpr c31
                                have c31b1 : (t112 != t110) = true := bne_iff_ne.mpr c31
                                simp only [Option.some.injEq, Prod.mk.injEq] at H
                                obtain ⟨rfl, rfl⟩ := H
                                have p29 : 0 ≤ (x7_4 : Int) := of_decide_eq_true (by first | (with_reducible assumption) | assumption)
                                have q29 : x7_4 < (a0.size : Int) := of_decide_eq_true (by first | (with_reducible assumption) | assumption)
                                have hx29 := bt_at a0 x7_4
                                replace p29 := eq_true p29
                                replace q29 := eq_true q29
                                go_wp2_with (first | (go_at_call 38; (with_reducible refine (spec_l8Kind.calls k4 (bt a0 x7_4) t112 _ A30.out).mono ?_); rintro e w' ⟨rfl, ⟨nd, rfl⟩⟩))
                                go_ret2
                                exact ⟨by first | rfl | (simp; done) | (simp [*]; done), by repeat (first | exact Drawn0.refl _ | apply Drawn0.step)⟩
                            · rw [if_neg c28] at H
                              exact absurd H (by simp)
                          · rw [if_neg c27] at H
                            have c27b0 : decide (x7_4 < (a0.size : Int)) = false := decide_eq_false c27
                            clear c27
                            simp only [Option.some.injEq, Prod.mk.injEq] at H
                            obtain ⟨rfl, rfl⟩ := H
                            go_wp2
                            go_ret2
                            exact ⟨by first | rfl | (simp; done) | (simp [*]; done), by repeat (first | exact Drawn0.refl _ | apply Drawn0.step)⟩
                · rw [if_neg c16] at H
                  exact absurd H (by simp)
              · rw [if_neg c15] at H
                exact absurd H (by simp)

/-! ### spec_l18Insert: function 41 -/
def spec_l18Insert.l0 : Nat → List ByteArray → ByteArray → Int → Option (List ByteArray)
  | 0, _, _, _ => none
  | k + 1, x0, x1, x5 => if x5 > 0 then (if 0 ≤ (wrap64 (x5 - 1)) then (if (wrap64 (x5 - 1)) < (x0.length : Int) then (if ((Op.bytesLess ((rdOf ByteArray.empty x0 (wrap64 (x5 - 1))).toList) x1.toList) = true) then (if x5 < (x0.length : Int) then (if 0 ≤ x5 then (if (rdOf ByteArray.empty x0 x5).toList = x1.toList then (some x0) else ((some (([] : List ByteArray) : List ByteArray)).bind fun y115 => (if x5 ≤ (x0.length : Int) then ((some (x0.drop (x5 : Int).toNat : List ByteArray)).bind fun y118 => (if y115.length + y118.length < 8796093022208 then ((some (y115 ++ y118 : List ByteArray)).bind fun y122 => ((some (([] : List ByteArray) : List ByteArray)).bind fun y125 => ((some (x0.take (x5 : Int).toNat : List ByteArray)).bind fun y128 => (if y125.length + y128.length < 8796093022208 then ((some (y125 ++ y128 : List ByteArray)).bind fun y132 => (if y132.length < 8796093022208 then ((some (y132 ++ [x1] : List ByteArray)).bind fun y135 => (if y135.length + y122.length < 8796093022208 then (some (y135 ++ y122)) else (none))) else (none))) else (none))))) else (none))) else (none)))) else (none)) else ((some (([] : List ByteArray) : List ByteArray)).bind fun y141 => (if 0 ≤ x5 then (if x5 ≤ (x0.length : Int) then ((some (x0.drop (x5 : Int).toNat : List ByteArray)).bind fun y144 => (if y141.length + y144.length < 8796093022208 then ((some (y141 ++ y144 : List ByteArray)).bind fun y148 => ((some (([] : List ByteArray) : List ByteArray)).bind fun y151 => ((some (x0.take (x5 : Int).toNat : List ByteArray)).bind fun y154 => (if y151.length + y154.length < 8796093022208 then ((some (y151 ++ y154 : List ByteArray)).bind fun y158 => (if y158.length < 8796093022208 then ((some (y158 ++ [x1] : List ByteArray)).bind fun y161 => (if y161.length + y148.length < 8796093022208 then (some (y161 ++ y148)) else (none))) else (none))) else (none))))) else (none))) else (none)) else (none)))) else (spec_l18Insert.l0 k x0 x1 (wrap64 (x5 - 1)))) else (none)) else (none)) else (if x5 < (x0.length : Int) then (if 0 ≤ x5 then (if (rdOf ByteArray.empty x0 x5).toList = x1.toList then (some x0) else ((some (([] : List ByteArray) : List ByteArray)).bind fun y168 => (if x5 ≤ (x0.length : Int) then ((some (x0.drop (x5 : Int).toNat : List ByteArray)).bind fun y171 => (if y168.length + y171.length < 8796093022208 then ((some (y168 ++ y171 : List ByteArray)).bind fun y175 => ((some (([] : List ByteArray) : List ByteArray)).bind fun y178 => ((some (x0.take (x5 : Int).toNat : List ByteArray)).bind fun y181 => (if y178.length + y181.length < 8796093022208 then ((some (y178 ++ y181 : List ByteArray)).bind fun y185 => (if y185.length < 8796093022208 then ((some (y185 ++ [x1] : List ByteArray)).bind fun y188 => (if y188.length + y175.length < 8796093022208 then (some (y188 ++ y175)) else (none))) else (none))) else (none))))) else (none))) else (none)))) else (none)) else ((some (([] : List ByteArray) : List ByteArray)).bind fun y194 => (if 0 ≤ x5 then (if x5 ≤ (x0.length : Int) then ((some (x0.drop (x5 : Int).toNat : List ByteArray)).bind fun y197 => (if y194.length + y197.length < 8796093022208 then ((some (y194 ++ y197 : List ByteArray)).bind fun y201 => ((some (([] : List ByteArray) : List ByteArray)).bind fun y204 => ((some (x0.take (x5 : Int).toNat : List ByteArray)).bind fun y207 => (if y204.length + y207.length < 8796093022208 then ((some (y204 ++ y207 : List ByteArray)).bind fun y211 => (if y211.length < 8796093022208 then ((some (y211 ++ [x1] : List ByteArray)).bind fun y214 => (if y214.length + y201.length < 8796093022208 then (some (y214 ++ y201)) else (none))) else (none))) else (none))))) else (none))) else (none)) else (none))))
def spec_l18Insert.f (k : Nat) (l0 : List ByteArray) (a1 : ByteArray) : Option (List ByteArray) := spec_l18Insert.l0 k l0 a1 (l0.length : Int)
theorem spec_l18Insert.mono_l : ∀ k, (∀ y0 y1 y2, LeO (spec_l18Insert.l0 k y0 y1 y2) (spec_l18Insert.l0 (k + 1) y0 y1 y2))
  | 0 => fun _ _ _ r h => by simp [spec_l18Insert.l0] at h
  | k + 1 => by
    have ih0 := spec_l18Insert.mono_l k
    · intro y0 y1 y2
      unfold spec_l18Insert.l0
      repeat' first
      | (with_reducible exact ih0 _ _ _)
      | (with_reducible exact LeO.refl _)
      | (with_reducible exact LeO.none _)
      | (with_reducible refine LeO.ite ?_ ?_)
      | (with_reducible refine LeO.bind ?_ (fun _ => ?_))
      | exact ih0 _ _ _
      | exact LeO.none _
      | refine LeO.ite ?_ ?_
      | refine LeO.bind ?_ (fun _ => ?_)
theorem spec_l18Insert.mono : ∀ a0 a1 k, LeO (spec_l18Insert.f k a0 a1) (spec_l18Insert.f (k + 1) a0 a1) := by
  intro a0 a1 k
  have ih0 := spec_l18Insert.mono_l k
  unfold spec_l18Insert.f
  repeat' first
      | (with_reducible exact ih0 _ _ _)
      | (with_reducible exact LeO.refl _)
      | (with_reducible exact LeO.none _)
      | (with_reducible refine LeO.ite ?_ ?_)
      | (with_reducible refine LeO.bind ?_ (fun _ => ?_))
      | exact ih0 _ _ _
      | exact LeO.none _
      | refine LeO.ite ?_ ?_
      | refine LeO.bind ?_ (fun _ => ?_)
set_option maxHeartbeats 8000000 in
set_option maxRecDepth 100000 in
theorem spec_l18Insert.calls (k : Nat) (P0_ : Nat → Prop) (u9000_ : Value) (l0 : List ByteArray) (a1 : ByteArray) (r : List ByteArray) (w0 w : World) (hB : Below w0.heap.size w0 w) (ho0 : Kd.R Kd.string 9 w w0.heap.size P0_ u9000_ l0) (h : spec_l18Insert.f k l0 a1 = some r) :
    Calls Try.prog 41 #[u9000_, .string a1] w fun e w' => ∃ v0_ : Value, e = .returned (v0_) ∧ Kd.R Kd.string 9 w' w0.heap.size (fun k_ => (P0_ k_ ∨ w.heap.size ≤ k_)) v0_ r ∧ Below w0.heap.size w0 w' ∧ Kept w w' (fun k_ => P0_ k_) := by
  have HO0 := Aside0.mk (show Kd.R Kd.string 9 w w0.heap.size (fun k_ => (P0_ k_ ∨ w.heap.size ≤ k_)) u9000_ l0 from Kd.R_mono ho0 (fun k_ hk => (.inl hk)))
  have HK := Aside0.mk (Kept.refl w (fun k_ => P0_ k_))
  have HW0 := Aside0.mk hB.size
  have HB := Aside0.mk hB
  clear hB
  have H : (spec_l18Insert.l0 k l0 a1 (l0.length : Int)) = some r := h
  clear h
  have H' := Aside0.mk H
  clear H
  obtain ⟨Ao3, co3, eo3⟩ := Kd.R_slice HO0.out
  subst eo3
  go_enter Try.func41, Try.ntmps41
  go_wp2
  go_loopg [5] k (fun kq v5 w' => ∃ (x5_1 : Int), v5 = .int .i64 x5_1 ∧ Aside0 (spec_l18Insert.l0 kq l0 a1 x5_1 = some r) ∧ Aside0 (kq ≤ k) ∧ Aside0 (Kd.R Kd.string 9 w' w0.heap.size (fun k_ => (P0_ k_ ∨ w.heap.size ≤ k_)) (.slice Ao3 l0.length co3) l0) ∧ Aside0 (Kept w w' (fun k_ => P0_ k_)) ∧ Aside0 (Below w0.heap.size w0 w'))
  case atStart => exact ⟨((l0.length : Int)), (by first | rfl | (simp; done) | (simp [*]; done)), H', ⟨Nat.le_refl _⟩, ⟨by (with_reducible repeat (first | apply Kd.R_alloc | apply Kd.R_drewN | apply Kd.R_drew)); exact HO0.out⟩, ⟨by repeat (first | (with_reducible first | exact HK.out | apply Kept.alloc | apply Kept.drewN | apply Kept.drew) | exact HK.out)⟩, ⟨by repeat (first | (with_reducible first | exact HB.out | apply below_alloc | apply pw_below_drewN | apply below_drew1) | exact HB.out)⟩⟩
  case round =>
    clear H'
    try clear p2
    obtain ⟨x5_1, rfl, HA, HK1, HO_0, HK, HB⟩ := hrel
    cases gk with
    | zero => exact absurd HA.out (by simp [spec_l18Insert.l0])
    | succ k1 =>
      have H := HA.out
      clear HA
      simp only [spec_l18Insert.l0] at H
      by_cases c4 : x5_1 > 0
      · rw [if_pos c4] at H
        have c4b0 : decide (0 < x5_1) = true := decide_eq_true c4
        clear c4
        obtain ⟨ji5, hji5⟩ : ∃ j_ : Int, (wrap64 (x5_1 - 1)) = j_ := ⟨_, rfl⟩
        replace H : (if 0 ≤ (ji5) then (if (ji5) < (l0.length : Int) then (if ((Op.bytesLess ((rdOf ByteArray.empty l0 (ji5)).toList) a1.toList) = true) then (if x5_1 < (l0.length : Int) then (if 0 ≤ x5_1 then (if (rdOf ByteArray.empty l0 x5_1).toList = a1.toList then (some l0) else ((some (([] : List ByteArray) : List ByteArray)).bind fun y115 => (if x5_1 ≤ (l0.length : Int) then ((some (l0.drop (x5_1 : Int).toNat : List ByteArray)).bind fun y118 => (if y115.length + y118.length < 8796093022208 then ((some (y115 ++ y118 : List ByteArray)).bind fun y122 => ((some (([] : List ByteArray) : List ByteArray)).bind fun y125 => ((some (l0.take (x5_1 : Int).toNat : List ByteArray)).bind fun y128 => (if y125.length + y128.length < 8796093022208 then ((some (y125 ++ y128 : List ByteArray)).bind fun y132 => (if y132.length < 8796093022208 then ((some (y132 ++ [a1] : List ByteArray)).bind fun y135 => (if y135.length + y122.length < 8796093022208 then (some (y135 ++ y122)) else (none))) else (none))) else (none))))) else (none))) else (none)))) else (none)) else ((some (([] : List ByteArray) : List ByteArray)).bind fun y141 => (if 0 ≤ x5_1 then (if x5_1 ≤ (l0.length : Int) then ((some (l0.drop (x5_1 : Int).toNat : List ByteArray)).bind fun y144 => (if y141.length + y144.length < 8796093022208 then ((some (y141 ++ y144 : List ByteArray)).bind fun y148 => ((some (([] : List ByteArray) : List ByteArray)).bind fun y151 => ((some (l0.take (x5_1 : Int).toNat : List ByteArray)).bind fun y154 => (if y151.length + y154.length < 8796093022208 then ((some (y151 ++ y154 : List ByteArray)).bind fun y158 => (if y158.length < 8796093022208 then ((some (y158 ++ [a1] : List ByteArray)).bind fun y161 => (if y161.length + y148.length < 8796093022208 then (some (y161 ++ y148)) else (none))) else (none))) else (none))))) else (none))) else (none)) else (none)))) else (spec_l18Insert.l0 k1 l0 a1 ji5)) else (none)) else (none)) = some r := by first | (rw [hji5] at H; exact H) | (simp only [hji5] at H ⊢; exact H)
        have hji5w : (IntKind.i64.wrap (x5_1 - 1)) = ji5 := (i64_w _).trans hji5
        by_cases c6 : 0 ≤ (ji5)
        · rw [if_pos c6] at H
          have c6b0 : decide (0 ≤ (ji5)) = true := decide_eq_true c6
          clear c6
          by_cases c7 : (ji5) < (l0.length : Int)
          · rw [if_pos c7] at H
            have c7b0 : decide ((ji5) < (l0.length : Int)) = true := decide_eq_true c7
            clear c7
            by_cases c8 : ((Op.bytesLess ((rdOf ByteArray.empty l0 (ji5)).toList) a1.toList) = true)
            · rw [if_pos c8] at H
              have c8b0 : (Op.bytesLess ((rdOf ByteArray.empty l0 (ji5)).toList) a1.toList) = true := c8
              clear c8
              by_cases c9 : x5_1 < (l0.length : Int)
              · rw [if_pos c9] at H
                have c9b0 : decide (x5_1 < (l0.length : Int)) = true := decide_eq_true c9
                clear c9
                by_cases c10 : 0 ≤ x5_1
                · rw [if_pos c10] at H
                  have c10b0 : decide (0 ≤ x5_1) = true := decide_eq_true c10
                  clear c10
                  by_cases c11 : (rdOf ByteArray.empty l0 x5_1).toList = a1.toList
                  · rw [if_pos c11] at H
                    have c11b0 : ((rdOf ByteArray.empty l0 x5_1).toList == a1.toList) = true := beq_iff_eq.mpr c11
                    have c11b1 : ((rdOf ByteArray.empty l0 x5_1).toList != a1.toList) = false := bne_eq_false_iff_eq.mpr c11
                    clear c11
                    obtain rfl := Option.some.inj H
                    have p113 : 0 ≤ ((ji5) : Int) := of_decide_eq_true (by first | (with_reducible assumption) | assumption)
                    have q113 : (ji5) < (l0.length : Int) := of_decide_eq_true (by first | (with_reducible assumption) | assumption)
                    obtain ⟨ad113, e113, hx113_0⟩ := Kd.at_string (Kd.R_reads' HO_0.out).2.2 (ji5) p113 q113
                    cases e113
                    replace p113 := eq_true p113
                    replace q113 := eq_true q113
                    have p114 : 0 ≤ (x5_1 : Int) := of_decide_eq_true (by first | (with_reducible assumption) | assumption)
                    have q114 : x5_1 < (l0.length : Int) := of_decide_eq_true (by first | (with_reducible assumption) | assumption)
                    obtain ⟨ad114, e114, hx114_0⟩ := Kd.at_string (Kd.R_reads' HO_0.out).2.2 x5_1 p114 q114
                    obtain rfl : ad113 = ad114 := (by injection e114)
                    replace p114 := eq_true p114
                    replace q114 := eq_true q114
                    go_wp2
                    go_ret
                    exact ⟨_, by first | rfl | (simp [errW_none, errW_some] <;> rfl) | (simp only [← hji5]; first | rfl | (simp [errW_none, errW_some] <;> rfl)) | (simp [*, errW_none, errW_some] <;> rfl), by (with_reducible repeat (first | apply Kd.R_alloc | apply Kd.R_drewN | apply Kd.R_drew)); exact HO_0.out, by repeat (first | (with_reducible first | exact HB.out | apply below_alloc | apply pw_below_drewN | apply below_drew1) | exact HB.out), by repeat (first | (with_reducible first | exact HK.out | apply Kept.alloc | apply Kept.drewN | apply Kept.drew) | exact HK.out)⟩
                  · rw [if_neg c11] at H
                    have c11b0 : ((rdOf ByteArray.empty l0 x5_1).toList == a1.toList) = false := beq_eq_false_iff_ne.mpr c11
                    have c11b1 : ((rdOf ByteArray.empty l0 x5_1).toList != a1.toList) = true := bne_iff_ne.mpr c11
                    obtain ⟨y115, hy115⟩ : ∃ y_ : List ByteArray, y_ = (([] : List ByteArray)) := ⟨_, rfl⟩
                    replace H : (if x5_1 ≤ (l0.length : Int) then ((some (l0.drop (x5_1 : Int).toNat : List ByteArray)).bind fun y118 => (if y115.length + y118.length < 8796093022208 then ((some (y115 ++ y118 : List ByteArray)).bind fun y122 => ((some (([] : List ByteArray) : List ByteArray)).bind fun y125 => ((some (l0.take (x5_1 : Int).toNat : List ByteArray)).bind fun y128 => (if y125.length + y128.length < 8796093022208 then ((some (y125 ++ y128 : List ByteArray)).bind fun y132 => (if y132.length < 8796093022208 then ((some (y132 ++ [a1] : List ByteArray)).bind fun y135 => (if y135.length + y122.length < 8796093022208 then (some (y135 ++ y122)) else (none))) else (none))) else (none))))) else (none))) else (none)) = some r := by first | (rw [hy115]; with_reducible exact H) | (have H2_ := (Option.bind_some _ _).symm.trans H; rw [hy115]; with_reducible exact H2_) | (have H2_ := (Option.bind_some _ _).symm.trans H; with_reducible exact H2_) | with_reducible exact H | (rw [hy115]; exact H) | exact H
                    have Ny115 := Aside0.mk hy115
                    clear hy115
                    have c12b0 := eq_true (of_decide_eq_true (by first | (with_reducible assumption) | assumption) : 0 ≤ x5_1)
                    by_cases c13 : x5_1 ≤ (l0.length : Int)
                    · rw [if_pos c13] at H
                      have c13b0 := eq_true c13
                      have c13b1 : decide (x5_1 ≤ (l0.length : Int)) = true := decide_eq_true c13
                      clear c13
                      obtain ⟨y118, hy118⟩ : ∃ y_ : List ByteArray, y_ = (l0.drop (x5_1 : Int).toNat) := ⟨_, rfl⟩
                      replace H : (if y115.length + y118.length < 8796093022208 then ((some (y115 ++ y118 : List ByteArray)).bind fun y122 => ((some (([] : List ByteArray) : List ByteArray)).bind fun y125 => ((some (l0.take (x5_1 : Int).toNat : List ByteArray)).bind fun y128 => (if y125.length + y128.length < 8796093022208 then ((some (y125 ++ y128 : List ByteArray)).bind fun y132 => (if y132.length < 8796093022208 then ((some (y132 ++ [a1] : List ByteArray)).bind fun y135 => (if y135.length + y122.length < 8796093022208 then (some (y135 ++ y122)) else (none))) else (none))) else (none))))) else (none)) = some r := by first | (rw [hy118]; with_reducible exact H) | (have H2_ := (Option.bind_some _ _).symm.trans H; rw [hy118]; with_reducible exact H2_) | (have H2_ := (Option.bind_some _ _).symm.trans H; with_reducible exact H2_) | with_reducible exact H | (rw [hy118]; exact H) | exact H
                      have Ny118 := Aside0.mk hy118
                      clear hy118
                      by_cases c14 : y115.length + y118.length < 8796093022208
                      · rw [if_pos c14] at H
                        have LMc14 := Aside0.mk c14
                        clear c14
                        obtain ⟨y122, hy122⟩ : ∃ y_ : List ByteArray, y_ = (y115 ++ y118) := ⟨_, rfl⟩
                        replace H : ((some (([] : List ByteArray) : List ByteArray)).bind fun y125 => ((some (l0.take (x5_1 : Int).toNat : List ByteArray)).bind fun y128 => (if y125.length + y128.length < 8796093022208 then ((some (y125 ++ y128 : List ByteArray)).bind fun y132 => (if y132.length < 8796093022208 then ((some (y132 ++ [a1] : List ByteArray)).bind fun y135 => (if y135.length + y122.length < 8796093022208 then (some (y135 ++ y122)) else (none))) else (none))) else (none)))) = some r := by first | (rw [hy122]; with_reducible exact H) | (have H2_ := (Option.bind_some _ _).symm.trans H; rw [hy122]; with_reducible exact H2_) | (have H2_ := (Option.bind_some _ _).symm.trans H; with_reducible exact H2_) | with_reducible exact H | (rw [hy122]; exact H) | exact H
                        have Ny122 := Aside0.mk hy122
                        clear hy122
                        obtain ⟨y125, hy125⟩ : ∃ y_ : List ByteArray, y_ = (([] : List ByteArray)) := ⟨_, rfl⟩
                        replace H : ((some (l0.take (x5_1 : Int).toNat : List ByteArray)).bind fun y128 => (if y125.length + y128.length < 8796093022208 then ((some (y125 ++ y128 : List ByteArray)).bind fun y132 => (if y132.length < 8796093022208 then ((some (y132 ++ [a1] : List ByteArray)).bind fun y135 => (if y135.length + y122.length < 8796093022208 then (some (y135 ++ y122)) else (none))) else (none))) else (none))) = some r := by first | (rw [hy125]; with_reducible exact H) | (have H2_ := (Option.bind_some _ _).symm.trans H; rw [hy125]; with_reducible exact H2_) | (have H2_ := (Option.bind_some _ _).symm.trans H; with_reducible exact H2_) | with_reducible exact H | (rw [hy125]; exact H) | exact H
                        have Ny125 := Aside0.mk hy125
                        clear hy125
                        have c15b0 := eq_true (of_decide_eq_true (by first | (with_reducible assumption) | assumption) : 0 ≤ x5_1)
                        have c16b0 := eq_true (of_decide_eq_true (by first | (with_reducible assumption) | assumption) : x5_1 ≤ (l0.length : Int))
                        obtain ⟨y128, hy128⟩ : ∃ y_ : List ByteArray, y_ = (l0.take (x5_1 : Int).toNat) := ⟨_, rfl⟩
                        replace H : (if y125.length + y128.length < 8796093022208 then ((some (y125 ++ y128 : List ByteArray)).bind fun y132 => (if y132.length < 8796093022208 then ((some (y132 ++ [a1] : List ByteArray)).bind fun y135 => (if y135.length + y122.length < 8796093022208 then (some (y135 ++ y122)) else (none))) else (none))) else (none)) = some r := by first | (rw [hy128]; with_reducible exact H) | (have H2_ := (Option.bind_some _ _).symm.trans H; rw [hy128]; with_reducible exact H2_) | (have H2_ := (Option.bind_some _ _).symm.trans H; with_reducible exact H2_) | with_reducible exact H | (rw [hy128]; exact H) | exact H
                        have Ny128 := Aside0.mk hy128
                        clear hy128
                        by_cases c17 : y125.length + y128.length < 8796093022208
                        · rw [if_pos c17] at H
                          have LMc17 := Aside0.mk c17
                          clear c17
                          obtain ⟨y132, hy132⟩ : ∃ y_ : List ByteArray, y_ = (y125 ++ y128) := ⟨_, rfl⟩
                          replace H : (if y132.length < 8796093022208 then ((some (y132 ++ [a1] : List ByteArray)).bind fun y135 => (if y135.length + y122.length < 8796093022208 then (some (y135 ++ y122)) else (none))) else (none)) = some r := by first | (rw [hy132]; with_reducible exact H) | (have H2_ := (Option.bind_some _ _).symm.trans H; rw [hy132]; with_reducible exact H2_) | (have H2_ := (Option.bind_some _ _).symm.trans H; with_reducible exact H2_) | with_reducible exact H | (rw [hy132]; exact H) | exact H
                          have Ny132 := Aside0.mk hy132
                          clear hy132
                          by_cases c18 : y132.length < 8796093022208
                          · rw [if_pos c18] at H
                            have LMc18 := Aside0.mk c18
                            clear c18
                            obtain ⟨y135, hy135⟩ : ∃ y_ : List ByteArray, y_ = (y132 ++ [a1]) := ⟨_, rfl⟩
                            replace H : (if y135.length + y122.length < 8796093022208 then (some (y135 ++ y122)) else (none)) = some r := by first | (rw [hy135]; with_reducible exact H) | (have H2_ := (Option.bind_some _ _).symm.trans H; rw [hy135]; with_reducible exact H2_) | (have H2_ := (Option.bind_some _ _).symm.trans H; with_reducible exact H2_) | with_reducible exact H | (rw [hy135]; exact H) | exact H
                            have Ny135 := Aside0.mk hy135
                            clear hy135
                            by_cases c19 : y135.length + y122.length < 8796093022208
                            · rw [if_pos c19] at H
                              have LMc19 := Aside0.mk c19
                              clear c19
                              obtain ⟨y138, hy138⟩ : ∃ y_ : List ByteArray, y_ = (y135 ++ y122) := ⟨_, rfl⟩
                              replace H : (some y138) = some r := by first | (rw [hy138]; with_reducible exact H) | (have H2_ := (Option.bind_some _ _).symm.trans H; rw [hy138]; with_reducible exact H2_) | (have H2_ := (Option.bind_some _ _).symm.trans H; with_reducible exact H2_) | with_reducible exact H | (rw [hy138]; exact H) | exact H
                              have Ny138 := Aside0.mk hy138
                              clear hy138
                              obtain rfl := Option.some.inj H
                              have p113 : 0 ≤ ((ji5) : Int) := of_decide_eq_true (by first | (with_reducible assumption) | assumption)
                              have q113 : (ji5) < (l0.length : Int) := of_decide_eq_true (by first | (with_reducible assumption) | assumption)
                              obtain ⟨ad113, e113, hx113_0⟩ := Kd.at_string (Kd.R_reads' HO_0.out).2.2 (ji5) p113 q113
                              cases e113
                              replace p113 := eq_true p113
                              replace q113 := eq_true q113
                              have p114 : 0 ≤ (x5_1 : Int) := of_decide_eq_true (by first | (with_reducible assumption) | assumption)
                              have q114 : x5_1 < (l0.length : Int) := of_decide_eq_true (by first | (with_reducible assumption) | assumption)
                              obtain ⟨ad114, e114, hx114_0⟩ := Kd.at_string (Kd.R_reads' HO_0.out).2.2 x5_1 p114 q114
                              obtain rfl : ad113 = ad114 := (by injection e114)
                              replace p114 := eq_true p114
                              replace q114 := eq_true q114
                              go_wp2_with (first | ((with_reducible refine gate_dst (N := 35) rfl ?_); refine Kd.R_lit Kd.string _ 9 ?hg (N := 35) ?hd (xs := ([] : List ByteArray)) (inner := []) (ok := fun _ => True) (okp := fun _ => True) ?hr ?hp (fun _ hk => hk) trivial (Below.refl _ _) (Nat.le_refl _) (by simp) ?_; (case hd => rfl); (case hg => rfl); (case hr => first | (go_simp; done) | (go_simp; rfl) | (simp only [i64_w]; first | (go_simp; done) | (go_simp; rfl))); (case hp => exact (Reps.none _ _)); intro v116 w20 ho21 hb hg_ hnew_; clear hg_ hnew_; (first | rw [← Ny115.out] at ho21 | (simp only [Int.reduceToNat] at ho21; rw [← Ny115.out] at ho21)); have n0_ := Aside0.mk (Kd.R_elder' (by (with_reducible repeat (first | apply Kd.R_alloc | apply Kd.R_drewN | apply Kd.R_drew)); exact HO_0.out) (Kd.R_base ho21) hb); have n1_ := Aside0.mk (Kd.R_lower (Kd.R_new' (Kd.R_newM (M := fun k_ => (P0_ k_ ∨ w.heap.size ≤ k_)) ho21 (by first | exact HK.out.1 | exact (show Kept w _ (fun k_ => P0_ k_) from by repeat (first | (with_reducible first | exact HK.out | apply Kept.alloc | apply Kept.drewN | apply Kept.drew) | exact HK.out)).1) (fun k_ h_ => .inr h_)) (Kd.R_lt (by (with_reducible repeat (first | apply Kd.R_alloc | apply Kd.R_drewN | apply Kd.R_drew)); exact HO_0.out))) (below_size (by repeat (first | (with_reducible first | exact HB.out | apply below_alloc | apply pw_below_drewN | apply below_drew1) | exact HB.out)))); have n2_ := Aside0.mk (Kept.below (S := (fun k_ => P0_ k_)) (by repeat (first | (with_reducible first | exact HK.out | apply Kept.alloc | apply Kept.drewN | apply Kept.drew) | exact HK.out)) hb); have n3_ := Aside0.mk (below_step (by repeat (first | (with_reducible first | exact HB.out | apply below_alloc | apply pw_below_drewN | apply below_drew1) | exact HB.out)) hb); clear HO_0; clear HK; clear HB; have HO_0 := n0_; have HO117 := n1_; have HK := n2_; have HB := n3_; clear n0_ n1_ n2_ n3_; clear hb ho21; have q22 : (x5_1 : Int) ≤ ((l0.length : Int) : Int) := of_decide_eq_true (by first | (with_reducible assumption) | assumption); obtain ⟨i022, hi022, _, hsz22, _⟩ := info_parts info9; have hroom22 : l0.length ≤ co3 := (Kd.R_reads' HO_0.out).2.1; have hC22 : Kd.C Kd.string _ (some ad113) l0.length l0 := (Kd.R_reads' HO_0.out).2.2; have q022 : (0 : Int) ≤ (x5_1 : Int) := of_decide_eq_true (by first | (with_reducible assumption) | assumption); have hcut22 := cut_from (P := Try.prog) 29 9 .i64 Try.underlying29 hi022 1 hsz22 (some ad113) l0.length co3 x5_1 q022 q22; have hr22 := Kd.C_drop (m := (x5_1 : Int).toNat) (c := co3) hC22 (by omega) hroom22; obtain ⟨A22, hA22⟩ : ∃ A1, A1 = (if co3 = (x5_1 : Int).toNat then (some ad113) else ((some ad113) : Option Addr).map (·.add ((x5_1 : Int).toNat * 1))) := ⟨_, rfl⟩; obtain ⟨c22, hc22⟩ : ∃ c1, c1 = co3 - (x5_1 : Int).toNat := ⟨_, rfl⟩; have hy22 : y118.length = l0.length - (x5_1 : Int).toNat := (by rw [Ny118.out, List.length_drop] <;> omega); rw [show (l0).drop (x5_1 : Int).toNat = y118 from Ny118.out.symm] at hr22; replace hr22 : Kd.C Kd.string _ A22 y118.length y118 := (by rw [hA22]; exact hr22); rw [← hy22, ← hA22, ← hc22] at hcut22; have HR121 := Aside0.mk hr22; have HC121 := Aside0.mk (show y118.length ≤ c22 from by rw [hy22, hc22]; exact Nat.sub_le_sub_right hroom22 _); clear hr22 hC22 hroom22 hi022 hsz22 hc22; have KY22 := Aside0.mk hy22; have KA22 := Aside0.mk hA22; clear hy22 hA22; have KL22 := Aside0.mk (show (x5_1 : Int).toNat ≤ l0.length from by omega); replace q22 := eq_true q22) | ((with_reducible refine gate_builtin (b := .append) (xs := #[.tmp 35, .tmp 38]) rfl ?_); at_builtin; refine Kd.R_append_rows Kd.string (w0 := w0) w0.heap.size rfl (.tmp 35) (.tmp 38) 29 9 (.string ⟨#[]⟩) 16 rfl Try.underlying29 info9 rfl (by decide) (by omega) v116 y115 y118 _ _ _ (fun k_ => (P0_ k_ ∨ w.heap.size ≤ k_) ∧ some k_ ≠ (.slice (some ad113) l0.length co3 : Value).ownBlock) (fun _ => False) rfl rfl ?aO ?aR (fun _ _ h => h) (fun _ h => h.elim) ?aF ?aB ?aS ?aL ?_; (case aR => repeat (first | exact (by repeat (first | (with_reducible exact HR121.out) | (with_reducible refine Kd.C_alloc ?_ _) | (with_reducible refine Kd.C_drewN ?_ _) | (with_reducible refine Kd.C_drew ?_) | exact HR121.out)) | (with_reducible refine Kd.C_alloc ?_ _) | (with_reducible refine Kd.C_drewN ?_ _) | (with_reducible refine Kd.C_drew ?_))); (case aB => exact (by repeat (first | (with_reducible first | exact HB.out | apply below_alloc | apply pw_below_drewN | apply below_drew1) | exact HB.out))); (case aF => exact (fun k_ hk => ⟨(.inr (Nat.le_trans (by first | exact HK.out.1 | exact (show Kept w _ (fun k_ => P0_ k_) from by repeat (first | (with_reducible first | exact HK.out | apply Kept.alloc | apply Kept.drewN | apply Kept.drew) | exact HK.out)).1) hk)), Kd.fresh' (Kd.R_lt (by (with_reducible repeat (first | apply Kd.R_alloc | apply Kd.R_drewN | apply Kd.R_drew)); exact HO_0.out)) k_ hk⟩)); (case aO => exact (by (with_reducible repeat (first | apply Kd.R_alloc | apply Kd.R_drewN | apply Kd.R_drew)); exact Kd.R_mono HO117.out (fun _ hk => ⟨hk.1.1, hk.2⟩))); (case aS => exact (below_size (by repeat (first | (with_reducible first | exact HB.out | apply below_alloc | apply pw_below_drewN | apply below_drew1) | exact HB.out)))); (case aL => have := LMc14.out; omega); intro v123 w23 ho hb hg hat; rw [← Ny122.out] at ho; have n0_ := Aside0.mk (Kd.R_after (ok := (fun k_ => (P0_ k_ ∨ w.heap.size ≤ k_))) (by (with_reducible repeat (first | apply Kd.R_alloc | apply Kd.R_drewN | apply Kd.R_drew)); exact HO_0.out) hg hat); have n1_ := Aside0.mk (hb); have n2_ := Aside0.mk (Kept.of_grown (S := (fun k_ => P0_ k_)) hg (by repeat (first | (with_reducible first | exact HK.out | apply Kept.alloc | apply Kept.drewN | apply Kept.drew) | exact HK.out)) (fun k_ e_ => (HO117.out.1 k_ e_).1.1)); have n3_ := Aside0.mk ((show Kd.C Kd.string w23 A22 y118.length y118 from by rw [Ny118.out, KA22.out]; exact Kd.C_drop (m := (x5_1 : Int).toNat) (c := co3) ((Kd.R_reads' (Kd.R_after (ok := (fun k_ => (P0_ k_ ∨ w.heap.size ≤ k_))) (by (with_reducible repeat (first | apply Kd.R_alloc | apply Kd.R_drewN | apply Kd.R_drew)); exact HO_0.out) hg hat)).2.2) KL22.out ((Kd.R_reads' (Kd.R_after (ok := (fun k_ => (P0_ k_ ∨ w.heap.size ≤ k_))) (by (with_reducible repeat (first | apply Kd.R_alloc | apply Kd.R_drewN | apply Kd.R_drew)); exact HO_0.out) hg hat)).2.1))); have n4_ := Aside0.mk (ho); clear HO_0; clear HB; clear HK; clear HR121; clear HO117; have HO_0 := n0_; have HB := n1_; have HK := n2_; have HR121 := n3_; have HO124 := n4_; clear n0_ n1_ n2_ n3_ n4_; clear ho hb hg hat) | ((with_reducible refine gate_dst (N := 40) rfl ?_); refine Kd.R_lit Kd.string _ 9 ?hg (N := 40) ?hd (xs := ([] : List ByteArray)) (inner := []) (ok := fun _ => True) (okp := fun _ => True) ?hr ?hp (fun _ hk => hk) trivial (Below.refl _ _) (Nat.le_refl _) (by simp) ?_; (case hd => rfl); (case hg => rfl); (case hr => first | (go_simp; done) | (go_simp; rfl) | (simp only [i64_w]; first | (go_simp; done) | (go_simp; rfl))); (case hp => exact (Reps.none _ _)); intro v126 w24 ho25 hb hg_ hnew_; clear hg_ hnew_; (first | rw [← Ny125.out] at ho25 | (simp only [Int.reduceToNat] at ho25; rw [← Ny125.out] at ho25)); have n0_ := Aside0.mk (Kd.R_elder' (by (with_reducible repeat (first | apply Kd.R_alloc | apply Kd.R_drewN | apply Kd.R_drew)); exact HO_0.out) (Kd.R_base ho25) hb); have n1_ := Aside0.mk (Kd.R_elder' (by (with_reducible repeat (first | apply Kd.R_alloc | apply Kd.R_drewN | apply Kd.R_drew)); exact HO124.out) (Kd.R_base ho25) hb); have n2_ := Aside0.mk (Kd.R_lower (Kd.R_new' (Kd.R_new' (Kd.R_newM (M := fun k_ => (P0_ k_ ∨ w.heap.size ≤ k_)) ho25 (by first | exact HK.out.1 | exact (show Kept w _ (fun k_ => P0_ k_) from by repeat (first | (with_reducible first | exact HK.out | apply Kept.alloc | apply Kept.drewN | apply Kept.drew) | exact HK.out)).1) (fun k_ h_ => .inr h_)) (Kd.R_lt (by (with_reducible repeat (first | apply Kd.R_alloc | apply Kd.R_drewN | apply Kd.R_drew)); exact HO_0.out))) (Kd.R_lt (by (with_reducible repeat (first | apply Kd.R_alloc | apply Kd.R_drewN | apply Kd.R_drew)); exact HO124.out))) (below_size (by repeat (first | (with_reducible first | exact HB.out | apply below_alloc | apply pw_below_drewN | apply below_drew1) | exact HB.out)))); have n3_ := Aside0.mk (Kd.C_below (by repeat (first | (with_reducible exact HR121.out) | (with_reducible refine Kd.C_alloc ?_ _) | (with_reducible refine Kd.C_drewN ?_ _) | (with_reducible refine Kd.C_drew ?_) | exact HR121.out)) hb); have n4_ := Aside0.mk (Kept.below (S := (fun k_ => P0_ k_)) (by repeat (first | (with_reducible first | exact HK.out | apply Kept.alloc | apply Kept.drewN | apply Kept.drew) | exact HK.out)) hb); have n5_ := Aside0.mk (below_step (by repeat (first | (with_reducible first | exact HB.out | apply below_alloc | apply pw_below_drewN | apply below_drew1) | exact HB.out)) hb); clear HO_0; clear HO124; clear HR121; clear HK; clear HB; have HO_0 := n0_; have HO124 := n1_; have HO127 := n2_; have HR121 := n3_; have HK := n4_; have HB := n5_; clear n0_ n1_ n2_ n3_ n4_ n5_; clear hb ho25; have q26 : (x5_1 : Int) ≤ ((l0.length : Int) : Int) := of_decide_eq_true (by first | (with_reducible assumption) | assumption); obtain ⟨i026, hi026, _, hsz26, _⟩ := info_parts info9; have hroom26 : l0.length ≤ co3 := (Kd.R_reads' HO_0.out).2.1; have hC26 : Kd.C Kd.string _ (some ad113) l0.length l0 := (Kd.R_reads' HO_0.out).2.2; have hcut26 := cut_to (P := Try.prog) 29 9 .i64 Try.underlying29 hi026 (some ad113) l0.length co3 x5_1 (of_decide_eq_true (by first | (with_reducible assumption) | assumption)) q26 hroom26; have hr26 := Kd.C_take (m := (x5_1 : Int).toNat) hC26 (by omega); have hy26 : y128.length = (x5_1 : Int).toNat := (by rw [Ny128.out, List.length_take]; omega); rw [← Ny128.out] at hr26; rw [← hy26] at hcut26; have HR131 := Aside0.mk hr26; have HC131 := Aside0.mk (show y128.length ≤ co3 from by omega); clear hr26 hC26 hroom26 hi026 hsz26; have KY26 := Aside0.mk hy26; clear hy26; have KL26 := Aside0.mk (show (x5_1 : Int).toNat ≤ l0.length from by omega); replace q26 := eq_true q26) | ((with_reducible refine gate_builtin (b := .append) (xs := #[.tmp 40, .tmp 43]) rfl ?_); at_builtin; refine Kd.R_append_rows Kd.string (w0 := w0) w0.heap.size rfl (.tmp 40) (.tmp 43) 29 9 (.string ⟨#[]⟩) 16 rfl Try.underlying29 info9 rfl (by decide) (by omega) v126 y125 y128 _ _ _ (fun k_ => (P0_ k_ ∨ w.heap.size ≤ k_) ∧ some k_ ≠ (.slice (some ad113) l0.length co3 : Value).ownBlock ∧ some k_ ≠ (v123 : Value).ownBlock) (fun _ => False) rfl rfl ?aO ?aR (fun _ _ h => h) (fun _ h => h.elim) ?aF ?aB ?aS ?aL ?_; (case aR => repeat (first | exact (by repeat (first | (with_reducible exact HR131.out) | (with_reducible refine Kd.C_alloc ?_ _) | (with_reducible refine Kd.C_drewN ?_ _) | (with_reducible refine Kd.C_drew ?_) | exact HR131.out)) | (with_reducible refine Kd.C_alloc ?_ _) | (with_reducible refine Kd.C_drewN ?_ _) | (with_reducible refine Kd.C_drew ?_))); (case aB => exact (by repeat (first | (with_reducible first | exact HB.out | apply below_alloc | apply pw_below_drewN | apply below_drew1) | exact HB.out))); (case aF => exact (fun k_ hk => ⟨(.inr (Nat.le_trans (by first | exact HK.out.1 | exact (show Kept w _ (fun k_ => P0_ k_) from by repeat (first | (with_reducible first | exact HK.out | apply Kept.alloc | apply Kept.drewN | apply Kept.drew) | exact HK.out)).1) hk)), Kd.fresh' (Kd.R_lt (by (with_reducible repeat (first | apply Kd.R_alloc | apply Kd.R_drewN | apply Kd.R_drew)); exact HO_0.out)) k_ hk, Kd.fresh' (Kd.R_lt (by (with_reducible repeat (first | apply Kd.R_alloc | apply Kd.R_drewN | apply Kd.R_drew)); exact HO124.out)) k_ hk⟩)); (case aO => exact (by (with_reducible repeat (first | apply Kd.R_alloc | apply Kd.R_drewN | apply Kd.R_drew)); exact Kd.R_mono HO127.out (fun _ hk => ⟨hk.1.1.1, ⟨hk.1.2, hk.2⟩⟩))); (case aS => exact (below_size (by repeat (first | (with_reducible first | exact HB.out | apply below_alloc | apply pw_below_drewN | apply below_drew1) | exact HB.out)))); (case aL => have := LMc17.out; omega); intro v133 w27 ho hb hg hat; rw [← Ny132.out] at ho; have n0_ := Aside0.mk (Kd.R_after (ok := (fun k_ => (P0_ k_ ∨ w.heap.size ≤ k_) ∧ some k_ ≠ (v123 : Value).ownBlock)) (by (with_reducible repeat (first | apply Kd.R_alloc | apply Kd.R_drewN | apply Kd.R_drew)); exact HO_0.out) hg hat); have n1_ := Aside0.mk (Kd.R_after (ok := (fun k_ => (P0_ k_ ∨ w.heap.size ≤ k_) ∧ some k_ ≠ (.slice (some ad113) l0.length co3 : Value).ownBlock)) (by (with_reducible repeat (first | apply Kd.R_alloc | apply Kd.R_drewN | apply Kd.R_drew)); exact HO124.out) hg hat); have n2_ := Aside0.mk (hb); have n3_ := Aside0.mk (Kept.of_grown (S := (fun k_ => P0_ k_)) hg (by repeat (first | (with_reducible first | exact HK.out | apply Kept.alloc | apply Kept.drewN | apply Kept.drew) | exact HK.out)) (fun k_ e_ => (HO127.out.1 k_ e_).1.1.1)); have n4_ := Aside0.mk ((show Kd.C Kd.string w27 A22 y118.length y118 from by rw [Ny118.out, KA22.out]; exact Kd.C_drop (m := (x5_1 : Int).toNat) (c := co3) ((Kd.R_reads' (Kd.R_after (ok := (fun k_ => (P0_ k_ ∨ w.heap.size ≤ k_) ∧ some k_ ≠ (v123 : Value).ownBlock)) (by (with_reducible repeat (first | apply Kd.R_alloc | apply Kd.R_drewN | apply Kd.R_drew)); exact HO_0.out) hg hat)).2.2) KL22.out ((Kd.R_reads' (Kd.R_after (ok := (fun k_ => (P0_ k_ ∨ w.heap.size ≤ k_) ∧ some k_ ≠ (v123 : Value).ownBlock)) (by (with_reducible repeat (first | apply Kd.R_alloc | apply Kd.R_drewN | apply Kd.R_drew)); exact HO_0.out) hg hat)).2.1))); have n5_ := Aside0.mk ((show Kd.C Kd.string w27 (some ad113) y128.length y128 from by rw [Ny128.out]; exact Kd.C_take (m := (x5_1 : Int).toNat) ((Kd.R_reads' (Kd.R_after (ok := (fun k_ => (P0_ k_ ∨ w.heap.size ≤ k_) ∧ some k_ ≠ (v123 : Value).ownBlock)) (by (with_reducible repeat (first | apply Kd.R_alloc | apply Kd.R_drewN | apply Kd.R_drew)); exact HO_0.out) hg hat)).2.2) KL26.out)); have n6_ := Aside0.mk (ho); clear HO_0; clear HO124; clear HB; clear HK; clear HR121; clear HR131; clear HO127; have HO_0 := n0_; have HO124 := n1_; have HB := n2_; have HK := n3_; have HR121 := n4_; have HR131 := n5_; have HO134 := n6_; clear n0_ n1_ n2_ n3_ n4_ n5_ n6_; clear ho hb hg hat) | ((with_reducible refine gate_builtin (b := .append) (xs := #[.tmp 44, .tmp 46]) rfl ?_); at_builtin; refine Kd.R_append Kd.string (w0 := w0) w0.heap.size rfl (.tmp 44) (.tmp 46) 29 9 (.string ⟨#[]⟩) 16 rfl Try.underlying29 info9 rfl (by decide) (by omega) v133 y132 a1 [.string a1] (fun k_ => (P0_ k_ ∨ w.heap.size ≤ k_) ∧ some k_ ≠ (.slice (some ad113) l0.length co3 : Value).ownBlock ∧ some k_ ≠ (v123 : Value).ownBlock) (fun _ => False) rfl rfl ?aP (fun _ hk => hk.elim) ?aF ?aO ?aB ?aS ?aL ?_; (case aP => exact rfl); (case aB => exact (by repeat (first | (with_reducible first | exact HB.out | apply below_alloc | apply pw_below_drewN | apply below_drew1) | exact HB.out))); (case aF => exact (fun k_ hk => ⟨(.inr (Nat.le_trans (by first | exact HK.out.1 | exact (show Kept w _ (fun k_ => P0_ k_) from by repeat (first | (with_reducible first | exact HK.out | apply Kept.alloc | apply Kept.drewN | apply Kept.drew) | exact HK.out)).1) hk)), Kd.fresh' (Kd.R_lt (by (with_reducible repeat (first | apply Kd.R_alloc | apply Kd.R_drewN | apply Kd.R_drew)); exact HO_0.out)) k_ hk, Kd.fresh' (Kd.R_lt (by (with_reducible repeat (first | apply Kd.R_alloc | apply Kd.R_drewN | apply Kd.R_drew)); exact HO124.out)) k_ hk⟩)); (case aO => exact (by (with_reducible repeat (first | apply Kd.R_alloc | apply Kd.R_drewN | apply Kd.R_drew)); exact HO134.out)); (case aS => exact (below_size (by repeat (first | (with_reducible first | exact HB.out | apply below_alloc | apply pw_below_drewN | apply below_drew1) | exact HB.out)))); (case aL => have := LMc18.out; omega); intro v136 w28 ho hb hg hat; rw [← Ny135.out] at ho; have n0_ := Aside0.mk (Kd.R_after (ok := (fun k_ => (P0_ k_ ∨ w.heap.size ≤ k_) ∧ some k_ ≠ (v123 : Value).ownBlock)) (by (with_reducible repeat (first | apply Kd.R_alloc | apply Kd.R_drewN | apply Kd.R_drew)); exact HO_0.out) hg hat); have n1_ := Aside0.mk (Kd.R_after (ok := (fun k_ => (P0_ k_ ∨ w.heap.size ≤ k_) ∧ some k_ ≠ (.slice (some ad113) l0.length co3 : Value).ownBlock)) (by (with_reducible repeat (first | apply Kd.R_alloc | apply Kd.R_drewN | apply Kd.R_drew)); exact HO124.out) hg hat); have n2_ := Aside0.mk (hb); have n3_ := Aside0.mk (Kept.of_grown (S := (fun k_ => P0_ k_)) hg (by repeat (first | (with_reducible first | exact HK.out | apply Kept.alloc | apply Kept.drewN | apply Kept.drew) | exact HK.out)) (fun k_ e_ => (HO134.out.1 k_ e_).1)); have n4_ := Aside0.mk ((show Kd.C Kd.string w28 A22 y118.length y118 from by rw [Ny118.out, KA22.out]; exact Kd.C_drop (m := (x5_1 : Int).toNat) (c := co3) ((Kd.R_reads' (Kd.R_after (ok := (fun k_ => (P0_ k_ ∨ w.heap.size ≤ k_) ∧ some k_ ≠ (v123 : Value).ownBlock)) (by (with_reducible repeat (first | apply Kd.R_alloc | apply Kd.R_drewN | apply Kd.R_drew)); exact HO_0.out) hg hat)).2.2) KL22.out ((Kd.R_reads' (Kd.R_after (ok := (fun k_ => (P0_ k_ ∨ w.heap.size ≤ k_) ∧ some k_ ≠ (v123 : Value).ownBlock)) (by (with_reducible repeat (first | apply Kd.R_alloc | apply Kd.R_drewN | apply Kd.R_drew)); exact HO_0.out) hg hat)).2.1))); have n5_ := Aside0.mk ((show Kd.C Kd.string w28 (some ad113) y128.length y128 from by rw [Ny128.out]; exact Kd.C_take (m := (x5_1 : Int).toNat) ((Kd.R_reads' (Kd.R_after (ok := (fun k_ => (P0_ k_ ∨ w.heap.size ≤ k_) ∧ some k_ ≠ (v123 : Value).ownBlock)) (by (with_reducible repeat (first | apply Kd.R_alloc | apply Kd.R_drewN | apply Kd.R_drew)); exact HO_0.out) hg hat)).2.2) KL26.out)); have n6_ := Aside0.mk (ho); clear HO_0; clear HO124; clear HB; clear HK; clear HR121; clear HR131; clear HO134; have HO_0 := n0_; have HO124 := n1_; have HB := n2_; have HK := n3_; have HR121 := n4_; have HR131 := n5_; have HO137 := n6_; clear n0_ n1_ n2_ n3_ n4_ n5_ n6_; clear ho hb hg hat; obtain ⟨Ao30, co30, eo30⟩ := Kd.R_slice HO124.out; subst eo30) | ((with_reducible refine gate_builtin (b := .append) (xs := #[.tmp 47, .tmp 48]) rfl ?_); at_builtin; refine Kd.R_append_rows Kd.string (w0 := w0) w0.heap.size rfl (.tmp 47) (.tmp 48) 29 9 (.string ⟨#[]⟩) 16 rfl Try.underlying29 info9 rfl (by decide) (by omega) v136 y135 y122 _ _ _ (fun k_ => (P0_ k_ ∨ w.heap.size ≤ k_) ∧ some k_ ≠ (.slice (some ad113) l0.length co3 : Value).ownBlock ∧ some k_ ≠ (.slice Ao30 y122.length co30 : Value).ownBlock) (fun _ => False) rfl rfl ?aO ?aR (fun _ _ h => h) (fun _ h => h.elim) ?aF ?aB ?aS ?aL ?_; (case aR => repeat (first | exact (Kd.R_reads' HO124.out).2.2 | (with_reducible refine Kd.C_alloc ?_ _) | (with_reducible refine Kd.C_drewN ?_ _) | (with_reducible refine Kd.C_drew ?_))); (case aB => exact (by repeat (first | (with_reducible first | exact HB.out | apply below_alloc | apply pw_below_drewN | apply below_drew1) | exact HB.out))); (case aF => exact (fun k_ hk => ⟨(.inr (Nat.le_trans (by first | exact HK.out.1 | exact (show Kept w _ (fun k_ => P0_ k_) from by repeat (first | (with_reducible first | exact HK.out | apply Kept.alloc | apply Kept.drewN | apply Kept.drew) | exact HK.out)).1) hk)), Kd.fresh' (Kd.R_lt (by (with_reducible repeat (first | apply Kd.R_alloc | apply Kd.R_drewN | apply Kd.R_drew)); exact HO_0.out)) k_ hk, Kd.fresh' (Kd.R_lt (by (with_reducible repeat (first | apply Kd.R_alloc | apply Kd.R_drewN | apply Kd.R_drew)); exact HO124.out)) k_ hk⟩)); (case aO => exact (by (with_reducible repeat (first | apply Kd.R_alloc | apply Kd.R_drewN | apply Kd.R_drew)); exact HO137.out)); (case aS => exact (below_size (by repeat (first | (with_reducible first | exact HB.out | apply below_alloc | apply pw_below_drewN | apply below_drew1) | exact HB.out)))); (case aL => have := LMc19.out; omega); intro v139 w29 ho hb hg hat; rw [← Ny138.out] at ho; have n0_ := Aside0.mk (Kd.R_after (ok := (fun k_ => (P0_ k_ ∨ w.heap.size ≤ k_) ∧ some k_ ≠ (.slice Ao30 y122.length co30 : Value).ownBlock)) (by (with_reducible repeat (first | apply Kd.R_alloc | apply Kd.R_drewN | apply Kd.R_drew)); exact HO_0.out) hg hat); have n1_ := Aside0.mk (Kd.R_after (ok := (fun k_ => (P0_ k_ ∨ w.heap.size ≤ k_) ∧ some k_ ≠ (.slice (some ad113) l0.length co3 : Value).ownBlock)) (by (with_reducible repeat (first | apply Kd.R_alloc | apply Kd.R_drewN | apply Kd.R_drew)); exact HO124.out) hg hat); have n2_ := Aside0.mk (hb); have n3_ := Aside0.mk (Kept.of_grown (S := (fun k_ => P0_ k_)) hg (by repeat (first | (with_reducible first | exact HK.out | apply Kept.alloc | apply Kept.drewN | apply Kept.drew) | exact HK.out)) (fun k_ e_ => (HO137.out.1 k_ e_).1)); have n4_ := Aside0.mk ((show Kd.C Kd.string w29 A22 y118.length y118 from by rw [Ny118.out, KA22.out]; exact Kd.C_drop (m := (x5_1 : Int).toNat) (c := co3) ((Kd.R_reads' (Kd.R_after (ok := (fun k_ => (P0_ k_ ∨ w.heap.size ≤ k_) ∧ some k_ ≠ (.slice Ao30 y122.length co30 : Value).ownBlock)) (by (with_reducible repeat (first | apply Kd.R_alloc | apply Kd.R_drewN | apply Kd.R_drew)); exact HO_0.out) hg hat)).2.2) KL22.out ((Kd.R_reads' (Kd.R_after (ok := (fun k_ => (P0_ k_ ∨ w.heap.size ≤ k_) ∧ some k_ ≠ (.slice Ao30 y122.length co30 : Value).ownBlock)) (by (with_reducible repeat (first | apply Kd.R_alloc | apply Kd.R_drewN | apply Kd.R_drew)); exact HO_0.out) hg hat)).2.1))); have n5_ := Aside0.mk ((show Kd.C Kd.string w29 (some ad113) y128.length y128 from by rw [Ny128.out]; exact Kd.C_take (m := (x5_1 : Int).toNat) ((Kd.R_reads' (Kd.R_after (ok := (fun k_ => (P0_ k_ ∨ w.heap.size ≤ k_) ∧ some k_ ≠ (.slice Ao30 y122.length co30 : Value).ownBlock)) (by (with_reducible repeat (first | apply Kd.R_alloc | apply Kd.R_drewN | apply Kd.R_drew)); exact HO_0.out) hg hat)).2.2) KL26.out)); have n6_ := Aside0.mk (ho); clear HO_0; clear HO124; clear HB; clear HK; clear HR121; clear HR131; clear HO137; have HO_0 := n0_; have HO124 := n1_; have HB := n2_; have HK := n3_; have HR121 := n4_; have HR131 := n5_; have HO140 := n6_; clear n0_ n1_ n2_ n3_ n4_ n5_ n6_; clear ho hb hg hat))
                              go_ret
                              exact ⟨_, by first | rfl | (simp [errW_none, errW_some] <;> rfl) | (simp only [← hji5]; first | rfl | (simp [errW_none, errW_some] <;> rfl)) | (simp [*, errW_none, errW_some] <;> rfl), by (with_reducible repeat (first | apply Kd.R_alloc | apply Kd.R_drewN | apply Kd.R_drew)); exact Kd.R_mono HO140.out (fun _ hk => hk.1), by repeat (first | (with_reducible first | exact HB.out | apply below_alloc | apply pw_below_drewN | apply below_drew1) | exact HB.out), by repeat (first | (with_reducible first | exact HK.out | apply Kept.alloc | apply Kept.drewN | apply Kept.drew) | exact HK.out)⟩
                            · rw [if_neg c19] at H
                              exact absurd H (by simp)
                          · rw [if_neg c18] at H
                            exact absurd H (by simp)
                        · rw [if_neg c17] at H
                          exact absurd H (by simp)
                      · rw [if_neg c14] at H
                        exact absurd H (by simp)
                    · rw [if_neg c13] at H
                      exact absurd H (by simp)
                · rw [if_neg c10] at H
                  exact absurd H (by simp)
              · rw [if_neg c9] at H
                have c9b0 : decide (x5_1 < (l0.length : Int)) = false := decide_eq_false c9
                clear c9
                obtain ⟨y141, hy141⟩ : ∃ y_ : List ByteArray, y_ = (([] : List ByteArray)) := ⟨_, rfl⟩
                replace H : (if 0 ≤ x5_1 then (if x5_1 ≤ (l0.length : Int) then ((some (l0.drop (x5_1 : Int).toNat : List ByteArray)).bind fun y144 => (if y141.length + y144.length < 8796093022208 then ((some (y141 ++ y144 : List ByteArray)).bind fun y148 => ((some (([] : List ByteArray) : List ByteArray)).bind fun y151 => ((some (l0.take (x5_1 : Int).toNat : List ByteArray)).bind fun y154 => (if y151.length + y154.length < 8796093022208 then ((some (y151 ++ y154 : List ByteArray)).bind fun y158 => (if y158.length < 8796093022208 then ((some (y158 ++ [a1] : List ByteArray)).bind fun y161 => (if y161.length + y148.length < 8796093022208 then (some (y161 ++ y148)) else (none))) else (none))) else (none))))) else (none))) else (none)) else (none)) = some r := by first | (rw [hy141]; with_reducible exact H) | (have H2_ := (Option.bind_some _ _).symm.trans H; rw [hy141]; with_reducible exact H2_) | (have H2_ := (Option.bind_some _ _).symm.trans H; with_reducible exact H2_) | with_reducible exact H | (rw [hy141]; exact H) | exact H
                have Ny141 := Aside0.mk hy141
                clear hy141
                by_cases c31 : 0 ≤ x5_1
                · rw [if_pos c31] at H
                  have c31b0 := eq_true c31
                  have c31b1 : decide (0 ≤ x5_1) = true := decide_eq_true c31
                  clear c31
                  by_cases c32 : x5_1 ≤ (l0.length : Int)
                  · rw [if_pos c32] at H
                    have c32b0 := eq_true c32
                    have c32b1 : decide (x5_1 ≤ (l0.length : Int)) = true := decide_eq_true c32
                    clear c32
                    obtain ⟨y144, hy144⟩ : ∃ y_ : List ByteArray, y_ = (l0.drop (x5_1 : Int).toNat) := ⟨_, rfl⟩
                    replace H : (if y141.length + y144.length < 8796093022208 then ((some (y141 ++ y144 : List ByteArray)).bind fun y148 => ((some (([] : List ByteArray) : List ByteArray)).bind fun y151 => ((some (l0.take (x5_1 : Int).toNat : List ByteArray)).bind fun y154 => (if y151.length + y154.length < 8796093022208 then ((some (y151 ++ y154 : List ByteArray)).bind fun y158 => (if y158.length < 8796093022208 then ((some (y158 ++ [a1] : List ByteArray)).bind fun y161 => (if y161.length + y148.length < 8796093022208 then (some (y161 ++ y148)) else (none))) else (none))) else (none))))) else (none)) = some r := by first | (rw [hy144]; with_reducible exact H) | (have H2_ := (Option.bind_some _ _).symm.trans H; rw [hy144]; with_reducible exact H2_) | (have H2_ := (Option.bind_some _ _).symm.trans H; with_reducible exact H2_) | with_reducible exact H | (rw [hy144]; exact H) | exact H
                    have Ny144 := Aside0.mk hy144
                    clear hy144
                    by_cases c33 : y141.length + y144.length < 8796093022208
                    · rw [if_pos c33] at H
                      have LMc33 := Aside0.mk c33
                      clear c33
                      obtain ⟨y148, hy148⟩ : ∃ y_ : List ByteArray, y_ = (y141 ++ y144) := ⟨_, rfl⟩
                      replace H : ((some (([] : List ByteArray) : List ByteArray)).bind fun y151 => ((some (l0.take (x5_1 : Int).toNat : List ByteArray)).bind fun y154 => (if y151.length + y154.length < 8796093022208 then ((some (y151 ++ y154 : List ByteArray)).bind fun y158 => (if y158.length < 8796093022208 then ((some (y158 ++ [a1] : List ByteArray)).bind fun y161 => (if y161.length + y148.length < 8796093022208 then (some (y161 ++ y148)) else (none))) else (none))) else (none)))) = some r := by first | (rw [hy148]; with_reducible exact H) | (have H2_ := (Option.bind_some _ _).symm.trans H; rw [hy148]; with_reducible exact H2_) | (have H2_ := (Option.bind_some _ _).symm.trans H; with_reducible exact H2_) | with_reducible exact H | (rw [hy148]; exact H) | exact H
                      have Ny148 := Aside0.mk hy148
                      clear hy148
                      obtain ⟨y151, hy151⟩ : ∃ y_ : List ByteArray, y_ = (([] : List ByteArray)) := ⟨_, rfl⟩
                      replace H : ((some (l0.take (x5_1 : Int).toNat : List ByteArray)).bind fun y154 => (if y151.length + y154.length < 8796093022208 then ((some (y151 ++ y154 : List ByteArray)).bind fun y158 => (if y158.length < 8796093022208 then ((some (y158 ++ [a1] : List ByteArray)).bind fun y161 => (if y161.length + y148.length < 8796093022208 then (some (y161 ++ y148)) else (none))) else (none))) else (none))) = some r := by first | (rw [hy151]; with_reducible exact H) | (have H2_ := (Option.bind_some _ _).symm.trans H; rw [hy151]; with_reducible exact H2_) | (have H2_ := (Option.bind_some _ _).symm.trans H; with_reducible exact H2_) | with_reducible exact H | (rw [hy151]; exact H) | exact H
                      have Ny151 := Aside0.mk hy151
                      clear hy151
                      have c34b0 := eq_true (of_decide_eq_true (by first | (with_reducible assumption) | assumption) : 0 ≤ x5_1)
                      have c35b0 := eq_true (of_decide_eq_true (by first | (with_reducible assumption) | assumption) : x5_1 ≤ (l0.length : Int))
                      obtain ⟨y154, hy154⟩ : ∃ y_ : List ByteArray, y_ = (l0.take (x5_1 : Int).toNat) := ⟨_, rfl⟩
                      replace H : (if y151.length + y154.length < 8796093022208 then ((some (y151 ++ y154 : List ByteArray)).bind fun y158 => (if y158.length < 8796093022208 then ((some (y158 ++ [a1] : List ByteArray)).bind fun y161 => (if y161.length + y148.length < 8796093022208 then (some (y161 ++ y148)) else (none))) else (none))) else (none)) = some r := by first | (rw [hy154]; with_reducible exact H) | (have H2_ := (Option.bind_some _ _).symm.trans H; rw [hy154]; with_reducible exact H2_) | (have H2_ := (Option.bind_some _ _).symm.trans H; with_reducible exact H2_) | with_reducible exact H | (rw [hy154]; exact H) | exact H
                      have Ny154 := Aside0.mk hy154
                      clear hy154
                      by_cases c36 : y151.length + y154.length < 8796093022208
                      · rw [if_pos c36] at H
                        have LMc36 := Aside0.mk c36
                        clear c36
                        obtain ⟨y158, hy158⟩ : ∃ y_ : List ByteArray, y_ = (y151 ++ y154) := ⟨_, rfl⟩
                        replace H : (if y158.length < 8796093022208 then ((some (y158 ++ [a1] : List ByteArray)).bind fun y161 => (if y161.length + y148.length < 8796093022208 then (some (y161 ++ y148)) else (none))) else (none)) = some r := by first | (rw [hy158]; with_reducible exact H) | (have H2_ := (Option.bind_some _ _).symm.trans H; rw [hy158]; with_reducible exact H2_) | (have H2_ := (Option.bind_some _ _).symm.trans H; with_reducible exact H2_) | with_reducible exact H | (rw [hy158]; exact H) | exact H
                        have Ny158 := Aside0.mk hy158
                        clear hy158
                        by_cases c37 : y158.length < 8796093022208
                        · rw [if_pos c37] at H
                          have LMc37 := Aside0.mk c37
                          clear c37
                          obtain ⟨y161, hy161⟩ : ∃ y_ : List ByteArray, y_ = (y158 ++ [a1]) := ⟨_, rfl⟩
                          replace H : (if y161.length + y148.length < 8796093022208 then (some (y161 ++ y148)) else (none)) = some r := by first | (rw [hy161]; with_reducible exact H) | (have H2_ := (Option.bind_some _ _).symm.trans H; rw [hy161]; with_reducible exact H2_) | (have H2_ := (Option.bind_some _ _).symm.trans H; with_reducible exact H2_) | with_reducible exact H | (rw [hy161]; exact H) | exact H
                          have Ny161 := Aside0.mk hy161
                          clear hy161
                          by_cases c38 : y161.length + y148.length < 8796093022208
                          · rw [if_pos c38] at H
                            have LMc38 := Aside0.mk c38
                            clear c38
                            obtain ⟨y164, hy164⟩ : ∃ y_ : List ByteArray, y_ = (y161 ++ y148) := ⟨_, rfl⟩
                            replace H : (some y164) = some r := by first | (rw [hy164]; with_reducible exact H) | (have H2_ := (Option.bind_some _ _).symm.trans H; rw [hy164]; with_reducible exact H2_) | (have H2_ := (Option.bind_some _ _).symm.trans H; with_reducible exact H2_) | with_reducible exact H | (rw [hy164]; exact H) | exact H
                            have Ny164 := Aside0.mk hy164
                            clear hy164
                            obtain rfl := Option.some.inj H
                            have p113 : 0 ≤ ((ji5) : Int) := of_decide_eq_true (by first | (with_reducible assumption) | assumption)
                            have q113 : (ji5) < (l0.length : Int) := of_decide_eq_true (by first | (with_reducible assumption) | assumption)
                            obtain ⟨ad113, e113, hx113_0⟩ := Kd.at_string (Kd.R_reads' HO_0.out).2.2 (ji5) p113 q113
                            cases e113
                            replace p113 := eq_true p113
                            replace q113 := eq_true q113
                            go_wp2_with (first | ((with_reducible refine gate_dst (N := 35) rfl ?_); refine Kd.R_lit Kd.string _ 9 ?hg (N := 35) ?hd (xs := ([] : List ByteArray)) (inner := []) (ok := fun _ => True) (okp := fun _ => True) ?hr ?hp (fun _ hk => hk) trivial (Below.refl _ _) (Nat.le_refl _) (by simp) ?_; (case hd => rfl); (case hg => rfl); (case hr => first | (go_simp; done) | (go_simp; rfl) | (simp only [i64_w]; first | (go_simp; done) | (go_simp; rfl))); (case hp => exact (Reps.none _ _)); intro v142 w39 ho40 hb hg_ hnew_; clear hg_ hnew_; (first | rw [← Ny141.out] at ho40 | (simp only [Int.reduceToNat] at ho40; rw [← Ny141.out] at ho40)); have n0_ := Aside0.mk (Kd.R_elder' (by (with_reducible repeat (first | apply Kd.R_alloc | apply Kd.R_drewN | apply Kd.R_drew)); exact HO_0.out) (Kd.R_base ho40) hb); have n1_ := Aside0.mk (Kd.R_lower (Kd.R_new' (Kd.R_newM (M := fun k_ => (P0_ k_ ∨ w.heap.size ≤ k_)) ho40 (by first | exact HK.out.1 | exact (show Kept w _ (fun k_ => P0_ k_) from by repeat (first | (with_reducible first | exact HK.out | apply Kept.alloc | apply Kept.drewN | apply Kept.drew) | exact HK.out)).1) (fun k_ h_ => .inr h_)) (Kd.R_lt (by (with_reducible repeat (first | apply Kd.R_alloc | apply Kd.R_drewN | apply Kd.R_drew)); exact HO_0.out))) (below_size (by repeat (first | (with_reducible first | exact HB.out | apply below_alloc | apply pw_below_drewN | apply below_drew1) | exact HB.out)))); have n2_ := Aside0.mk (Kept.below (S := (fun k_ => P0_ k_)) (by repeat (first | (with_reducible first | exact HK.out | apply Kept.alloc | apply Kept.drewN | apply Kept.drew) | exact HK.out)) hb); have n3_ := Aside0.mk (below_step (by repeat (first | (with_reducible first | exact HB.out | apply below_alloc | apply pw_below_drewN | apply below_drew1) | exact HB.out)) hb); clear HO_0; clear HK; clear HB; have HO_0 := n0_; have HO143 := n1_; have HK := n2_; have HB := n3_; clear n0_ n1_ n2_ n3_; clear hb ho40; have q41 : (x5_1 : Int) ≤ ((l0.length : Int) : Int) := of_decide_eq_true (by first | (with_reducible assumption) | assumption); obtain ⟨i041, hi041, _, hsz41, _⟩ := info_parts info9; have hroom41 : l0.length ≤ co3 := (Kd.R_reads' HO_0.out).2.1; have hC41 : Kd.C Kd.string _ (some ad113) l0.length l0 := (Kd.R_reads' HO_0.out).2.2; have q041 : (0 : Int) ≤ (x5_1 : Int) := of_decide_eq_true (by first | (with_reducible assumption) | assumption); have hcut41 := cut_from (P := Try.prog) 29 9 .i64 Try.underlying29 hi041 1 hsz41 (some ad113) l0.length co3 x5_1 q041 q41; have hr41 := Kd.C_drop (m := (x5_1 : Int).toNat) (c := co3) hC41 (by omega) hroom41; obtain ⟨A41, hA41⟩ : ∃ A1, A1 = (if co3 = (x5_1 : Int).toNat then (some ad113) else ((some ad113) : Option Addr).map (·.add ((x5_1 : Int).toNat * 1))) := ⟨_, rfl⟩; obtain ⟨c41, hc41⟩ : ∃ c1, c1 = co3 - (x5_1 : Int).toNat := ⟨_, rfl⟩; have hy41 : y144.length = l0.length - (x5_1 : Int).toNat := (by rw [Ny144.out, List.length_drop] <;> omega); rw [show (l0).drop (x5_1 : Int).toNat = y144 from Ny144.out.symm] at hr41; replace hr41 : Kd.C Kd.string _ A41 y144.length y144 := (by rw [hA41]; exact hr41); rw [← hy41, ← hA41, ← hc41] at hcut41; have HR147 := Aside0.mk hr41; have HC147 := Aside0.mk (show y144.length ≤ c41 from by rw [hy41, hc41]; exact Nat.sub_le_sub_right hroom41 _); clear hr41 hC41 hroom41 hi041 hsz41 hc41; have KY41 := Aside0.mk hy41; have KA41 := Aside0.mk hA41; clear hy41 hA41; have KL41 := Aside0.mk (show (x5_1 : Int).toNat ≤ l0.length from by omega); replace q41 := eq_true q41) | ((with_reducible refine gate_builtin (b := .append) (xs := #[.tmp 35, .tmp 38]) rfl ?_); at_builtin; refine Kd.R_append_rows Kd.string (w0 := w0) w0.heap.size rfl (.tmp 35) (.tmp 38) 29 9 (.string ⟨#[]⟩) 16 rfl Try.underlying29 info9 rfl (by decide) (by omega) v142 y141 y144 _ _ _ (fun k_ => (P0_ k_ ∨ w.heap.size ≤ k_) ∧ some k_ ≠ (.slice (some ad113) l0.length co3 : Value).ownBlock) (fun _ => False) rfl rfl ?aO ?aR (fun _ _ h => h) (fun _ h => h.elim) ?aF ?aB ?aS ?aL ?_; (case aR => repeat (first | exact (by repeat (first | (with_reducible exact HR147.out) | (with_reducible refine Kd.C_alloc ?_ _) | (with_reducible refine Kd.C_drewN ?_ _) | (with_reducible refine Kd.C_drew ?_) | exact HR147.out)) | (with_reducible refine Kd.C_alloc ?_ _) | (with_reducible refine Kd.C_drewN ?_ _) | (with_reducible refine Kd.C_drew ?_))); (case aB => exact (by repeat (first | (with_reducible first | exact HB.out | apply below_alloc | apply pw_below_drewN | apply below_drew1) | exact HB.out))); (case aF => exact (fun k_ hk => ⟨(.inr (Nat.le_trans (by first | exact HK.out.1 | exact (show Kept w _ (fun k_ => P0_ k_) from by repeat (first | (with_reducible first | exact HK.out | apply Kept.alloc | apply Kept.drewN | apply Kept.drew) | exact HK.out)).1) hk)), Kd.fresh' (Kd.R_lt (by (with_reducible repeat (first | apply Kd.R_alloc | apply Kd.R_drewN | apply Kd.R_drew)); exact HO_0.out)) k_ hk⟩)); (case aO => exact (by (with_reducible repeat (first | apply Kd.R_alloc | apply Kd.R_drewN | apply Kd.R_drew)); exact Kd.R_mono HO143.out (fun _ hk => ⟨hk.1.1, hk.2⟩))); (case aS => exact (below_size (by repeat (first | (with_reducible first | exact HB.out | apply below_alloc | apply pw_below_drewN | apply below_drew1) | exact HB.out)))); (case aL => have := LMc33.out; omega); intro v149 w42 ho hb hg hat; rw [← Ny148.out] at ho; have n0_ := Aside0.mk (Kd.R_after (ok := (fun k_ => (P0_ k_ ∨ w.heap.size ≤ k_))) (by (with_reducible repeat (first | apply Kd.R_alloc | apply Kd.R_drewN | apply Kd.R_drew)); exact HO_0.out) hg hat); have n1_ := Aside0.mk (hb); have n2_ := Aside0.mk (Kept.of_grown (S := (fun k_ => P0_ k_)) hg (by repeat (first | (with_reducible first | exact HK.out | apply Kept.alloc | apply Kept.drewN | apply Kept.drew) | exact HK.out)) (fun k_ e_ => (HO143.out.1 k_ e_).1.1)); have n3_ := Aside0.mk ((show Kd.C Kd.string w42 A41 y144.length y144 from by rw [Ny144.out, KA41.out]; exact Kd.C_drop (m := (x5_1 : Int).toNat) (c := co3) ((Kd.R_reads' (Kd.R_after (ok := (fun k_ => (P0_ k_ ∨ w.heap.size ≤ k_))) (by (with_reducible repeat (first | apply Kd.R_alloc | apply Kd.R_drewN | apply Kd.R_drew)); exact HO_0.out) hg hat)).2.2) KL41.out ((Kd.R_reads' (Kd.R_after (ok := (fun k_ => (P0_ k_ ∨ w.heap.size ≤ k_))) (by (with_reducible repeat (first | apply Kd.R_alloc | apply Kd.R_drewN | apply Kd.R_drew)); exact HO_0.out) hg hat)).2.1))); have n4_ := Aside0.mk (ho); clear HO_0; clear HB; clear HK; clear HR147; clear HO143; have HO_0 := n0_; have HB := n1_; have HK := n2_; have HR147 := n3_; have HO150 := n4_; clear n0_ n1_ n2_ n3_ n4_; clear ho hb hg hat) | ((with_reducible refine gate_dst (N := 40) rfl ?_); refine Kd.R_lit Kd.string _ 9 ?hg (N := 40) ?hd (xs := ([] : List ByteArray)) (inner := []) (ok := fun _ => True) (okp := fun _ => True) ?hr ?hp (fun _ hk => hk) trivial (Below.refl _ _) (Nat.le_refl _) (by simp) ?_; (case hd => rfl); (case hg => rfl); (case hr => first | (go_simp; done) | (go_simp; rfl) | (simp only [i64_w]; first | (go_simp; done) | (go_simp; rfl))); (case hp => exact (Reps.none _ _)); intro v152 w43 ho44 hb hg_ hnew_; clear hg_ hnew_; (first | rw [← Ny151.out] at ho44 | (simp only [Int.reduceToNat] at ho44; rw [← Ny151.out] at ho44)); have n0_ := Aside0.mk (Kd.R_elder' (by (with_reducible repeat (first | apply Kd.R_alloc | apply Kd.R_drewN | apply Kd.R_drew)); exact HO_0.out) (Kd.R_base ho44) hb); have n1_ := Aside0.mk (Kd.R_elder' (by (with_reducible repeat (first | apply Kd.R_alloc | apply Kd.R_drewN | apply Kd.R_drew)); exact HO150.out) (Kd.R_base ho44) hb); have n2_ := Aside0.mk (Kd.R_lower (Kd.R_new' (Kd.R_new' (Kd.R_newM (M := fun k_ => (P0_ k_ ∨ w.heap.size ≤ k_)) ho44 (by first | exact HK.out.1 | exact (show Kept w _ (fun k_ => P0_ k_) from by repeat (first | (with_reducible first | exact HK.out | apply Kept.alloc | apply Kept.drewN | apply Kept.drew) | exact HK.out)).1) (fun k_ h_ => .inr h_)) (Kd.R_lt (by (with_reducible repeat (first | apply Kd.R_alloc | apply Kd.R_drewN | apply Kd.R_drew)); exact HO_0.out))) (Kd.R_lt (by (with_reducible repeat (first | apply Kd.R_alloc | apply Kd.R_drewN | apply Kd.R_drew)); exact HO150.out))) (below_size (by repeat (first | (with_reducible first | exact HB.out | apply below_alloc | apply pw_below_drewN | apply below_drew1) | exact HB.out)))); have n3_ := Aside0.mk (Kd.C_below (by repeat (first | (with_reducible exact HR147.out) | (with_reducible refine Kd.C_alloc ?_ _) | (with_reducible refine Kd.C_drewN ?_ _) | (with_reducible refine Kd.C_drew ?_) | exact HR147.out)) hb); have n4_ := Aside0.mk (Kept.below (S := (fun k_ => P0_ k_)) (by repeat (first | (with_reducible first | exact HK.out | apply Kept.alloc | apply Kept.drewN | apply Kept.drew) | exact HK.out)) hb); have n5_ := Aside0.mk (below_step (by repeat (first | (with_reducible first | exact HB.out | apply below_alloc | apply pw_below_drewN | apply below_drew1) | exact HB.out)) hb); clear HO_0; clear HO150; clear HR147; clear HK; clear HB; have HO_0 := n0_; have HO150 := n1_; have HO153 := n2_; have HR147 := n3_; have HK := n4_; have HB := n5_; clear n0_ n1_ n2_ n3_ n4_ n5_; clear hb ho44; have q45 : (x5_1 : Int) ≤ ((l0.length : Int) : Int) := of_decide_eq_true (by first | (with_reducible assumption) | assumption); obtain ⟨i045, hi045, _, hsz45, _⟩ := info_parts info9; have hroom45 : l0.length ≤ co3 := (Kd.R_reads' HO_0.out).2.1; have hC45 : Kd.C Kd.string _ (some ad113) l0.length l0 := (Kd.R_reads' HO_0.out).2.2; have hcut45 := cut_to (P := Try.prog) 29 9 .i64 Try.underlying29 hi045 (some ad113) l0.length co3 x5_1 (of_decide_eq_true (by first | (with_reducible assumption) | assumption)) q45 hroom45; have hr45 := Kd.C_take (m := (x5_1 : Int).toNat) hC45 (by omega); have hy45 : y154.length = (x5_1 : Int).toNat := (by rw [Ny154.out, List.length_take]; omega); rw [← Ny154.out] at hr45; rw [← hy45] at hcut45; have HR157 := Aside0.mk hr45; have HC157 := Aside0.mk (show y154.length ≤ co3 from by omega); clear hr45 hC45 hroom45 hi045 hsz45; have KY45 := Aside0.mk hy45; clear hy45; have KL45 := Aside0.mk (show (x5_1 : Int).toNat ≤ l0.length from by omega); replace q45 := eq_true q45) | ((with_reducible refine gate_builtin (b := .append) (xs := #[.tmp 40, .tmp 43]) rfl ?_); at_builtin; refine Kd.R_append_rows Kd.string (w0 := w0) w0.heap.size rfl (.tmp 40) (.tmp 43) 29 9 (.string ⟨#[]⟩) 16 rfl Try.underlying29 info9 rfl (by decide) (by omega) v152 y151 y154 _ _ _ (fun k_ => (P0_ k_ ∨ w.heap.size ≤ k_) ∧ some k_ ≠ (.slice (some ad113) l0.length co3 : Value).ownBlock ∧ some k_ ≠ (v149 : Value).ownBlock) (fun _ => False) rfl rfl ?aO ?aR (fun _ _ h => h) (fun _ h => h.elim) ?aF ?aB ?aS ?aL ?_; (case aR => repeat (first | exact (by repeat (first | (with_reducible exact HR157.out) | (with_reducible refine Kd.C_alloc ?_ _) | (with_reducible refine Kd.C_drewN ?_ _) | (with_reducible refine Kd.C_drew ?_) | exact HR157.out)) | (with_reducible refine Kd.C_alloc ?_ _) | (with_reducible refine Kd.C_drewN ?_ _) | (with_reducible refine Kd.C_drew ?_))); (case aB => exact (by repeat (first | (with_reducible first | exact HB.out | apply below_alloc | apply pw_below_drewN | apply below_drew1) | exact HB.out))); (case aF => exact (fun k_ hk => ⟨(.inr (Nat.le_trans (by first | exact HK.out.1 | exact (show Kept w _ (fun k_ => P0_ k_) from by repeat (first | (with_reducible first | exact HK.out | apply Kept.alloc | apply Kept.drewN | apply Kept.drew) | exact HK.out)).1) hk)), Kd.fresh' (Kd.R_lt (by (with_reducible repeat (first | apply Kd.R_alloc | apply Kd.R_drewN | apply Kd.R_drew)); exact HO_0.out)) k_ hk, Kd.fresh' (Kd.R_lt (by (with_reducible repeat (first | apply Kd.R_alloc | apply Kd.R_drewN | apply Kd.R_drew)); exact HO150.out)) k_ hk⟩)); (case aO => exact (by (with_reducible repeat (first | apply Kd.R_alloc | apply Kd.R_drewN | apply Kd.R_drew)); exact Kd.R_mono HO153.out (fun _ hk => ⟨hk.1.1.1, ⟨hk.1.2, hk.2⟩⟩))); (case aS => exact (below_size (by repeat (first | (with_reducible first | exact HB.out | apply below_alloc | apply pw_below_drewN | apply below_drew1) | exact HB.out)))); (case aL => have := LMc36.out; omega); intro v159 w46 ho hb hg hat; rw [← Ny158.out] at ho; have n0_ := Aside0.mk (Kd.R_after (ok := (fun k_ => (P0_ k_ ∨ w.heap.size ≤ k_) ∧ some k_ ≠ (v149 : Value).ownBlock)) (by (with_reducible repeat (first | apply Kd.R_alloc | apply Kd.R_drewN | apply Kd.R_drew)); exact HO_0.out) hg hat); have n1_ := Aside0.mk (Kd.R_after (ok := (fun k_ => (P0_ k_ ∨ w.heap.size ≤ k_) ∧ some k_ ≠ (.slice (some ad113) l0.length co3 : Value).ownBlock)) (by (with_reducible repeat (first | apply Kd.R_alloc | apply Kd.R_drewN | apply Kd.R_drew)); exact HO150.out) hg hat); have n2_ := Aside0.mk (hb); have n3_ := Aside0.mk (Kept.of_grown (S := (fun k_ => P0_ k_)) hg (by repeat (first | (with_reducible first | exact HK.out | apply Kept.alloc | apply Kept.drewN | apply Kept.drew) | exact HK.out)) (fun k_ e_ => (HO153.out.1 k_ e_).1.1.1)); have n4_ := Aside0.mk ((show Kd.C Kd.string w46 A41 y144.length y144 from by rw [Ny144.out, KA41.out]; exact Kd.C_drop (m := (x5_1 : Int).toNat) (c := co3) ((Kd.R_reads' (Kd.R_after (ok := (fun k_ => (P0_ k_ ∨ w.heap.size ≤ k_) ∧ some k_ ≠ (v149 : Value).ownBlock)) (by (with_reducible repeat (first | apply Kd.R_alloc | apply Kd.R_drewN | apply Kd.R_drew)); exact HO_0.out) hg hat)).2.2) KL41.out ((Kd.R_reads' (Kd.R_after (ok := (fun k_ => (P0_ k_ ∨ w.heap.size ≤ k_) ∧ some k_ ≠ (v149 : Value).ownBlock)) (by (with_reducible repeat (first | apply Kd.R_alloc | apply Kd.R_drewN | apply Kd.R_drew)); exact HO_0.out) hg hat)).2.1))); have n5_ := Aside0.mk ((show Kd.C Kd.string w46 (some ad113) y154.length y154 from by rw [Ny154.out]; exact Kd.C_take (m := (x5_1 : Int).toNat) ((Kd.R_reads' (Kd.R_after (ok := (fun k_ => (P0_ k_ ∨ w.heap.size ≤ k_) ∧ some k_ ≠ (v149 : Value).ownBlock)) (by (with_reducible repeat (first | apply Kd.R_alloc | apply Kd.R_drewN | apply Kd.R_drew)); exact HO_0.out) hg hat)).2.2) KL45.out)); have n6_ := Aside0.mk (ho); clear HO_0; clear HO150; clear HB; clear HK; clear HR147; clear HR157; clear HO153; have HO_0 := n0_; have HO150 := n1_; have HB := n2_; have HK := n3_; have HR147 := n4_; have HR157 := n5_; have HO160 := n6_; clear n0_ n1_ n2_ n3_ n4_ n5_ n6_; clear ho hb hg hat) | ((with_reducible refine gate_builtin (b := .append) (xs := #[.tmp 44, .tmp 46]) rfl ?_); at_builtin; refine Kd.R_append Kd.string (w0 := w0) w0.heap.size rfl (.tmp 44) (.tmp 46) 29 9 (.string ⟨#[]⟩) 16 rfl Try.underlying29 info9 rfl (by decide) (by omega) v159 y158 a1 [.string a1] (fun k_ => (P0_ k_ ∨ w.heap.size ≤ k_) ∧ some k_ ≠ (.slice (some ad113) l0.length co3 : Value).ownBlock ∧ some k_ ≠ (v149 : Value).ownBlock) (fun _ => False) rfl rfl ?aP (fun _ hk => hk.elim) ?aF ?aO ?aB ?aS ?aL ?_; (case aP => exact rfl); (case aB => exact (by repeat (first | (with_reducible first | exact HB.out | apply below_alloc | apply pw_below_drewN | apply below_drew1) | exact HB.out))); (case aF => exact (fun k_ hk => ⟨(.inr (Nat.le_trans (by first | exact HK.out.1 | exact (show Kept w _ (fun k_ => P0_ k_) from by repeat (first | (with_reducible first | exact HK.out | apply Kept.alloc | apply Kept.drewN | apply Kept.drew) | exact HK.out)).1) hk)), Kd.fresh' (Kd.R_lt (by (with_reducible repeat (first | apply Kd.R_alloc | apply Kd.R_drewN | apply Kd.R_drew)); exact HO_0.out)) k_ hk, Kd.fresh' (Kd.R_lt (by (with_reducible repeat (first | apply Kd.R_alloc | apply Kd.R_drewN | apply Kd.R_drew)); exact HO150.out)) k_ hk⟩)); (case aO => exact (by (with_reducible repeat (first | apply Kd.R_alloc | apply Kd.R_drewN | apply Kd.R_drew)); exact HO160.out)); (case aS => exact (below_size (by repeat (first | (with_reducible first | exact HB.out | apply below_alloc | apply pw_below_drewN | apply below_drew1) | exact HB.out)))); (case aL => have := LMc37.out; omega); intro v162 w47 ho hb hg hat; rw [← Ny161.out] at ho; have n0_ := Aside0.mk (Kd.R_after (ok := (fun k_ => (P0_ k_ ∨ w.heap.size ≤ k_) ∧ some k_ ≠ (v149 : Value).ownBlock)) (by (with_reducible repeat (first | apply Kd.R_alloc | apply Kd.R_drewN | apply Kd.R_drew)); exact HO_0.out) hg hat); have n1_ := Aside0.mk (Kd.R_after (ok := (fun k_ => (P0_ k_ ∨ w.heap.size ≤ k_) ∧ some k_ ≠ (.slice (some ad113) l0.length co3 : Value).ownBlock)) (by (with_reducible repeat (first | apply Kd.R_alloc | apply Kd.R_drewN | apply Kd.R_drew)); exact HO150.out) hg hat); have n2_ := Aside0.mk (hb); have n3_ := Aside0.mk (Kept.of_grown (S := (fun k_ => P0_ k_)) hg (by repeat (first | (with_reducible first | exact HK.out | apply Kept.alloc | apply Kept.drewN | apply Kept.drew) | exact HK.out)) (fun k_ e_ => (HO160.out.1 k_ e_).1)); have n4_ := Aside0.mk ((show Kd.C Kd.string w47 A41 y144.length y144 from by rw [Ny144.out, KA41.out]; exact Kd.C_drop (m := (x5_1 : Int).toNat) (c := co3) ((Kd.R_reads' (Kd.R_after (ok := (fun k_ => (P0_ k_ ∨ w.heap.size ≤ k_) ∧ some k_ ≠ (v149 : Value).ownBlock)) (by (with_reducible repeat (first | apply Kd.R_alloc | apply Kd.R_drewN | apply Kd.R_drew)); exact HO_0.out) hg hat)).2.2) KL41.out ((Kd.R_reads' (Kd.R_after (ok := (fun k_ => (P0_ k_ ∨ w.heap.size ≤ k_) ∧ some k_ ≠ (v149 : Value).ownBlock)) (by (with_reducible repeat (first | apply Kd.R_alloc | apply Kd.R_drewN | apply Kd.R_drew)); exact HO_0.out) hg hat)).2.1))); have n5_ := Aside0.mk ((show Kd.C Kd.string w47 (some ad113) y154.length y154 from by rw [Ny154.out]; exact Kd.C_take (m := (x5_1 : Int).toNat) ((Kd.R_reads' (Kd.R_after (ok := (fun k_ => (P0_ k_ ∨ w.heap.size ≤ k_) ∧ some k_ ≠ (v149 : Value).ownBlock)) (by (with_reducible repeat (first | apply Kd.R_alloc | apply Kd.R_drewN | apply Kd.R_drew)); exact HO_0.out) hg hat)).2.2) KL45.out)); have n6_ := Aside0.mk (ho); clear HO_0; clear HO150; clear HB; clear HK; clear HR147; clear HR157; clear HO160; have HO_0 := n0_; have HO150 := n1_; have HB := n2_; have HK := n3_; have HR147 := n4_; have HR157 := n5_; have HO163 := n6_; clear n0_ n1_ n2_ n3_ n4_ n5_ n6_; clear ho hb hg hat; obtain ⟨Ao49, co49, eo49⟩ := Kd.R_slice HO150.out; subst eo49) | ((with_reducible refine gate_builtin (b := .append) (xs := #[.tmp 47, .tmp 48]) rfl ?_); at_builtin; refine Kd.R_append_rows Kd.string (w0 := w0) w0.heap.size rfl (.tmp 47) (.tmp 48) 29 9 (.string ⟨#[]⟩) 16 rfl Try.underlying29 info9 rfl (by decide) (by omega) v162 y161 y148 _ _ _ (fun k_ => (P0_ k_ ∨ w.heap.size ≤ k_) ∧ some k_ ≠ (.slice (some ad113) l0.length co3 : Value).ownBlock ∧ some k_ ≠ (.slice Ao49 y148.length co49 : Value).ownBlock) (fun _ => False) rfl rfl ?aO ?aR (fun _ _ h => h) (fun _ h => h.elim) ?aF ?aB ?aS ?aL ?_; (case aR => repeat (first | exact (Kd.R_reads' HO150.out).2.2 | (with_reducible refine Kd.C_alloc ?_ _) | (with_reducible refine Kd.C_drewN ?_ _) | (with_reducible refine Kd.C_drew ?_))); (case aB => exact (by repeat (first | (with_reducible first | exact HB.out | apply below_alloc | apply pw_below_drewN | apply below_drew1) | exact HB.out))); (case aF => exact (fun k_ hk => ⟨(.inr (Nat.le_trans (by first | exact HK.out.1 | exact (show Kept w _ (fun k_ => P0_ k_) from by repeat (first | (with_reducible first | exact HK.out | apply Kept.alloc | apply Kept.drewN | apply Kept.drew) | exact HK.out)).1) hk)), Kd.fresh' (Kd.R_lt (by (with_reducible repeat (first | apply Kd.R_alloc | apply Kd.R_drewN | apply Kd.R_drew)); exact HO_0.out)) k_ hk, Kd.fresh' (Kd.R_lt (by (with_reducible repeat (first | apply Kd.R_alloc | apply Kd.R_drewN | apply Kd.R_drew)); exact HO150.out)) k_ hk⟩)); (case aO => exact (by (with_reducible repeat (first | apply Kd.R_alloc | apply Kd.R_drewN | apply Kd.R_drew)); exact HO163.out)); (case aS => exact (below_size (by repeat (first | (with_reducible first | exact HB.out | apply below_alloc | apply pw_below_drewN | apply below_drew1) | exact HB.out)))); (case aL => have := LMc38.out; omega); intro v165 w48 ho hb hg hat; rw [← Ny164.out] at ho; have n0_ := Aside0.mk (Kd.R_after (ok := (fun k_ => (P0_ k_ ∨ w.heap.size ≤ k_) ∧ some k_ ≠ (.slice Ao49 y148.length co49 : Value).ownBlock)) (by (with_reducible repeat (first | apply Kd.R_alloc | apply Kd.R_drewN | apply Kd.R_drew)); exact HO_0.out) hg hat); have n1_ := Aside0.mk (Kd.R_after (ok := (fun k_ => (P0_ k_ ∨ w.heap.size ≤ k_) ∧ some k_ ≠ (.slice (some ad113) l0.length co3 : Value).ownBlock)) (by (with_reducible repeat (first | apply Kd.R_alloc | apply Kd.R_drewN | apply Kd.R_drew)); exact HO150.out) hg hat); have n2_ := Aside0.mk (hb); have n3_ := Aside0.mk (Kept.of_grown (S := (fun k_ => P0_ k_)) hg (by repeat (first | (with_reducible first | exact HK.out | apply Kept.alloc | apply Kept.drewN | apply Kept.drew) | exact HK.out)) (fun k_ e_ => (HO163.out.1 k_ e_).1)); have n4_ := Aside0.mk ((show Kd.C Kd.string w48 A41 y144.length y144 from by rw [Ny144.out, KA41.out]; exact Kd.C_drop (m := (x5_1 : Int).toNat) (c := co3) ((Kd.R_reads' (Kd.R_after (ok := (fun k_ => (P0_ k_ ∨ w.heap.size ≤ k_) ∧ some k_ ≠ (.slice Ao49 y148.length co49 : Value).ownBlock)) (by (with_reducible repeat (first | apply Kd.R_alloc | apply Kd.R_drewN | apply Kd.R_drew)); exact HO_0.out) hg hat)).2.2) KL41.out ((Kd.R_reads' (Kd.R_after (ok := (fun k_ => (P0_ k_ ∨ w.heap.size ≤ k_) ∧ some k_ ≠ (.slice Ao49 y148.length co49 : Value).ownBlock)) (by (with_reducible repeat (first | apply Kd.R_alloc | apply Kd.R_drewN | apply Kd.R_drew)); exact HO_0.out) hg hat)).2.1))); have n5_ := Aside0.mk ((show Kd.C Kd.string w48 (some ad113) y154.length y154 from by rw [Ny154.out]; exact Kd.C_take (m := (x5_1 : Int).toNat) ((Kd.R_reads' (Kd.R_after (ok := (fun k_ => (P0_ k_ ∨ w.heap.size ≤ k_) ∧ some k_ ≠ (.slice Ao49 y148.length co49 : Value).ownBlock)) (by (with_reducible repeat (first | apply Kd.R_alloc | apply Kd.R_drewN | apply Kd.R_drew)); exact HO_0.out) hg hat)).2.2) KL45.out)); have n6_ := Aside0.mk (ho); clear HO_0; clear HO150; clear HB; clear HK; clear HR147; clear HR157; clear HO163; have HO_0 := n0_; have HO150 := n1_; have HB := n2_; have HK := n3_; have HR147 := n4_; have HR157 := n5_; have HO166 := n6_; clear n0_ n1_ n2_ n3_ n4_ n5_ n6_; clear ho hb hg hat))
                            go_ret
                            exact ⟨_, by first | rfl | (simp [errW_none, errW_some] <;> rfl) | (simp only [← hji5]; first | rfl | (simp [errW_none, errW_some] <;> rfl)) | (simp [*, errW_none, errW_some] <;> rfl), by (with_reducible repeat (first | apply Kd.R_alloc | apply Kd.R_drewN | apply Kd.R_drew)); exact Kd.R_mono HO166.out (fun _ hk => hk.1), by repeat (first | (with_reducible first | exact HB.out | apply below_alloc | apply pw_below_drewN | apply below_drew1) | exact HB.out), by repeat (first | (with_reducible first | exact HK.out | apply Kept.alloc | apply Kept.drewN | apply Kept.drew) | exact HK.out)⟩
                          · rw [if_neg c38] at H
                            exact absurd H (by simp)
                        · rw [if_neg c37] at H
                          exact absurd H (by simp)
                      · rw [if_neg c36] at H
                        exact absurd H (by simp)
                    · rw [if_neg c33] at H
                      exact absurd H (by simp)
                  · rw [if_neg c32] at H
                    exact absurd H (by simp)
                · rw [if_neg c31] at H
                  exact absurd H (by simp)
            · rw [if_neg c8] at H
              have c8b0 : (Op.bytesLess ((rdOf ByteArray.empty l0 (ji5)).toList) a1.toList) = false := by simpa using c8
              clear c8
              have H' := Aside0.mk H
              clear H
              have p113 : 0 ≤ ((ji5) : Int) := of_decide_eq_true (by first | (with_reducible assumption) | assumption)
              have q113 : (ji5) < (l0.length : Int) := of_decide_eq_true (by first | (with_reducible assumption) | assumption)
              obtain ⟨ad113, e113, hx113_0⟩ := Kd.at_string (Kd.R_reads' HO_0.out).2.2 (ji5) p113 q113
              cases e113
              replace p113 := eq_true p113
              replace q113 := eq_true q113
              go_wp2
              go_roundg k1
              case measure => have := HK1.out; omega
              case rel => exact ⟨(ji5), (by first | rfl | (simp; done) | (simp only [← hji5] <;> (first | rfl | simp)) | (simp [*]; done)), H', ⟨by have := HK1.out; omega⟩, ⟨by (with_reducible repeat (first | apply Kd.R_alloc | apply Kd.R_drewN | apply Kd.R_drew)); exact HO_0.out⟩, ⟨by repeat (first | (with_reducible first | exact HK.out | apply Kept.alloc | apply Kept.drewN | apply Kept.drew) | exact HK.out)⟩, ⟨by repeat (first | (with_reducible first | exact HB.out | apply below_alloc | apply pw_below_drewN | apply below_drew1) | exact HB.out)⟩⟩
          · rw [if_neg c7] at H
            exact absurd H (by simp)
        · rw [if_neg c6] at H
          exact absurd H (by simp)
      · rw [if_neg c4] at H
        have c4b0 : decide (0 < x5_1) = false := decide_eq_false c4
        clear c4
        by_cases c50 : x5_1 < (l0.length : Int)
        · rw [if_pos c50] at H
          have c50b0 : decide (x5_1 < (l0.length : Int)) = true := decide_eq_true c50
          clear c50
          by_cases c51 : 0 ≤ x5_1
          · rw [if_pos c51] at H
            have c51b0 : decide (0 ≤ x5_1) = true := decide_eq_true c51
            clear c51
            by_cases c52 : (rdOf ByteArray.empty l0 x5_1).toList = a1.toList
            · rw [if_pos c52] at H
              have c52b0 : ((rdOf ByteArray.empty l0 x5_1).toList == a1.toList) = true := beq_iff_eq.mpr c52
              have c52b1 : ((rdOf ByteArray.empty l0 x5_1).toList != a1.toList) = false := bne_eq_false_iff_eq.mpr c52
              clear c52
              obtain rfl := Option.some.inj H
              have p167 : 0 ≤ (x5_1 : Int) := of_decide_eq_true (by first | (with_reducible assumption) | assumption)
              have q167 : x5_1 < (l0.length : Int) := of_decide_eq_true (by first | (with_reducible assumption) | assumption)
              obtain ⟨ad167, e167, hx167_0⟩ := Kd.at_string (Kd.R_reads' HO_0.out).2.2 x5_1 p167 q167
              cases e167
              replace p167 := eq_true p167
              replace q167 := eq_true q167
              go_wp2
              go_ret
              exact ⟨_, by first | rfl | (simp [errW_none, errW_some] <;> rfl) | (simp [*, errW_none, errW_some] <;> rfl), by (with_reducible repeat (first | apply Kd.R_alloc | apply Kd.R_drewN | apply Kd.R_drew)); exact HO_0.out, by repeat (first | (with_reducible first | exact HB.out | apply below_alloc | apply pw_below_drewN | apply below_drew1) | exact HB.out), by repeat (first | (with_reducible first | exact HK.out | apply Kept.alloc | apply Kept.drewN | apply Kept.drew) | exact HK.out)⟩
            · rw [if_neg c52] at H
              have c52b0 : ((rdOf ByteArray.empty l0 x5_1).toList == a1.toList) = false := beq_eq_false_iff_ne.mpr c52
              have c52b1 : ((rdOf ByteArray.empty l0 x5_1).toList != a1.toList) = true := bne_iff_ne.mpr c52
              obtain ⟨y168, hy168⟩ : ∃ y_ : List ByteArray, y_ = (([] : List ByteArray)) := ⟨_, rfl⟩
              replace H : (if x5_1 ≤ (l0.length : Int) then ((some (l0.drop (x5_1 : Int).toNat : List ByteArray)).bind fun y171 => (if y168.length + y171.length < 8796093022208 then ((some (y168 ++ y171 : List ByteArray)).bind fun y175 => ((some (([] : List ByteArray) : List ByteArray)).bind fun y178 => ((some (l0.take (x5_1 : Int).toNat : List ByteArray)).bind fun y181 => (if y178.length + y181.length < 8796093022208 then ((some (y178 ++ y181 : List ByteArray)).bind fun y185 => (if y185.length < 8796093022208 then ((some (y185 ++ [a1] : List ByteArray)).bind fun y188 => (if y188.length + y175.length < 8796093022208 then (some (y188 ++ y175)) else (none))) else (none))) else (none))))) else (none))) else (none)) = some r := by first | (rw [hy168]; with_reducible exact H) | (have H2_ := (Option.bind_some _ _).symm.trans H; rw [hy168]; with_reducible exact H2_) | (have H2_ := (Option.bind_some _ _).symm.trans H; with_reducible exact H2_) | with_reducible exact H | (rw [hy168]; exact H) | exact H
              have Ny168 := Aside0.mk hy168
              clear hy168
              have c53b0 := eq_true (of_decide_eq_true (by first | (with_reducible assumption) | assumption) : 0 ≤ x5_1)
              by_cases c54 : x5_1 ≤ (l0.length : Int)
              · rw [if_pos c54] at H
                have c54b0 := eq_true c54
                have c54b1 : decide (x5_1 ≤ (l0.length : Int)) = true := decide_eq_true c54
                clear c54
                obtain ⟨y171, hy171⟩ : ∃ y_ : List ByteArray, y_ = (l0.drop (x5_1 : Int).toNat) := ⟨_, rfl⟩
                replace H : (if y168.length + y171.length < 8796093022208 then ((some (y168 ++ y171 : List ByteArray)).bind fun y175 => ((some (([] : List ByteArray) : List ByteArray)).bind fun y178 => ((some (l0.take (x5_1 : Int).toNat : List ByteArray)).bind fun y181 => (if y178.length + y181.length < 8796093022208 then ((some (y178 ++ y181 : List ByteArray)).bind fun y185 => (if y185.length < 8796093022208 then ((some (y185 ++ [a1] : List ByteArray)).bind fun y188 => (if y188.length + y175.length < 8796093022208 then (some (y188 ++ y175)) else (none))) else (none))) else (none))))) else (none)) = some r := by first | (rw [hy171]; with_reducible exact H) | (have H2_ := (Option.bind_some _ _).symm.trans H; rw [hy171]; with_reducible exact H2_) | (have H2_ := (Option.bind_some _ _).symm.trans H; with_reducible exact H2_) | with_reducible exact H | (rw [hy171]; exact H) | exact H
                have Ny171 := Aside0.mk hy171
                clear hy171
                by_cases c55 : y168.length + y171.length < 8796093022208
                · rw [if_pos c55] at H
                  have LMc55 := Aside0.mk c55
                  clear c55
                  obtain ⟨y175, hy175⟩ : ∃ y_ : List ByteArray, y_ = (y168 ++ y171) := ⟨_, rfl⟩
                  replace H : ((some (([] : List ByteArray) : List ByteArray)).bind fun y178 => ((some (l0.take (x5_1 : Int).toNat : List ByteArray)).bind fun y181 => (if y178.length + y181.length < 8796093022208 then ((some (y178 ++ y181 : List ByteArray)).bind fun y185 => (if y185.length < 8796093022208 then ((some (y185 ++ [a1] : List ByteArray)).bind fun y188 => (if y188.length + y175.length < 8796093022208 then (some (y188 ++ y175)) else (none))) else (none))) else (none)))) = some r := by first | (rw [hy175]; with_reducible exact H) | (have H2_ := (Option.bind_some _ _).symm.trans H; rw [hy175]; with_reducible exact H2_) | (have H2_ := (Option.bind_some _ _).symm.trans H; with_reducible exact H2_) | with_reducible exact H | (rw [hy175]; exact H) | exact H
                  have Ny175 := Aside0.mk hy175
                  clear hy175
                  obtain ⟨y178, hy178⟩ : ∃ y_ : List ByteArray, y_ = (([] : List ByteArray)) := ⟨_, rfl⟩
                  replace H : ((some (l0.take (x5_1 : Int).toNat : List ByteArray)).bind fun y181 => (if y178.length + y181.length < 8796093022208 then ((some (y178 ++ y181 : List ByteArray)).bind fun y185 => (if y185.length < 8796093022208 then ((some (y185 ++ [a1] : List ByteArray)).bind fun y188 => (if y188.length + y175.length < 8796093022208 then (some (y188 ++ y175)) else (none))) else (none))) else (none))) = some r := by first | (rw [hy178]; with_reducible exact H) | (have H2_ := (Option.bind_some _ _).symm.trans H; rw [hy178]; with_reducible exact H2_) | (have H2_ := (Option.bind_some _ _).symm.trans H; with_reducible exact H2_) | with_reducible exact H | (rw [hy178]; exact H) | exact H
                  have Ny178 := Aside0.mk hy178
                  clear hy178
                  have c56b0 := eq_true (of_decide_eq_true (by first | (with_reducible assumption) | assumption) : 0 ≤ x5_1)
                  have c57b0 := eq_true (of_decide_eq_true (by first | (with_reducible assumption) | assumption) : x5_1 ≤ (l0.length : Int))
                  obtain ⟨y181, hy181⟩ : ∃ y_ : List ByteArray, y_ = (l0.take (x5_1 : Int).toNat) := ⟨_, rfl⟩
                  replace H : (if y178.length + y181.length < 8796093022208 then ((some (y178 ++ y181 : List ByteArray)).bind fun y185 => (if y185.length < 8796093022208 then ((some (y185 ++ [a1] : List ByteArray)).bind fun y188 => (if y188.length + y175.length < 8796093022208 then (some (y188 ++ y175)) else (none))) else (none))) else (none)) = some r := by first | (rw [hy181]; with_reducible exact H) | (have H2_ := (Option.bind_some _ _).symm.trans H; rw [hy181]; with_reducible exact H2_) | (have H2_ := (Option.bind_some _ _).symm.trans H; with_reducible exact H2_) | with_reducible exact H | (rw [hy181]; exact H) | exact H
                  have Ny181 := Aside0.mk hy181
                  clear hy181
                  by_cases c58 : y178.length + y181.length < 8796093022208
                  · rw [if_pos c58] at H
                    have LMc58 := Aside0.mk c58
                    clear c58
                    obtain ⟨y185, hy185⟩ : ∃ y_ : List ByteArray, y_ = (y178 ++ y181) := ⟨_, rfl⟩
                    replace H : (if y185.length < 8796093022208 then ((some (y185 ++ [a1] : List ByteArray)).bind fun y188 => (if y188.length + y175.length < 8796093022208 then (some (y188 ++ y175)) else (none))) else (none)) = some r := by first | (rw [hy185]; with_reducible exact H) | (have H2_ := (Option.bind_some _ _).symm.trans H; rw [hy185]; with_reducible exact H2_) | (have H2_ := (Option.bind_some _ _).symm.trans H; with_reducible exact H2_) | with_reducible exact H | (rw [hy185]; exact H) | exact H
                    have Ny185 := Aside0.mk hy185
                    clear hy185
                    by_cases c59 : y185.length < 8796093022208
                    · rw [if_pos c59] at H
                      have LMc59 := Aside0.mk c59
                      clear c59
                      obtain ⟨y188, hy188⟩ : ∃ y_ : List ByteArray, y_ = (y185 ++ [a1]) := ⟨_, rfl⟩
                      replace H : (if y188.length + y175.length < 8796093022208 then (some (y188 ++ y175)) else (none)) = some r := by first | (rw [hy188]; with_reducible exact H) | (have H2_ := (Option.bind_some _ _).symm.trans H; rw [hy188]; with_reducible exact H2_) | (have H2_ := (Option.bind_some _ _).symm.trans H; with_reducible exact H2_) | with_reducible exact H | (rw [hy188]; exact H) | exact H
                      have Ny188 := Aside0.mk hy188
                      clear hy188
                      by_cases c60 : y188.length + y175.length < 8796093022208
                      · rw [if_pos c60] at H
                        have LMc60 := Aside0.mk c60
                        clear c60
                        obtain ⟨y191, hy191⟩ : ∃ y_ : List ByteArray, y_ = (y188 ++ y175) := ⟨_, rfl⟩
                        replace H : (some y191) = some r := by first | (rw [hy191]; with_reducible exact H) | (have H2_ := (Option.bind_some _ _).symm.trans H; rw [hy191]; with_reducible exact H2_) | (have H2_ := (Option.bind_some _ _).symm.trans H; with_reducible exact H2_) | with_reducible exact H | (rw [hy191]; exact H) | exact H
                        have Ny191 := Aside0.mk hy191
                        clear hy191
                        obtain rfl := Option.some.inj H
                        have p167 : 0 ≤ (x5_1 : Int) := of_decide_eq_true (by first | (with_reducible assumption) | assumption)
                        have q167 : x5_1 < (l0.length : Int) := of_decide_eq_true (by first | (with_reducible assumption) | assumption)
                        obtain ⟨ad167, e167, hx167_0⟩ := Kd.at_string (Kd.R_reads' HO_0.out).2.2 x5_1 p167 q167
                        cases e167
                        replace p167 := eq_true p167
                        replace q167 := eq_true q167
                        go_wp2_with (first | ((with_reducible refine gate_dst (N := 35) rfl ?_); refine Kd.R_lit Kd.string _ 9 ?hg (N := 35) ?hd (xs := ([] : List ByteArray)) (inner := []) (ok := fun _ => True) (okp := fun _ => True) ?hr ?hp (fun _ hk => hk) trivial (Below.refl _ _) (Nat.le_refl _) (by simp) ?_; (case hd => rfl); (case hg => rfl); (case hr => first | (go_simp; done) | (go_simp; rfl) | (simp only [i64_w]; first | (go_simp; done) | (go_simp; rfl))); (case hp => exact (Reps.none _ _)); intro v169 w61 ho62 hb hg_ hnew_; clear hg_ hnew_; (first | rw [← Ny168.out] at ho62 | (simp only [Int.reduceToNat] at ho62; rw [← Ny168.out] at ho62)); have n0_ := Aside0.mk (Kd.R_elder' (by (with_reducible repeat (first | apply Kd.R_alloc | apply Kd.R_drewN | apply Kd.R_drew)); exact HO_0.out) (Kd.R_base ho62) hb); have n1_ := Aside0.mk (Kd.R_lower (Kd.R_new' (Kd.R_newM (M := fun k_ => (P0_ k_ ∨ w.heap.size ≤ k_)) ho62 (by first | exact HK.out.1 | exact (show Kept w _ (fun k_ => P0_ k_) from by repeat (first | (with_reducible first | exact HK.out | apply Kept.alloc | apply Kept.drewN | apply Kept.drew) | exact HK.out)).1) (fun k_ h_ => .inr h_)) (Kd.R_lt (by (with_reducible repeat (first | apply Kd.R_alloc | apply Kd.R_drewN | apply Kd.R_drew)); exact HO_0.out))) (below_size (by repeat (first | (with_reducible first | exact HB.out | apply below_alloc | apply pw_below_drewN | apply below_drew1) | exact HB.out)))); have n2_ := Aside0.mk (Kept.below (S := (fun k_ => P0_ k_)) (by repeat (first | (with_reducible first | exact HK.out | apply Kept.alloc | apply Kept.drewN | apply Kept.drew) | exact HK.out)) hb); have n3_ := Aside0.mk (below_step (by repeat (first | (with_reducible first | exact HB.out | apply below_alloc | apply pw_below_drewN | apply below_drew1) | exact HB.out)) hb); clear HO_0; clear HK; clear HB; have HO_0 := n0_; have HO170 := n1_; have HK := n2_; have HB := n3_; clear n0_ n1_ n2_ n3_; clear hb ho62; have q63 : (x5_1 : Int) ≤ ((l0.length : Int) : Int) := of_decide_eq_true (by first | (with_reducible assumption) | assumption); obtain ⟨i063, hi063, _, hsz63, _⟩ := info_parts info9; have hroom63 : l0.length ≤ co3 := (Kd.R_reads' HO_0.out).2.1; have hC63 : Kd.C Kd.string _ (some ad167) l0.length l0 := (Kd.R_reads' HO_0.out).2.2; have q063 : (0 : Int) ≤ (x5_1 : Int) := of_decide_eq_true (by first | (with_reducible assumption) | assumption); have hcut63 := cut_from (P := Try.prog) 29 9 .i64 Try.underlying29 hi063 1 hsz63 (some ad167) l0.length co3 x5_1 q063 q63; have hr63 := Kd.C_drop (m := (x5_1 : Int).toNat) (c := co3) hC63 (by omega) hroom63; obtain ⟨A63, hA63⟩ : ∃ A1, A1 = (if co3 = (x5_1 : Int).toNat then (some ad167) else ((some ad167) : Option Addr).map (·.add ((x5_1 : Int).toNat * 1))) := ⟨_, rfl⟩; obtain ⟨c63, hc63⟩ : ∃ c1, c1 = co3 - (x5_1 : Int).toNat := ⟨_, rfl⟩; have hy63 : y171.length = l0.length - (x5_1 : Int).toNat := (by rw [Ny171.out, List.length_drop] <;> omega); rw [show (l0).drop (x5_1 : Int).toNat = y171 from Ny171.out.symm] at hr63; replace hr63 : Kd.C Kd.string _ A63 y171.length y171 := (by rw [hA63]; exact hr63); rw [← hy63, ← hA63, ← hc63] at hcut63; have HR174 := Aside0.mk hr63; have HC174 := Aside0.mk (show y171.length ≤ c63 from by rw [hy63, hc63]; exact Nat.sub_le_sub_right hroom63 _); clear hr63 hC63 hroom63 hi063 hsz63 hc63; have KY63 := Aside0.mk hy63; have KA63 := Aside0.mk hA63; clear hy63 hA63; have KL63 := Aside0.mk (show (x5_1 : Int).toNat ≤ l0.length from by omega); replace q63 := eq_true q63) | ((with_reducible refine gate_builtin (b := .append) (xs := #[.tmp 35, .tmp 38]) rfl ?_); at_builtin; refine Kd.R_append_rows Kd.string (w0 := w0) w0.heap.size rfl (.tmp 35) (.tmp 38) 29 9 (.string ⟨#[]⟩) 16 rfl Try.underlying29 info9 rfl (by decide) (by omega) v169 y168 y171 _ _ _ (fun k_ => (P0_ k_ ∨ w.heap.size ≤ k_) ∧ some k_ ≠ (.slice (some ad167) l0.length co3 : Value).ownBlock) (fun _ => False) rfl rfl ?aO ?aR (fun _ _ h => h) (fun _ h => h.elim) ?aF ?aB ?aS ?aL ?_; (case aR => repeat (first | exact (by repeat (first | (with_reducible exact HR174.out) | (with_reducible refine Kd.C_alloc ?_ _) | (with_reducible refine Kd.C_drewN ?_ _) | (with_reducible refine Kd.C_drew ?_) | exact HR174.out)) | (with_reducible refine Kd.C_alloc ?_ _) | (with_reducible refine Kd.C_drewN ?_ _) | (with_reducible refine Kd.C_drew ?_))); (case aB => exact (by repeat (first | (with_reducible first | exact HB.out | apply below_alloc | apply pw_below_drewN | apply below_drew1) | exact HB.out))); (case aF => exact (fun k_ hk => ⟨(.inr (Nat.le_trans (by first | exact HK.out.1 | exact (show Kept w _ (fun k_ => P0_ k_) from by repeat (first | (with_reducible first | exact HK.out | apply Kept.alloc | apply Kept.drewN | apply Kept.drew) | exact HK.out)).1) hk)), Kd.fresh' (Kd.R_lt (by (with_reducible repeat (first | apply Kd.R_alloc | apply Kd.R_drewN | apply Kd.R_drew)); exact HO_0.out)) k_ hk⟩)); (case aO => exact (by (with_reducible repeat (first | apply Kd.R_alloc | apply Kd.R_drewN | apply Kd.R_drew)); exact Kd.R_mono HO170.out (fun _ hk => ⟨hk.1.1, hk.2⟩))); (case aS => exact (below_size (by repeat (first | (with_reducible first | exact HB.out | apply below_alloc | apply pw_below_drewN | apply below_drew1) | exact HB.out)))); (case aL => have := LMc55.out; omega); intro v176 w64 ho hb hg hat; rw [← Ny175.out] at ho; have n0_ := Aside0.mk (Kd.R_after (ok := (fun k_ => (P0_ k_ ∨ w.heap.size ≤ k_))) (by (with_reducible repeat (first | apply Kd.R_alloc | apply Kd.R_drewN | apply Kd.R_drew)); exact HO_0.out) hg hat); have n1_ := Aside0.mk (hb); have n2_ := Aside0.mk (Kept.of_grown (S := (fun k_ => P0_ k_)) hg (by repeat (first | (with_reducible first | exact HK.out | apply Kept.alloc | apply Kept.drewN | apply Kept.drew) | exact HK.out)) (fun k_ e_ => (HO170.out.1 k_ e_).1.1)); have n3_ := Aside0.mk ((show Kd.C Kd.string w64 A63 y171.length y171 from by rw [Ny171.out, KA63.out]; exact Kd.C_drop (m := (x5_1 : Int).toNat) (c := co3) ((Kd.R_reads' (Kd.R_after (ok := (fun k_ => (P0_ k_ ∨ w.heap.size ≤ k_))) (by (with_reducible repeat (first | apply Kd.R_alloc | apply Kd.R_drewN | apply Kd.R_drew)); exact HO_0.out) hg hat)).2.2) KL63.out ((Kd.R_reads' (Kd.R_after (ok := (fun k_ => (P0_ k_ ∨ w.heap.size ≤ k_))) (by (with_reducible repeat (first | apply Kd.R_alloc | apply Kd.R_drewN | apply Kd.R_drew)); exact HO_0.out) hg hat)).2.1))); have n4_ := Aside0.mk (ho); clear HO_0; clear HB; clear HK; clear HR174; clear HO170; have HO_0 := n0_; have HB := n1_; have HK := n2_; have HR174 := n3_; have HO177 := n4_; clear n0_ n1_ n2_ n3_ n4_; clear ho hb hg hat) | ((with_reducible refine gate_dst (N := 40) rfl ?_); refine Kd.R_lit Kd.string _ 9 ?hg (N := 40) ?hd (xs := ([] : List ByteArray)) (inner := []) (ok := fun _ => True) (okp := fun _ => True) ?hr ?hp (fun _ hk => hk) trivial (Below.refl _ _) (Nat.le_refl _) (by simp) ?_; (case hd => rfl); (case hg => rfl); (case hr => first | (go_simp; done) | (go_simp; rfl) | (simp only [i64_w]; first | (go_simp; done) | (go_simp; rfl))); (case hp => exact (Reps.none _ _)); intro v179 w65 ho66 hb hg_ hnew_; clear hg_ hnew_; (first | rw [← Ny178.out] at ho66 | (simp only [Int.reduceToNat] at ho66; rw [← Ny178.out] at ho66)); have n0_ := Aside0.mk (Kd.R_elder' (by (with_reducible repeat (first | apply Kd.R_alloc | apply Kd.R_drewN | apply Kd.R_drew)); exact HO_0.out) (Kd.R_base ho66) hb); have n1_ := Aside0.mk (Kd.R_elder' (by (with_reducible repeat (first | apply Kd.R_alloc | apply Kd.R_drewN | apply Kd.R_drew)); exact HO177.out) (Kd.R_base ho66) hb); have n2_ := Aside0.mk (Kd.R_lower (Kd.R_new' (Kd.R_new' (Kd.R_newM (M := fun k_ => (P0_ k_ ∨ w.heap.size ≤ k_)) ho66 (by first | exact HK.out.1 | exact (show Kept w _ (fun k_ => P0_ k_) from by repeat (first | (with_reducible first | exact HK.out | apply Kept.alloc | apply Kept.drewN | apply Kept.drew) | exact HK.out)).1) (fun k_ h_ => .inr h_)) (Kd.R_lt (by (with_reducible repeat (first | apply Kd.R_alloc | apply Kd.R_drewN | apply Kd.R_drew)); exact HO_0.out))) (Kd.R_lt (by (with_reducible repeat (first | apply Kd.R_alloc | apply Kd.R_drewN | apply Kd.R_drew)); exact HO177.out))) (below_size (by repeat (first | (with_reducible first | exact HB.out | apply below_alloc | apply pw_below_drewN | apply below_drew1) | exact HB.out)))); have n3_ := Aside0.mk (Kd.C_below (by repeat (first | (with_reducible exact HR174.out) | (with_reducible refine Kd.C_alloc ?_ _) | (with_reducible refine Kd.C_drewN ?_ _) | (with_reducible refine Kd.C_drew ?_) | exact HR174.out)) hb); have n4_ := Aside0.mk (Kept.below (S := (fun k_ => P0_ k_)) (by repeat (first | (with_reducible first | exact HK.out | apply Kept.alloc | apply Kept.drewN | apply Kept.drew) | exact HK.out)) hb); have n5_ := Aside0.mk (below_step (by repeat (first | (with_reducible first | exact HB.out | apply below_alloc | apply pw_below_drewN | apply below_drew1) | exact HB.out)) hb); clear HO_0; clear HO177; clear HR174; clear HK; clear HB; have HO_0 := n0_; have HO177 := n1_; have HO180 := n2_; have HR174 := n3_; have HK := n4_; have HB := n5_; clear n0_ n1_ n2_ n3_ n4_ n5_; clear hb ho66; have q67 : (x5_1 : Int) ≤ ((l0.length : Int) : Int) := of_decide_eq_true (by first | (with_reducible assumption) | assumption); obtain ⟨i067, hi067, _, hsz67, _⟩ := info_parts info9; have hroom67 : l0.length ≤ co3 := (Kd.R_reads' HO_0.out).2.1; have hC67 : Kd.C Kd.string _ (some ad167) l0.length l0 := (Kd.R_reads' HO_0.out).2.2; have hcut67 := cut_to (P := Try.prog) 29 9 .i64 Try.underlying29 hi067 (some ad167) l0.length co3 x5_1 (of_decide_eq_true (by first | (with_reducible assumption) | assumption)) q67 hroom67; have hr67 := Kd.C_take (m := (x5_1 : Int).toNat) hC67 (by omega); have hy67 : y181.length = (x5_1 : Int).toNat := (by rw [Ny181.out, List.length_take]; omega); rw [← Ny181.out] at hr67; rw [← hy67] at hcut67; have HR184 := Aside0.mk hr67; have HC184 := Aside0.mk (show y181.length ≤ co3 from by omega); clear hr67 hC67 hroom67 hi067 hsz67; have KY67 := Aside0.mk hy67; clear hy67; have KL67 := Aside0.mk (show (x5_1 : Int).toNat ≤ l0.length from by omega); replace q67 := eq_true q67) | ((with_reducible refine gate_builtin (b := .append) (xs := #[.tmp 40, .tmp 43]) rfl ?_); at_builtin; refine Kd.R_append_rows Kd.string (w0 := w0) w0.heap.size rfl (.tmp 40) (.tmp 43) 29 9 (.string ⟨#[]⟩) 16 rfl Try.underlying29 info9 rfl (by decide) (by omega) v179 y178 y181 _ _ _ (fun k_ => (P0_ k_ ∨ w.heap.size ≤ k_) ∧ some k_ ≠ (.slice (some ad167) l0.length co3 : Value).ownBlock ∧ some k_ ≠ (v176 : Value).ownBlock) (fun _ => False) rfl rfl ?aO ?aR (fun _ _ h => h) (fun _ h => h.elim) ?aF ?aB ?aS ?aL ?_; (case aR => repeat (first | exact (by repeat (first | (with_reducible exact HR184.out) | (with_reducible refine Kd.C_alloc ?_ _) | (with_reducible refine Kd.C_drewN ?_ _) | (with_reducible refine Kd.C_drew ?_) | exact HR184.out)) | (with_reducible refine Kd.C_alloc ?_ _) | (with_reducible refine Kd.C_drewN ?_ _) | (with_reducible refine Kd.C_drew ?_))); (case aB => exact (by repeat (first | (with_reducible first | exact HB.out | apply below_alloc | apply pw_below_drewN | apply below_drew1) | exact HB.out))); (case aF => exact (fun k_ hk => ⟨(.inr (Nat.le_trans (by first | exact HK.out.1 | exact (show Kept w _ (fun k_ => P0_ k_) from by repeat (first | (with_reducible first | exact HK.out | apply Kept.alloc | apply Kept.drewN | apply Kept.drew) | exact HK.out)).1) hk)), Kd.fresh' (Kd.R_lt (by (with_reducible repeat (first | apply Kd.R_alloc | apply Kd.R_drewN | apply Kd.R_drew)); exact HO_0.out)) k_ hk, Kd.fresh' (Kd.R_lt (by (with_reducible repeat (first | apply Kd.R_alloc | apply Kd.R_drewN | apply Kd.R_drew)); exact HO177.out)) k_ hk⟩)); (case aO => exact (by (with_reducible repeat (first | apply Kd.R_alloc | apply Kd.R_drewN | apply Kd.R_drew)); exact Kd.R_mono HO180.out (fun _ hk => ⟨hk.1.1.1, ⟨hk.1.2, hk.2⟩⟩))); (case aS => exact (below_size (by repeat (first | (with_reducible first | exact HB.out | apply below_alloc | apply pw_below_drewN | apply below_drew1) | exact HB.out)))); (case aL => have := LMc58.out; omega); intro v186 w68 ho hb hg hat; rw [← Ny185.out] at ho; have n0_ := Aside0.mk (Kd.R_after (ok := (fun k_ => (P0_ k_ ∨ w.heap.size ≤ k_) ∧ some k_ ≠ (v176 : Value).ownBlock)) (by (with_reducible repeat (first | apply Kd.R_alloc | apply Kd.R_drewN | apply Kd.R_drew)); exact HO_0.out) hg hat); have n1_ := Aside0.mk (Kd.R_after (ok := (fun k_ => (P0_ k_ ∨ w.heap.size ≤ k_) ∧ some k_ ≠ (.slice (some ad167) l0.length co3 : Value).ownBlock)) (by (with_reducible repeat (first | apply Kd.R_alloc | apply Kd.R_drewN | apply Kd.R_drew)); exact HO177.out) hg hat); have n2_ := Aside0.mk (hb); have n3_ := Aside0.mk (Kept.of_grown (S := (fun k_ => P0_ k_)) hg (by repeat (first | (with_reducible first | exact HK.out | apply Kept.alloc | apply Kept.drewN | apply Kept.drew) | exact HK.out)) (fun k_ e_ => (HO180.out.1 k_ e_).1.1.1)); have n4_ := Aside0.mk ((show Kd.C Kd.string w68 A63 y171.length y171 from by rw [Ny171.out, KA63.out]; exact Kd.C_drop (m := (x5_1 : Int).toNat) (c := co3) ((Kd.R_reads' (Kd.R_after (ok := (fun k_ => (P0_ k_ ∨ w.heap.size ≤ k_) ∧ some k_ ≠ (v176 : Value).ownBlock)) (by (with_reducible repeat (first | apply Kd.R_alloc | apply Kd.R_drewN | apply Kd.R_drew)); exact HO_0.out) hg hat)).2.2) KL63.out ((Kd.R_reads' (Kd.R_after (ok := (fun k_ => (P0_ k_ ∨ w.heap.size ≤ k_) ∧ some k_ ≠ (v176 : Value).ownBlock)) (by (with_reducible repeat (first | apply Kd.R_alloc | apply Kd.R_drewN | apply Kd.R_drew)); exact HO_0.out) hg hat)).2.1))); have n5_ := Aside0.mk ((show Kd.C Kd.string w68 (some ad167) y181.length y181 from by rw [Ny181.out]; exact Kd.C_take (m := (x5_1 : Int).toNat) ((Kd.R_reads' (Kd.R_after (ok := (fun k_ => (P0_ k_ ∨ w.heap.size ≤ k_) ∧ some k_ ≠ (v176 : Value).ownBlock)) (by (with_reducible repeat (first | apply Kd.R_alloc | apply Kd.R_drewN | apply Kd.R_drew)); exact HO_0.out) hg hat)).2.2) KL67.out)); have n6_ := Aside0.mk (ho); clear HO_0; clear HO177; clear HB; clear HK; clear HR174; clear HR184; clear HO180; have HO_0 := n0_; have HO177 := n1_; have HB := n2_; have HK := n3_; have HR174 := n4_; have HR184 := n5_; have HO187 := n6_; clear n0_ n1_ n2_ n3_ n4_ n5_ n6_; clear ho hb hg hat) | ((with_reducible refine gate_builtin (b := .append) (xs := #[.tmp 44, .tmp 46]) rfl ?_); at_builtin; refine Kd.R_append Kd.string (w0 := w0) w0.heap.size rfl (.tmp 44) (.tmp 46) 29 9 (.string ⟨#[]⟩) 16 rfl Try.underlying29 info9 rfl (by decide) (by omega) v186 y185 a1 [.string a1] (fun k_ => (P0_ k_ ∨ w.heap.size ≤ k_) ∧ some k_ ≠ (.slice (some ad167) l0.length co3 : Value).ownBlock ∧ some k_ ≠ (v176 : Value).ownBlock) (fun _ => False) rfl rfl ?aP (fun _ hk => hk.elim) ?aF ?aO ?aB ?aS ?aL ?_; (case aP => exact rfl); (case aB => exact (by repeat (first | (with_reducible first | exact HB.out | apply below_alloc | apply pw_below_drewN | apply below_drew1) | exact HB.out))); (case aF => exact (fun k_ hk => ⟨(.inr (Nat.le_trans (by first | exact HK.out.1 | exact (show Kept w _ (fun k_ => P0_ k_) from by repeat (first | (with_reducible first | exact HK.out | apply Kept.alloc | apply Kept.drewN | apply Kept.drew) | exact HK.out)).1) hk)), Kd.fresh' (Kd.R_lt (by (with_reducible repeat (first | apply Kd.R_alloc | apply Kd.R_drewN | apply Kd.R_drew)); exact HO_0.out)) k_ hk, Kd.fresh' (Kd.R_lt (by (with_reducible repeat (first | apply Kd.R_alloc | apply Kd.R_drewN | apply Kd.R_drew)); exact HO177.out)) k_ hk⟩)); (case aO => exact (by (with_reducible repeat (first | apply Kd.R_alloc | apply Kd.R_drewN | apply Kd.R_drew)); exact HO187.out)); (case aS => exact (below_size (by repeat (first | (with_reducible first | exact HB.out | apply below_alloc | apply pw_below_drewN | apply below_drew1) | exact HB.out)))); (case aL => have := LMc59.out; omega); intro v189 w69 ho hb hg hat; rw [← Ny188.out] at ho; have n0_ := Aside0.mk (Kd.R_after (ok := (fun k_ => (P0_ k_ ∨ w.heap.size ≤ k_) ∧ some k_ ≠ (v176 : Value).ownBlock)) (by (with_reducible repeat (first | apply Kd.R_alloc | apply Kd.R_drewN | apply Kd.R_drew)); exact HO_0.out) hg hat); have n1_ := Aside0.mk (Kd.R_after (ok := (fun k_ => (P0_ k_ ∨ w.heap.size ≤ k_) ∧ some k_ ≠ (.slice (some ad167) l0.length co3 : Value).ownBlock)) (by (with_reducible repeat (first | apply Kd.R_alloc | apply Kd.R_drewN | apply Kd.R_drew)); exact HO177.out) hg hat); have n2_ := Aside0.mk (hb); have n3_ := Aside0.mk (Kept.of_grown (S := (fun k_ => P0_ k_)) hg (by repeat (first | (with_reducible first | exact HK.out | apply Kept.alloc | apply Kept.drewN | apply Kept.drew) | exact HK.out)) (fun k_ e_ => (HO187.out.1 k_ e_).1)); have n4_ := Aside0.mk ((show Kd.C Kd.string w69 A63 y171.length y171 from by rw [Ny171.out, KA63.out]; exact Kd.C_drop (m := (x5_1 : Int).toNat) (c := co3) ((Kd.R_reads' (Kd.R_after (ok := (fun k_ => (P0_ k_ ∨ w.heap.size ≤ k_) ∧ some k_ ≠ (v176 : Value).ownBlock)) (by (with_reducible repeat (first | apply Kd.R_alloc | apply Kd.R_drewN | apply Kd.R_drew)); exact HO_0.out) hg hat)).2.2) KL63.out ((Kd.R_reads' (Kd.R_after (ok := (fun k_ => (P0_ k_ ∨ w.heap.size ≤ k_) ∧ some k_ ≠ (v176 : Value).ownBlock)) (by (with_reducible repeat (first | apply Kd.R_alloc | apply Kd.R_drewN | apply Kd.R_drew)); exact HO_0.out) hg hat)).2.1))); have n5_ := Aside0.mk ((show Kd.C Kd.string w69 (some ad167) y181.length y181 from by rw [Ny181.out]; exact Kd.C_take (m := (x5_1 : Int).toNat) ((Kd.R_reads' (Kd.R_after (ok := (fun k_ => (P0_ k_ ∨ w.heap.size ≤ k_) ∧ some k_ ≠ (v176 : Value).ownBlock)) (by (with_reducible repeat (first | apply Kd.R_alloc | apply Kd.R_drewN | apply Kd.R_drew)); exact HO_0.out) hg hat)).2.2) KL67.out)); have n6_ := Aside0.mk (ho); clear HO_0; clear HO177; clear HB; clear HK; clear HR174; clear HR184; clear HO187; have HO_0 := n0_; have HO177 := n1_; have HB := n2_; have HK := n3_; have HR174 := n4_; have HR184 := n5_; have HO190 := n6_; clear n0_ n1_ n2_ n3_ n4_ n5_ n6_; clear ho hb hg hat; obtain ⟨Ao71, co71, eo71⟩ := Kd.R_slice HO177.out; subst eo71) | ((with_reducible refine gate_builtin (b := .append) (xs := #[.tmp 47, .tmp 48]) rfl ?_); at_builtin; refine Kd.R_append_rows Kd.string (w0 := w0) w0.heap.size rfl (.tmp 47) (.tmp 48) 29 9 (.string ⟨#[]⟩) 16 rfl Try.underlying29 info9 rfl (by decide) (by omega) v189 y188 y175 _ _ _ (fun k_ => (P0_ k_ ∨ w.heap.size ≤ k_) ∧ some k_ ≠ (.slice (some ad167) l0.length co3 : Value).ownBlock ∧ some k_ ≠ (.slice Ao71 y175.length co71 : Value).ownBlock) (fun _ => False) rfl rfl ?aO ?aR (fun _ _ h => h) (fun _ h => h.elim) ?aF ?aB ?aS ?aL ?_; (case aR => repeat (first | exact (Kd.R_reads' HO177.out).2.2 | (with_reducible refine Kd.C_alloc ?_ _) | (with_reducible refine Kd.C_drewN ?_ _) | (with_reducible refine Kd.C_drew ?_))); (case aB => exact (by repeat (first | (with_reducible first | exact HB.out | apply below_alloc | apply pw_below_drewN | apply below_drew1) | exact HB.out))); (case aF => exact (fun k_ hk => ⟨(.inr (Nat.le_trans (by first | exact HK.out.1 | exact (show Kept w _ (fun k_ => P0_ k_) from by repeat (first | (with_reducible first | exact HK.out | apply Kept.alloc | apply Kept.drewN | apply Kept.drew) | exact HK.out)).1) hk)), Kd.fresh' (Kd.R_lt (by (with_reducible repeat (first | apply Kd.R_alloc | apply Kd.R_drewN | apply Kd.R_drew)); exact HO_0.out)) k_ hk, Kd.fresh' (Kd.R_lt (by (with_reducible repeat (first | apply Kd.R_alloc | apply Kd.R_drewN | apply Kd.R_drew)); exact HO177.out)) k_ hk⟩)); (case aO => exact (by (with_reducible repeat (first | apply Kd.R_alloc | apply Kd.R_drewN | apply Kd.R_drew)); exact HO190.out)); (case aS => exact (below_size (by repeat (first | (with_reducible first | exact HB.out | apply below_alloc | apply pw_below_drewN | apply below_drew1) | exact HB.out)))); (case aL => have := LMc60.out; omega); intro v192 w70 ho hb hg hat; rw [← Ny191.out] at ho; have n0_ := Aside0.mk (Kd.R_after (ok := (fun k_ => (P0_ k_ ∨ w.heap.size ≤ k_) ∧ some k_ ≠ (.slice Ao71 y175.length co71 : Value).ownBlock)) (by (with_reducible repeat (first | apply Kd.R_alloc | apply Kd.R_drewN | apply Kd.R_drew)); exact HO_0.out) hg hat); have n1_ := Aside0.mk (Kd.R_after (ok := (fun k_ => (P0_ k_ ∨ w.heap.size ≤ k_) ∧ some k_ ≠ (.slice (some ad167) l0.length co3 : Value).ownBlock)) (by (with_reducible repeat (first | apply Kd.R_alloc | apply Kd.R_drewN | apply Kd.R_drew)); exact HO177.out) hg hat); have n2_ := Aside0.mk (hb); have n3_ := Aside0.mk (Kept.of_grown (S := (fun k_ => P0_ k_)) hg (by repeat (first | (with_reducible first | exact HK.out | apply Kept.alloc | apply Kept.drewN | apply Kept.drew) | exact HK.out)) (fun k_ e_ => (HO190.out.1 k_ e_).1)); have n4_ := Aside0.mk ((show Kd.C Kd.string w70 A63 y171.length y171 from by rw [Ny171.out, KA63.out]; exact Kd.C_drop (m := (x5_1 : Int).toNat) (c := co3) ((Kd.R_reads' (Kd.R_after (ok := (fun k_ => (P0_ k_ ∨ w.heap.size ≤ k_) ∧ some k_ ≠ (.slice Ao71 y175.length co71 : Value).ownBlock)) (by (with_reducible repeat (first | apply Kd.R_alloc | apply Kd.R_drewN | apply Kd.R_drew)); exact HO_0.out) hg hat)).2.2) KL63.out ((Kd.R_reads' (Kd.R_after (ok := (fun k_ => (P0_ k_ ∨ w.heap.size ≤ k_) ∧ some k_ ≠ (.slice Ao71 y175.length co71 : Value).ownBlock)) (by (with_reducible repeat (first | apply Kd.R_alloc | apply Kd.R_drewN | apply Kd.R_drew)); exact HO_0.out) hg hat)).2.1))); have n5_ := Aside0.mk ((show Kd.C Kd.string w70 (some ad167) y181.length y181 from by rw [Ny181.out]; exact Kd.C_take (m := (x5_1 : Int).toNat) ((Kd.R_reads' (Kd.R_after (ok := (fun k_ => (P0_ k_ ∨ w.heap.size ≤ k_) ∧ some k_ ≠ (.slice Ao71 y175.length co71 : Value).ownBlock)) (by (with_reducible repeat (first | apply Kd.R_alloc | apply Kd.R_drewN | apply Kd.R_drew)); exact HO_0.out) hg hat)).2.2) KL67.out)); have n6_ := Aside0.mk (ho); clear HO_0; clear HO177; clear HB; clear HK; clear HR174; clear HR184; clear HO190; have HO_0 := n0_; have HO177 := n1_; have HB := n2_; have HK := n3_; have HR174 := n4_; have HR184 := n5_; have HO193 := n6_; clear n0_ n1_ n2_ n3_ n4_ n5_ n6_; clear ho hb hg hat))
                        go_ret
                        exact ⟨_, by first | rfl | (simp [errW_none, errW_some] <;> rfl) | (simp [*, errW_none, errW_some] <;> rfl), by (with_reducible repeat (first | apply Kd.R_alloc | apply Kd.R_drewN | apply Kd.R_drew)); exact Kd.R_mono HO193.out (fun _ hk => hk.1), by repeat (first | (with_reducible first | exact HB.out | apply below_alloc | apply pw_below_drewN | apply below_drew1) | exact HB.out), by repeat (first | (with_reducible first | exact HK.out | apply Kept.alloc | apply Kept.drewN | apply Kept.drew) | exact HK.out)⟩
                      · rw [if_neg c60] at H
                        exact absurd H (by simp)
                    · rw [if_neg c59] at H
                      exact absurd H (by simp)
                  · rw [if_neg c58] at H
                    exact absurd H (by simp)
                · rw [if_neg c55] at H
                  exact absurd H (by simp)
              · rw [if_neg c54] at H
                exact absurd H (by simp)
          · rw [if_neg c51] at H
            exact absurd H (by simp)
        · rw [if_neg c50] at H
          have c50b0 : decide (x5_1 < (l0.length : Int)) = false := decide_eq_false c50
          clear c50
          obtain ⟨y194, hy194⟩ : ∃ y_ : List ByteArray, y_ = (([] : List ByteArray)) := ⟨_, rfl⟩
          replace H : (if 0 ≤ x5_1 then (if x5_1 ≤ (l0.length : Int) then ((some (l0.drop (x5_1 : Int).toNat : List ByteArray)).bind fun y197 => (if y194.length + y197.length < 8796093022208 then ((some (y194 ++ y197 : List ByteArray)).bind fun y201 => ((some (([] : List ByteArray) : List ByteArray)).bind fun y204 => ((some (l0.take (x5_1 : Int).toNat : List ByteArray)).bind fun y207 => (if y204.length + y207.length < 8796093022208 then ((some (y204 ++ y207 : List ByteArray)).bind fun y211 => (if y211.length < 8796093022208 then ((some (y211 ++ [a1] : List ByteArray)).bind fun y214 => (if y214.length + y201.length < 8796093022208 then (some (y214 ++ y201)) else (none))) else (none))) else (none))))) else (none))) else (none)) else (none)) = some r := by first | (rw [hy194]; with_reducible exact H) | (have H2_ := (Option.bind_some _ _).symm.trans H; rw [hy194]; with_reducible exact H2_) | (have H2_ := (Option.bind_some _ _).symm.trans H; with_reducible exact H2_) | with_reducible exact H | (rw [hy194]; exact H) | exact H
          have Ny194 := Aside0.mk hy194
          clear hy194
          by_cases c72 : 0 ≤ x5_1
          · rw [if_pos c72] at H
            have c72b0 := eq_true c72
            have c72b1 : decide (0 ≤ x5_1) = true := decide_eq_true c72
            clear c72
            by_cases c73 : x5_1 ≤ (l0.length : Int)
            · rw [if_pos c73] at H
              have c73b0 := eq_true c73
              have c73b1 : decide (x5_1 ≤ (l0.length : Int)) = true := decide_eq_true c73
              clear c73
              obtain ⟨y197, hy197⟩ : ∃ y_ : List ByteArray, y_ = (l0.drop (x5_1 : Int).toNat) := ⟨_, rfl⟩
              replace H : (if y194.length + y197.length < 8796093022208 then ((some (y194 ++ y197 : List ByteArray)).bind fun y201 => ((some (([] : List ByteArray) : List ByteArray)).bind fun y204 => ((some (l0.take (x5_1 : Int).toNat : List ByteArray)).bind fun y207 => (if y204.length + y207.length < 8796093022208 then ((some (y204 ++ y207 : List ByteArray)).bind fun y211 => (if y211.length < 8796093022208 then ((some (y211 ++ [a1] : List ByteArray)).bind fun y214 => (if y214.length + y201.length < 8796093022208 then (some (y214 ++ y201)) else (none))) else (none))) else (none))))) else (none)) = some r := by first | (rw [hy197]; with_reducible exact H) | (have H2_ := (Option.bind_some _ _).symm.trans H; rw [hy197]; with_reducible exact H2_) | (have H2_ := (Option.bind_some _ _).symm.trans H; with_reducible exact H2_) | with_reducible exact H | (rw [hy197]; exact H) | exact H
              have Ny197 := Aside0.mk hy197
              clear hy197
              by_cases c74 : y194.length + y197.length < 8796093022208
              · rw [if_pos c74] at H
                have LMc74 := Aside0.mk c74
                clear c74
                obtain ⟨y201, hy201⟩ : ∃ y_ : List ByteArray, y_ = (y194 ++ y197) := ⟨_, rfl⟩
                replace H : ((some (([] : List ByteArray) : List ByteArray)).bind fun y204 => ((some (l0.take (x5_1 : Int).toNat : List ByteArray)).bind fun y207 => (if y204.length + y207.length < 8796093022208 then ((some (y204 ++ y207 : List ByteArray)).bind fun y211 => (if y211.length < 8796093022208 then ((some (y211 ++ [a1] : List ByteArray)).bind fun y214 => (if y214.length + y201.length < 8796093022208 then (some (y214 ++ y201)) else (none))) else (none))) else (none)))) = some r := by first | (rw [hy201]; with_reducible exact H) | (have H2_ := (Option.bind_some _ _).symm.trans H; rw [hy201]; with_reducible exact H2_) | (have H2_ := (Option.bind_some _ _).symm.trans H; with_reducible exact H2_) | with_reducible exact H | (rw [hy201]; exact H) | exact H
                have Ny201 := Aside0.mk hy201
                clear hy201
                obtain ⟨y204, hy204⟩ : ∃ y_ : List ByteArray, y_ = (([] : List ByteArray)) := ⟨_, rfl⟩
                replace H : ((some (l0.take (x5_1 : Int).toNat : List ByteArray)).bind fun y207 => (if y204.length + y207.length < 8796093022208 then ((some (y204 ++ y207 : List ByteArray)).bind fun y211 => (if y211.length < 8796093022208 then ((some (y211 ++ [a1] : List ByteArray)).bind fun y214 => (if y214.length + y201.length < 8796093022208 then (some (y214 ++ y201)) else (none))) else (none))) else (none))) = some r := by first | (rw [hy204]; with_reducible exact H) | (have H2_ := (Option.bind_some _ _).symm.trans H; rw [hy204]; with_reducible exact H2_) | (have H2_ := (Option.bind_some _ _).symm.trans H; with_reducible exact H2_) | with_reducible exact H | (rw [hy204]; exact H) | exact H
                have Ny204 := Aside0.mk hy204
                clear hy204
                have c75b0 := eq_true (of_decide_eq_true (by first | (with_reducible assumption) | assumption) : 0 ≤ x5_1)
                have c76b0 := eq_true (of_decide_eq_true (by first | (with_reducible assumption) | assumption) : x5_1 ≤ (l0.length : Int))
                obtain ⟨y207, hy207⟩ : ∃ y_ : List ByteArray, y_ = (l0.take (x5_1 : Int).toNat) := ⟨_, rfl⟩
                replace H : (if y204.length + y207.length < 8796093022208 then ((some (y204 ++ y207 : List ByteArray)).bind fun y211 => (if y211.length < 8796093022208 then ((some (y211 ++ [a1] : List ByteArray)).bind fun y214 => (if y214.length + y201.length < 8796093022208 then (some (y214 ++ y201)) else (none))) else (none))) else (none)) = some r := by first | (rw [hy207]; with_reducible exact H) | (have H2_ := (Option.bind_some _ _).symm.trans H; rw [hy207]; with_reducible exact H2_) | (have H2_ := (Option.bind_some _ _).symm.trans H; with_reducible exact H2_) | with_reducible exact H | (rw [hy207]; exact H) | exact H
                have Ny207 := Aside0.mk hy207
                clear hy207
                by_cases c77 : y204.length + y207.length < 8796093022208
                · rw [if_pos c77] at H
                  have LMc77 := Aside0.mk c77
                  clear c77
                  obtain ⟨y211, hy211⟩ : ∃ y_ : List ByteArray, y_ = (y204 ++ y207) := ⟨_, rfl⟩
                  replace H : (if y211.length < 8796093022208 then ((some (y211 ++ [a1] : List ByteArray)).bind fun y214 => (if y214.length + y201.length < 8796093022208 then (some (y214 ++ y201)) else (none))) else (none)) = some r := by first | (rw [hy211]; with_reducible exact H) | (have H2_ := (Option.bind_some _ _).symm.trans H; rw [hy211]; with_reducible exact H2_) | (have H2_ := (Option.bind_some _ _).symm.trans H; with_reducible exact H2_) | with_reducible exact H | (rw [hy211]; exact H) | exact H
                  have Ny211 := Aside0.mk hy211
                  clear hy211
                  by_cases c78 : y211.length < 8796093022208
                  · rw [if_pos c78] at H
                    have LMc78 := Aside0.mk c78
                    clear c78
                    obtain ⟨y214, hy214⟩ : ∃ y_ : List ByteArray, y_ = (y211 ++ [a1]) := ⟨_, rfl⟩
                    replace H : (if y214.length + y201.length < 8796093022208 then (some (y214 ++ y201)) else (none)) = some r := by first | (rw [hy214]; with_reducible exact H) | (have H2_ := (Option.bind_some _ _).symm.trans H; rw [hy214]; with_reducible exact H2_) | (have H2_ := (Option.bind_some _ _).symm.trans H; with_reducible exact H2_) | with_reducible exact H | (rw [hy214]; exact H) | exact H
                    have Ny214 := Aside0.mk hy214
                    clear hy214
                    by_cases c79 : y214.length + y201.length < 8796093022208
                    · rw [if_pos c79] at H
                      have LMc79 := Aside0.mk c79
                      clear c79
                      obtain ⟨y217, hy217⟩ : ∃ y_ : List ByteArray, y_ = (y214 ++ y201) := ⟨_, rfl⟩
                      replace H : (some y217) = some r := by first | (rw [hy217]; with_reducible exact H) | (have H2_ := (Option.bind_some _ _).symm.trans H; rw [hy217]; with_reducible exact H2_) | (have H2_ := (Option.bind_some _ _).symm.trans H; with_reducible exact H2_) | with_reducible exact H | (rw [hy217]; exact H) | exact H
                      have Ny217 := Aside0.mk hy217
                      clear hy217
                      obtain rfl := Option.some.inj H
                      go_wp2_with (first | ((with_reducible refine gate_dst (N := 35) rfl ?_); refine Kd.R_lit Kd.string _ 9 ?hg (N := 35) ?hd (xs := ([] : List ByteArray)) (inner := []) (ok := fun _ => True) (okp := fun _ => True) ?hr ?hp (fun _ hk => hk) trivial (Below.refl _ _) (Nat.le_refl _) (by simp) ?_; (case hd => rfl); (case hg => rfl); (case hr => first | (go_simp; done) | (go_simp; rfl) | (simp only [i64_w]; first | (go_simp; done) | (go_simp; rfl))); (case hp => exact (Reps.none _ _)); intro v195 w80 ho81 hb hg_ hnew_; clear hg_ hnew_; (first | rw [← Ny194.out] at ho81 | (simp only [Int.reduceToNat] at ho81; rw [← Ny194.out] at ho81)); have n0_ := Aside0.mk (Kd.R_elder' (by (with_reducible repeat (first | apply Kd.R_alloc | apply Kd.R_drewN | apply Kd.R_drew)); exact HO_0.out) (Kd.R_base ho81) hb); have n1_ := Aside0.mk (Kd.R_lower (Kd.R_new' (Kd.R_newM (M := fun k_ => (P0_ k_ ∨ w.heap.size ≤ k_)) ho81 (by first | exact HK.out.1 | exact (show Kept w _ (fun k_ => P0_ k_) from by repeat (first | (with_reducible first | exact HK.out | apply Kept.alloc | apply Kept.drewN | apply Kept.drew) | exact HK.out)).1) (fun k_ h_ => .inr h_)) (Kd.R_lt (by (with_reducible repeat (first | apply Kd.R_alloc | apply Kd.R_drewN | apply Kd.R_drew)); exact HO_0.out))) (below_size (by repeat (first | (with_reducible first | exact HB.out | apply below_alloc | apply pw_below_drewN | apply below_drew1) | exact HB.out)))); have n2_ := Aside0.mk (Kept.below (S := (fun k_ => P0_ k_)) (by repeat (first | (with_reducible first | exact HK.out | apply Kept.alloc | apply Kept.drewN | apply Kept.drew) | exact HK.out)) hb); have n3_ := Aside0.mk (below_step (by repeat (first | (with_reducible first | exact HB.out | apply below_alloc | apply pw_below_drewN | apply below_drew1) | exact HB.out)) hb); clear HO_0; clear HK; clear HB; have HO_0 := n0_; have HO196 := n1_; have HK := n2_; have HB := n3_; clear n0_ n1_ n2_ n3_; clear hb ho81; have q82 : (x5_1 : Int) ≤ ((l0.length : Int) : Int) := of_decide_eq_true (by first | (with_reducible assumption) | assumption); obtain ⟨i082, hi082, _, hsz82, _⟩ := info_parts info9; have hroom82 : l0.length ≤ co3 := (Kd.R_reads' HO_0.out).2.1; have hC82 : Kd.C Kd.string _ Ao3 l0.length l0 := (Kd.R_reads' HO_0.out).2.2; have q082 : (0 : Int) ≤ (x5_1 : Int) := of_decide_eq_true (by first | (with_reducible assumption) | assumption); have hcut82 := cut_from (P := Try.prog) 29 9 .i64 Try.underlying29 hi082 1 hsz82 Ao3 l0.length co3 x5_1 q082 q82; have hr82 := Kd.C_drop (m := (x5_1 : Int).toNat) (c := co3) hC82 (by omega) hroom82; obtain ⟨A82, hA82⟩ : ∃ A1, A1 = (if co3 = (x5_1 : Int).toNat then Ao3 else (Ao3 : Option Addr).map (·.add ((x5_1 : Int).toNat * 1))) := ⟨_, rfl⟩; obtain ⟨c82, hc82⟩ : ∃ c1, c1 = co3 - (x5_1 : Int).toNat := ⟨_, rfl⟩; have hy82 : y197.length = l0.length - (x5_1 : Int).toNat := (by rw [Ny197.out, List.length_drop] <;> omega); rw [show (l0).drop (x5_1 : Int).toNat = y197 from Ny197.out.symm] at hr82; replace hr82 : Kd.C Kd.string _ A82 y197.length y197 := (by rw [hA82]; exact hr82); rw [← hy82, ← hA82, ← hc82] at hcut82; have HR200 := Aside0.mk hr82; have HC200 := Aside0.mk (show y197.length ≤ c82 from by rw [hy82, hc82]; exact Nat.sub_le_sub_right hroom82 _); clear hr82 hC82 hroom82 hi082 hsz82 hc82; have KY82 := Aside0.mk hy82; have KA82 := Aside0.mk hA82; clear hy82 hA82; have KL82 := Aside0.mk (show (x5_1 : Int).toNat ≤ l0.length from by omega); replace q82 := eq_true q82) | ((with_reducible refine gate_builtin (b := .append) (xs := #[.tmp 35, .tmp 38]) rfl ?_); at_builtin; refine Kd.R_append_rows Kd.string (w0 := w0) w0.heap.size rfl (.tmp 35) (.tmp 38) 29 9 (.string ⟨#[]⟩) 16 rfl Try.underlying29 info9 rfl (by decide) (by omega) v195 y194 y197 _ _ _ (fun k_ => (P0_ k_ ∨ w.heap.size ≤ k_) ∧ some k_ ≠ (.slice Ao3 l0.length co3 : Value).ownBlock) (fun _ => False) rfl rfl ?aO ?aR (fun _ _ h => h) (fun _ h => h.elim) ?aF ?aB ?aS ?aL ?_; (case aR => repeat (first | exact (by repeat (first | (with_reducible exact HR200.out) | (with_reducible refine Kd.C_alloc ?_ _) | (with_reducible refine Kd.C_drewN ?_ _) | (with_reducible refine Kd.C_drew ?_) | exact HR200.out)) | (with_reducible refine Kd.C_alloc ?_ _) | (with_reducible refine Kd.C_drewN ?_ _) | (with_reducible refine Kd.C_drew ?_))); (case aB => exact (by repeat (first | (with_reducible first | exact HB.out | apply below_alloc | apply pw_below_drewN | apply below_drew1) | exact HB.out))); (case aF => exact (fun k_ hk => ⟨(.inr (Nat.le_trans (by first | exact HK.out.1 | exact (show Kept w _ (fun k_ => P0_ k_) from by repeat (first | (with_reducible first | exact HK.out | apply Kept.alloc | apply Kept.drewN | apply Kept.drew) | exact HK.out)).1) hk)), Kd.fresh' (Kd.R_lt (by (with_reducible repeat (first | apply Kd.R_alloc | apply Kd.R_drewN | apply Kd.R_drew)); exact HO_0.out)) k_ hk⟩)); (case aO => exact (by (with_reducible repeat (first | apply Kd.R_alloc | apply Kd.R_drewN | apply Kd.R_drew)); exact Kd.R_mono HO196.out (fun _ hk => ⟨hk.1.1, hk.2⟩))); (case aS => exact (below_size (by repeat (first | (with_reducible first | exact HB.out | apply below_alloc | apply pw_below_drewN | apply below_drew1) | exact HB.out)))); (case aL => have := LMc74.out; omega); intro v202 w83 ho hb hg hat; rw [← Ny201.out] at ho; have n0_ := Aside0.mk (Kd.R_after (ok := (fun k_ => (P0_ k_ ∨ w.heap.size ≤ k_))) (by (with_reducible repeat (first | apply Kd.R_alloc | apply Kd.R_drewN | apply Kd.R_drew)); exact HO_0.out) hg hat); have n1_ := Aside0.mk (hb); have n2_ := Aside0.mk (Kept.of_grown (S := (fun k_ => P0_ k_)) hg (by repeat (first | (with_reducible first | exact HK.out | apply Kept.alloc | apply Kept.drewN | apply Kept.drew) | exact HK.out)) (fun k_ e_ => (HO196.out.1 k_ e_).1.1)); have n3_ := Aside0.mk ((show Kd.C Kd.string w83 A82 y197.length y197 from by rw [Ny197.out, KA82.out]; exact Kd.C_drop (m := (x5_1 : Int).toNat) (c := co3) ((Kd.R_reads' (Kd.R_after (ok := (fun k_ => (P0_ k_ ∨ w.heap.size ≤ k_))) (by (with_reducible repeat (first | apply Kd.R_alloc | apply Kd.R_drewN | apply Kd.R_drew)); exact HO_0.out) hg hat)).2.2) KL82.out ((Kd.R_reads' (Kd.R_after (ok := (fun k_ => (P0_ k_ ∨ w.heap.size ≤ k_))) (by (with_reducible repeat (first | apply Kd.R_alloc | apply Kd.R_drewN | apply Kd.R_drew)); exact HO_0.out) hg hat)).2.1))); have n4_ := Aside0.mk (ho); clear HO_0; clear HB; clear HK; clear HR200; clear HO196; have HO_0 := n0_; have HB := n1_; have HK := n2_; have HR200 := n3_; have HO203 := n4_; clear n0_ n1_ n2_ n3_ n4_; clear ho hb hg hat) | ((with_reducible refine gate_dst (N := 40) rfl ?_); refine Kd.R_lit Kd.string _ 9 ?hg (N := 40) ?hd (xs := ([] : List ByteArray)) (inner := []) (ok := fun _ => True) (okp := fun _ => True) ?hr ?hp (fun _ hk => hk) trivial (Below.refl _ _) (Nat.le_refl _) (by simp) ?_; (case hd => rfl); (case hg => rfl); (case hr => first | (go_simp; done) | (go_simp; rfl) | (simp only [i64_w]; first | (go_simp; done) | (go_simp; rfl))); (case hp => exact (Reps.none _ _)); intro v205 w84 ho85 hb hg_ hnew_; clear hg_ hnew_; (first | rw [← Ny204.out] at ho85 | (simp only [Int.reduceToNat] at ho85; rw [← Ny204.out] at ho85)); have n0_ := Aside0.mk (Kd.R_elder' (by (with_reducible repeat (first | apply Kd.R_alloc | apply Kd.R_drewN | apply Kd.R_drew)); exact HO_0.out) (Kd.R_base ho85) hb); have n1_ := Aside0.mk (Kd.R_elder' (by (with_reducible repeat (first | apply Kd.R_alloc | apply Kd.R_drewN | apply Kd.R_drew)); exact HO203.out) (Kd.R_base ho85) hb); have n2_ := Aside0.mk (Kd.R_lower (Kd.R_new' (Kd.R_new' (Kd.R_newM (M := fun k_ => (P0_ k_ ∨ w.heap.size ≤ k_)) ho85 (by first | exact HK.out.1 | exact (show Kept w _ (fun k_ => P0_ k_) from by repeat (first | (with_reducible first | exact HK.out | apply Kept.alloc | apply Kept.drewN | apply Kept.drew) | exact HK.out)).1) (fun k_ h_ => .inr h_)) (Kd.R_lt (by (with_reducible repeat (first | apply Kd.R_alloc | apply Kd.R_drewN | apply Kd.R_drew)); exact HO_0.out))) (Kd.R_lt (by (with_reducible repeat (first | apply Kd.R_alloc | apply Kd.R_drewN | apply Kd.R_drew)); exact HO203.out))) (below_size (by repeat (first | (with_reducible first | exact HB.out | apply below_alloc | apply pw_below_drewN | apply below_drew1) | exact HB.out)))); have n3_ := Aside0.mk (Kd.C_below (by repeat (first | (with_reducible exact HR200.out) | (with_reducible refine Kd.C_alloc ?_ _) | (with_reducible refine Kd.C_drewN ?_ _) | (with_reducible refine Kd.C_drew ?_) | exact HR200.out)) hb); have n4_ := Aside0.mk (Kept.below (S := (fun k_ => P0_ k_)) (by repeat (first | (with_reducible first | exact HK.out | apply Kept.alloc | apply Kept.drewN | apply Kept.drew) | exact HK.out)) hb); have n5_ := Aside0.mk (below_step (by repeat (first | (with_reducible first | exact HB.out | apply below_alloc | apply pw_below_drewN | apply below_drew1) | exact HB.out)) hb); clear HO_0; clear HO203; clear HR200; clear HK; clear HB; have HO_0 := n0_; have HO203 := n1_; have HO206 := n2_; have HR200 := n3_; have HK := n4_; have HB := n5_; clear n0_ n1_ n2_ n3_ n4_ n5_; clear hb ho85; have q86 : (x5_1 : Int) ≤ ((l0.length : Int) : Int) := of_decide_eq_true (by first | (with_reducible assumption) | assumption); obtain ⟨i086, hi086, _, hsz86, _⟩ := info_parts info9; have hroom86 : l0.length ≤ co3 := (Kd.R_reads' HO_0.out).2.1; have hC86 : Kd.C Kd.string _ Ao3 l0.length l0 := (Kd.R_reads' HO_0.out).2.2; have hcut86 := cut_to (P := Try.prog) 29 9 .i64 Try.underlying29 hi086 Ao3 l0.length co3 x5_1 (of_decide_eq_true (by first | (with_reducible assumption) | assumption)) q86 hroom86; have hr86 := Kd.C_take (m := (x5_1 : Int).toNat) hC86 (by omega); have hy86 : y207.length = (x5_1 : Int).toNat := (by rw [Ny207.out, List.length_take]; omega); rw [← Ny207.out] at hr86; rw [← hy86] at hcut86; have HR210 := Aside0.mk hr86; have HC210 := Aside0.mk (show y207.length ≤ co3 from by omega); clear hr86 hC86 hroom86 hi086 hsz86; have KY86 := Aside0.mk hy86; clear hy86; have KL86 := Aside0.mk (show (x5_1 : Int).toNat ≤ l0.length from by omega); replace q86 := eq_true q86) | ((with_reducible refine gate_builtin (b := .append) (xs := #[.tmp 40, .tmp 43]) rfl ?_); at_builtin; refine Kd.R_append_rows Kd.string (w0 := w0) w0.heap.size rfl (.tmp 40) (.tmp 43) 29 9 (.string ⟨#[]⟩) 16 rfl Try.underlying29 info9 rfl (by decide) (by omega) v205 y204 y207 _ _ _ (fun k_ => (P0_ k_ ∨ w.heap.size ≤ k_) ∧ some k_ ≠ (.slice Ao3 l0.length co3 : Value).ownBlock ∧ some k_ ≠ (v202 : Value).ownBlock) (fun _ => False) rfl rfl ?aO ?aR (fun _ _ h => h) (fun _ h => h.elim) ?aF ?aB ?aS ?aL ?_; (case aR => repeat (first | exact (by repeat (first | (with_reducible exact HR210.out) | (with_reducible refine Kd.C_alloc ?_ _) | (with_reducible refine Kd.C_drewN ?_ _) | (with_reducible refine Kd.C_drew ?_) | exact HR210.out)) | (with_reducible refine Kd.C_alloc ?_ _) | (with_reducible refine Kd.C_drewN ?_ _) | (with_reducible refine Kd.C_drew ?_))); (case aB => exact (by repeat (first | (with_reducible first | exact HB.out | apply below_alloc | apply pw_below_drewN | apply below_drew1) | exact HB.out))); (case aF => exact (fun k_ hk => ⟨(.inr (Nat.le_trans (by first | exact HK.out.1 | exact (show Kept w _ (fun k_ => P0_ k_) from by repeat (first | (with_reducible first | exact HK.out | apply Kept.alloc | apply Kept.drewN | apply Kept.drew) | exact HK.out)).1) hk)), Kd.fresh' (Kd.R_lt (by (with_reducible repeat (first | apply Kd.R_alloc | apply Kd.R_drewN | apply Kd.R_drew)); exact HO_0.out)) k_ hk, Kd.fresh' (Kd.R_lt (by (with_reducible repeat (first | apply Kd.R_alloc | apply Kd.R_drewN | apply Kd.R_drew)); exact HO203.out)) k_ hk⟩)); (case aO => exact (by (with_reducible repeat (first | apply Kd.R_alloc | apply Kd.R_drewN | apply Kd.R_drew)); exact Kd.R_mono HO206.out (fun _ hk => ⟨hk.1.1.1, ⟨hk.1.2, hk.2⟩⟩))); (case aS => exact (below_size (by repeat (first | (with_reducible first | exact HB.out | apply below_alloc | apply pw_below_drewN | apply below_drew1) | exact HB.out)))); (case aL => have := LMc77.out; omega); intro v212 w87 ho hb hg hat; rw [← Ny211.out] at ho; have n0_ := Aside0.mk (Kd.R_after (ok := (fun k_ => (P0_ k_ ∨ w.heap.size ≤ k_) ∧ some k_ ≠ (v202 : Value).ownBlock)) (by (with_reducible repeat (first | apply Kd.R_alloc | apply Kd.R_drewN | apply Kd.R_drew)); exact HO_0.out) hg hat); have n1_ := Aside0.mk (Kd.R_after (ok := (fun k_ => (P0_ k_ ∨ w.heap.size ≤ k_) ∧ some k_ ≠ (.slice Ao3 l0.length co3 : Value).ownBlock)) (by (with_reducible repeat (first | apply Kd.R_alloc | apply Kd.R_drewN | apply Kd.R_drew)); exact HO203.out) hg hat); have n2_ := Aside0.mk (hb); have n3_ := Aside0.mk (Kept.of_grown (S := (fun k_ => P0_ k_)) hg (by repeat (first | (with_reducible first | exact HK.out | apply Kept.alloc | apply Kept.drewN | apply Kept.drew) | exact HK.out)) (fun k_ e_ => (HO206.out.1 k_ e_).1.1.1)); have n4_ := Aside0.mk ((show Kd.C Kd.string w87 A82 y197.length y197 from by rw [Ny197.out, KA82.out]; exact Kd.C_drop (m := (x5_1 : Int).toNat) (c := co3) ((Kd.R_reads' (Kd.R_after (ok := (fun k_ => (P0_ k_ ∨ w.heap.size ≤ k_) ∧ some k_ ≠ (v202 : Value).ownBlock)) (by (with_reducible repeat (first | apply Kd.R_alloc | apply Kd.R_drewN | apply Kd.R_drew)); exact HO_0.out) hg hat)).2.2) KL82.out ((Kd.R_reads' (Kd.R_after (ok := (fun k_ => (P0_ k_ ∨ w.heap.size ≤ k_) ∧ some k_ ≠ (v202 : Value).ownBlock)) (by (with_reducible repeat (first | apply Kd.R_alloc | apply Kd.R_drewN | apply Kd.R_drew)); exact HO_0.out) hg hat)).2.1))); have n5_ := Aside0.mk ((show Kd.C Kd.string w87 Ao3 y207.length y207 from by rw [Ny207.out]; exact Kd.C_take (m := (x5_1 : Int).toNat) ((Kd.R_reads' (Kd.R_after (ok := (fun k_ => (P0_ k_ ∨ w.heap.size ≤ k_) ∧ some k_ ≠ (v202 : Value).ownBlock)) (by (with_reducible repeat (first | apply Kd.R_alloc | apply Kd.R_drewN | apply Kd.R_drew)); exact HO_0.out) hg hat)).2.2) KL86.out)); have n6_ := Aside0.mk (ho); clear HO_0; clear HO203; clear HB; clear HK; clear HR200; clear HR210; clear HO206; have HO_0 := n0_; have HO203 := n1_; have HB := n2_; have HK := n3_; have HR200 := n4_; have HR210 := n5_; have HO213 := n6_; clear n0_ n1_ n2_ n3_ n4_ n5_ n6_; clear ho hb hg hat) | ((with_reducible refine gate_builtin (b := .append) (xs := #[.tmp 44, .tmp 46]) rfl ?_); at_builtin; refine Kd.R_append Kd.string (w0 := w0) w0.heap.size rfl (.tmp 44) (.tmp 46) 29 9 (.string ⟨#[]⟩) 16 rfl Try.underlying29 info9 rfl (by decide) (by omega) v212 y211 a1 [.string a1] (fun k_ => (P0_ k_ ∨ w.heap.size ≤ k_) ∧ some k_ ≠ (.slice Ao3 l0.length co3 : Value).ownBlock ∧ some k_ ≠ (v202 : Value).ownBlock) (fun _ => False) rfl rfl ?aP (fun _ hk => hk.elim) ?aF ?aO ?aB ?aS ?aL ?_; (case aP => exact rfl); (case aB => exact (by repeat (first | (with_reducible first | exact HB.out | apply below_alloc | apply pw_below_drewN | apply below_drew1) | exact HB.out))); (case aF => exact (fun k_ hk => ⟨(.inr (Nat.le_trans (by first | exact HK.out.1 | exact (show Kept w _ (fun k_ => P0_ k_) from by repeat (first | (with_reducible first | exact HK.out | apply Kept.alloc | apply Kept.drewN | apply Kept.drew) | exact HK.out)).1) hk)), Kd.fresh' (Kd.R_lt (by (with_reducible repeat (first | apply Kd.R_alloc | apply Kd.R_drewN | apply Kd.R_drew)); exact HO_0.out)) k_ hk, Kd.fresh' (Kd.R_lt (by (with_reducible repeat (first | apply Kd.R_alloc | apply Kd.R_drewN | apply Kd.R_drew)); exact HO203.out)) k_ hk⟩)); (case aO => exact (by (with_reducible repeat (first | apply Kd.R_alloc | apply Kd.R_drewN | apply Kd.R_drew)); exact HO213.out)); (case aS => exact (below_size (by repeat (first | (with_reducible first | exact HB.out | apply below_alloc | apply pw_below_drewN | apply below_drew1) | exact HB.out)))); (case aL => have := LMc78.out; omega); intro v215 w88 ho hb hg hat; rw [← Ny214.out] at ho; have n0_ := Aside0.mk (Kd.R_after (ok := (fun k_ => (P0_ k_ ∨ w.heap.size ≤ k_) ∧ some k_ ≠ (v202 : Value).ownBlock)) (by (with_reducible repeat (first | apply Kd.R_alloc | apply Kd.R_drewN | apply Kd.R_drew)); exact HO_0.out) hg hat); have n1_ := Aside0.mk (Kd.R_after (ok := (fun k_ => (P0_ k_ ∨ w.heap.size ≤ k_) ∧ some k_ ≠ (.slice Ao3 l0.length co3 : Value).ownBlock)) (by (with_reducible repeat (first | apply Kd.R_alloc | apply Kd.R_drewN | apply Kd.R_drew)); exact HO203.out) hg hat); have n2_ := Aside0.mk (hb); have n3_ := Aside0.mk (Kept.of_grown (S := (fun k_ => P0_ k_)) hg (by repeat (first | (with_reducible first | exact HK.out | apply Kept.alloc | apply Kept.drewN | apply Kept.drew) | exact HK.out)) (fun k_ e_ => (HO213.out.1 k_ e_).1)); have n4_ := Aside0.mk ((show Kd.C Kd.string w88 A82 y197.length y197 from by rw [Ny197.out, KA82.out]; exact Kd.C_drop (m := (x5_1 : Int).toNat) (c := co3) ((Kd.R_reads' (Kd.R_after (ok := (fun k_ => (P0_ k_ ∨ w.heap.size ≤ k_) ∧ some k_ ≠ (v202 : Value).ownBlock)) (by (with_reducible repeat (first | apply Kd.R_alloc | apply Kd.R_drewN | apply Kd.R_drew)); exact HO_0.out) hg hat)).2.2) KL82.out ((Kd.R_reads' (Kd.R_after (ok := (fun k_ => (P0_ k_ ∨ w.heap.size ≤ k_) ∧ some k_ ≠ (v202 : Value).ownBlock)) (by (with_reducible repeat (first | apply Kd.R_alloc | apply Kd.R_drewN | apply Kd.R_drew)); exact HO_0.out) hg hat)).2.1))); have n5_ := Aside0.mk ((show Kd.C Kd.string w88 Ao3 y207.length y207 from by rw [Ny207.out]; exact Kd.C_take (m := (x5_1 : Int).toNat) ((Kd.R_reads' (Kd.R_after (ok := (fun k_ => (P0_ k_ ∨ w.heap.size ≤ k_) ∧ some k_ ≠ (v202 : Value).ownBlock)) (by (with_reducible repeat (first | apply Kd.R_alloc | apply Kd.R_drewN | apply Kd.R_drew)); exact HO_0.out) hg hat)).2.2) KL86.out)); have n6_ := Aside0.mk (ho); clear HO_0; clear HO203; clear HB; clear HK; clear HR200; clear HR210; clear HO213; have HO_0 := n0_; have HO203 := n1_; have HB := n2_; have HK := n3_; have HR200 := n4_; have HR210 := n5_; have HO216 := n6_; clear n0_ n1_ n2_ n3_ n4_ n5_ n6_; clear ho hb hg hat; obtain ⟨Ao90, co90, eo90⟩ := Kd.R_slice HO203.out; subst eo90) | ((with_reducible refine gate_builtin (b := .append) (xs := #[.tmp 47, .tmp 48]) rfl ?_); at_builtin; refine Kd.R_append_rows Kd.string (w0 := w0) w0.heap.size rfl (.tmp 47) (.tmp 48) 29 9 (.string ⟨#[]⟩) 16 rfl Try.underlying29 info9 rfl (by decide) (by omega) v215 y214 y201 _ _ _ (fun k_ => (P0_ k_ ∨ w.heap.size ≤ k_) ∧ some k_ ≠ (.slice Ao3 l0.length co3 : Value).ownBlock ∧ some k_ ≠ (.slice Ao90 y201.length co90 : Value).ownBlock) (fun _ => False) rfl rfl ?aO ?aR (fun _ _ h => h) (fun _ h => h.elim) ?aF ?aB ?aS ?aL ?_; (case aR => repeat (first | exact (Kd.R_reads' HO203.out).2.2 | (with_reducible refine Kd.C_alloc ?_ _) | (with_reducible refine Kd.C_drewN ?_ _) | (with_reducible refine Kd.C_drew ?_))); (case aB => exact (by repeat (first | (with_reducible first | exact HB.out | apply below_alloc | apply pw_below_drewN | apply below_drew1) | exact HB.out))); (case aF => exact (fun k_ hk => ⟨(.inr (Nat.le_trans (by first | exact HK.out.1 | exact (show Kept w _ (fun k_ => P0_ k_) from by repeat (first | (with_reducible first | exact HK.out | apply Kept.alloc | apply Kept.drewN | apply Kept.drew) | exact HK.out)).1) hk)), Kd.fresh' (Kd.R_lt (by (with_reducible repeat (first | apply Kd.R_alloc | apply Kd.R_drewN | apply Kd.R_drew)); exact HO_0.out)) k_ hk, Kd.fresh' (Kd.R_lt (by (with_reducible repeat (first | apply Kd.R_alloc | apply Kd.R_drewN | apply Kd.R_drew)); exact HO203.out)) k_ hk⟩)); (case aO => exact (by (with_reducible repeat (first | apply Kd.R_alloc | apply Kd.R_drewN | apply Kd.R_drew)); exact HO216.out)); (case aS => exact (below_size (by repeat (first | (with_reducible first | exact HB.out | apply below_alloc | apply pw_below_drewN | apply below_drew1) | exact HB.out)))); (case aL => have := LMc79.out; omega); intro v218 w89 ho hb hg hat; rw [← Ny217.out] at ho; have n0_ := Aside0.mk (Kd.R_after (ok := (fun k_ => (P0_ k_ ∨ w.heap.size ≤ k_) ∧ some k_ ≠ (.slice Ao90 y201.length co90 : Value).ownBlock)) (by (with_reducible repeat (first | apply Kd.R_alloc | apply Kd.R_drewN | apply Kd.R_drew)); exact HO_0.out) hg hat); have n1_ := Aside0.mk (Kd.R_after (ok := (fun k_ => (P0_ k_ ∨ w.heap.size ≤ k_) ∧ some k_ ≠ (.slice Ao3 l0.length co3 : Value).ownBlock)) (by (with_reducible repeat (first | apply Kd.R_alloc | apply Kd.R_drewN | apply Kd.R_drew)); exact HO203.out) hg hat); have n2_ := Aside0.mk (hb); have n3_ := Aside0.mk (Kept.of_grown (S := (fun k_ => P0_ k_)) hg (by repeat (first | (with_reducible first | exact HK.out | apply Kept.alloc | apply Kept.drewN | apply Kept.drew) | exact HK.out)) (fun k_ e_ => (HO216.out.1 k_ e_).1)); have n4_ := Aside0.mk ((show Kd.C Kd.string w89 A82 y197.length y197 from by rw [Ny197.out, KA82.out]; exact Kd.C_drop (m := (x5_1 : Int).toNat) (c := co3) ((Kd.R_reads' (Kd.R_after (ok := (fun k_ => (P0_ k_ ∨ w.heap.size ≤ k_) ∧ some k_ ≠ (.slice Ao90 y201.length co90 : Value).ownBlock)) (by (with_reducible repeat (first | apply Kd.R_alloc | apply Kd.R_drewN | apply Kd.R_drew)); exact HO_0.out) hg hat)).2.2) KL82.out ((Kd.R_reads' (Kd.R_after (ok := (fun k_ => (P0_ k_ ∨ w.heap.size ≤ k_) ∧ some k_ ≠ (.slice Ao90 y201.length co90 : Value).ownBlock)) (by (with_reducible repeat (first | apply Kd.R_alloc | apply Kd.R_drewN | apply Kd.R_drew)); exact HO_0.out) hg hat)).2.1))); have n5_ := Aside0.mk ((show Kd.C Kd.string w89 Ao3 y207.length y207 from by rw [Ny207.out]; exact Kd.C_take (m := (x5_1 : Int).toNat) ((Kd.R_reads' (Kd.R_after (ok := (fun k_ => (P0_ k_ ∨ w.heap.size ≤ k_) ∧ some k_ ≠ (.slice Ao90 y201.length co90 : Value).ownBlock)) (by (with_reducible repeat (first | apply Kd.R_alloc | apply Kd.R_drewN | apply Kd.R_drew)); exact HO_0.out) hg hat)).2.2) KL86.out)); have n6_ := Aside0.mk (ho); clear HO_0; clear HO203; clear HB; clear HK; clear HR200; clear HR210; clear HO216; have HO_0 := n0_; have HO203 := n1_; have HB := n2_; have HK := n3_; have HR200 := n4_; have HR210 := n5_; have HO219 := n6_; clear n0_ n1_ n2_ n3_ n4_ n5_ n6_; clear ho hb hg hat))
                      go_ret
                      exact ⟨_, by first | rfl | (simp [errW_none, errW_some] <;> rfl) | (simp [*, errW_none, errW_some] <;> rfl), by (with_reducible repeat (first | apply Kd.R_alloc | apply Kd.R_drewN | apply Kd.R_drew)); exact Kd.R_mono HO219.out (fun _ hk => hk.1), by repeat (first | (with_reducible first | exact HB.out | apply below_alloc | apply pw_below_drewN | apply below_drew1) | exact HB.out), by repeat (first | (with_reducible first | exact HK.out | apply Kept.alloc | apply Kept.drewN | apply Kept.drew) | exact HK.out)⟩
                    · rw [if_neg c79] at H
                      exact absurd H (by simp)
                  · rw [if_neg c78] at H
                    exact absurd H (by simp)
                · rw [if_neg c77] at H
                  exact absurd H (by simp)
              · rw [if_neg c74] at H
                exact absurd H (by simp)
            · rw [if_neg c73] at H
              exact absurd H (by simp)
          · rw [if_neg c72] at H
            exact absurd H (by simp)

/-! ### spec_NamesOf: function 16 -/
mutual
def spec_NamesOf.l0 : Nat → ByteArray → List ByteArray → Int → Option (List ByteArray)
  | 0, _, _, _ => none
  | k + 1, x0, x3, x4 => if x4 < (x0.size : Int) then ((spec_TextValid.f k x0).bind fun t223 => (spec_NamesOf.j1 k x0 x3 x4 t223)) else (spec_NamesOf.j1 k x0 x3 x4 false)
def spec_NamesOf.j1 : Nat → ByteArray → List ByteArray → Int → Bool → Option (List ByteArray)
  | 0, _, _, _, _ => none
  | k + 1, x0, x3, x4, x15 => if x15 = true then (if 0 ≤ x4 then (if x4 < (x0.size : Int) then ((spec_l8Kind.f k (bt x0 x4)).bind fun t224 => (if t224 = 1 then ((spec_WordAround.f k x0 x4).bind fun bt225 => (if x4 ≤ bt225.2 then (if bt225.2 ≤ (x0.size : Int) then ((spec_l18Insert.f k x3 (x0.extract (x4 : Int).toNat (bt225.2 : Int).toNat)).bind fun t227 => (spec_NamesOf.l0 k x0 t227 bt225.2)) else (none)) else (none))) else (spec_NamesOf.l0 k x0 x3 (wrap64 (x4 + 1))))) else (none)) else (none)) else (some x3)
end
def spec_NamesOf.f (k : Nat) (a0 : ByteArray) : Option (List ByteArray) := spec_NamesOf.l0 k a0 (([] : List ByteArray)) 0
theorem spec_NamesOf.mono_l : ∀ k, (∀ y0 y1 y2, LeO (spec_NamesOf.l0 k y0 y1 y2) (spec_NamesOf.l0 (k + 1) y0 y1 y2)) ∧ (∀ y0 y1 y2 y3, LeO (spec_NamesOf.j1 k y0 y1 y2 y3) (spec_NamesOf.j1 (k + 1) y0 y1 y2 y3))
  | 0 => ⟨fun _ _ _ r h => by simp [spec_NamesOf.l0] at h, fun _ _ _ _ r h => by simp [spec_NamesOf.j1] at h⟩
  | k + 1 => by
    obtain ⟨ih0, ih1⟩ := spec_NamesOf.mono_l k
    refine ⟨?_, ?_⟩
    · intro y0 y1 y2
      unfold spec_NamesOf.l0
      repeat' first
      | (with_reducible exact ih0 _ _ _)
      | (with_reducible exact ih1 _ _ _ _)
      | (with_reducible exact spec_TextValid.mono _ _)
      | (with_reducible exact spec_WordAround.mono _ _ _)
      | (with_reducible exact spec_l18Insert.mono _ _ _)
      | (with_reducible exact spec_l8Kind.mono _ _)
      | (with_reducible exact LeO.refl _)
      | (with_reducible exact LeO.none _)
      | (with_reducible refine LeO.ite ?_ ?_)
      | (with_reducible refine LeO.bind ?_ (fun _ => ?_))
      | exact ih0 _ _ _
      | exact ih1 _ _ _ _
      | exact spec_TextValid.mono _ _
      | exact spec_WordAround.mono _ _ _
      | exact spec_l18Insert.mono _ _ _
      | exact spec_l8Kind.mono _ _
      | exact LeO.none _
      | refine LeO.ite ?_ ?_
      | refine LeO.bind ?_ (fun _ => ?_)
    · intro y0 y1 y2 y3
      unfold spec_NamesOf.j1
      repeat' first
      | (with_reducible exact ih0 _ _ _)
      | (with_reducible exact ih1 _ _ _ _)
      | (with_reducible exact spec_TextValid.mono _ _)
      | (with_reducible exact spec_WordAround.mono _ _ _)
      | (with_reducible exact spec_l18Insert.mono _ _ _)
      | (with_reducible exact spec_l8Kind.mono _ _)
      | (with_reducible exact LeO.refl _)
      | (with_reducible exact LeO.none _)
      | (with_reducible refine LeO.ite ?_ ?_)
      | (with_reducible refine LeO.bind ?_ (fun _ => ?_))
      | exact ih0 _ _ _
      | exact ih1 _ _ _ _
      | exact spec_TextValid.mono _ _
      | exact spec_WordAround.mono _ _ _
      | exact spec_l18Insert.mono _ _ _
      | exact spec_l8Kind.mono _ _
      | exact LeO.none _
      | refine LeO.ite ?_ ?_
      | refine LeO.bind ?_ (fun _ => ?_)
theorem spec_NamesOf.mono : ∀ a0 k, LeO (spec_NamesOf.f k a0) (spec_NamesOf.f (k + 1) a0) := by
  intro a0 k
  obtain ⟨ih0, ih1⟩ := spec_NamesOf.mono_l k
  unfold spec_NamesOf.f
  repeat' first
      | (with_reducible exact ih0 _ _ _)
      | (with_reducible exact ih1 _ _ _ _)
      | (with_reducible exact spec_TextValid.mono _ _)
      | (with_reducible exact spec_WordAround.mono _ _ _)
      | (with_reducible exact spec_l18Insert.mono _ _ _)
      | (with_reducible exact spec_l8Kind.mono _ _)
      | (with_reducible exact LeO.refl _)
      | (with_reducible exact LeO.none _)
      | (with_reducible refine LeO.ite ?_ ?_)
      | (with_reducible refine LeO.bind ?_ (fun _ => ?_))
      | exact ih0 _ _ _
      | exact ih1 _ _ _ _
      | exact spec_TextValid.mono _ _
      | exact spec_WordAround.mono _ _ _
      | exact spec_l18Insert.mono _ _ _
      | exact spec_l8Kind.mono _ _
      | exact LeO.none _
      | refine LeO.ite ?_ ?_
      | refine LeO.bind ?_ (fun _ => ?_)
set_option maxHeartbeats 8000000 in
set_option maxRecDepth 100000 in
theorem spec_NamesOf.calls (k : Nat) (a0 : ByteArray) (r : List ByteArray) (w : World) (h : spec_NamesOf.f k a0 = some r) :
    Calls Try.prog 16 #[.string a0] w fun e w' => ∃ v0_ : Value, e = .returned (v0_) ∧ Kd.R Kd.string 9 w' w.heap.size (fun _ => True) v0_ r ∧ Below w.heap.size w w' := by
  have HB := Aside0.mk (Below.refl w.heap.size w)
  have H : (spec_NamesOf.l0 k a0 (([] : List ByteArray)) 0) = some r := h
  clear h
  obtain ⟨y220, hy220⟩ : ∃ y_ : List ByteArray, y_ = (([] : List ByteArray)) := ⟨_, rfl⟩
  replace H : (spec_NamesOf.l0 k a0 y220 0) = some r := by first | (rw [hy220]; with_reducible exact H) | (have H2_ := (Option.bind_some _ _).symm.trans H; rw [hy220]; with_reducible exact H2_) | (have H2_ := (Option.bind_some _ _).symm.trans H; with_reducible exact H2_) | with_reducible exact H | (rw [hy220]; exact H) | exact H
  have Ny220 := Aside0.mk hy220
  clear hy220
  have H' := Aside0.mk H
  clear H
  go_enter Try.func16, Try.ntmps16
  go_wp2_with (first | ((with_reducible refine gate_dst (N := 7) rfl ?_); refine Kd.R_lit Kd.string _ 9 ?hg (N := 7) ?hd (xs := ([] : List ByteArray)) (inner := []) (ok := fun _ => True) (okp := fun _ => True) ?hr ?hp (fun _ hk => hk) trivial (Below.refl _ _) (Nat.le_refl _) (by simp) ?_; (case hd => rfl); (case hg => rfl); (case hr => first | (go_simp; done) | (go_simp; rfl) | (simp only [i64_w]; first | (go_simp; done) | (go_simp; rfl))); (case hp => exact (Reps.none _ _)); intro v221 w2 ho3 hb hg_ hnew_; clear hg_ hnew_; (first | rw [← Ny220.out] at ho3 | (simp only [Int.reduceToNat] at ho3; rw [← Ny220.out] at ho3)); have n0_ := Aside0.mk (Kd.R_lower ho3 (below_size (by repeat (first | (with_reducible first | exact HB.out | apply below_alloc | apply pw_below_drewN | apply below_drew1) | exact HB.out)))); have n1_ := Aside0.mk (below_step (by repeat (first | (with_reducible first | exact HB.out | apply below_alloc | apply pw_below_drewN | apply below_drew1) | exact HB.out)) hb); clear HB; have HO222 := n0_; have HB := n1_; clear n0_ n1_; clear hb ho3))
  go_loopg [3, 4] k (fun kq v3 v4 w' => ∃ (x3_1 : List ByteArray) (x4_1 : Int), v4 = .int .i64 x4_1 ∧ Aside0 (spec_NamesOf.l0 kq a0 x3_1 x4_1 = some r) ∧ Aside0 (kq ≤ k) ∧ Aside0 (Kd.R Kd.string 9 w' w.heap.size (fun _ => True) v3 x3_1) ∧ Aside0 (Below w.heap.size w w'))
  case atStart => exact ⟨(y220), (0), (by first | rfl | (simp; done) | (simp [*]; done)), H', ⟨Nat.le_refl _⟩, ⟨by (with_reducible repeat (first | apply Kd.R_alloc | apply Kd.R_drewN | apply Kd.R_drew)); exact HO222.out⟩, ⟨by repeat (first | (with_reducible first | exact HB.out | apply below_alloc | apply pw_below_drewN | apply below_drew1) | exact HB.out)⟩⟩
  case round =>
    clear H'
    try clear c1
    try clear p2
    obtain ⟨x3_1, x4_1, rfl, HA, HK1, HO_3, HB⟩ := hrel
    cases gk with
    | zero => exact absurd HA.out (by simp [spec_NamesOf.l0])
    | succ k1 =>
      have H := HA.out
      clear HA
      simp only [spec_NamesOf.l0] at H
      have HC4 := Aside0.mk H
      clear H
      go_upto_region 3 with (fail)
      go_cut [15] (fun v15 wc => ∃ (kq : Nat) (x15_3 : Bool), v15 = .bool x15_3 ∧ Aside0 (spec_NamesOf.j1 kq a0 x3_1 x4_1 x15_3 = some r) ∧ Aside0 (kq ≤ k1) ∧ Aside0 (Kd.R Kd.string 9 wc w.heap.size (fun _ => True) u3 x3_1) ∧ Aside0 (Below w.heap.size w wc))
      case first =>
        have H := HC4.out
        clear HC4
        by_cases c5 : x4_1 < (a0.size : Int)
        · rw [if_pos c5] at H
          have c5b0 : decide (x4_1 < (a0.size : Int)) = true := decide_eq_true c5
          clear c5
          (first | rw [c5b0] | (simp only [i64_w, i32_w]; rw [c5b0]) | skip)
          replace H := Option.bind_eq_some_iff.mp H
          obtain ⟨t223, A60, H⟩ := H
          replace H : (spec_NamesOf.j1 k1 a0 x3_1 x4_1 t223) = some r := H
          have A6 := Aside0.mk A60
          clear A60
          have H' := Aside0.mk H
          clear H
          go_wp2_with (first | (go_at_call 27; (with_reducible refine (spec_TextValid.calls k1 a0 t223 _ A6.out).mono ?_); rintro e w' ⟨rfl, ⟨nd, rfl⟩⟩))
          go_meet
          case rel => exact ⟨_, (t223), (by first | rfl | (simp; done) | (simp [*]; done)), H', ⟨by have := HK1.out; first | omega | exact Nat.le_refl _⟩, ⟨by (with_reducible repeat (first | apply Kd.R_alloc | apply Kd.R_drewN | apply Kd.R_drew)); exact HO_3.out⟩, ⟨by repeat (first | (with_reducible first | exact HB.out | apply below_alloc | apply pw_below_drewN | apply below_drew1) | exact HB.out)⟩⟩
        · rw [if_neg c5] at H
          have c5b0 : decide (x4_1 < (a0.size : Int)) = false := decide_eq_false c5
          clear c5
          (first | rw [c5b0] | (simp only [i64_w, i32_w]; rw [c5b0]) | skip)
          have H' := Aside0.mk H
          clear H
          go_wp2
          go_meet
          case rel => exact ⟨_, (false), (by first | rfl | (simp; done) | (simp [*]; done)), H', ⟨by have := HK1.out; first | omega | exact Nat.le_refl _⟩, ⟨by (with_reducible repeat (first | apply Kd.R_alloc | apply Kd.R_drewN | apply Kd.R_drew)); exact HO_3.out⟩, ⟨by repeat (first | (with_reducible first | exact HB.out | apply below_alloc | apply pw_below_drewN | apply below_drew1) | exact HB.out)⟩⟩
      case rest =>
        clear HC4
        try clear c1
        try clear p2
        try clear c5
        try clear c5b0
        try clear p2
        obtain ⟨kq, x15_3, rfl, HA, HJ3, HO_3, HB⟩ := hcut
        cases kq with
        | zero => exact absurd HA.out (by simp [spec_NamesOf.j1])
        | succ kj3 =>
          have H := HA.out
          clear HA
          simp only [spec_NamesOf.j1] at H
          by_cases c7 : x15_3 = true
          · subst c7
            have H1 : (if 0 ≤ x4_1 then (if x4_1 < (a0.size : Int) then ((spec_l8Kind.f kj3 (bt a0 x4_1)).bind fun t224 => (if t224 = 1 then ((spec_WordAround.f kj3 a0 x4_1).bind fun bt225 => (if x4_1 ≤ bt225.2 then (if bt225.2 ≤ (a0.size : Int) then ((spec_l18Insert.f kj3 x3_1 (a0.extract (x4_1 : Int).toNat (bt225.2 : Int).toNat)).bind fun t227 => (spec_NamesOf.l0 kj3 a0 t227 bt225.2)) else (none)) else (none))) else (spec_NamesOf.l0 kj3 a0 x3_1 (wrap64 (x4_1 + 1))))) else (none)) else (none)) = some r := by rw [if_pos rfl] at H; exact H
            clear H
            have H := H1
            clear H1
            by_cases c8 : 0 ≤ x4_1
            · rw [if_pos c8] at H
              have c8b0 : decide (0 ≤ x4_1) = true := decide_eq_true c8
              clear c8
              by_cases c9 : x4_1 < (a0.size : Int)
              · rw [if_pos c9] at H
                have c9b0 : decide (x4_1 < (a0.size : Int)) = true := decide_eq_true c9
                clear c9
                replace H := Option.bind_eq_some_iff.mp H
                obtain ⟨t224, A110, H⟩ := H
                replace H : (if t224 = 1 then ((spec_WordAround.f kj3 a0 x4_1).bind fun bt225 => (if x4_1 ≤ bt225.2 then (if bt225.2 ≤ (a0.size : Int) then ((spec_l18Insert.f kj3 x3_1 (a0.extract (x4_1 : Int).toNat (bt225.2 : Int).toNat)).bind fun t227 => (spec_NamesOf.l0 kj3 a0 t227 bt225.2)) else (none)) else (none))) else (spec_NamesOf.l0 kj3 a0 x3_1 (wrap64 (x4_1 + 1)))) = some r := H
                have A11 := Aside0.mk A110
                clear A110
                by_cases c12 : t224 = 1
                · rw [if_pos c12] at H
                  have c12b0 : (t224 == 1) = true := beq_iff_eq.mpr c12
                  have c12b1 : (t224 != 1) = false := bne_eq_false_iff_eq.mpr c12
                  clear c12
                  replace H := Option.bind_eq_some_iff.mp H
                  obtain ⟨⟨t225, t226⟩, A130, H⟩ := H
                  replace H : (if x4_1 ≤ t226 then (if t226 ≤ (a0.size : Int) then ((spec_l18Insert.f kj3 x3_1 (a0.extract (x4_1 : Int).toNat (t226 : Int).toNat)).bind fun t227 => (spec_NamesOf.l0 kj3 a0 t227 t226)) else (none)) else (none)) = some r := H
                  have A13 := Aside0.mk A130
                  clear A130
                  have c14b0 := eq_true (of_decide_eq_true (by first | (with_reducible assumption) | assumption) : 0 ≤ x4_1)
                  by_cases c15 : x4_1 ≤ t226
                  · rw [if_pos c15] at H
                    have c15b0 := eq_true c15
                    have c15b1 : decide (x4_1 ≤ t226) = true := decide_eq_true c15
                    clear c15
                    by_cases c16 : t226 ≤ (a0.size : Int)
                    · rw [if_pos c16] at H
                      have c16b0 := eq_true c16
                      have c16b1 : decide (t226 ≤ (a0.size : Int)) = true := decide_eq_true c16
                      clear c16
                      replace H := Option.bind_eq_some_iff.mp H
                      obtain ⟨t227, A170, H⟩ := H
                      replace H : (spec_NamesOf.l0 kj3 a0 t227 t226) = some r := H
                      have A17 := Aside0.mk A170
                      clear A170
                      have H' := Aside0.mk H
                      clear H
                      have p10 : 0 ≤ (x4_1 : Int) := of_decide_eq_true (by first | (with_reducible assumption) | assumption)
                      have q10 : x4_1 < (a0.size : Int) := of_decide_eq_true (by first | (with_reducible assumption) | assumption)
                      have hx10 := bt_at a0 x4_1
                      replace p10 := eq_true p10
                      replace q10 := eq_true q10
                      go_wp2_with (first | ((with_reducible refine gate_callee (f := 38) rfl ?_); refine goesL_ (some 19) rfl rfl Try.func38 (by kernel_rfl) rfl #[.int .u8 (bt a0 x4_1)] rfl (by (try simp only [List.map_toArray, List.map_cons, List.map_nil]); first | done | rfl | (simp only [List.length_drop, List.length_take]; rfl)) ?_; (with_reducible refine (spec_l8Kind.calls kj3 (bt a0 x4_1) t224 _ A11.out).mono ?_); rintro e w' ⟨rfl, ⟨nd, rfl⟩⟩; refine ⟨_, rfl, ?_⟩) | ((with_reducible refine gate_callee (f := 40) rfl ?_); refine goesL_ (some 26) rfl rfl Try.func40 (by kernel_rfl) rfl #[.string a0, .int .i64 x4_1] rfl (by (try simp only [List.map_toArray, List.map_cons, List.map_nil]); first | done | rfl | (simp only [List.length_drop, List.length_take]; rfl)) ?_; (with_reducible refine (spec_WordAround.calls kj3 a0 x4_1 t225 t226 _ A13.out).mono ?_); rintro e w' ⟨rfl, ⟨nd, rfl⟩⟩; refine ⟨_, rfl, ?_⟩; obtain ⟨Ao18, co18, eo18⟩ := Kd.R_slice HO_3.out; subst eo18) | ((with_reducible refine gate_callee (f := 41) rfl ?_); refine goesL_ (some 34) rfl rfl Try.func41 (by kernel_rfl) rfl #[.slice Ao18 x3_1.length co18, .string (a0.extract (x4_1 : Int).toNat (t226 : Int).toNat)] rfl (by (try simp only [List.map_toArray, List.map_cons, List.map_nil]); first | done | rfl | (simp only [List.length_drop, List.length_take]; rfl)) ?_; (with_reducible refine (spec_l18Insert.calls kj3 (fun k_ => some k_ = (.slice Ao18 x3_1.length co18 : Value).ownBlock) (.slice Ao18 x3_1.length co18) x3_1 (a0.extract (x4_1 : Int).toNat (t226 : Int).toNat) t227 w _ ?side1 ?side2 A17.out).mono ?_); (case side1 => repeat (first | (with_reducible first | exact HB.out | apply below_alloc | apply pw_below_drewN | apply below_drew1) | exact HB.out)); (case side2 => exact Kd.R_tight rfl HO_3.out); rintro e w19 ⟨v228, rfl, ho0, hb, hkp⟩; refine ⟨_, rfl, ?_⟩; have n0_ := Aside0.mk (Kd.R_mono (ok' := fun k_ => True) ho0 (fun k_ hk_ => trivial)); have n1_ := Aside0.mk (hb); clear HB; clear HO_3; have HO229 := n0_; have HB := n1_; clear n0_ n1_; (try clear hb); (try clear hkp); (try clear ho0)))
                      go_roundg kj3
                      case measure => have := HK1.out; have := HJ3.out; omega
                      case rel => exact ⟨(t227), (t226), (by first | rfl | (simp; done) | (simp [*]; done)), H', ⟨by have := HK1.out; have := HJ3.out; omega⟩, ⟨by (with_reducible repeat (first | apply Kd.R_alloc | apply Kd.R_drewN | apply Kd.R_drew)); exact HO229.out⟩, ⟨by repeat (first | (with_reducible first | exact HB.out | apply below_alloc | apply pw_below_drewN | apply below_drew1) | exact HB.out)⟩⟩
                    · rw [if_neg c16] at H
                      exact absurd H (by simp)
                  · rw [if_neg c15] at H
                    exact absurd H (by simp)
                · rw [if_neg c12] at H
                  have c12b0 : (t224 == 1) = false := beq_eq_false_iff_ne.mpr c12
                  have c12b1 : (t224 != 1) = true := bne_iff_ne.mpr c12
                  have H' := Aside0.mk H
                  clear H
                  have p10 : 0 ≤ (x4_1 : Int) := of_decide_eq_true (by first | (with_reducible assumption) | assumption)
                  have q10 : x4_1 < (a0.size : Int) := of_decide_eq_true (by first | (with_reducible assumption) | assumption)
                  have hx10 := bt_at a0 x4_1
                  replace p10 := eq_true p10
                  replace q10 := eq_true q10
                  go_wp2_with (first | ((with_reducible refine gate_callee (f := 38) rfl ?_); refine goesL_ (some 19) rfl rfl Try.func38 (by kernel_rfl) rfl #[.int .u8 (bt a0 x4_1)] rfl (by (try simp only [List.map_toArray, List.map_cons, List.map_nil]); first | done | rfl | (simp only [List.length_drop, List.length_take]; rfl)) ?_; (with_reducible refine (spec_l8Kind.calls kj3 (bt a0 x4_1) t224 _ A11.out).mono ?_); rintro e w' ⟨rfl, ⟨nd, rfl⟩⟩; refine ⟨_, rfl, ?_⟩))
                  go_roundg kj3
                  case measure => have := HK1.out; have := HJ3.out; omega
                  case rel => exact ⟨(x3_1), (wrap64 (x4_1 + 1)), (by first | rfl | (simp; done) | (simp [*]; done)), H', ⟨by have := HK1.out; have := HJ3.out; omega⟩, ⟨by (with_reducible repeat (first | apply Kd.R_alloc | apply Kd.R_drewN | apply Kd.R_drew)); exact HO_3.out⟩, ⟨by repeat (first | (with_reducible first | exact HB.out | apply below_alloc | apply pw_below_drewN | apply below_drew1) | exact HB.out)⟩⟩
              · rw [if_neg c9] at H
                exact absurd H (by simp)
            · rw [if_neg c8] at H
              exact absurd H (by simp)
          · replace c7 := Bool.eq_false_iff.mpr c7
            subst c7
            have H1 : (some x3_1) = some r := by rw [if_neg (show ¬ (false = true) by decide)] at H; exact H
            clear H
            have H := H1
            clear H1
            obtain rfl := Option.some.inj H
            go_wp2
            go_ret
            exact ⟨_, by first | rfl | (simp [errW_none, errW_some] <;> rfl) | (simp [*, errW_none, errW_some] <;> rfl), by (with_reducible repeat (first | apply Kd.R_alloc | apply Kd.R_drewN | apply Kd.R_drew)); exact HO_3.out, by repeat (first | (with_reducible first | exact HB.out | apply below_alloc | apply pw_below_drewN | apply below_drew1) | exact HB.out)⟩

/-! ### spec_DrawNamesOf: function 25 -/
def spec_DrawNamesOf.f (k : Nat) (l0 : List Int) : Option (ByteArray) := (spec_l20Open.f l0).bind fun bt250 => ((spec_l20Text.f k bt250.1 bt250.2 9).bind fun bt253 => (some bt253.1))
theorem spec_DrawNamesOf.mono : ∀ a0 k, LeO (spec_DrawNamesOf.f k a0) (spec_DrawNamesOf.f (k + 1) a0) := by
  intro a0 k
  unfold spec_DrawNamesOf.f
  repeat' first
      | (with_reducible exact spec_l20Text.mono _ _ _ _)
      | (with_reducible exact LeO.refl _)
      | (with_reducible exact LeO.none _)
      | (with_reducible refine LeO.ite ?_ ?_)
      | (with_reducible refine LeO.bind ?_ (fun _ => ?_))
      | exact spec_l20Text.mono _ _ _ _
      | exact LeO.none _
      | refine LeO.ite ?_ ?_
      | refine LeO.bind ?_ (fun _ => ?_)
set_option maxHeartbeats 8000000 in
set_option maxRecDepth 100000 in
theorem spec_DrawNamesOf.calls (k : Nat) (A0 : Option Addr) (c0 : Nat) (l0 : List Int) (r : ByteArray) (w : World) (hr0 : Kd.C (Kd.int .u8) w A0 l0.length l0) (hc0 : l0.length ≤ c0) (h : spec_DrawNamesOf.f k l0 = some r) :
    Calls Try.prog 25 #[.slice A0 l0.length c0] w fun e w' => e = .returned (.string r) ∧ Below w.heap.size w w' := by
  have HR0 := Aside0.mk hr0
  have HC0 := Aside0.mk hc0
  clear hr0 hc0
  have HB := Aside0.mk (Below.refl w.heap.size w)
  have H : ((spec_l20Open.f l0).bind fun bt250 => ((spec_l20Text.f k bt250.1 bt250.2 9).bind fun bt253 => (some bt253.1))) = some r := h
  clear h
  replace H := Option.bind_eq_some_iff.mp H
  obtain ⟨⟨t250, t251⟩, A20, H⟩ := H
  replace H : ((spec_l20Text.f k t250 t251 9).bind fun bt253 => (some bt253.1)) = some r := H
  have A2 := Aside0.mk A20
  clear A20
  replace H := Option.bind_eq_some_iff.mp H
  obtain ⟨⟨t253, t254⟩, A30, H⟩ := H
  replace H : (some t253) = some r := H
  have A3 := Aside0.mk A30
  clear A30
  obtain rfl := Option.some.inj H
  go_enter Try.func25, Try.ntmps25
  go_wp2_with (first | ((with_reducible refine gate_callee (f := 34) rfl ?_); refine goesL_ (some 4) rfl rfl Try.func34 (by kernel_rfl) rfl #[.slice A0 l0.length c0] rfl (by (try simp only [List.map_toArray, List.map_cons, List.map_nil]); first | done | rfl | (simp only [List.length_drop, List.length_take]; rfl)) ?_; (with_reducible refine (spec_l20Open.calls _ _ l0 t250 t251 w _ ?side1 ?side2 ?side3 A2.out).mono ?_); (case side1 => repeat (first | (with_reducible first | exact HB.out | apply below_alloc | apply pw_below_drewN | apply below_drew1) | exact HB.out)); (case side2 => exact HR0.out); (case side3 => exact HC0.out); rintro e w4 ⟨g252, rfl, hi, hb, hb2⟩; refine ⟨_, rfl, ?_⟩; have n0_ := Aside0.mk (hb); have n1_ := Aside0.mk (hi); clear HB; have HB := n0_; have HI252 := n1_; clear n0_ n1_; (try clear hb); (try clear hb2); (try clear hk); (try clear hi)) | ((with_reducible refine gate_callee (f := 53) rfl ?_); refine goesL_ (some 5) rfl rfl Try.func53 (by kernel_rfl) rfl #[.pointer (some ⟨g252, 0, none⟩), .int .i64 9] rfl (by (try simp only [List.map_toArray, List.map_cons, List.map_nil]); first | done | rfl | (simp only [List.length_drop, List.length_take]; rfl)) ?_; (with_reducible refine (spec_l20Text.calls k g252 t250 t251 9 t253 t254 w _ ?side1 ?side2 A3.out).mono ?_); (case side1 => repeat (first | (with_reducible first | exact HI252.out | apply IsS68.alloc | apply IsS68.drewN | apply IsS68.drew | apply IsS68.set_1) | exact HI252.out)); (case side2 => repeat (first | (with_reducible first | exact HB.out | apply below_alloc | apply pw_below_drewN | apply below_drew1 | refine below_set ?_ (IsS68.ge HI252.out)) | exact HB.out)); rintro e w5 ⟨rfl, hi, hb, hk⟩; refine ⟨_, rfl, ?_⟩; have n0_ := Aside0.mk (hb); have n1_ := Aside0.mk (hi); clear HB; clear HI252; have HB := n0_; have HI252 := n1_; clear n0_ n1_; (try clear hb); (try clear hb2); (try clear hk); (try clear hi)))
  go_ret
  exact ⟨by first | rfl | (simp [errW_none, errW_some] <;> rfl) | (simp [*, errW_none, errW_some] <;> rfl), by repeat (first | (with_reducible first | exact HB.out | apply below_alloc | apply pw_below_drewN | apply below_drew1 | refine below_set ?_ (IsS68.ge HI252.out)) | exact HB.out)⟩

end Go.Proofs.Ytpaijbpenjjmkaa.X
