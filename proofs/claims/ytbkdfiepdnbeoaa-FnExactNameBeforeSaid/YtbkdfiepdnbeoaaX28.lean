-- written by a program of this session (wip/xprint.py) out of the translation
import Derived.Test.YtbkdfiepdnbeoaaX0
import Derived.Test.YtbkdfiepdnbeoaaX2
import Derived.Test.YtbkdfiepdnbeoaaX5
namespace Go.Proofs.Ytbkdfiepdnbeoaa.X
open Go.RowKit Go.Proofs.YtbkdfiepdnbeoaaW.PrintWords Go.Proofs.YtbkdfiepdnbeoaaW.PrintLast Go.Proofs.YtbkdfiepdnbeoaaW.PrintMore
attribute [local go_sem] max2_int min2_int max_two min_two max_three min_three max_four min_four   -- for this text's walks alone
set_option linter.unusedVariables false
set_option linter.unusedSimpArgs false

/-! ### spec_l8Kind: function 54 -/
def spec_l8Kind.j0 : Nat → Int → Bool → Option (Int)
  | 0, _, _ => none
  | k + 1, x0, x3 => if x3 = true then (some 0) else (if x0 ≥ 97 then (if x0 ≤ 122 then (some 1) else (if x0 ≥ 65 then (if x0 ≤ 90 then (some 1) else (if x0 ≥ 48 then (if x0 ≤ 57 then (some 1) else (some 2)) else (some 2))) else (if x0 ≥ 48 then (if x0 ≤ 57 then (some 1) else (some 2)) else (some 2)))) else (if x0 ≥ 65 then (if x0 ≤ 90 then (some 1) else (if x0 ≥ 48 then (if x0 ≤ 57 then (some 1) else (some 2)) else (some 2))) else (if x0 ≥ 48 then (if x0 ≤ 57 then (some 1) else (some 2)) else (some 2))))
def spec_l8Kind.f (k : Nat) (a0 : Int) : Option (Int) := if a0 = 32 then (spec_l8Kind.j0 k a0 true) else (spec_l8Kind.j0 k a0 (a0 == 10))
theorem spec_l8Kind.mono_l : ∀ k, (∀ y0 y1, LeO (spec_l8Kind.j0 k y0 y1) (spec_l8Kind.j0 (k + 1) y0 y1))
  | 0 => fun _ _ r h => by simp [spec_l8Kind.j0] at h
  | k + 1 => by
    have ih0 := spec_l8Kind.mono_l k
    · intro y0 y1
      unfold spec_l8Kind.j0
      repeat' first
      | (with_reducible exact ih0 _ _)
      | (with_reducible exact LeO.refl _)
      | (with_reducible exact LeO.none _)
      | (with_reducible refine LeO.ite ?_ ?_)
      | (with_reducible refine LeO.bind ?_ (fun _ => ?_))
      | exact ih0 _ _
      | exact LeO.none _
      | refine LeO.ite ?_ ?_
      | refine LeO.bind ?_ (fun _ => ?_)
theorem spec_l8Kind.mono : ∀ a0 k, LeO (spec_l8Kind.f k a0) (spec_l8Kind.f (k + 1) a0) := by
  intro a0 k
  have ih0 := spec_l8Kind.mono_l k
  unfold spec_l8Kind.f
  repeat' first
      | (with_reducible exact ih0 _ _)
      | (with_reducible exact LeO.refl _)
      | (with_reducible exact LeO.none _)
      | (with_reducible refine LeO.ite ?_ ?_)
      | (with_reducible refine LeO.bind ?_ (fun _ => ?_))
      | exact ih0 _ _
      | exact LeO.none _
      | refine LeO.ite ?_ ?_
      | refine LeO.bind ?_ (fun _ => ?_)
set_option maxHeartbeats 8000000 in
set_option maxRecDepth 100000 in
theorem spec_l8Kind.calls (k : Nat) (a0 : Int) (r : Int) (w : World) (h : spec_l8Kind.f k a0 = some r) :
    Calls Try.prog 54 #[.int .u8 a0] w fun e w' => e = .returned (.int .i64 r) ∧ Drawn0 w w' := by
  have H : (if a0 = 32 then (spec_l8Kind.j0 k a0 true) else (spec_l8Kind.j0 k a0 (a0 == 10))) = some r := h
  clear h
  have HC2 := Aside0.mk H
  clear H
  go_enter Try.func54, Try.ntmps54
  go_upto_region 1 with (fail)
  go_cut [3] (fun v3 wc => ∃ (kq : Nat) (x3_1 : Bool), v3 = .bool x3_1 ∧ Aside0 (spec_l8Kind.j0 kq a0 x3_1 = some r) ∧ Aside0 (kq ≤ k) ∧ Drawn0 w wc)
  case first =>
    have H := HC2.out
    clear HC2
    by_cases c3 : a0 = 32
    · rw [if_pos c3] at H
      have c3b0 : (a0 == 32) = true := beq_iff_eq.mpr c3
      have c3b1 : (a0 != 32) = false := bne_eq_false_iff_eq.mpr c3
      clear c3
      (first | rw [c3b0] | (simp only [i64_w, i32_w]; rw [c3b0]) | skip)
      have H' := Aside0.mk H
      clear H
      go_wp2
      go_meet
      case rel => exact ⟨_, (true), (by first | rfl | (simp; done) | (simp [*]; done)), H', ⟨by first | omega | exact Nat.le_refl _⟩, by repeat (first | exact Drawn0.refl _ | apply Drawn0.step)⟩
    · rw [if_neg c3] at H
      have c3b0 : (a0 == 32) = false := beq_eq_false_iff_ne.mpr c3
      have c3b1 : (a0 != 32) = true := bne_iff_ne.mpr c3
      (first | rw [c3b0] | (simp only [i64_w, i32_w]; rw [c3b0]) | skip)
      have H' := Aside0.mk H
      clear H
      go_wp2
      go_meet
      case rel => exact ⟨_, ((a0 == 10)), (by first | rfl | (simp; done) | (simp [*]; done)), H', ⟨by first | omega | exact Nat.le_refl _⟩, by repeat (first | exact Drawn0.refl _ | apply Drawn0.step)⟩
  case rest =>
    clear HC2
    try clear p2
    try clear c3
    try clear c3b0
    try clear c3b1
    obtain ⟨kq, x3_1, rfl, HA, HJ1, ⟨mc1, rfl⟩⟩ := hcut
    cases kq with
    | zero => exact absurd HA.out (by simp [spec_l8Kind.j0])
    | succ kj1 =>
      have H := HA.out
      clear HA
      simp only [spec_l8Kind.j0] at H
      by_cases c4 : x3_1 = true
      · subst c4
        have H1 : (some 0) = some r := by rw [if_pos rfl] at H; exact H
        clear H
        have H := H1
        clear H1
        obtain rfl := Option.some.inj H
        go_wp2
        go_ret
        exact ⟨by first | rfl | (simp; done) | (simp [*]; done), by repeat (first | exact Drawn0.refl _ | apply Drawn0.step)⟩
      · replace c4 := Bool.eq_false_iff.mpr c4
        subst c4
        have H1 : (if a0 ≥ 97 then (if a0 ≤ 122 then (some 1) else (if a0 ≥ 65 then (if a0 ≤ 90 then (some 1) else (if a0 ≥ 48 then (if a0 ≤ 57 then (some 1) else (some 2)) else (some 2))) else (if a0 ≥ 48 then (if a0 ≤ 57 then (some 1) else (some 2)) else (some 2)))) else (if a0 ≥ 65 then (if a0 ≤ 90 then (some 1) else (if a0 ≥ 48 then (if a0 ≤ 57 then (some 1) else (some 2)) else (some 2))) else (if a0 ≥ 48 then (if a0 ≤ 57 then (some 1) else (some 2)) else (some 2)))) = some r := by rw [if_neg (show ¬ (false = true) by decide)] at H; exact H
        clear H
        have H := H1
        clear H1
        by_cases c5 : a0 ≥ 97
        · rw [if_pos c5] at H
          have c5b0 : decide (97 ≤ a0) = true := decide_eq_true c5
          clear c5
          by_cases c6 : a0 ≤ 122
          · rw [if_pos c6] at H
            have c6b0 : decide (a0 ≤ 122) = true := decide_eq_true c6
            clear c6
            obtain rfl := Option.some.inj H
            go_wp2
            go_ret
            exact ⟨by first | rfl | (simp; done) | (simp [*]; done), by repeat (first | exact Drawn0.refl _ | apply Drawn0.step)⟩
          · rw [if_neg c6] at H
            have c6b0 : decide (a0 ≤ 122) = false := decide_eq_false c6
            clear c6
            by_cases c7 : a0 ≥ 65
            · rw [if_pos c7] at H
              have c7b0 : decide (65 ≤ a0) = true := decide_eq_true c7
              clear c7
              by_cases c8 : a0 ≤ 90
              · rw [if_pos c8] at H
                have c8b0 : decide (a0 ≤ 90) = true := decide_eq_true c8
                clear c8
                obtain rfl := Option.some.inj H
                go_wp2
                go_ret
                exact ⟨by first | rfl | (simp; done) | (simp [*]; done), by repeat (first | exact Drawn0.refl _ | apply Drawn0.step)⟩
              · rw [if_neg c8] at H
                have c8b0 : decide (a0 ≤ 90) = false := decide_eq_false c8
                clear c8
                by_cases c9 : a0 ≥ 48
                · rw [if_pos c9] at H
                  have c9b0 : decide (48 ≤ a0) = true := decide_eq_true c9
                  clear c9
                  by_cases c10 : a0 ≤ 57
                  · rw [if_pos c10] at H
                    have c10b0 : decide (a0 ≤ 57) = true := decide_eq_true c10
                    clear c10
                    obtain rfl := Option.some.inj H
                    go_wp2
                    go_ret
                    exact ⟨by first | rfl | (simp; done) | (simp [*]; done), by repeat (first | exact Drawn0.refl _ | apply Drawn0.step)⟩
                  · rw [if_neg c10] at H
                    have c10b0 : decide (a0 ≤ 57) = false := decide_eq_false c10
                    clear c10
                    obtain rfl := Option.some.inj H
                    go_wp2
                    go_ret
                    exact ⟨by first | rfl | (simp; done) | (simp [*]; done), by repeat (first | exact Drawn0.refl _ | apply Drawn0.step)⟩
                · rw [if_neg c9] at H
                  have c9b0 : decide (48 ≤ a0) = false := decide_eq_false c9
                  clear c9
                  obtain rfl := Option.some.inj H
                  go_wp2
                  go_ret
                  exact ⟨by first | rfl | (simp; done) | (simp [*]; done), by repeat (first | exact Drawn0.refl _ | apply Drawn0.step)⟩
            · rw [if_neg c7] at H
              have c7b0 : decide (65 ≤ a0) = false := decide_eq_false c7
              clear c7
              by_cases c11 : a0 ≥ 48
              · rw [if_pos c11] at H
                have c11b0 : decide (48 ≤ a0) = true := decide_eq_true c11
                clear c11
                by_cases c12 : a0 ≤ 57
                · rw [if_pos c12] at H
                  have c12b0 : decide (a0 ≤ 57) = true := decide_eq_true c12
                  clear c12
                  obtain rfl := Option.some.inj H
                  go_wp2
                  go_ret
                  exact ⟨by first | rfl | (simp; done) | (simp [*]; done), by repeat (first | exact Drawn0.refl _ | apply Drawn0.step)⟩
                · rw [if_neg c12] at H
                  have c12b0 : decide (a0 ≤ 57) = false := decide_eq_false c12
                  clear c12
                  obtain rfl := Option.some.inj H
                  go_wp2
                  go_ret
                  exact ⟨by first | rfl | (simp; done) | (simp [*]; done), by repeat (first | exact Drawn0.refl _ | apply Drawn0.step)⟩
              · rw [if_neg c11] at H
                have c11b0 : decide (48 ≤ a0) = false := decide_eq_false c11
                clear c11
                obtain rfl := Option.some.inj H
                go_wp2
                go_ret
                exact ⟨by first | rfl | (simp; done) | (simp [*]; done), by repeat (first | exact Drawn0.refl _ | apply Drawn0.step)⟩
        · rw [if_neg c5] at H
          have c5b0 : decide (97 ≤ a0) = false := decide_eq_false c5
          clear c5
          by_cases c13 : a0 ≥ 65
          · rw [if_pos c13] at H
            have c13b0 : decide (65 ≤ a0) = true := decide_eq_true c13
            clear c13
            by_cases c14 : a0 ≤ 90
            · rw [if_pos c14] at H
              have c14b0 : decide (a0 ≤ 90) = true := decide_eq_true c14
              clear c14
              obtain rfl := Option.some.inj H
              go_wp2
              go_ret
              exact ⟨by first | rfl | (simp; done) | (simp [*]; done), by repeat (first | exact Drawn0.refl _ | apply Drawn0.step)⟩
            · rw [if_neg c14] at H
              have c14b0 : decide (a0 ≤ 90) = false := decide_eq_false c14
              clear c14
              by_cases c15 : a0 ≥ 48
              · rw [if_pos c15] at H
                have c15b0 : decide (48 ≤ a0) = true := decide_eq_true c15
                clear c15
                by_cases c16 : a0 ≤ 57
                · rw [if_pos c16] at H
                  have c16b0 : decide (a0 ≤ 57) = true := decide_eq_true c16
                  clear c16
                  obtain rfl := Option.some.inj H
                  go_wp2
                  go_ret
                  exact ⟨by first | rfl | (simp; done) | (simp [*]; done), by repeat (first | exact Drawn0.refl _ | apply Drawn0.step)⟩
                · rw [if_neg c16] at H
                  have c16b0 : decide (a0 ≤ 57) = false := decide_eq_false c16
                  clear c16
                  obtain rfl := Option.some.inj H
                  go_wp2
                  go_ret
                  exact ⟨by first | rfl | (simp; done) | (simp [*]; done), by repeat (first | exact Drawn0.refl _ | apply Drawn0.step)⟩
              · rw [if_neg c15] at H
                have c15b0 : decide (48 ≤ a0) = false := decide_eq_false c15
                clear c15
                obtain rfl := Option.some.inj H
                go_wp2
                go_ret
                exact ⟨by first | rfl | (simp; done) | (simp [*]; done), by repeat (first | exact Drawn0.refl _ | apply Drawn0.step)⟩
          · rw [if_neg c13] at H
            have c13b0 : decide (65 ≤ a0) = false := decide_eq_false c13
            clear c13
            by_cases c17 : a0 ≥ 48
            · rw [if_pos c17] at H
              have c17b0 : decide (48 ≤ a0) = true := decide_eq_true c17
              clear c17
              by_cases c18 : a0 ≤ 57
              · rw [if_pos c18] at H
                have c18b0 : decide (a0 ≤ 57) = true := decide_eq_true c18
                clear c18
                obtain rfl := Option.some.inj H
                go_wp2
                go_ret
                exact ⟨by first | rfl | (simp; done) | (simp [*]; done), by repeat (first | exact Drawn0.refl _ | apply Drawn0.step)⟩
              · rw [if_neg c18] at H
                have c18b0 : decide (a0 ≤ 57) = false := decide_eq_false c18
                clear c18
                obtain rfl := Option.some.inj H
                go_wp2
                go_ret
                exact ⟨by first | rfl | (simp; done) | (simp [*]; done), by repeat (first | exact Drawn0.refl _ | apply Drawn0.step)⟩
            · rw [if_neg c17] at H
              have c17b0 : decide (48 ≤ a0) = false := decide_eq_false c17
              clear c17
              obtain rfl := Option.some.inj H
              go_wp2
              go_ret
              exact ⟨by first | rfl | (simp; done) | (simp [*]; done), by repeat (first | exact Drawn0.refl _ | apply Drawn0.step)⟩

/-! ### spec_NameBefore: function 39 -/
mutual
def spec_NameBefore.j0 : Nat → ByteArray → Int → Bool → Option (ByteArray)
  | 0, _, _, _ => none
  | k + 1, x0, x1, x15 => if x15 = true then (some (⟨#[]⟩ : ByteArray)) else (spec_NameBefore.l0 k x0 x1 x1)
def spec_NameBefore.l0 : Nat → ByteArray → Int → Int → Option (ByteArray)
  | 0, _, _, _ => none
  | k + 1, x0, x1, x5 => if x5 > 0 then (if 0 ≤ (wrap64 (x5 - 1)) then (if (wrap64 (x5 - 1)) < (x0.size : Int) then ((spec_l8Kind.f k (bt x0 (wrap64 (x5 - 1)))).bind fun t464 => (if t464 = 1 then (spec_NameBefore.l0 k x0 x1 (wrap64 (x5 - 1))) else (if 0 ≤ x5 then (if x5 ≤ x1 then (if x1 ≤ (x0.size : Int) then (some (x0.extract (x5 : Int).toNat (x1 : Int).toNat)) else (none)) else (none)) else (none)))) else (none)) else (none)) else (if 0 ≤ x5 then (if x5 ≤ x1 then (if x1 ≤ (x0.size : Int) then (some (x0.extract (x5 : Int).toNat (x1 : Int).toNat)) else (none)) else (none)) else (none))
end
def spec_NameBefore.f (k : Nat) (a0 : ByteArray) (a1 : Int) : Option (ByteArray) := (spec_TextValid.f k a0).bind fun t462 => (if t462 = true then ((spec_l1In.f a1 0 (a0.size : Int)).bind fun t463 => (spec_NameBefore.j0 k a0 a1 (!t463))) else (spec_NameBefore.j0 k a0 a1 true))
theorem spec_NameBefore.mono_l : ∀ k, (∀ y0 y1 y2, LeO (spec_NameBefore.j0 k y0 y1 y2) (spec_NameBefore.j0 (k + 1) y0 y1 y2)) ∧ (∀ y0 y1 y2, LeO (spec_NameBefore.l0 k y0 y1 y2) (spec_NameBefore.l0 (k + 1) y0 y1 y2))
  | 0 => ⟨fun _ _ _ r h => by simp [spec_NameBefore.j0] at h, fun _ _ _ r h => by simp [spec_NameBefore.l0] at h⟩
  | k + 1 => by
    obtain ⟨ih0, ih1⟩ := spec_NameBefore.mono_l k
    refine ⟨?_, ?_⟩
    · intro y0 y1 y2
      unfold spec_NameBefore.j0
      repeat' first
      | (with_reducible exact ih0 _ _ _)
      | (with_reducible exact ih1 _ _ _)
      | (with_reducible exact spec_TextValid.mono _ _)
      | (with_reducible exact spec_l8Kind.mono _ _)
      | (with_reducible exact LeO.refl _)
      | (with_reducible exact LeO.none _)
      | (with_reducible refine LeO.ite ?_ ?_)
      | (with_reducible refine LeO.bind ?_ (fun _ => ?_))
      | exact ih0 _ _ _
      | exact ih1 _ _ _
      | exact spec_TextValid.mono _ _
      | exact spec_l8Kind.mono _ _
      | exact LeO.none _
      | refine LeO.ite ?_ ?_
      | refine LeO.bind ?_ (fun _ => ?_)
    · intro y0 y1 y2
      unfold spec_NameBefore.l0
      repeat' first
      | (with_reducible exact ih0 _ _ _)
      | (with_reducible exact ih1 _ _ _)
      | (with_reducible exact spec_TextValid.mono _ _)
      | (with_reducible exact spec_l8Kind.mono _ _)
      | (with_reducible exact LeO.refl _)
      | (with_reducible exact LeO.none _)
      | (with_reducible refine LeO.ite ?_ ?_)
      | (with_reducible refine LeO.bind ?_ (fun _ => ?_))
      | exact ih0 _ _ _
      | exact ih1 _ _ _
      | exact spec_TextValid.mono _ _
      | exact spec_l8Kind.mono _ _
      | exact LeO.none _
      | refine LeO.ite ?_ ?_
      | refine LeO.bind ?_ (fun _ => ?_)
theorem spec_NameBefore.mono : ∀ a0 a1 k, LeO (spec_NameBefore.f k a0 a1) (spec_NameBefore.f (k + 1) a0 a1) := by
  intro a0 a1 k
  obtain ⟨ih0, ih1⟩ := spec_NameBefore.mono_l k
  unfold spec_NameBefore.f
  repeat' first
      | (with_reducible exact ih0 _ _ _)
      | (with_reducible exact ih1 _ _ _)
      | (with_reducible exact spec_TextValid.mono _ _)
      | (with_reducible exact spec_l8Kind.mono _ _)
      | (with_reducible exact LeO.refl _)
      | (with_reducible exact LeO.none _)
      | (with_reducible refine LeO.ite ?_ ?_)
      | (with_reducible refine LeO.bind ?_ (fun _ => ?_))
      | exact ih0 _ _ _
      | exact ih1 _ _ _
      | exact spec_TextValid.mono _ _
      | exact spec_l8Kind.mono _ _
      | exact LeO.none _
      | refine LeO.ite ?_ ?_
      | refine LeO.bind ?_ (fun _ => ?_)
set_option maxHeartbeats 8000000 in
set_option maxRecDepth 100000 in
theorem spec_NameBefore.calls (k : Nat) (a0 : ByteArray) (a1 : Int) (r : ByteArray) (w : World) (h : spec_NameBefore.f k a0 a1 = some r) :
    Calls Try.prog 39 #[.string a0, .int .i64 a1] w fun e w' => e = .returned (.string r) ∧ Drawn0 w w' := by
  have H : ((spec_TextValid.f k a0).bind fun t462 => (if t462 = true then ((spec_l1In.f a1 0 (a0.size : Int)).bind fun t463 => (spec_NameBefore.j0 k a0 a1 (!t463))) else (spec_NameBefore.j0 k a0 a1 true))) = some r := h
  clear h
  have HC3 := Aside0.mk H
  clear H
  go_enter Try.func39, Try.ntmps39
  go_upto_region 1 with (fail)
  go_cut [15] (fun v15 wc => ∃ (kq : Nat) (x15_2 : Bool), v15 = .bool x15_2 ∧ Aside0 (spec_NameBefore.j0 kq a0 a1 x15_2 = some r) ∧ Aside0 (kq ≤ k) ∧ Drawn0 w wc)
  case first =>
    have H := HC3.out
    clear HC3
    replace H := Option.bind_eq_some_iff.mp H
    obtain ⟨t462, A40, H⟩ := H
    replace H : (if t462 = true then ((spec_l1In.f a1 0 (a0.size : Int)).bind fun t463 => (spec_NameBefore.j0 k a0 a1 (!t463))) else (spec_NameBefore.j0 k a0 a1 true)) = some r := H
    have A4 := Aside0.mk A40
    clear A40
    by_cases c5 : t462 = true
    · subst c5
      have H1 : ((spec_l1In.f a1 0 (a0.size : Int)).bind fun t463 => (spec_NameBefore.j0 k a0 a1 (!t463))) = some r := by rw [if_pos rfl] at H; exact H
      clear H
      have H := H1
      clear H1
      replace H := Option.bind_eq_some_iff.mp H
      obtain ⟨t463, A60, H⟩ := H
      replace H : (spec_NameBefore.j0 k a0 a1 (!t463)) = some r := H
      have A6 := Aside0.mk A60
      clear A60
      have H' := Aside0.mk H
      clear H
      go_wp2_with (first | ((with_reducible refine gate_callee (f := 28) rfl ?_); refine goesL_ (some 7) rfl rfl Try.func28 (by kernel_rfl) rfl #[.string a0] rfl (by (try simp only [List.map_toArray, List.map_cons, List.map_nil]); first | done | rfl | (simp only [List.length_drop, List.length_take]; rfl)) ?_; (with_reducible refine (spec_TextValid.calls k a0 true _ A4.out).mono ?_); rintro e w' ⟨rfl, ⟨nd, rfl⟩⟩; refine ⟨_, rfl, ?_⟩) | (go_at_call 42; (with_reducible refine (spec_l1In.calls a1 0 (a0.size : Int) t463 _ A6.out).mono ?_); rintro e w' ⟨rfl, ⟨nd, rfl⟩⟩))
      go_meet
      case rel => exact ⟨_, (!t463), (by first | rfl | (simp; done) | (simp [*]; done)), H', ⟨by first | omega | exact Nat.le_refl _⟩, by repeat (first | exact Drawn0.refl _ | apply Drawn0.step)⟩
    · replace c5 := Bool.eq_false_iff.mpr c5
      subst c5
      have H1 : (spec_NameBefore.j0 k a0 a1 true) = some r := by rw [if_neg (show ¬ (false = true) by decide)] at H; exact H
      clear H
      have H := H1
      clear H1
      have H' := Aside0.mk H
      clear H
      go_wp2_with (first | ((with_reducible refine gate_callee (f := 28) rfl ?_); refine goesL_ (some 7) rfl rfl Try.func28 (by kernel_rfl) rfl #[.string a0] rfl (by (try simp only [List.map_toArray, List.map_cons, List.map_nil]); first | done | rfl | (simp only [List.length_drop, List.length_take]; rfl)) ?_; (with_reducible refine (spec_TextValid.calls k a0 false _ A4.out).mono ?_); rintro e w' ⟨rfl, ⟨nd, rfl⟩⟩; refine ⟨_, rfl, ?_⟩))
      go_meet
      case rel => exact ⟨_, (true), (by first | rfl | (simp; done) | (simp [*]; done)), H', ⟨by first | omega | exact Nat.le_refl _⟩, by repeat (first | exact Drawn0.refl _ | apply Drawn0.step)⟩
  case rest =>
    clear HC3
    try clear c2
    try clear p2
    try clear c3
    try clear c5
    obtain ⟨kq, x15_2, rfl, HA, HJ2, ⟨mc2, rfl⟩⟩ := hcut
    cases kq with
    | zero => exact absurd HA.out (by simp [spec_NameBefore.j0])
    | succ kj2 =>
      have H := HA.out
      clear HA
      simp only [spec_NameBefore.j0] at H
      by_cases c7 : x15_2 = true
      · subst c7
        have H1 : (some (⟨#[]⟩ : ByteArray)) = some r := by rw [if_pos rfl] at H; exact H
        clear H
        have H := H1
        clear H1
        obtain rfl := Option.some.inj H
        go_wp2
        go_ret
        exact ⟨by first | rfl | (simp; done) | (simp [*]; done), by repeat (first | exact Drawn0.refl _ | apply Drawn0.step)⟩
      · replace c7 := Bool.eq_false_iff.mpr c7
        subst c7
        have H1 : (spec_NameBefore.l0 kj2 a0 a1 a1) = some r := by rw [if_neg (show ¬ (false = true) by decide)] at H; exact H
        clear H
        have H := H1
        clear H1
        have H' := Aside0.mk H
        clear H
        go_wp2
        go_loopg [5] kj2 (fun kq v5 w' => ∃ (x5_2 : Int), v5 = .int .i64 x5_2 ∧ Aside0 (spec_NameBefore.l0 kq a0 a1 x5_2 = some r) ∧ Aside0 (kq ≤ kj2) ∧ Drawn0 w w')
        case atStart => exact ⟨(a1), (by first | rfl | (simp; done) | (simp [*]; done)), H', ⟨Nat.le_refl _⟩, by repeat (first | exact Drawn0.refl _ | apply Drawn0.step)⟩
        case round =>
          clear H'
          try clear c2
          try clear p2
          try clear c3
          try clear c5
          try clear c7
          try clear p2
          obtain ⟨x5_2, rfl, HA, HK2, ⟨m2, rfl⟩⟩ := hrel
          cases gk with
          | zero => exact absurd HA.out (by simp [spec_NameBefore.l0])
          | succ k2 =>
            have H := HA.out
            clear HA
            simp only [spec_NameBefore.l0] at H
            by_cases c8 : x5_2 > 0
            · rw [if_pos c8] at H
              have c8b0 : decide (0 < x5_2) = true := decide_eq_true c8
              clear c8
              obtain ⟨ji9, hji9⟩ : ∃ j_ : Int, (wrap64 (x5_2 - 1)) = j_ := ⟨_, rfl⟩
              replace H : (if 0 ≤ (ji9) then (if (ji9) < (a0.size : Int) then ((spec_l8Kind.f k2 (bt a0 (ji9))).bind fun t464 => (if t464 = 1 then (spec_NameBefore.l0 k2 a0 a1 ji9) else (if 0 ≤ x5_2 then (if x5_2 ≤ a1 then (if a1 ≤ (a0.size : Int) then (some (a0.extract (x5_2 : Int).toNat (a1 : Int).toNat)) else (none)) else (none)) else (none)))) else (none)) else (none)) = some r := by first | (rw [hji9] at H; exact H) | (simp only [hji9] at H ⊢; exact H)
              have hji9w : (IntKind.i64.wrap (x5_2 - 1)) = ji9 := (i64_w _).trans hji9
              by_cases c10 : 0 ≤ (ji9)
              · rw [if_pos c10] at H
                have c10b0 : decide (0 ≤ (ji9)) = true := decide_eq_true c10
                clear c10
                by_cases c11 : (ji9) < (a0.size : Int)
                · rw [if_pos c11] at H
                  have c11b0 : decide ((ji9) < (a0.size : Int)) = true := decide_eq_true c11
                  clear c11
                  replace H := Option.bind_eq_some_iff.mp H
                  obtain ⟨t464, A130, H⟩ := H
                  replace H : (if t464 = 1 then (spec_NameBefore.l0 k2 a0 a1 ji9) else (if 0 ≤ x5_2 then (if x5_2 ≤ a1 then (if a1 ≤ (a0.size : Int) then (some (a0.extract (x5_2 : Int).toNat (a1 : Int).toNat)) else (none)) else (none)) else (none))) = some r := H
                  have A13 := Aside0.mk A130
                  clear A130
                  by_cases c14 : t464 = 1
                  · rw [if_pos c14] at H
                    have c14b0 : (t464 == 1) = true := beq_iff_eq.mpr c14
                    have c14b1 : (t464 != 1) = false := bne_eq_false_iff_eq.mpr c14
                    clear c14
                    have H' := Aside0.mk H
                    clear H
                    have p12 : 0 ≤ ((ji9) : Int) := of_decide_eq_true (by first | (with_reducible assumption) | assumption)
                    have q12 : (ji9) < (a0.size : Int) := of_decide_eq_true (by first | (with_reducible assumption) | assumption)
                    have hx12 := bt_at a0 (ji9)
                    replace p12 := eq_true p12
                    replace q12 := eq_true q12
                    go_wp2_with (first | (go_at_call 54; (with_reducible refine (spec_l8Kind.calls k2 (bt a0 (ji9)) t464 _ A13.out).mono ?_); rintro e w' ⟨rfl, ⟨nd, rfl⟩⟩))
                    go_roundg k2
                    case measure => have := HJ2.out; have := HK2.out; omega
                    case rel => exact ⟨(ji9), (by first | rfl | (simp; done) | (simp only [← hji9] <;> (first | rfl | simp)) | (simp [*]; done)), H', ⟨by have := HJ2.out; have := HK2.out; omega⟩, by repeat (first | exact Drawn0.refl _ | apply Drawn0.step)⟩
                  · rw [if_neg c14] at H
                    have c14b0 : (t464 == 1) = false := beq_eq_false_iff_ne.mpr c14
                    have c14b1 : (t464 != 1) = true := bne_iff_ne.mpr c14
                    by_cases c15 : 0 ≤ x5_2
                    · rw [if_pos c15] at H
                      have c15b0 := eq_true c15
                      have c15b1 : decide (0 ≤ x5_2) = true := decide_eq_true c15
                      clear c15
                      by_cases c16 : x5_2 ≤ a1
                      · rw [if_pos c16] at H
                        have c16b0 := eq_true c16
                        have c16b1 : decide (x5_2 ≤ a1) = true := decide_eq_true c16
                        clear c16
                        by_cases c17 : a1 ≤ (a0.size : Int)
                        · rw [if_pos c17] at H
                          have c17b0 := eq_true c17
                          have c17b1 : decide (a1 ≤ (a0.size : Int)) = true := decide_eq_true c17
                          clear c17
                          obtain rfl := Option.some.inj H
                          have p12 : 0 ≤ ((ji9) : Int) := of_decide_eq_true (by first | (with_reducible assumption) | assumption)
                          have q12 : (ji9) < (a0.size : Int) := of_decide_eq_true (by first | (with_reducible assumption) | assumption)
                          have hx12 := bt_at a0 (ji9)
                          replace p12 := eq_true p12
                          replace q12 := eq_true q12
                          go_wp2_with (first | (go_at_call 54; (with_reducible refine (spec_l8Kind.calls k2 (bt a0 (ji9)) t464 _ A13.out).mono ?_); rintro e w' ⟨rfl, ⟨nd, rfl⟩⟩))
                          go_ret
                          exact ⟨by first | rfl | (simp; done) | (simp only [← hji9] <;> (first | rfl | simp)) | (simp [*]; done), by repeat (first | exact Drawn0.refl _ | apply Drawn0.step)⟩
                        · rw [if_neg c17] at H
                          exact absurd H (by simp)
                      · rw [if_neg c16] at H
                        exact absurd H (by simp)
                    · rw [if_neg c15] at H
                      exact absurd H (by simp)
                · rw [if_neg c11] at H
                  exact absurd H (by simp)
              · rw [if_neg c10] at H
                exact absurd H (by simp)
            · rw [if_neg c8] at H
              have c8b0 : decide (0 < x5_2) = false := decide_eq_false c8
              clear c8
              by_cases c18 : 0 ≤ x5_2
              · rw [if_pos c18] at H
                have c18b0 := eq_true c18
                have c18b1 : decide (0 ≤ x5_2) = true := decide_eq_true c18
                clear c18
                by_cases c19 : x5_2 ≤ a1
                · rw [if_pos c19] at H
                  have c19b0 := eq_true c19
                  have c19b1 : decide (x5_2 ≤ a1) = true := decide_eq_true c19
                  clear c19
                  by_cases c20 : a1 ≤ (a0.size : Int)
                  · rw [if_pos c20] at H
                    have c20b0 := eq_true c20
                    have c20b1 : decide (a1 ≤ (a0.size : Int)) = true := decide_eq_true c20
                    clear c20
                    obtain rfl := Option.some.inj H
                    go_wp2
                    go_ret
                    exact ⟨by first | rfl | (simp; done) | (simp [*]; done), by repeat (first | exact Drawn0.refl _ | apply Drawn0.step)⟩
                  · rw [if_neg c20] at H
                    exact absurd H (by simp)
                · rw [if_neg c19] at H
                  exact absurd H (by simp)
              · rw [if_neg c18] at H
                exact absurd H (by simp)

/-! ### impl_class: function 63 -/
def impl_class.j0 : Nat → Int → Bool → Option (Int)
  | 0, _, _ => none
  | k + 1, x0, x3 => if x3 = true then (some 0) else (if x0 ≥ 48 then (if x0 ≤ 57 then (some 1) else (if x0 ≥ 97 then (if x0 ≤ 122 then (some 1) else (if x0 ≥ 65 then (if x0 ≤ 90 then (some 1) else (some 2)) else (some 2))) else (if x0 ≥ 65 then (if x0 ≤ 90 then (some 1) else (some 2)) else (some 2)))) else (if x0 ≥ 97 then (if x0 ≤ 122 then (some 1) else (if x0 ≥ 65 then (if x0 ≤ 90 then (some 1) else (some 2)) else (some 2))) else (if x0 ≥ 65 then (if x0 ≤ 90 then (some 1) else (some 2)) else (some 2))))
def impl_class.f (k : Nat) (a0 : Int) : Option (Int) := if a0 = 32 then (impl_class.j0 k a0 true) else (impl_class.j0 k a0 (a0 == 10))
theorem impl_class.mono_l : ∀ k, (∀ y0 y1, LeO (impl_class.j0 k y0 y1) (impl_class.j0 (k + 1) y0 y1))
  | 0 => fun _ _ r h => by simp [impl_class.j0] at h
  | k + 1 => by
    have ih0 := impl_class.mono_l k
    · intro y0 y1
      unfold impl_class.j0
      repeat' first
      | (with_reducible exact ih0 _ _)
      | (with_reducible exact LeO.refl _)
      | (with_reducible exact LeO.none _)
      | (with_reducible refine LeO.ite ?_ ?_)
      | (with_reducible refine LeO.bind ?_ (fun _ => ?_))
      | exact ih0 _ _
      | exact LeO.none _
      | refine LeO.ite ?_ ?_
      | refine LeO.bind ?_ (fun _ => ?_)
theorem impl_class.mono : ∀ a0 k, LeO (impl_class.f k a0) (impl_class.f (k + 1) a0) := by
  intro a0 k
  have ih0 := impl_class.mono_l k
  unfold impl_class.f
  repeat' first
      | (with_reducible exact ih0 _ _)
      | (with_reducible exact LeO.refl _)
      | (with_reducible exact LeO.none _)
      | (with_reducible refine LeO.ite ?_ ?_)
      | (with_reducible refine LeO.bind ?_ (fun _ => ?_))
      | exact ih0 _ _
      | exact LeO.none _
      | refine LeO.ite ?_ ?_
      | refine LeO.bind ?_ (fun _ => ?_)
set_option maxHeartbeats 8000000 in
set_option maxRecDepth 100000 in
theorem impl_class.calls (k : Nat) (a0 : Int) (r : Int) (w : World) (h : impl_class.f k a0 = some r) :
    Calls Try.prog 63 #[.int .u8 a0] w fun e w' => e = .returned (.int .i64 r) ∧ Drawn0 w w' := by
  have H : (if a0 = 32 then (impl_class.j0 k a0 true) else (impl_class.j0 k a0 (a0 == 10))) = some r := h
  clear h
  have HC2 := Aside0.mk H
  clear H
  go_enter Try.func63, Try.ntmps63
  go_upto_region 1 with (fail)
  go_cut [3] (fun v3 wc => ∃ (kq : Nat) (x3_1 : Bool), v3 = .bool x3_1 ∧ Aside0 (impl_class.j0 kq a0 x3_1 = some r) ∧ Aside0 (kq ≤ k) ∧ Drawn0 w wc)
  case first =>
    have H := HC2.out
    clear HC2
    by_cases c3 : a0 = 32
    · rw [if_pos c3] at H
      have c3b0 : (a0 == 32) = true := beq_iff_eq.mpr c3
      have c3b1 : (a0 != 32) = false := bne_eq_false_iff_eq.mpr c3
      clear c3
      (first | rw [c3b0] | (simp only [i64_w, i32_w]; rw [c3b0]) | skip)
      have H' := Aside0.mk H
      clear H
      go_wp2
      go_meet
      case rel => exact ⟨_, (true), (by first | rfl | (simp; done) | (simp [*]; done)), H', ⟨by first | omega | exact Nat.le_refl _⟩, by repeat (first | exact Drawn0.refl _ | apply Drawn0.step)⟩
    · rw [if_neg c3] at H
      have c3b0 : (a0 == 32) = false := beq_eq_false_iff_ne.mpr c3
      have c3b1 : (a0 != 32) = true := bne_iff_ne.mpr c3
      (first | rw [c3b0] | (simp only [i64_w, i32_w]; rw [c3b0]) | skip)
      have H' := Aside0.mk H
      clear H
      go_wp2
      go_meet
      case rel => exact ⟨_, ((a0 == 10)), (by first | rfl | (simp; done) | (simp [*]; done)), H', ⟨by first | omega | exact Nat.le_refl _⟩, by repeat (first | exact Drawn0.refl _ | apply Drawn0.step)⟩
  case rest =>
    clear HC2
    try clear p2
    try clear c3
    try clear c3b0
    try clear c3b1
    obtain ⟨kq, x3_1, rfl, HA, HJ1, ⟨mc1, rfl⟩⟩ := hcut
    cases kq with
    | zero => exact absurd HA.out (by simp [impl_class.j0])
    | succ kj1 =>
      have H := HA.out
      clear HA
      simp only [impl_class.j0] at H
      by_cases c4 : x3_1 = true
      · subst c4
        have H1 : (some 0) = some r := by rw [if_pos rfl] at H; exact H
        clear H
        have H := H1
        clear H1
        obtain rfl := Option.some.inj H
        go_wp2
        go_ret
        exact ⟨by first | rfl | (simp; done) | (simp [*]; done), by repeat (first | exact Drawn0.refl _ | apply Drawn0.step)⟩
      · replace c4 := Bool.eq_false_iff.mpr c4
        subst c4
        have H1 : (if a0 ≥ 48 then (if a0 ≤ 57 then (some 1) else (if a0 ≥ 97 then (if a0 ≤ 122 then (some 1) else (if a0 ≥ 65 then (if a0 ≤ 90 then (some 1) else (some 2)) else (some 2))) else (if a0 ≥ 65 then (if a0 ≤ 90 then (some 1) else (some 2)) else (some 2)))) else (if a0 ≥ 97 then (if a0 ≤ 122 then (some 1) else (if a0 ≥ 65 then (if a0 ≤ 90 then (some 1) else (some 2)) else (some 2))) else (if a0 ≥ 65 then (if a0 ≤ 90 then (some 1) else (some 2)) else (some 2)))) = some r := by rw [if_neg (show ¬ (false = true) by decide)] at H; exact H
        clear H
        have H := H1
        clear H1
        by_cases c5 : a0 ≥ 48
        · rw [if_pos c5] at H
          have c5b0 : decide (48 ≤ a0) = true := decide_eq_true c5
          clear c5
          by_cases c6 : a0 ≤ 57
          · rw [if_pos c6] at H
            have c6b0 : decide (a0 ≤ 57) = true := decide_eq_true c6
            clear c6
            obtain rfl := Option.some.inj H
            go_wp2
            go_ret
            exact ⟨by first | rfl | (simp; done) | (simp [*]; done), by repeat (first | exact Drawn0.refl _ | apply Drawn0.step)⟩
          · rw [if_neg c6] at H
            have c6b0 : decide (a0 ≤ 57) = false := decide_eq_false c6
            clear c6
            by_cases c7 : a0 ≥ 97
            · rw [if_pos c7] at H
              have c7b0 : decide (97 ≤ a0) = true := decide_eq_true c7
              clear c7
              by_cases c8 : a0 ≤ 122
              · rw [if_pos c8] at H
                have c8b0 : decide (a0 ≤ 122) = true := decide_eq_true c8
                clear c8
                obtain rfl := Option.some.inj H
                go_wp2
                go_ret
                exact ⟨by first | rfl | (simp; done) | (simp [*]; done), by repeat (first | exact Drawn0.refl _ | apply Drawn0.step)⟩
              · rw [if_neg c8] at H
                have c8b0 : decide (a0 ≤ 122) = false := decide_eq_false c8
                clear c8
                by_cases c9 : a0 ≥ 65
                · rw [if_pos c9] at H
                  have c9b0 : decide (65 ≤ a0) = true := decide_eq_true c9
                  clear c9
                  by_cases c10 : a0 ≤ 90
                  · rw [if_pos c10] at H
                    have c10b0 : decide (a0 ≤ 90) = true := decide_eq_true c10
                    clear c10
                    obtain rfl := Option.some.inj H
                    go_wp2
                    go_ret
                    exact ⟨by first | rfl | (simp; done) | (simp [*]; done), by repeat (first | exact Drawn0.refl _ | apply Drawn0.step)⟩
                  · rw [if_neg c10] at H
                    have c10b0 : decide (a0 ≤ 90) = false := decide_eq_false c10
                    clear c10
                    obtain rfl := Option.some.inj H
                    go_wp2
                    go_ret
                    exact ⟨by first | rfl | (simp; done) | (simp [*]; done), by repeat (first | exact Drawn0.refl _ | apply Drawn0.step)⟩
                · rw [if_neg c9] at H
                  have c9b0 : decide (65 ≤ a0) = false := decide_eq_false c9
                  clear c9
                  obtain rfl := Option.some.inj H
                  go_wp2
                  go_ret
                  exact ⟨by first | rfl | (simp; done) | (simp [*]; done), by repeat (first | exact Drawn0.refl _ | apply Drawn0.step)⟩
            · rw [if_neg c7] at H
              have c7b0 : decide (97 ≤ a0) = false := decide_eq_false c7
              clear c7
              by_cases c11 : a0 ≥ 65
              · rw [if_pos c11] at H
                have c11b0 : decide (65 ≤ a0) = true := decide_eq_true c11
                clear c11
                by_cases c12 : a0 ≤ 90
                · rw [if_pos c12] at H
                  have c12b0 : decide (a0 ≤ 90) = true := decide_eq_true c12
                  clear c12
                  obtain rfl := Option.some.inj H
                  go_wp2
                  go_ret
                  exact ⟨by first | rfl | (simp; done) | (simp [*]; done), by repeat (first | exact Drawn0.refl _ | apply Drawn0.step)⟩
                · rw [if_neg c12] at H
                  have c12b0 : decide (a0 ≤ 90) = false := decide_eq_false c12
                  clear c12
                  obtain rfl := Option.some.inj H
                  go_wp2
                  go_ret
                  exact ⟨by first | rfl | (simp; done) | (simp [*]; done), by repeat (first | exact Drawn0.refl _ | apply Drawn0.step)⟩
              · rw [if_neg c11] at H
                have c11b0 : decide (65 ≤ a0) = false := decide_eq_false c11
                clear c11
                obtain rfl := Option.some.inj H
                go_wp2
                go_ret
                exact ⟨by first | rfl | (simp; done) | (simp [*]; done), by repeat (first | exact Drawn0.refl _ | apply Drawn0.step)⟩
        · rw [if_neg c5] at H
          have c5b0 : decide (48 ≤ a0) = false := decide_eq_false c5
          clear c5
          by_cases c13 : a0 ≥ 97
          · rw [if_pos c13] at H
            have c13b0 : decide (97 ≤ a0) = true := decide_eq_true c13
            clear c13
            by_cases c14 : a0 ≤ 122
            · rw [if_pos c14] at H
              have c14b0 : decide (a0 ≤ 122) = true := decide_eq_true c14
              clear c14
              obtain rfl := Option.some.inj H
              go_wp2
              go_ret
              exact ⟨by first | rfl | (simp; done) | (simp [*]; done), by repeat (first | exact Drawn0.refl _ | apply Drawn0.step)⟩
            · rw [if_neg c14] at H
              have c14b0 : decide (a0 ≤ 122) = false := decide_eq_false c14
              clear c14
              by_cases c15 : a0 ≥ 65
              · rw [if_pos c15] at H
                have c15b0 : decide (65 ≤ a0) = true := decide_eq_true c15
                clear c15
                by_cases c16 : a0 ≤ 90
                · rw [if_pos c16] at H
                  have c16b0 : decide (a0 ≤ 90) = true := decide_eq_true c16
                  clear c16
                  obtain rfl := Option.some.inj H
                  go_wp2
                  go_ret
                  exact ⟨by first | rfl | (simp; done) | (simp [*]; done), by repeat (first | exact Drawn0.refl _ | apply Drawn0.step)⟩
                · rw [if_neg c16] at H
                  have c16b0 : decide (a0 ≤ 90) = false := decide_eq_false c16
                  clear c16
                  obtain rfl := Option.some.inj H
                  go_wp2
                  go_ret
                  exact ⟨by first | rfl | (simp; done) | (simp [*]; done), by repeat (first | exact Drawn0.refl _ | apply Drawn0.step)⟩
              · rw [if_neg c15] at H
                have c15b0 : decide (65 ≤ a0) = false := decide_eq_false c15
                clear c15
                obtain rfl := Option.some.inj H
                go_wp2
                go_ret
                exact ⟨by first | rfl | (simp; done) | (simp [*]; done), by repeat (first | exact Drawn0.refl _ | apply Drawn0.step)⟩
          · rw [if_neg c13] at H
            have c13b0 : decide (97 ≤ a0) = false := decide_eq_false c13
            clear c13
            by_cases c17 : a0 ≥ 65
            · rw [if_pos c17] at H
              have c17b0 : decide (65 ≤ a0) = true := decide_eq_true c17
              clear c17
              by_cases c18 : a0 ≤ 90
              · rw [if_pos c18] at H
                have c18b0 : decide (a0 ≤ 90) = true := decide_eq_true c18
                clear c18
                obtain rfl := Option.some.inj H
                go_wp2
                go_ret
                exact ⟨by first | rfl | (simp; done) | (simp [*]; done), by repeat (first | exact Drawn0.refl _ | apply Drawn0.step)⟩
              · rw [if_neg c18] at H
                have c18b0 : decide (a0 ≤ 90) = false := decide_eq_false c18
                clear c18
                obtain rfl := Option.some.inj H
                go_wp2
                go_ret
                exact ⟨by first | rfl | (simp; done) | (simp [*]; done), by repeat (first | exact Drawn0.refl _ | apply Drawn0.step)⟩
            · rw [if_neg c17] at H
              have c17b0 : decide (65 ≤ a0) = false := decide_eq_false c17
              clear c17
              obtain rfl := Option.some.inj H
              go_wp2
              go_ret
              exact ⟨by first | rfl | (simp; done) | (simp [*]; done), by repeat (first | exact Drawn0.refl _ | apply Drawn0.step)⟩

/-! ### impl_skipBack: function 55 -/
def impl_skipBack.l0 : Nat → ByteArray → Int → Int → Option (Int)
  | 0, _, _, _ => none
  | k + 1, x0, x1, x2 => if x1 > 0 then (if 0 ≤ (wrap64 (x1 - 1)) then (if (wrap64 (x1 - 1)) < (x0.size : Int) then ((impl_class.f k (bt x0 (wrap64 (x1 - 1)))).bind fun t465 => (if t465 = x2 then (impl_skipBack.l0 k x0 (wrap64 (x1 - 1)) x2) else (some x1))) else (none)) else (none)) else (some x1)
def impl_skipBack.f (k : Nat) (a0 : ByteArray) (a1 : Int) (a2 : Int) : Option (Int) := impl_skipBack.l0 k a0 a1 a2
theorem impl_skipBack.mono_l : ∀ k, (∀ y0 y1 y2, LeO (impl_skipBack.l0 k y0 y1 y2) (impl_skipBack.l0 (k + 1) y0 y1 y2))
  | 0 => fun _ _ _ r h => by simp [impl_skipBack.l0] at h
  | k + 1 => by
    have ih0 := impl_skipBack.mono_l k
    · intro y0 y1 y2
      unfold impl_skipBack.l0
      repeat' first
      | (with_reducible exact ih0 _ _ _)
      | (with_reducible exact impl_class.mono _ _)
      | (with_reducible exact LeO.refl _)
      | (with_reducible exact LeO.none _)
      | (with_reducible refine LeO.ite ?_ ?_)
      | (with_reducible refine LeO.bind ?_ (fun _ => ?_))
      | exact ih0 _ _ _
      | exact impl_class.mono _ _
      | exact LeO.none _
      | refine LeO.ite ?_ ?_
      | refine LeO.bind ?_ (fun _ => ?_)
theorem impl_skipBack.mono : ∀ a0 a1 a2 k, LeO (impl_skipBack.f k a0 a1 a2) (impl_skipBack.f (k + 1) a0 a1 a2) := by
  intro a0 a1 a2 k
  have ih0 := impl_skipBack.mono_l k
  unfold impl_skipBack.f
  repeat' first
      | (with_reducible exact ih0 _ _ _)
      | (with_reducible exact impl_class.mono _ _)
      | (with_reducible exact LeO.refl _)
      | (with_reducible exact LeO.none _)
      | (with_reducible refine LeO.ite ?_ ?_)
      | (with_reducible refine LeO.bind ?_ (fun _ => ?_))
      | exact ih0 _ _ _
      | exact impl_class.mono _ _
      | exact LeO.none _
      | refine LeO.ite ?_ ?_
      | refine LeO.bind ?_ (fun _ => ?_)
set_option maxHeartbeats 8000000 in
set_option maxRecDepth 100000 in
theorem impl_skipBack.calls (k : Nat) (a0 : ByteArray) (a1 : Int) (a2 : Int) (r : Int) (w : World) (h : impl_skipBack.f k a0 a1 a2 = some r) :
    Calls Try.prog 55 #[.string a0, .int .i64 a1, .int .i64 a2] w fun e w' => e = .returned (.int .i64 r) ∧ Drawn0 w w' := by
  have H : (impl_skipBack.l0 k a0 a1 a2) = some r := h
  clear h
  have H' := Aside0.mk H
  clear H
  go_enter Try.func55, Try.ntmps55
  go_wp2
  go_loopg [1] k (fun kq v1 w' => ∃ (x1_1 : Int), v1 = .int .i64 x1_1 ∧ Aside0 (impl_skipBack.l0 kq a0 x1_1 a2 = some r) ∧ Aside0 (kq ≤ k) ∧ Drawn0 w w')
  case atStart => exact ⟨(a1), (by first | rfl | (simp; done) | (simp [*]; done)), H', ⟨Nat.le_refl _⟩, by repeat (first | exact Drawn0.refl _ | apply Drawn0.step)⟩
  case round =>
    clear H'
    try clear p2
    obtain ⟨x1_1, rfl, HA, HK1, ⟨m1, rfl⟩⟩ := hrel
    cases gk with
    | zero => exact absurd HA.out (by simp [impl_skipBack.l0])
    | succ k1 =>
      have H := HA.out
      clear HA
      simp only [impl_skipBack.l0] at H
      by_cases c4 : x1_1 > 0
      · rw [if_pos c4] at H
        have c4b0 : decide (0 < x1_1) = true := decide_eq_true c4
        clear c4
        obtain ⟨ji5, hji5⟩ : ∃ j_ : Int, (wrap64 (x1_1 - 1)) = j_ := ⟨_, rfl⟩
        replace H : (if 0 ≤ (ji5) then (if (ji5) < (a0.size : Int) then ((impl_class.f k1 (bt a0 (ji5))).bind fun t465 => (if t465 = a2 then (impl_skipBack.l0 k1 a0 ji5 a2) else (some x1_1))) else (none)) else (none)) = some r := by first | (rw [hji5] at H; exact H) | (simp only [hji5] at H ⊢; exact H)
        have hji5w : (IntKind.i64.wrap (x1_1 - 1)) = ji5 := (i64_w _).trans hji5
        by_cases c6 : 0 ≤ (ji5)
        · rw [if_pos c6] at H
          have c6b0 : decide (0 ≤ (ji5)) = true := decide_eq_true c6
          clear c6
          by_cases c7 : (ji5) < (a0.size : Int)
          · rw [if_pos c7] at H
            have c7b0 : decide ((ji5) < (a0.size : Int)) = true := decide_eq_true c7
            clear c7
            replace H := Option.bind_eq_some_iff.mp H
            obtain ⟨t465, A90, H⟩ := H
            replace H : (if t465 = a2 then (impl_skipBack.l0 k1 a0 ji5 a2) else (some x1_1)) = some r := H
            have A9 := Aside0.mk A90
            clear A90
            by_cases c10 : t465 = a2
            · rw [if_pos c10] at H
              have c10b0 : (t465 == a2) = true := beq_iff_eq.mpr c10
              have c10b1 : (t465 != a2) = false := bne_eq_false_iff_eq.mpr c10
              clear c10
              have H' := Aside0.mk H
              clear H
              have p8 : 0 ≤ ((ji5) : Int) := of_decide_eq_true (by first | (with_reducible assumption) | assumption)
              have q8 : (ji5) < (a0.size : Int) := of_decide_eq_true (by first | (with_reducible assumption) | assumption)
              have hx8 := bt_at a0 (ji5)
              replace p8 := eq_true p8
              replace q8 := eq_true q8
              go_wp2_with (first | (go_at_call 63; (with_reducible refine (impl_class.calls k1 (bt a0 (ji5)) t465 _ A9.out).mono ?_); rintro e w' ⟨rfl, ⟨nd, rfl⟩⟩))
              go_roundg k1
              case measure => have := HK1.out; omega
              case rel => exact ⟨(ji5), (by first | rfl | (simp; done) | (simp only [← hji5] <;> (first | rfl | simp)) | (simp [*]; done)), H', ⟨by have := HK1.out; omega⟩, by repeat (first | exact Drawn0.refl _ | apply Drawn0.step)⟩
            · rw [if_neg c10] at H
              have c10b0 : (t465 == a2) = false := beq_eq_false_iff_ne.mpr c10
              have c10b1 : (t465 != a2) = true := bne_iff_ne.mpr c10
              obtain rfl := Option.some.inj H
              have p8 : 0 ≤ ((ji5) : Int) := of_decide_eq_true (by first | (with_reducible assumption) | assumption)
              have q8 : (ji5) < (a0.size : Int) := of_decide_eq_true (by first | (with_reducible assumption) | assumption)
              have hx8 := bt_at a0 (ji5)
              replace p8 := eq_true p8
              replace q8 := eq_true q8
              go_wp2_with (first | (go_at_call 63; (with_reducible refine (impl_class.calls k1 (bt a0 (ji5)) t465 _ A9.out).mono ?_); rintro e w' ⟨rfl, ⟨nd, rfl⟩⟩))
              go_ret
              exact ⟨by first | rfl | (simp; done) | (simp only [← hji5] <;> (first | rfl | simp)) | (simp [*]; done), by repeat (first | exact Drawn0.refl _ | apply Drawn0.step)⟩
          · rw [if_neg c7] at H
            exact absurd H (by simp)
        · rw [if_neg c6] at H
          exact absurd H (by simp)
      · rw [if_neg c4] at H
        have c4b0 : decide (0 < x1_1) = false := decide_eq_false c4
        clear c4
        obtain rfl := Option.some.inj H
        go_wp2
        go_ret
        exact ⟨by first | rfl | (simp; done) | (simp [*]; done), by repeat (first | exact Drawn0.refl _ | apply Drawn0.step)⟩

/-! ### impl_NameBefore: function 40 -/
def impl_NameBefore.f (k : Nat) (a0 : ByteArray) (a1 : Int) : Option (ByteArray) := (impl_isPlace.f k a0 a1).bind fun t466 => (if t466 = true then ((impl_skipBack.f k a0 a1 1).bind fun t467 => (if 0 ≤ t467 then (if t467 ≤ a1 then (if a1 ≤ (a0.size : Int) then (some (a0.extract (t467 : Int).toNat (a1 : Int).toNat)) else (none)) else (none)) else (none))) else (some (⟨#[]⟩ : ByteArray)))
theorem impl_NameBefore.mono : ∀ a0 a1 k, LeO (impl_NameBefore.f k a0 a1) (impl_NameBefore.f (k + 1) a0 a1) := by
  intro a0 a1 k
  unfold impl_NameBefore.f
  repeat' first
      | (with_reducible exact impl_isPlace.mono _ _ _)
      | (with_reducible exact impl_skipBack.mono _ _ _ _)
      | (with_reducible exact LeO.refl _)
      | (with_reducible exact LeO.none _)
      | (with_reducible refine LeO.ite ?_ ?_)
      | (with_reducible refine LeO.bind ?_ (fun _ => ?_))
      | exact impl_isPlace.mono _ _ _
      | exact impl_skipBack.mono _ _ _ _
      | exact LeO.none _
      | refine LeO.ite ?_ ?_
      | refine LeO.bind ?_ (fun _ => ?_)
set_option maxHeartbeats 8000000 in
set_option maxRecDepth 100000 in
theorem impl_NameBefore.calls (k : Nat) (a0 : ByteArray) (a1 : Int) (r : ByteArray) (w : World) (h : impl_NameBefore.f k a0 a1 = some r) :
    Calls Try.prog 40 #[.string a0, .int .i64 a1] w fun e w' => e = .returned (.string r) ∧ Drawn0 w w' := by
  have H : ((impl_isPlace.f k a0 a1).bind fun t466 => (if t466 = true then ((impl_skipBack.f k a0 a1 1).bind fun t467 => (if 0 ≤ t467 then (if t467 ≤ a1 then (if a1 ≤ (a0.size : Int) then (some (a0.extract (t467 : Int).toNat (a1 : Int).toNat)) else (none)) else (none)) else (none))) else (some (⟨#[]⟩ : ByteArray)))) = some r := h
  clear h
  replace H := Option.bind_eq_some_iff.mp H
  obtain ⟨t466, A30, H⟩ := H
  replace H : (if t466 = true then ((impl_skipBack.f k a0 a1 1).bind fun t467 => (if 0 ≤ t467 then (if t467 ≤ a1 then (if a1 ≤ (a0.size : Int) then (some (a0.extract (t467 : Int).toNat (a1 : Int).toNat)) else (none)) else (none)) else (none))) else (some (⟨#[]⟩ : ByteArray))) = some r := H
  have A3 := Aside0.mk A30
  clear A30
  by_cases c4 : t466 = true
  · subst c4
    have H1 : ((impl_skipBack.f k a0 a1 1).bind fun t467 => (if 0 ≤ t467 then (if t467 ≤ a1 then (if a1 ≤ (a0.size : Int) then (some (a0.extract (t467 : Int).toNat (a1 : Int).toNat)) else (none)) else (none)) else (none))) = some r := by rw [if_pos rfl] at H; exact H
    clear H
    have H := H1
    clear H1
    replace H := Option.bind_eq_some_iff.mp H
    obtain ⟨t467, A50, H⟩ := H
    replace H : (if 0 ≤ t467 then (if t467 ≤ a1 then (if a1 ≤ (a0.size : Int) then (some (a0.extract (t467 : Int).toNat (a1 : Int).toNat)) else (none)) else (none)) else (none)) = some r := H
    have A5 := Aside0.mk A50
    clear A50
    by_cases c6 : 0 ≤ t467
    · rw [if_pos c6] at H
      have c6b0 := eq_true c6
      have c6b1 : decide (0 ≤ t467) = true := decide_eq_true c6
      clear c6
      by_cases c7 : t467 ≤ a1
      · rw [if_pos c7] at H
        have c7b0 := eq_true c7
        have c7b1 : decide (t467 ≤ a1) = true := decide_eq_true c7
        clear c7
        by_cases c8 : a1 ≤ (a0.size : Int)
        · rw [if_pos c8] at H
          have c8b0 := eq_true c8
          have c8b1 : decide (a1 ≤ (a0.size : Int)) = true := decide_eq_true c8
          clear c8
          obtain rfl := Option.some.inj H
          go_enter Try.func40, Try.ntmps40
          go_wp2_with (first | ((with_reducible refine gate_callee (f := 44) rfl ?_); refine goesL_ (some 7) rfl rfl Try.func44 (by kernel_rfl) rfl #[.string a0, .int .i64 a1] rfl (by (try simp only [List.map_toArray, List.map_cons, List.map_nil]); first | done | rfl | (simp only [List.length_drop, List.length_take]; rfl)) ?_; (with_reducible refine (impl_isPlace.calls k a0 a1 true _ A3.out).mono ?_); rintro e w' ⟨rfl, ⟨nd, rfl⟩⟩; refine ⟨_, rfl, ?_⟩) | ((with_reducible refine gate_callee (f := 55) rfl ?_); refine goesL_ (some 12) rfl rfl Try.func55 (by kernel_rfl) rfl #[.string a0, .int .i64 a1, .int .i64 1] rfl (by (try simp only [List.map_toArray, List.map_cons, List.map_nil]); first | done | rfl | (simp only [List.length_drop, List.length_take]; rfl)) ?_; (with_reducible refine (impl_skipBack.calls k a0 a1 1 t467 _ A5.out).mono ?_); rintro e w' ⟨rfl, ⟨nd, rfl⟩⟩; refine ⟨_, rfl, ?_⟩))
          go_ret
          exact ⟨by first | rfl | (simp; done) | (simp [*]; done), by repeat (first | exact Drawn0.refl _ | apply Drawn0.step)⟩
        · rw [if_neg c8] at H
          exact absurd H (by simp)
      · rw [if_neg c7] at H
        exact absurd H (by simp)
    · rw [if_neg c6] at H
      exact absurd H (by simp)
  · replace c4 := Bool.eq_false_iff.mpr c4
    subst c4
    have H1 : (some (⟨#[]⟩ : ByteArray)) = some r := by rw [if_neg (show ¬ (false = true) by decide)] at H; exact H
    clear H
    have H := H1
    clear H1
    obtain rfl := Option.some.inj H
    go_enter Try.func40, Try.ntmps40
    go_wp2_with (first | ((with_reducible refine gate_callee (f := 44) rfl ?_); refine goesL_ (some 7) rfl rfl Try.func44 (by kernel_rfl) rfl #[.string a0, .int .i64 a1] rfl (by (try simp only [List.map_toArray, List.map_cons, List.map_nil]); first | done | rfl | (simp only [List.length_drop, List.length_take]; rfl)) ?_; (with_reducible refine (impl_isPlace.calls k a0 a1 false _ A3.out).mono ?_); rintro e w' ⟨rfl, ⟨nd, rfl⟩⟩; refine ⟨_, rfl, ?_⟩))
    go_ret
    exact ⟨by first | rfl | (simp; done) | (simp [*]; done), by repeat (first | exact Drawn0.refl _ | apply Drawn0.step)⟩

/-! ### laws_FnExactNameBefore: function 14 -/
def laws_FnExactNameBefore.f (k : Nat) (a0 : ByteArray) (a1 : Int) : Option (Bool) := if (a0.size : Int) > 1048576 then (some true) else ((spec_NameBefore.f k a0 a1).bind fun t468 => ((impl_NameBefore.f k a0 a1).bind fun t469 => (if t469.toList = t468.toList then (some true) else (some false))))
theorem laws_FnExactNameBefore.mono : ∀ a0 a1 k, LeO (laws_FnExactNameBefore.f k a0 a1) (laws_FnExactNameBefore.f (k + 1) a0 a1) := by
  intro a0 a1 k
  unfold laws_FnExactNameBefore.f
  repeat' first
      | (with_reducible exact impl_NameBefore.mono _ _ _)
      | (with_reducible exact spec_NameBefore.mono _ _ _)
      | (with_reducible exact LeO.refl _)
      | (with_reducible exact LeO.none _)
      | (with_reducible refine LeO.ite ?_ ?_)
      | (with_reducible refine LeO.bind ?_ (fun _ => ?_))
      | exact impl_NameBefore.mono _ _ _
      | exact spec_NameBefore.mono _ _ _
      | exact LeO.none _
      | refine LeO.ite ?_ ?_
      | refine LeO.bind ?_ (fun _ => ?_)
set_option maxHeartbeats 8000000 in
set_option maxRecDepth 100000 in
theorem laws_FnExactNameBefore.calls (k : Nat) (a0 : ByteArray) (a1 : Int) (r : Bool) (w : World) (h : laws_FnExactNameBefore.f k a0 a1 = some r) :
    Calls Try.prog 14 #[.string a0, .int .i64 a1] w fun e w' => e = .returned (.bool r) ∧ Drawn0 w w' := by
  have H : (if (a0.size : Int) > 1048576 then (some true) else ((spec_NameBefore.f k a0 a1).bind fun t468 => ((impl_NameBefore.f k a0 a1).bind fun t469 => (if t469.toList = t468.toList then (some true) else (some false))))) = some r := h
  clear h
  by_cases c3 : (a0.size : Int) > 1048576
  · rw [if_pos c3] at H
    have c3b0 : decide (1048576 < (a0.size : Int)) = true := decide_eq_true c3
    have c3b1 : decide (1048576 < a0.size) = true := decide_eq_true (by omega)
    clear c3
    obtain rfl := Option.some.inj H
    go_enter Try.func14, Try.ntmps14
    go_wp2
    go_ret
    exact ⟨by first | rfl | (simp; done) | (simp [*]; done), by repeat (first | exact Drawn0.refl _ | apply Drawn0.step)⟩
  · rw [if_neg c3] at H
    have c3b0 : decide (1048576 < (a0.size : Int)) = false := decide_eq_false c3
    have c3b1 : decide (1048576 < a0.size) = false := decide_eq_false (by omega)
    clear c3
    replace H := Option.bind_eq_some_iff.mp H
    obtain ⟨t468, A40, H⟩ := H
    replace H : ((impl_NameBefore.f k a0 a1).bind fun t469 => (if t469.toList = t468.toList then (some true) else (some false))) = some r := H
    have A4 := Aside0.mk A40
    clear A40
    replace H := Option.bind_eq_some_iff.mp H
    obtain ⟨t469, A50, H⟩ := H
    replace H : (if t469.toList = t468.toList then (some true) else (some false)) = some r := H
    have A5 := Aside0.mk A50
    clear A50
    by_cases c6 : t469.toList = t468.toList
    · rw [if_pos c6] at H
      have c6b0 : (t469.toList == t468.toList) = true := beq_iff_eq.mpr c6
      have c6b1 : (t469.toList != t468.toList) = false := bne_eq_false_iff_eq.mpr c6
      clear c6
      obtain rfl := Option.some.inj H
      go_enter Try.func14, Try.ntmps14
      go_wp2_with (first | ((with_reducible refine gate_callee (f := 39) rfl ?_); refine goesL_ (some 12) rfl rfl Try.func39 (by kernel_rfl) rfl #[.string a0, .int .i64 a1] rfl (by (try simp only [List.map_toArray, List.map_cons, List.map_nil]); first | done | rfl | (simp only [List.length_drop, List.length_take]; rfl)) ?_; (with_reducible refine (spec_NameBefore.calls k a0 a1 t468 _ A4.out).mono ?_); rintro e w' ⟨rfl, ⟨nd, rfl⟩⟩; refine ⟨_, rfl, ?_⟩) | ((with_reducible refine gate_callee (f := 40) rfl ?_); refine goesL_ (some 15) rfl rfl Try.func40 (by kernel_rfl) rfl #[.string a0, .int .i64 a1] rfl (by (try simp only [List.map_toArray, List.map_cons, List.map_nil]); first | done | rfl | (simp only [List.length_drop, List.length_take]; rfl)) ?_; (with_reducible refine (impl_NameBefore.calls k a0 a1 t469 _ A5.out).mono ?_); rintro e w' ⟨rfl, ⟨nd, rfl⟩⟩; refine ⟨_, rfl, ?_⟩))
      go_ret
      exact ⟨by first | rfl | (simp; done) | (simp [*]; done), by repeat (first | exact Drawn0.refl _ | apply Drawn0.step)⟩
    · rw [if_neg c6] at H
      have c6b0 : (t469.toList == t468.toList) = false := beq_eq_false_iff_ne.mpr c6
      have c6b1 : (t469.toList != t468.toList) = true := bne_iff_ne.mpr c6
      obtain rfl := Option.some.inj H
      go_enter Try.func14, Try.ntmps14
      go_wp2_with (first | ((with_reducible refine gate_callee (f := 39) rfl ?_); refine goesL_ (some 12) rfl rfl Try.func39 (by kernel_rfl) rfl #[.string a0, .int .i64 a1] rfl (by (try simp only [List.map_toArray, List.map_cons, List.map_nil]); first | done | rfl | (simp only [List.length_drop, List.length_take]; rfl)) ?_; (with_reducible refine (spec_NameBefore.calls k a0 a1 t468 _ A4.out).mono ?_); rintro e w' ⟨rfl, ⟨nd, rfl⟩⟩; refine ⟨_, rfl, ?_⟩) | ((with_reducible refine gate_callee (f := 40) rfl ?_); refine goesL_ (some 15) rfl rfl Try.func40 (by kernel_rfl) rfl #[.string a0, .int .i64 a1] rfl (by (try simp only [List.map_toArray, List.map_cons, List.map_nil]); first | done | rfl | (simp only [List.length_drop, List.length_take]; rfl)) ?_; (with_reducible refine (impl_NameBefore.calls k a0 a1 t469 _ A5.out).mono ?_); rintro e w' ⟨rfl, ⟨nd, rfl⟩⟩; refine ⟨_, rfl, ?_⟩))
      go_ret
      exact ⟨by first | rfl | (simp; done) | (simp [*]; done), by repeat (first | exact Drawn0.refl _ | apply Drawn0.step)⟩

/-- THE ONE PURE STATEMENT of laws_FnExactNameBefore: yours. -/
def laws_FnExactNameBefore.Pure : Prop := ∀ (a0 : ByteArray) (a1 : Int), a0.size ≤ 140737488351232 → (Lit.int .i64 a1).wf = true → ∃ k, laws_FnExactNameBefore.f k a0 a1 = some true
theorem laws_FnExactNameBefore.walk (P : laws_FnExactNameBefore.Pure) (a0 : ByteArray) (a1 : Int) (w : World) (w0 : a0.size ≤ 140737488351232) (w1 : (Lit.int .i64 a1).wf = true) :
    Calls Try.prog 14 #[.string a0, .int .i64 a1] w fun e w' => e = .returned (.bool true) ∧ Below w.heap.size w w' := by
  obtain ⟨k, h⟩ := P a0 a1 w0 w1
  refine (laws_FnExactNameBefore.calls k a0 a1 true w h).mono ?_
  rintro e w' ⟨rfl, hd⟩
  exact ⟨rfl, hd.below⟩

end Go.Proofs.Ytbkdfiepdnbeoaa.X
