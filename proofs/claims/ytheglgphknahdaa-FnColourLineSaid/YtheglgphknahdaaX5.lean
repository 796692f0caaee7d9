-- written by a program of this session (wip/xprint.py) out of the translation
import Derived.Test.YtheglgphknahdaaX0
import Derived.Test.YtheglgphknahdaaX3
import Derived.Test.YtheglgphknahdaaX4
namespace Go.Proofs.Ytheglgphknahdaa.X
open Go.RowKit Go.Proofs.YtheglgphknahdaaW.PrintWords Go.Proofs.YtheglgphknahdaaW.PrintLast Go.Proofs.YtheglgphknahdaaW.PrintMore
attribute [local go_sem] max2_int min2_int max_two min_two max_three min_three max_four min_four   -- for this text's walks alone
set_option linter.unusedVariables false
set_option linter.unusedSimpArgs false

/-! ### impl_LineMany: function 22 -/
def impl_LineMany.f (k : Nat) (a0 : ByteArray) : Option (Int) := (impl_TextValid.f k a0).bind fun t194 => (if t194 = true then ((strings_Count.f a0 (⟨#[10]⟩ : ByteArray)).bind fun t195 => (some (wrap64 (1 + t195)))) else (some (-1)))
theorem impl_LineMany.mono : ∀ a0 k, LeO (impl_LineMany.f k a0) (impl_LineMany.f (k + 1) a0) := by
  intro a0 k
  unfold impl_LineMany.f
  repeat' first
      | (with_reducible exact impl_TextValid.mono _ _)
      | (with_reducible exact LeO.refl _)
      | (with_reducible exact LeO.none _)
      | (with_reducible refine LeO.ite ?_ ?_)
      | (with_reducible refine LeO.bind ?_ (fun _ => ?_))
      | exact impl_TextValid.mono _ _
      | exact LeO.none _
      | refine LeO.ite ?_ ?_
      | refine LeO.bind ?_ (fun _ => ?_)
set_option maxHeartbeats 8000000 in
set_option maxRecDepth 100000 in
theorem impl_LineMany.calls (k : Nat) (a0 : ByteArray) (r : Int) (w : World) (h : impl_LineMany.f k a0 = some r) :
    Calls Try.prog 22 #[.string a0] w fun e w' => e = .returned (.int .i64 r) ∧ Drawn0 w w' := by
  have H : ((impl_TextValid.f k a0).bind fun t194 => (if t194 = true then ((strings_Count.f a0 (⟨#[10]⟩ : ByteArray)).bind fun t195 => (some (wrap64 (1 + t195)))) else (some (-1)))) = some r := h
  clear h
  replace H := Option.bind_eq_some_iff.mp H
  obtain ⟨t194, A20, H⟩ := H
  replace H : (if t194 = true then ((strings_Count.f a0 (⟨#[10]⟩ : ByteArray)).bind fun t195 => (some (wrap64 (1 + t195)))) else (some (-1))) = some r := H
  have A2 := Aside0.mk A20
  clear A20
  by_cases c3 : t194 = true
  · subst c3
    have H1 : ((strings_Count.f a0 (⟨#[10]⟩ : ByteArray)).bind fun t195 => (some (wrap64 (1 + t195)))) = some r := by rw [if_pos rfl] at H; exact H
    clear H
    have H := H1
    clear H1
    replace H := Option.bind_eq_some_iff.mp H
    obtain ⟨t195, A40, H⟩ := H
    replace H : (some (wrap64 (1 + t195))) = some r := H
    have A4 := Aside0.mk A40
    clear A40
    obtain rfl := Option.some.inj H
    go_enter Try.func22, Try.ntmps22
    go_wp2_with (first | ((with_reducible refine gate_callee (f := 14) rfl ?_); refine goesL_ (some 4) rfl rfl Try.func14 (by kernel_rfl) rfl #[.string a0] rfl (by (try simp only [List.map_toArray, List.map_cons, List.map_nil]); first | done | rfl | (simp only [List.length_drop, List.length_take]; rfl)) ?_; (with_reducible refine (impl_TextValid.calls k a0 true _ A2.out).mono ?_); rintro e w' ⟨rfl, ⟨nd, rfl⟩⟩; refine ⟨_, rfl, ?_⟩) | ((with_reducible refine gate_callee (f := 32) rfl ?_); refine goesL_ (some 7) rfl rfl Try.func32 (by kernel_rfl) rfl #[.string a0, .string (⟨#[10]⟩ : ByteArray)] rfl (by (try simp only [List.map_toArray, List.map_cons, List.map_nil]); first | done | rfl | (simp only [List.length_drop, List.length_take]; rfl)) ?_; (with_reducible refine (strings_Count.calls a0 (⟨#[10]⟩ : ByteArray) t195 _ A4.out).mono ?_); rintro e w' ⟨rfl, ⟨nd, rfl⟩⟩; refine ⟨_, rfl, ?_⟩))
    go_ret
    exact ⟨by first | rfl | (simp; done) | (simp [*]; done), by repeat (first | exact Drawn0.refl _ | apply Drawn0.step)⟩
  · replace c3 := Bool.eq_false_iff.mpr c3
    subst c3
    have H1 : (some (-1)) = some r := by rw [if_neg (show ¬ (false = true) by decide)] at H; exact H
    clear H
    have H := H1
    clear H1
    obtain rfl := Option.some.inj H
    go_enter Try.func22, Try.ntmps22
    go_wp2_with (first | ((with_reducible refine gate_callee (f := 14) rfl ?_); refine goesL_ (some 4) rfl rfl Try.func14 (by kernel_rfl) rfl #[.string a0] rfl (by (try simp only [List.map_toArray, List.map_cons, List.map_nil]); first | done | rfl | (simp only [List.length_drop, List.length_take]; rfl)) ?_; (with_reducible refine (impl_TextValid.calls k a0 false _ A2.out).mono ?_); rintro e w' ⟨rfl, ⟨nd, rfl⟩⟩; refine ⟨_, rfl, ?_⟩))
    go_ret
    exact ⟨by first | rfl | (simp; done) | (simp [*]; done), by repeat (first | exact Drawn0.refl _ | apply Drawn0.step)⟩

/-! ### laws_alive: function 8 -/
def laws_alive.f (k : Nat)  : Option (Bool) := (impl_LineMany.f k (⟨#[97, 10, 98]⟩ : ByteArray)).bind fun t196 => (some (t196 == 2))
theorem laws_alive.mono : ∀ k, LeO (laws_alive.f k ) (laws_alive.f (k + 1) ) := by
  intro  k
  unfold laws_alive.f
  repeat' first
      | (with_reducible exact impl_LineMany.mono _ _)
      | (with_reducible exact LeO.refl _)
      | (with_reducible exact LeO.none _)
      | (with_reducible refine LeO.ite ?_ ?_)
      | (with_reducible refine LeO.bind ?_ (fun _ => ?_))
      | exact impl_LineMany.mono _ _
      | exact LeO.none _
      | refine LeO.ite ?_ ?_
      | refine LeO.bind ?_ (fun _ => ?_)
set_option maxHeartbeats 8000000 in
set_option maxRecDepth 100000 in
theorem laws_alive.calls (k : Nat)  (r : Bool) (w : World) (h : laws_alive.f k  = some r) :
    Calls Try.prog 8 #[] w fun e w' => e = .returned (.bool r) ∧ Drawn0 w w' := by
  have H : ((impl_LineMany.f k (⟨#[97, 10, 98]⟩ : ByteArray)).bind fun t196 => (some (t196 == 2))) = some r := h
  clear h
  replace H := Option.bind_eq_some_iff.mp H
  obtain ⟨t196, A10, H⟩ := H
  replace H : (some (t196 == 2)) = some r := H
  have A1 := Aside0.mk A10
  clear A10
  obtain rfl := Option.some.inj H
  go_enter Try.func8, Try.ntmps8
  go_wp2_with (first | ((with_reducible refine gate_callee (f := 22) rfl ?_); refine goesL_ (some 1) rfl rfl Try.func22 (by kernel_rfl) rfl #[.string (⟨#[97, 10, 98]⟩ : ByteArray)] rfl (by (try simp only [List.map_toArray, List.map_cons, List.map_nil]); first | done | rfl | (simp only [List.length_drop, List.length_take]; rfl)) ?_; (with_reducible refine (impl_LineMany.calls k (⟨#[97, 10, 98]⟩ : ByteArray) t196 _ A1.out).mono ?_); rintro e w' ⟨rfl, ⟨nd, rfl⟩⟩; refine ⟨_, rfl, ?_⟩))
  go_ret
  exact ⟨by first | rfl | (simp; done) | (simp [*]; done), by repeat (first | exact Drawn0.refl _ | apply Drawn0.step)⟩

/-! ### laws_FnColourLine: function 4 -/
mutual
def laws_FnColourLine.j0 : Nat → Int → ByteArray → Int → ByteArray → Bool → Bool → Option (Bool)
  | 0, _, _, _, _, _, _ => none
  | k + 1, x3, x4, x5, x6, x7, x53 => if x53 = true then (some false) else (if x7 = true then (if (x6.size : Int) = (x4.size : Int) then (laws_FnColourLine.l0 k x3 x4 x5 x6 0 0) else (some false)) else (if x5 = (-1) then (if x6.toList = ([] : List UInt8) then ((laws_alive.f k).bind fun t205 => (some t205)) else (some false)) else (some false)))
def laws_FnColourLine.l0 : Nat → Int → ByteArray → Int → ByteArray → Int → Int → Option (Bool)
  | 0, _, _, _, _, _, _ => none
  | k + 1, x3, x4, x5, x6, x11, x12 => if x12 < (x6.size : Int) then (if 0 ≤ x12 then (if (bt x6 x12) < 48 then (laws_FnColourLine.j2 k x3 x4 x5 x6 x11 x12 true) else (laws_FnColourLine.j2 k x3 x4 x5 x6 x11 x12 (decide ((bt x6 x12) > 52)))) else (none)) else (if x5 ≥ 0 then (some (decide (x5 ≤ 9))) else (some false))
def laws_FnColourLine.j2 : Nat → Int → ByteArray → Int → ByteArray → Int → Int → Bool → Option (Bool)
  | 0, _, _, _, _, _, _, _ => none
  | k + 1, x3, x4, x5, x6, x11, x12, x85 => if x85 = true then (some false) else (if 0 ≤ x12 then (if x12 < (x4.size : Int) then (if (bt x4 x12) = 34 then (if x12 < (x6.size : Int) then (laws_FnColourLine.j3 k x3 x4 x5 x6 x11 x12 ((bt x6 x12) == 51)) else (none)) else (laws_FnColourLine.j3 k x3 x4 x5 x6 x11 x12 false)) else (none)) else (none))
def laws_FnColourLine.j3 : Nat → Int → ByteArray → Int → ByteArray → Int → Int → Bool → Option (Bool)
  | 0, _, _, _, _, _, _, _ => none
  | k + 1, x3, x4, x5, x6, x11, x12, x95 => if x95 = true then (laws_FnColourLine.j4 k x3 x4 x5 x6 (wrap64 (x11 + 1)) x12) else (laws_FnColourLine.j4 k x3 x4 x5 x6 x11 x12)
def laws_FnColourLine.j4 : Nat → Int → ByteArray → Int → ByteArray → Int → Int → Option (Bool)
  | 0, _, _, _, _, _, _ => none
  | k + 1, x3, x4, x5, x6, x11, x12 => if (Int.tmod x11 2) = 0 then (if 0 ≤ (wrap64 (x12 + 1)) then (if (wrap64 (x12 + 1)) ≤ (x4.size : Int) then ((impl_ColourLine.f k x3 (x4.extract 0 ((wrap64 (x12 + 1)) : Int).toNat)).bind fun bt206 => ((impl_ColourLine.f k bt206.1 (x4.extract ((wrap64 (x12 + 1)) : Int).toNat x4.size)).bind fun bt209 => (if bt209.1 = x5 then (if bt206.2.1.size + bt209.2.1.size ≤ 9223372036854775807 then (if (bt206.2.1 ++ bt209.2.1).toList = x6.toList then (laws_FnColourLine.l0 k x3 x4 x5 x6 x11 (wrap64 (x12 + 1))) else (some false)) else (none)) else (some false)))) else (none)) else (none)) else (laws_FnColourLine.l0 k x3 x4 x5 x6 x11 (wrap64 (x12 + 1)))
end
def laws_FnColourLine.f (k : Nat) (l0 : List Int) : Option (Bool) := if (l0.length : Int) > 1048576 then (some true) else ((spec_DrawColourLine.f k l0).bind fun bt197 => ((impl_ColourLine.f k bt197.1 bt197.2).bind fun bt199 => ((spec_ColourLine.f k bt197.1 bt197.2).bind fun bt202 => (if bt199.1 = bt202.1 then (if bt199.2.1.toList = bt202.2.1.toList then (laws_FnColourLine.j0 k bt197.1 bt197.2 bt199.1 bt199.2.1 bt199.2.2 (bt199.2.2 != bt202.2.2)) else (laws_FnColourLine.j0 k bt197.1 bt197.2 bt199.1 bt199.2.1 bt199.2.2 true)) else (laws_FnColourLine.j0 k bt197.1 bt197.2 bt199.1 bt199.2.1 bt199.2.2 true)))))
theorem laws_FnColourLine.mono_l : ∀ k, (∀ y0 y1 y2 y3 y4 y5, LeO (laws_FnColourLine.j0 k y0 y1 y2 y3 y4 y5) (laws_FnColourLine.j0 (k + 1) y0 y1 y2 y3 y4 y5)) ∧ (∀ y0 y1 y2 y3 y4 y5, LeO (laws_FnColourLine.l0 k y0 y1 y2 y3 y4 y5) (laws_FnColourLine.l0 (k + 1) y0 y1 y2 y3 y4 y5)) ∧ (∀ y0 y1 y2 y3 y4 y5 y6, LeO (laws_FnColourLine.j2 k y0 y1 y2 y3 y4 y5 y6) (laws_FnColourLine.j2 (k + 1) y0 y1 y2 y3 y4 y5 y6)) ∧ (∀ y0 y1 y2 y3 y4 y5 y6, LeO (laws_FnColourLine.j3 k y0 y1 y2 y3 y4 y5 y6) (laws_FnColourLine.j3 (k + 1) y0 y1 y2 y3 y4 y5 y6)) ∧ (∀ y0 y1 y2 y3 y4 y5, LeO (laws_FnColourLine.j4 k y0 y1 y2 y3 y4 y5) (laws_FnColourLine.j4 (k + 1) y0 y1 y2 y3 y4 y5))
  | 0 => ⟨fun _ _ _ _ _ _ r h => by simp [laws_FnColourLine.j0] at h, fun _ _ _ _ _ _ r h => by simp [laws_FnColourLine.l0] at h, fun _ _ _ _ _ _ _ r h => by simp [laws_FnColourLine.j2] at h, fun _ _ _ _ _ _ _ r h => by simp [laws_FnColourLine.j3] at h, fun _ _ _ _ _ _ r h => by simp [laws_FnColourLine.j4] at h⟩
  | k + 1 => by
    obtain ⟨ih0, ih1, ih2, ih3, ih4⟩ := laws_FnColourLine.mono_l k
    refine ⟨?_, ?_, ?_, ?_, ?_⟩
    · intro y0 y1 y2 y3 y4 y5
      unfold laws_FnColourLine.j0
      repeat' first
      | (with_reducible exact ih0 _ _ _ _ _ _)
      | (with_reducible exact ih1 _ _ _ _ _ _)
      | (with_reducible exact ih2 _ _ _ _ _ _ _)
      | (with_reducible exact ih3 _ _ _ _ _ _ _)
      | (with_reducible exact ih4 _ _ _ _ _ _)
      | (with_reducible exact impl_ColourLine.mono _ _ _)
      | (with_reducible exact laws_alive.mono _)
      | (with_reducible exact spec_ColourLine.mono _ _ _)
      | (with_reducible exact spec_DrawColourLine.mono _ _)
      | (with_reducible exact LeO.refl _)
      | (with_reducible exact LeO.none _)
      | (with_reducible refine LeO.ite ?_ ?_)
      | (with_reducible refine LeO.bind ?_ (fun _ => ?_))
      | exact ih0 _ _ _ _ _ _
      | exact ih1 _ _ _ _ _ _
      | exact ih2 _ _ _ _ _ _ _
      | exact ih3 _ _ _ _ _ _ _
      | exact ih4 _ _ _ _ _ _
      | exact impl_ColourLine.mono _ _ _
      | exact laws_alive.mono _
      | exact spec_ColourLine.mono _ _ _
      | exact spec_DrawColourLine.mono _ _
      | exact LeO.none _
      | refine LeO.ite ?_ ?_
      | refine LeO.bind ?_ (fun _ => ?_)
    · intro y0 y1 y2 y3 y4 y5
      unfold laws_FnColourLine.l0
      repeat' first
      | (with_reducible exact ih0 _ _ _ _ _ _)
      | (with_reducible exact ih1 _ _ _ _ _ _)
      | (with_reducible exact ih2 _ _ _ _ _ _ _)
      | (with_reducible exact ih3 _ _ _ _ _ _ _)
      | (with_reducible exact ih4 _ _ _ _ _ _)
      | (with_reducible exact impl_ColourLine.mono _ _ _)
      | (with_reducible exact laws_alive.mono _)
      | (with_reducible exact spec_ColourLine.mono _ _ _)
      | (with_reducible exact spec_DrawColourLine.mono _ _)
      | (with_reducible exact LeO.refl _)
      | (with_reducible exact LeO.none _)
      | (with_reducible refine LeO.ite ?_ ?_)
      | (with_reducible refine LeO.bind ?_ (fun _ => ?_))
      | exact ih0 _ _ _ _ _ _
      | exact ih1 _ _ _ _ _ _
      | exact ih2 _ _ _ _ _ _ _
      | exact ih3 _ _ _ _ _ _ _
      | exact ih4 _ _ _ _ _ _
      | exact impl_ColourLine.mono _ _ _
      | exact laws_alive.mono _
      | exact spec_ColourLine.mono _ _ _
      | exact spec_DrawColourLine.mono _ _
      | exact LeO.none _
      | refine LeO.ite ?_ ?_
      | refine LeO.bind ?_ (fun _ => ?_)
    · intro y0 y1 y2 y3 y4 y5 y6
      unfold laws_FnColourLine.j2
      repeat' first
      | (with_reducible exact ih0 _ _ _ _ _ _)
      | (with_reducible exact ih1 _ _ _ _ _ _)
      | (with_reducible exact ih2 _ _ _ _ _ _ _)
      | (with_reducible exact ih3 _ _ _ _ _ _ _)
      | (with_reducible exact ih4 _ _ _ _ _ _)
      | (with_reducible exact impl_ColourLine.mono _ _ _)
      | (with_reducible exact laws_alive.mono _)
      | (with_reducible exact spec_ColourLine.mono _ _ _)
      | (with_reducible exact spec_DrawColourLine.mono _ _)
      | (with_reducible exact LeO.refl _)
      | (with_reducible exact LeO.none _)
      | (with_reducible refine LeO.ite ?_ ?_)
      | (with_reducible refine LeO.bind ?_ (fun _ => ?_))
      | exact ih0 _ _ _ _ _ _
      | exact ih1 _ _ _ _ _ _
      | exact ih2 _ _ _ _ _ _ _
      | exact ih3 _ _ _ _ _ _ _
      | exact ih4 _ _ _ _ _ _
      | exact impl_ColourLine.mono _ _ _
      | exact laws_alive.mono _
      | exact spec_ColourLine.mono _ _ _
      | exact spec_DrawColourLine.mono _ _
      | exact LeO.none _
      | refine LeO.ite ?_ ?_
      | refine LeO.bind ?_ (fun _ => ?_)
    · intro y0 y1 y2 y3 y4 y5 y6
      unfold laws_FnColourLine.j3
      repeat' first
      | (with_reducible exact ih0 _ _ _ _ _ _)
      | (with_reducible exact ih1 _ _ _ _ _ _)
      | (with_reducible exact ih2 _ _ _ _ _ _ _)
      | (with_reducible exact ih3 _ _ _ _ _ _ _)
      | (with_reducible exact ih4 _ _ _ _ _ _)
      | (with_reducible exact impl_ColourLine.mono _ _ _)
      | (with_reducible exact laws_alive.mono _)
      | (with_reducible exact spec_ColourLine.mono _ _ _)
      | (with_reducible exact spec_DrawColourLine.mono _ _)
      | (with_reducible exact LeO.refl _)
      | (with_reducible exact LeO.none _)
      | (with_reducible refine LeO.ite ?_ ?_)
      | (with_reducible refine LeO.bind ?_ (fun _ => ?_))
      | exact ih0 _ _ _ _ _ _
      | exact ih1 _ _ _ _ _ _
      | exact ih2 _ _ _ _ _ _ _
      | exact ih3 _ _ _ _ _ _ _
      | exact ih4 _ _ _ _ _ _
      | exact impl_ColourLine.mono _ _ _
      | exact laws_alive.mono _
      | exact spec_ColourLine.mono _ _ _
      | exact spec_DrawColourLine.mono _ _
      | exact LeO.none _
      | refine LeO.ite ?_ ?_
      | refine LeO.bind ?_ (fun _ => ?_)
    · intro y0 y1 y2 y3 y4 y5
      unfold laws_FnColourLine.j4
      repeat' first
      | (with_reducible exact ih0 _ _ _ _ _ _)
      | (with_reducible exact ih1 _ _ _ _ _ _)
      | (with_reducible exact ih2 _ _ _ _ _ _ _)
      | (with_reducible exact ih3 _ _ _ _ _ _ _)
      | (with_reducible exact ih4 _ _ _ _ _ _)
      | (with_reducible exact impl_ColourLine.mono _ _ _)
      | (with_reducible exact laws_alive.mono _)
      | (with_reducible exact spec_ColourLine.mono _ _ _)
      | (with_reducible exact spec_DrawColourLine.mono _ _)
      | (with_reducible exact LeO.refl _)
      | (with_reducible exact LeO.none _)
      | (with_reducible refine LeO.ite ?_ ?_)
      | (with_reducible refine LeO.bind ?_ (fun _ => ?_))
      | exact ih0 _ _ _ _ _ _
      | exact ih1 _ _ _ _ _ _
      | exact ih2 _ _ _ _ _ _ _
      | exact ih3 _ _ _ _ _ _ _
      | exact ih4 _ _ _ _ _ _
      | exact impl_ColourLine.mono _ _ _
      | exact laws_alive.mono _
      | exact spec_ColourLine.mono _ _ _
      | exact spec_DrawColourLine.mono _ _
      | exact LeO.none _
      | refine LeO.ite ?_ ?_
      | refine LeO.bind ?_ (fun _ => ?_)
theorem laws_FnColourLine.mono : ∀ a0 k, LeO (laws_FnColourLine.f k a0) (laws_FnColourLine.f (k + 1) a0) := by
  intro a0 k
  obtain ⟨ih0, ih1, ih2, ih3, ih4⟩ := laws_FnColourLine.mono_l k
  unfold laws_FnColourLine.f
  repeat' first
      | (with_reducible exact ih0 _ _ _ _ _ _)
      | (with_reducible exact ih1 _ _ _ _ _ _)
      | (with_reducible exact ih2 _ _ _ _ _ _ _)
      | (with_reducible exact ih3 _ _ _ _ _ _ _)
      | (with_reducible exact ih4 _ _ _ _ _ _)
      | (with_reducible exact impl_ColourLine.mono _ _ _)
      | (with_reducible exact laws_alive.mono _)
      | (with_reducible exact spec_ColourLine.mono _ _ _)
      | (with_reducible exact spec_DrawColourLine.mono _ _)
      | (with_reducible exact LeO.refl _)
      | (with_reducible exact LeO.none _)
      | (with_reducible refine LeO.ite ?_ ?_)
      | (with_reducible refine LeO.bind ?_ (fun _ => ?_))
      | exact ih0 _ _ _ _ _ _
      | exact ih1 _ _ _ _ _ _
      | exact ih2 _ _ _ _ _ _ _
      | exact ih3 _ _ _ _ _ _ _
      | exact ih4 _ _ _ _ _ _
      | exact impl_ColourLine.mono _ _ _
      | exact laws_alive.mono _
      | exact spec_ColourLine.mono _ _ _
      | exact spec_DrawColourLine.mono _ _
      | exact LeO.none _
      | refine LeO.ite ?_ ?_
      | refine LeO.bind ?_ (fun _ => ?_)
set_option maxHeartbeats 8000000 in
set_option maxRecDepth 100000 in
theorem laws_FnColourLine.calls (k : Nat) (A0 : Option Addr) (c0 : Nat) (l0 : List Int) (r : Bool) (w : World) (hr0 : Kd.C (Kd.int .u8) w A0 l0.length l0) (hc0 : l0.length ≤ c0) (h : laws_FnColourLine.f k l0 = some r) :
    Calls Try.prog 4 #[.slice A0 l0.length c0] w fun e w' => e = .returned (.bool r) ∧ Below w.heap.size w w' := by
  have HR0 := Aside0.mk hr0
  have HC0 := Aside0.mk hc0
  clear hr0 hc0
  have HB := Aside0.mk (Below.refl w.heap.size w)
  have H : (if (l0.length : Int) > 1048576 then (some true) else ((spec_DrawColourLine.f k l0).bind fun bt197 => ((impl_ColourLine.f k bt197.1 bt197.2).bind fun bt199 => ((spec_ColourLine.f k bt197.1 bt197.2).bind fun bt202 => (if bt199.1 = bt202.1 then (if bt199.2.1.toList = bt202.2.1.toList then (laws_FnColourLine.j0 k bt197.1 bt197.2 bt199.1 bt199.2.1 bt199.2.2 (bt199.2.2 != bt202.2.2)) else (laws_FnColourLine.j0 k bt197.1 bt197.2 bt199.1 bt199.2.1 bt199.2.2 true)) else (laws_FnColourLine.j0 k bt197.1 bt197.2 bt199.1 bt199.2.1 bt199.2.2 true)))))) = some r := h
  clear h
  by_cases c2 : (l0.length : Int) > 1048576
  · rw [if_pos c2] at H
    have c2b0 : decide (1048576 < (l0.length : Int)) = true := decide_eq_true c2
    have c2b1 : decide (1048576 < l0.length) = true := decide_eq_true (by omega)
    clear c2
    obtain rfl := Option.some.inj H
    go_enter Try.func4, Try.ntmps4
    go_wp2
    go_ret
    exact ⟨by first | rfl | (simp [errW_none, errW_some] <;> rfl) | (simp [*, errW_none, errW_some] <;> rfl), by repeat (first | (with_reducible first | exact HB.out | apply below_alloc | apply pw_below_drewN | apply below_drew1) | exact HB.out)⟩
  · rw [if_neg c2] at H
    have c2b0 : decide (1048576 < (l0.length : Int)) = false := decide_eq_false c2
    have c2b1 : decide (1048576 < l0.length) = false := decide_eq_false (by omega)
    clear c2
    replace H := Option.bind_eq_some_iff.mp H
    obtain ⟨⟨t197, t198⟩, A30, H⟩ := H
    replace H : ((impl_ColourLine.f k t197 t198).bind fun bt199 => ((spec_ColourLine.f k t197 t198).bind fun bt202 => (if bt199.1 = bt202.1 then (if bt199.2.1.toList = bt202.2.1.toList then (laws_FnColourLine.j0 k t197 t198 bt199.1 bt199.2.1 bt199.2.2 (bt199.2.2 != bt202.2.2)) else (laws_FnColourLine.j0 k t197 t198 bt199.1 bt199.2.1 bt199.2.2 true)) else (laws_FnColourLine.j0 k t197 t198 bt199.1 bt199.2.1 bt199.2.2 true)))) = some r := H
    have A3 := Aside0.mk A30
    clear A30
    replace H := Option.bind_eq_some_iff.mp H
    obtain ⟨⟨t199, t200, t201⟩, A40, H⟩ := H
    replace H : ((spec_ColourLine.f k t197 t198).bind fun bt202 => (if t199 = bt202.1 then (if t200.toList = bt202.2.1.toList then (laws_FnColourLine.j0 k t197 t198 t199 t200 t201 (t201 != bt202.2.2)) else (laws_FnColourLine.j0 k t197 t198 t199 t200 t201 true)) else (laws_FnColourLine.j0 k t197 t198 t199 t200 t201 true))) = some r := H
    have A4 := Aside0.mk A40
    clear A40
    replace H := Option.bind_eq_some_iff.mp H
    obtain ⟨⟨t202, t203, t204⟩, A50, H⟩ := H
    replace H : (if t199 = t202 then (if t200.toList = t203.toList then (laws_FnColourLine.j0 k t197 t198 t199 t200 t201 (t201 != t204)) else (laws_FnColourLine.j0 k t197 t198 t199 t200 t201 true)) else (laws_FnColourLine.j0 k t197 t198 t199 t200 t201 true)) = some r := H
    have A5 := Aside0.mk A50
    clear A50
    have HC6 := Aside0.mk H
    clear H
    go_enter Try.func4, Try.ntmps4
    go_upto_region 6 with (first | ((with_reducible refine gate_callee (f := 7) rfl ?_); refine goesL_ (some 24) rfl rfl Try.func7 (by kernel_rfl) rfl #[.slice A0 l0.length c0] rfl (by (try simp only [List.map_toArray, List.map_cons, List.map_nil]); first | done | rfl | (simp only [List.length_drop, List.length_take]; rfl)) ?_; (with_reducible refine (spec_DrawColourLine.calls k _ _ l0 t197 t198 _ ?side1 ?side2 A3.out).mono ?_); (case side1 => repeat (first | exact HR0.out | (with_reducible refine Kd.C_alloc ?_ _) | (with_reducible refine Kd.C_drewN ?_ _) | (with_reducible refine Kd.C_drew ?_))); (case side2 => exact HC0.out); rintro e w7 ⟨rfl, hb⟩; refine ⟨_, rfl, ?_⟩; have n0_ := Aside0.mk (below_step (by repeat (first | (with_reducible first | exact HB.out | apply below_alloc | apply pw_below_drewN | apply below_drew1) | exact HB.out)) hb); clear HB; have HB := n0_; clear n0_; (try clear hb); (try clear hb2); (try clear hk); (try clear hi)) | ((with_reducible refine gate_callee (f := 6) rfl ?_); refine goesL_ (some 30) rfl rfl Try.func6 (by kernel_rfl) rfl #[.int .i64 t197, .string t198] rfl (by (try simp only [List.map_toArray, List.map_cons, List.map_nil]); first | done | rfl | (simp only [List.length_drop, List.length_take]; rfl)) ?_; (with_reducible refine (impl_ColourLine.calls k t197 t198 t199 t200 t201 _ A4.out).mono ?_); rintro e w8 ⟨rfl, hb⟩; refine ⟨_, rfl, ?_⟩; have n0_ := Aside0.mk (below_step (by repeat (first | (with_reducible first | exact HB.out | apply below_alloc | apply pw_below_drewN | apply below_drew1) | exact HB.out)) hb); clear HB; have HB := n0_; clear n0_; (try clear hb); (try clear hb2); (try clear hk); (try clear hi)) | ((with_reducible refine gate_callee (f := 5) rfl ?_); refine goesL_ (some 37) rfl rfl Try.func5 (by kernel_rfl) rfl #[.int .i64 t197, .string t198] rfl (by (try simp only [List.map_toArray, List.map_cons, List.map_nil]); first | done | rfl | (simp only [List.length_drop, List.length_take]; rfl)) ?_; (with_reducible refine (spec_ColourLine.calls k t197 t198 t202 t203 t204 _ A5.out).mono ?_); rintro e w' ⟨rfl, ⟨nd, rfl⟩⟩; refine ⟨_, rfl, ?_⟩))
    (try simp only [Act.put, List.setIfInBounds_toArray, List.set_cons_zero, List.set_cons_succ])
    go_cut [53] (fun v53 wc => ∃ (kq : Nat) (x53_5 : Bool), v53 = .bool x53_5 ∧ Aside0 (laws_FnColourLine.j0 kq t197 t198 t199 t200 t201 x53_5 = some r) ∧ Aside0 (kq ≤ k) ∧ Aside0 (Below w.heap.size w wc))
    case first =>
      have H := HC6.out
      clear HC6
      by_cases c9 : t199 = t202
      · rw [if_pos c9] at H
        have c9b0 : (t199 == t202) = true := beq_iff_eq.mpr c9
        have c9b1 : (t199 != t202) = false := bne_eq_false_iff_eq.mpr c9
        clear c9
        (first | rw [c9b0] | (simp only [i64_w, i32_w]; rw [c9b0]) | skip)
        by_cases c10 : t200.toList = t203.toList
        · rw [if_pos c10] at H
          have c10b0 : (t200.toList == t203.toList) = true := beq_iff_eq.mpr c10
          have c10b1 : (t200.toList != t203.toList) = false := bne_eq_false_iff_eq.mpr c10
          clear c10
          have H' := Aside0.mk H
          clear H
          go_wp2
          go_meet
          case rel => exact ⟨_, ((t201 != t204)), (by first | rfl | (simp; done) | (simp [*]; done)), H', ⟨by first | omega | exact Nat.le_refl _⟩, ⟨by repeat (first | (with_reducible first | exact HB.out | apply below_alloc | apply pw_below_drewN | apply below_drew1) | exact HB.out)⟩⟩
        · rw [if_neg c10] at H
          have c10b0 : (t200.toList == t203.toList) = false := beq_eq_false_iff_ne.mpr c10
          have c10b1 : (t200.toList != t203.toList) = true := bne_iff_ne.mpr c10
          have H' := Aside0.mk H
          clear H
          go_wp2
          go_meet
          case rel => exact ⟨_, (true), (by first | rfl | (simp; done) | (simp [*]; done)), H', ⟨by first | omega | exact Nat.le_refl _⟩, ⟨by repeat (first | (with_reducible first | exact HB.out | apply below_alloc | apply pw_below_drewN | apply below_drew1) | exact HB.out)⟩⟩
      · rw [if_neg c9] at H
        have c9b0 : (t199 == t202) = false := beq_eq_false_iff_ne.mpr c9
        have c9b1 : (t199 != t202) = true := bne_iff_ne.mpr c9
        (first | rw [c9b0] | (simp only [i64_w, i32_w]; rw [c9b0]) | skip)
        have H' := Aside0.mk H
        clear H
        go_wp2
        go_meet
        case rel => exact ⟨_, (true), (by first | rfl | (simp; done) | (simp [*]; done)), H', ⟨by first | omega | exact Nat.le_refl _⟩, ⟨by repeat (first | (with_reducible first | exact HB.out | apply below_alloc | apply pw_below_drewN | apply below_drew1) | exact HB.out)⟩⟩
    case rest =>
      clear HC6
      try clear c1
      try clear c2
      try clear c2b0
      try clear c2b1
      try clear p2
      try clear c4
      try clear c5
      try clear c6
      try clear c7
      try clear c9
      try clear c9b0
      try clear c9b1
      try clear c10
      try clear c10b0
      try clear c10b1
      obtain ⟨kq, x53_5, rfl, HA, HJ5, HB⟩ := hcut
      cases kq with
      | zero => exact absurd HA.out (by simp [laws_FnColourLine.j0])
      | succ kj5 =>
        have H := HA.out
        clear HA
        simp only [laws_FnColourLine.j0] at H
        by_cases c11 : x53_5 = true
        · subst c11
          have H1 : (some false) = some r := by rw [if_pos rfl] at H; exact H
          clear H
          have H := H1
          clear H1
          obtain rfl := Option.some.inj H
          go_wp2
          go_ret
          exact ⟨by first | rfl | (simp [errW_none, errW_some] <;> rfl) | (simp [*, errW_none, errW_some] <;> rfl), by repeat (first | (with_reducible first | exact HB.out | apply below_alloc | apply pw_below_drewN | apply below_drew1) | exact HB.out)⟩
        · replace c11 := Bool.eq_false_iff.mpr c11
          subst c11
          have H1 : (if t201 = true then (if (t200.size : Int) = (t198.size : Int) then (laws_FnColourLine.l0 kj5 t197 t198 t199 t200 0 0) else (some false)) else (if t199 = (-1) then (if t200.toList = ([] : List UInt8) then ((laws_alive.f kj5).bind fun t205 => (some t205)) else (some false)) else (some false))) = some r := by rw [if_neg (show ¬ (false = true) by decide)] at H; exact H
          clear H
          have H := H1
          clear H1
          by_cases c12 : t201 = true
          · subst c12
            have H1 : (if (t200.size : Int) = (t198.size : Int) then (laws_FnColourLine.l0 kj5 t197 t198 t199 t200 0 0) else (some false)) = some r := by rw [if_pos rfl] at H; exact H
            clear H
            have H := H1
            clear H1
            by_cases c13 : (t200.size : Int) = (t198.size : Int)
            · rw [if_pos c13] at H
              have c13b0 : ((t200.size : Int) == (t198.size : Int)) = true := beq_iff_eq.mpr c13
              have c13b1 : ((t200.size : Int) != (t198.size : Int)) = false := bne_eq_false_iff_eq.mpr c13
              have c13b2 : (t200.size == t198.size) = true := by first | simpa using c13 | (simp at c13 ⊢; omega)
              clear c13
              have H' := Aside0.mk H
              clear H
              go_wp2
              go_loopg [11, 12] kj5 (fun kq v11 v12 w' => ∃ (x11_2 : Int) (x12_2 : Int), v11 = .int .i64 x11_2 ∧ v12 = .int .i64 x12_2 ∧ Aside0 (laws_FnColourLine.l0 kq t197 t198 t199 t200 x11_2 x12_2 = some r) ∧ Aside0 (kq ≤ kj5) ∧ Aside0 (Below w.heap.size w w'))
              case atStart => exact ⟨(0), (0), (by first | rfl | (simp; done) | (simp [*]; done)), (by first | rfl | (simp; done) | (simp [*]; done)), H', ⟨Nat.le_refl _⟩, ⟨by repeat (first | (with_reducible first | exact HB.out | apply below_alloc | apply pw_below_drewN | apply below_drew1) | exact HB.out)⟩⟩
              case round =>
                clear H'
                try clear c1
                try clear c2
                try clear c2b0
                try clear c2b1
                try clear p2
                try clear c4
                try clear c5
                try clear c6
                try clear c7
                try clear c9
                try clear c9b0
                try clear c9b1
                try clear c10
                try clear c10b0
                try clear c10b1
                try clear c11
                try clear c12
                try clear c13
                try clear c13b0
                try clear c13b1
                try clear c13b2
                try clear p2
                obtain ⟨x11_2, x12_2, rfl, rfl, HA, HK2, HB⟩ := hrel
                cases gk with
                | zero => exact absurd HA.out (by simp [laws_FnColourLine.l0])
                | succ k2 =>
                  have H := HA.out
                  clear HA
                  simp only [laws_FnColourLine.l0] at H
                  by_cases c14 : x12_2 < (t200.size : Int)
                  · rw [if_pos c14] at H
                    have c14b0 : decide (x12_2 < (t200.size : Int)) = true := decide_eq_true c14
                    clear c14
                    have HC15 := Aside0.mk H
                    clear H
                    go_upto_region 16 with (fail)
                    go_cut [85] (fun v85 wc => ∃ (kq : Nat) (x85_14 : Bool), v85 = .bool x85_14 ∧ Aside0 (laws_FnColourLine.j2 kq t197 t198 t199 t200 x11_2 x12_2 x85_14 = some r) ∧ Aside0 (kq ≤ k2) ∧ Aside0 (Below w.heap.size w wc))
                    case first =>
                      have H := HC15.out
                      clear HC15
                      by_cases c16 : 0 ≤ x12_2
                      · rw [if_pos c16] at H
                        have c16b0 : decide (0 ≤ x12_2) = true := decide_eq_true c16
                        clear c16
                        (first | rw [c16b0] | (simp only [i64_w, i32_w]; rw [c16b0]) | skip)
                        by_cases c18 : (bt t200 x12_2) < 48
                        · rw [if_pos c18] at H
                          have c18b0 : decide ((bt t200 x12_2) < 48) = true := decide_eq_true c18
                          clear c18
                          have H' := Aside0.mk H
                          clear H
                          have p17 : 0 ≤ (x12_2 : Int) := of_decide_eq_true (by first | (with_reducible assumption) | assumption)
                          have q17 : x12_2 < (t200.size : Int) := of_decide_eq_true (by first | (with_reducible assumption) | assumption)
                          have hx17 := bt_at t200 x12_2
                          replace p17 := eq_true p17
                          replace q17 := eq_true q17
                          go_wp2
                          go_meet
                          case rel => exact ⟨_, (true), (by first | rfl | (simp; done) | (simp [*]; done)), H', ⟨by have := HJ5.out; have := HK2.out; first | omega | exact Nat.le_refl _⟩, ⟨by repeat (first | (with_reducible first | exact HB.out | apply below_alloc | apply pw_below_drewN | apply below_drew1) | exact HB.out)⟩⟩
                        · rw [if_neg c18] at H
                          have c18b0 : decide ((bt t200 x12_2) < 48) = false := decide_eq_false c18
                          clear c18
                          have H' := Aside0.mk H
                          clear H
                          have p17 : 0 ≤ (x12_2 : Int) := of_decide_eq_true (by first | (with_reducible assumption) | assumption)
                          have q17 : x12_2 < (t200.size : Int) := of_decide_eq_true (by first | (with_reducible assumption) | assumption)
                          have hx17 := bt_at t200 x12_2
                          replace p17 := eq_true p17
                          replace q17 := eq_true q17
                          have p19 : 0 ≤ (x12_2 : Int) := of_decide_eq_true (by first | (with_reducible assumption) | assumption)
                          have q19 : x12_2 < (t200.size : Int) := of_decide_eq_true (by first | (with_reducible assumption) | assumption)
                          have hx19 := bt_at t200 x12_2
                          replace p19 := eq_true p19
                          replace q19 := eq_true q19
                          go_wp2
                          go_meet
                          case rel => exact ⟨_, (decide ((bt t200 x12_2) > 52)), (by first | rfl | (simp; done) | (simp [*]; done)), H', ⟨by have := HJ5.out; have := HK2.out; first | omega | exact Nat.le_refl _⟩, ⟨by repeat (first | (with_reducible first | exact HB.out | apply below_alloc | apply pw_below_drewN | apply below_drew1) | exact HB.out)⟩⟩
                      · rw [if_neg c16] at H
                        exact absurd H (by simp)
                    case rest =>
                      clear HC15
                      try clear c1
                      try clear p1
                      try clear q1
                      try clear hx1
                      try clear c2
                      try clear c2b0
                      try clear c2b1
                      try clear p2
                      try clear c4
                      try clear c5
                      try clear c6
                      try clear c7
                      try clear c9
                      try clear c9b0
                      try clear c9b1
                      try clear c10
                      try clear c10b0
                      try clear c10b1
                      try clear c11
                      try clear c12
                      try clear c13
                      try clear c13b0
                      try clear c13b1
                      try clear c13b2
                      try clear c14
                      try clear c14b0
                      try clear c16
                      try clear c16b0
                      try clear p17
                      try clear q17
                      try clear hx17
                      try clear c18
                      try clear c18b0
                      try clear p19
                      try clear q19
                      try clear hx19
                      try clear p17
                      try clear p19
                      try clear p2
                      try clear q17
                      try clear q19
                      obtain ⟨kq, x85_14, rfl, HA, HJ14, HB⟩ := hcut
                      cases kq with
                      | zero => exact absurd HA.out (by simp [laws_FnColourLine.j2])
                      | succ kj14 =>
                        have H := HA.out
                        clear HA
                        simp only [laws_FnColourLine.j2] at H
                        by_cases c20 : x85_14 = true
                        · subst c20
                          have H1 : (some false) = some r := by rw [if_pos rfl] at H; exact H
                          clear H
                          have H := H1
                          clear H1
                          obtain rfl := Option.some.inj H
                          go_wp2
                          go_ret
                          exact ⟨by first | rfl | (simp [errW_none, errW_some] <;> rfl) | (simp [*, errW_none, errW_some] <;> rfl), by repeat (first | (with_reducible first | exact HB.out | apply below_alloc | apply pw_below_drewN | apply below_drew1) | exact HB.out)⟩
                        · replace c20 := Bool.eq_false_iff.mpr c20
                          subst c20
                          have H1 : (if 0 ≤ x12_2 then (if x12_2 < (t198.size : Int) then (if (bt t198 x12_2) = 34 then (if x12_2 < (t200.size : Int) then (laws_FnColourLine.j3 kj14 t197 t198 t199 t200 x11_2 x12_2 ((bt t200 x12_2) == 51)) else (none)) else (laws_FnColourLine.j3 kj14 t197 t198 t199 t200 x11_2 x12_2 false)) else (none)) else (none)) = some r := by rw [if_neg (show ¬ (false = true) by decide)] at H; exact H
                          clear H
                          have H := H1
                          clear H1
                          have HC21 := Aside0.mk H
                          clear H
                          go_upto_region 18 with (fail)
                          go_cut [95] (fun v95 wc => ∃ (kq : Nat) (x95_20 : Bool), v95 = .bool x95_20 ∧ Aside0 (laws_FnColourLine.j3 kq t197 t198 t199 t200 x11_2 x12_2 x95_20 = some r) ∧ Aside0 (kq ≤ kj14) ∧ Aside0 (Below w.heap.size w wc))
                          case first =>
                            have H := HC21.out
                            clear HC21
                            by_cases c22 : 0 ≤ x12_2
                            · rw [if_pos c22] at H
                              have c22b0 : decide (0 ≤ x12_2) = true := decide_eq_true c22
                              clear c22
                              (first | rw [c22b0] | (simp only [i64_w, i32_w]; rw [c22b0]) | skip)
                              by_cases c23 : x12_2 < (t198.size : Int)
                              · rw [if_pos c23] at H
                                have c23b0 : decide (x12_2 < (t198.size : Int)) = true := decide_eq_true c23
                                clear c23
                                by_cases c25 : (bt t198 x12_2) = 34
                                · rw [if_pos c25] at H
                                  have c25b0 : ((bt t198 x12_2) == 34) = true := beq_iff_eq.mpr c25
                                  have c25b1 : ((bt t198 x12_2) != 34) = false := bne_eq_false_iff_eq.mpr c25
                                  clear c25
                                  by_cases c26 : x12_2 < (t200.size : Int)
                                  · rw [if_pos c26] at H
                                    have c26b0 : decide (x12_2 < (t200.size : Int)) = true := decide_eq_true c26
                                    clear c26
                                    have H' := Aside0.mk H
                                    clear H
                                    have p24 : 0 ≤ (x12_2 : Int) := of_decide_eq_true (by first | (with_reducible assumption) | assumption)
                                    have q24 : x12_2 < (t198.size : Int) := of_decide_eq_true (by first | (with_reducible assumption) | assumption)
                                    have hx24 := bt_at t198 x12_2
                                    replace p24 := eq_true p24
                                    replace q24 := eq_true q24
                                    have p27 : 0 ≤ (x12_2 : Int) := of_decide_eq_true (by first | (with_reducible assumption) | assumption)
                                    have q27 : x12_2 < (t200.size : Int) := of_decide_eq_true (by first | (with_reducible assumption) | assumption)
                                    have hx27 := bt_at t200 x12_2
                                    replace p27 := eq_true p27
                                    replace q27 := eq_true q27
                                    go_wp2
                                    go_meet
                                    case rel => exact ⟨_, (((bt t200 x12_2) == 51)), (by first | rfl | (simp; done) | (simp [*]; done)), H', ⟨by have := HJ5.out; have := HK2.out; have := HJ14.out; first | omega | exact Nat.le_refl _⟩, ⟨by repeat (first | (with_reducible first | exact HB.out | apply below_alloc | apply pw_below_drewN | apply below_drew1) | exact HB.out)⟩⟩
                                  · rw [if_neg c26] at H
                                    exact absurd H (by simp)
                                · rw [if_neg c25] at H
                                  have c25b0 : ((bt t198 x12_2) == 34) = false := beq_eq_false_iff_ne.mpr c25
                                  have c25b1 : ((bt t198 x12_2) != 34) = true := bne_iff_ne.mpr c25
                                  have H' := Aside0.mk H
                                  clear H
                                  have p24 : 0 ≤ (x12_2 : Int) := of_decide_eq_true (by first | (with_reducible assumption) | assumption)
                                  have q24 : x12_2 < (t198.size : Int) := of_decide_eq_true (by first | (with_reducible assumption) | assumption)
                                  have hx24 := bt_at t198 x12_2
                                  replace p24 := eq_true p24
                                  replace q24 := eq_true q24
                                  go_wp2
                                  go_meet
                                  case rel => exact ⟨_, (false), (by first | rfl | (simp; done) | (simp [*]; done)), H', ⟨by have := HJ5.out; have := HK2.out; have := HJ14.out; first | omega | exact Nat.le_refl _⟩, ⟨by repeat (first | (with_reducible first | exact HB.out | apply below_alloc | apply pw_below_drewN | apply below_drew1) | exact HB.out)⟩⟩
                              · rw [if_neg c23] at H
                                exact absurd H (by simp)
                            · rw [if_neg c22] at H
                              exact absurd H (by simp)
                          case rest =>
                            clear HC21
                            try clear c1
                            try clear p1
                            try clear q1
                            try clear hx1
                            try clear c2
                            try clear c2b0
                            try clear c2b1
                            try clear p2
                            try clear q2
                            try clear hx2
                            try clear c4
                            try clear c5
                            try clear c6
                            try clear c7
                            try clear c9
                            try clear c9b0
                            try clear c9b1
                            try clear c10
                            try clear c10b0
                            try clear c10b1
                            try clear c11
                            try clear c12
                            try clear c13
                            try clear c13b0
                            try clear c13b1
                            try clear c13b2
                            try clear c14
                            try clear c14b0
                            try clear c16
                            try clear c16b0
                            try clear p17
                            try clear q17
                            try clear hx17
                            try clear c18
                            try clear c18b0
                            try clear p19
                            try clear q19
                            try clear hx19
                            try clear c20
                            try clear c22
                            try clear c22b0
                            try clear c23
                            try clear c23b0
                            try clear p24
                            try clear q24
                            try clear hx24
                            try clear c25
                            try clear c25b0
                            try clear c25b1
                            try clear c26
                            try clear c26b0
                            try clear p27
                            try clear q27
                            try clear hx27
                            try clear p1
                            try clear p17
                            try clear p19
                            try clear p2
                            try clear p24
                            try clear p27
                            try clear q1
                            try clear q17
                            try clear q19
                            try clear q24
                            try clear q27
                            obtain ⟨kq, x95_20, rfl, HA, HJ20, HB⟩ := hcut
                            cases kq with
                            | zero => exact absurd HA.out (by simp [laws_FnColourLine.j3])
                            | succ kj20 =>
                              have H := HA.out
                              clear HA
                              simp only [laws_FnColourLine.j3] at H
                              have HC28 := Aside0.mk H
                              clear H
                              go_upto_if 95 with (fail)
                              go_cut [11] (fun v11 wc => ∃ (kq : Nat) (x11_27 : Int), v11 = .int .i64 x11_27 ∧ Aside0 (laws_FnColourLine.j4 kq t197 t198 t199 t200 x11_27 x12_2 = some r) ∧ Aside0 (kq ≤ kj20) ∧ Aside0 (Below w.heap.size w wc))
                              case first =>
                                have H := HC28.out
                                clear HC28
                                by_cases c29 : x95_20 = true
                                · subst c29
                                  have H1 : (laws_FnColourLine.j4 kj20 t197 t198 t199 t200 (wrap64 (x11_2 + 1)) x12_2) = some r := by rw [if_pos rfl] at H; exact H
                                  clear H
                                  have H := H1
                                  clear H1
                                  have H' := Aside0.mk H
                                  clear H
                                  go_wp2
                                  go_meet
                                  case rel => exact ⟨_, (wrap64 (x11_2 + 1)), (by first | rfl | (simp; done) | (simp [*]; done)), H', ⟨by have := HJ5.out; have := HK2.out; have := HJ14.out; have := HJ20.out; first | omega | exact Nat.le_refl _⟩, ⟨by repeat (first | (with_reducible first | exact HB.out | apply below_alloc | apply pw_below_drewN | apply below_drew1) | exact HB.out)⟩⟩
                                · replace c29 := Bool.eq_false_iff.mpr c29
                                  subst c29
                                  have H1 : (laws_FnColourLine.j4 kj20 t197 t198 t199 t200 x11_2 x12_2) = some r := by rw [if_neg (show ¬ (false = true) by decide)] at H; exact H
                                  clear H
                                  have H := H1
                                  clear H1
                                  have H' := Aside0.mk H
                                  clear H
                                  go_wp2
                                  go_meet
                                  case rel => exact ⟨_, (x11_2), (by first | rfl | (simp; done) | (simp [*]; done)), H', ⟨by have := HJ5.out; have := HK2.out; have := HJ14.out; have := HJ20.out; first | omega | exact Nat.le_refl _⟩, ⟨by repeat (first | (with_reducible first | exact HB.out | apply below_alloc | apply pw_below_drewN | apply below_drew1) | exact HB.out)⟩⟩
                              case rest =>
                                clear HC28
                                try clear c1
                                try clear p1
                                try clear q1
                                try clear hx1
                                try clear c2
                                try clear c2b0
                                try clear c2b1
                                try clear p2
                                try clear q2
                                try clear hx2
                                try clear c4
                                try clear c5
                                try clear c6
                                try clear p6
                                try clear c7
                                try clear c9
                                try clear c9b0
                                try clear c9b1
                                try clear c10
                                try clear c10b0
                                try clear c10b1
                                try clear c11
                                try clear c12
                                try clear c13
                                try clear c13b0
                                try clear c13b1
                                try clear c13b2
                                try clear c14
                                try clear c14b0
                                try clear c16
                                try clear c16b0
                                try clear p17
                                try clear q17
                                try clear hx17
                                try clear c18
                                try clear c18b0
                                try clear p19
                                try clear q19
                                try clear hx19
                                try clear c20
                                try clear c22
                                try clear c22b0
                                try clear c23
                                try clear c23b0
                                try clear p24
                                try clear q24
                                try clear hx24
                                try clear c25
                                try clear c25b0
                                try clear c25b1
                                try clear c26
                                try clear c26b0
                                try clear p27
                                try clear q27
                                try clear hx27
                                try clear c29
                                try clear p1
                                try clear p17
                                try clear p19
                                try clear p2
                                try clear p24
                                try clear p27
                                try clear q1
                                try clear q17
                                try clear q19
                                try clear q2
                                try clear q24
                                try clear q27
                                obtain ⟨kq, x11_27, rfl, HA, HJ27, HB⟩ := hcut
                                cases kq with
                                | zero => exact absurd HA.out (by simp [laws_FnColourLine.j4])
                                | succ kj27 =>
                                  have H := HA.out
                                  clear HA
                                  simp only [laws_FnColourLine.j4] at H
                                  by_cases c30 : (Int.tmod x11_27 2) = 0
                                  · rw [if_pos c30] at H
                                    have c30b0 : ((Int.tmod x11_27 2) == 0) = true := beq_iff_eq.mpr c30
                                    have c30b1 : ((Int.tmod x11_27 2) != 0) = false := bne_eq_false_iff_eq.mpr c30
                                    clear c30
                                    obtain ⟨ji31, hji31⟩ : ∃ j_ : Int, (wrap64 (x12_2 + 1)) = j_ := ⟨_, rfl⟩
                                    replace H : (if 0 ≤ (ji31) then (if (ji31) ≤ (t198.size : Int) then ((impl_ColourLine.f kj27 t197 (t198.extract 0 ((ji31) : Int).toNat)).bind fun bt206 => ((impl_ColourLine.f kj27 bt206.1 (t198.extract ((ji31) : Int).toNat t198.size)).bind fun bt209 => (if bt209.1 = t199 then (if bt206.2.1.size + bt209.2.1.size ≤ 9223372036854775807 then (if (bt206.2.1 ++ bt209.2.1).toList = t200.toList then (laws_FnColourLine.l0 kj27 t197 t198 t199 t200 x11_27 ji31) else (some false)) else (none)) else (some false)))) else (none)) else (none)) = some r := by first | (rw [hji31] at H; exact H) | (simp only [hji31] at H ⊢; exact H)
                                    have hji31w : (IntKind.i64.wrap (x12_2 + 1)) = ji31 := (i64_w _).trans hji31
                                    by_cases c32 : 0 ≤ (ji31)
                                    · rw [if_pos c32] at H
                                      have c32b0 := eq_true c32
                                      have c32b1 : decide (0 ≤ (ji31)) = true := decide_eq_true c32
                                      clear c32
                                      by_cases c33 : (ji31) ≤ (t198.size : Int)
                                      · rw [if_pos c33] at H
                                        have c33b0 := eq_true c33
                                        have c33b1 : decide ((ji31) ≤ (t198.size : Int)) = true := decide_eq_true c33
                                        clear c33
                                        replace H := Option.bind_eq_some_iff.mp H
                                        obtain ⟨⟨t206, t207, t208⟩, A340, H⟩ := H
                                        replace H : ((impl_ColourLine.f kj27 t206 (t198.extract ((ji31) : Int).toNat t198.size)).bind fun bt209 => (if bt209.1 = t199 then (if t207.size + bt209.2.1.size ≤ 9223372036854775807 then (if (t207 ++ bt209.2.1).toList = t200.toList then (laws_FnColourLine.l0 kj27 t197 t198 t199 t200 x11_27 ji31) else (some false)) else (none)) else (some false))) = some r := H
                                        have A34 := Aside0.mk A340
                                        clear A340
                                        have c35b0 := eq_true (of_decide_eq_true (by first | (with_reducible assumption) | assumption) : 0 ≤ (ji31))
                                        have c36b0 := eq_true (of_decide_eq_true (by first | (with_reducible assumption) | assumption) : (ji31) ≤ (t198.size : Int))
                                        replace H := Option.bind_eq_some_iff.mp H
                                        obtain ⟨⟨t209, t210, t211⟩, A370, H⟩ := H
                                        replace H : (if t209 = t199 then (if t207.size + t210.size ≤ 9223372036854775807 then (if (t207 ++ t210).toList = t200.toList then (laws_FnColourLine.l0 kj27 t197 t198 t199 t200 x11_27 ji31) else (some false)) else (none)) else (some false)) = some r := H
                                        have A37 := Aside0.mk A370
                                        clear A370
                                        by_cases c38 : t209 = t199
                                        · rw [if_pos c38] at H
                                          have c38b0 : (t209 == t199) = true := beq_iff_eq.mpr c38
                                          have c38b1 : (t209 != t199) = false := bne_eq_false_iff_eq.mpr c38
                                          clear c38
                                          by_cases c39 : t207.size + t210.size ≤ 9223372036854775807
                                          · rw [if_pos c39] at H
                                            have c39b0 := eq_true c39
                                            have c39b1 : decide (t207.size + t210.size ≤ 9223372036854775807) = true := decide_eq_true c39
                                            try have c39b2 : (9223372036854775807 < t207.size + t210.size) = False := eq_false (Nat.not_lt.2 c39)
                                            by_cases c40 : (t207 ++ t210).toList = t200.toList
                                            · rw [if_pos c40] at H
                                              have c40b0 : ((t207 ++ t210).toList == t200.toList) = true := beq_iff_eq.mpr c40
                                              have c40b1 : ((t207 ++ t210).toList != t200.toList) = false := bne_eq_false_iff_eq.mpr c40
                                              clear c40
                                              have H' := Aside0.mk H
                                              clear H
                                              go_wp2_with (first | ((with_reducible refine gate_callee (f := 6) rfl ?_); refine goesL_ (some 107) rfl rfl Try.func6 (by kernel_rfl) rfl #[.int .i64 t197, .string (t198.extract 0 ((ji31) : Int).toNat)] rfl (by (try simp only [List.map_toArray, List.map_cons, List.map_nil]); first | done | (simp only [hji31]; rfl) | rfl | (simp only [List.length_drop, List.length_take]; rfl)) ?_; (with_reducible refine (impl_ColourLine.calls kj27 t197 (t198.extract 0 ((ji31) : Int).toNat) t206 t207 t208 _ A34.out).mono ?_); rintro e w41 ⟨rfl, hb⟩; refine ⟨_, rfl, ?_⟩; have n0_ := Aside0.mk (below_step (by repeat (first | (with_reducible first | exact HB.out | apply below_alloc | apply pw_below_drewN | apply below_drew1) | exact HB.out)) hb); clear HB; have HB := n0_; clear n0_; (try clear hb); (try clear hb2); (try clear hk); (try clear hi)) | ((with_reducible refine gate_callee (f := 6) rfl ?_); refine goesL_ (some 117) rfl rfl Try.func6 (by kernel_rfl) rfl #[.int .i64 t206, .string (t198.extract ((ji31) : Int).toNat t198.size)] rfl (by (try simp only [List.map_toArray, List.map_cons, List.map_nil]); first | done | (simp only [hji31]; rfl) | rfl | (simp only [List.length_drop, List.length_take]; rfl)) ?_; (with_reducible refine (impl_ColourLine.calls kj27 t206 (t198.extract ((ji31) : Int).toNat t198.size) t209 t210 t211 _ A37.out).mono ?_); rintro e w42 ⟨rfl, hb⟩; refine ⟨_, rfl, ?_⟩; have n0_ := Aside0.mk (below_step (by repeat (first | (with_reducible first | exact HB.out | apply below_alloc | apply pw_below_drewN | apply below_drew1) | exact HB.out)) hb); clear HB; have HB := n0_; clear n0_; (try clear hb); (try clear hb2); (try clear hk); (try clear hi)))
                                              go_roundg kj27
                                              case measure => have := HJ5.out; have := HK2.out; have := HJ14.out; have := HJ20.out; have := HJ27.out; omega
                                              case rel => exact ⟨(x11_27), (ji31), (by first | rfl | (simp; done) | (simp [*]; done)), (by first | rfl | (simp; done) | (simp only [← hji31] <;> (first | rfl | simp)) | (simp [*]; done)), H', ⟨by have := HJ5.out; have := HK2.out; have := HJ14.out; have := HJ20.out; have := HJ27.out; omega⟩, ⟨by repeat (first | (with_reducible first | exact HB.out | apply below_alloc | apply pw_below_drewN | apply below_drew1) | exact HB.out)⟩⟩
                                            · rw [if_neg c40] at H
                                              have c40b0 : ((t207 ++ t210).toList == t200.toList) = false := beq_eq_false_iff_ne.mpr c40
                                              have c40b1 : ((t207 ++ t210).toList != t200.toList) = true := bne_iff_ne.mpr c40
                                              obtain rfl := Option.some.inj H
                                              go_wp2_with (first | ((with_reducible refine gate_callee (f := 6) rfl ?_); refine goesL_ (some 107) rfl rfl Try.func6 (by kernel_rfl) rfl #[.int .i64 t197, .string (t198.extract 0 ((ji31) : Int).toNat)] rfl (by (try simp only [List.map_toArray, List.map_cons, List.map_nil]); first | done | (simp only [hji31]; rfl) | rfl | (simp only [List.length_drop, List.length_take]; rfl)) ?_; (with_reducible refine (impl_ColourLine.calls kj27 t197 (t198.extract 0 ((ji31) : Int).toNat) t206 t207 t208 _ A34.out).mono ?_); rintro e w43 ⟨rfl, hb⟩; refine ⟨_, rfl, ?_⟩; have n0_ := Aside0.mk (below_step (by repeat (first | (with_reducible first | exact HB.out | apply below_alloc | apply pw_below_drewN | apply below_drew1) | exact HB.out)) hb); clear HB; have HB := n0_; clear n0_; (try clear hb); (try clear hb2); (try clear hk); (try clear hi)) | ((with_reducible refine gate_callee (f := 6) rfl ?_); refine goesL_ (some 117) rfl rfl Try.func6 (by kernel_rfl) rfl #[.int .i64 t206, .string (t198.extract ((ji31) : Int).toNat t198.size)] rfl (by (try simp only [List.map_toArray, List.map_cons, List.map_nil]); first | done | (simp only [hji31]; rfl) | rfl | (simp only [List.length_drop, List.length_take]; rfl)) ?_; (with_reducible refine (impl_ColourLine.calls kj27 t206 (t198.extract ((ji31) : Int).toNat t198.size) t209 t210 t211 _ A37.out).mono ?_); rintro e w44 ⟨rfl, hb⟩; refine ⟨_, rfl, ?_⟩; have n0_ := Aside0.mk (below_step (by repeat (first | (with_reducible first | exact HB.out | apply below_alloc | apply pw_below_drewN | apply below_drew1) | exact HB.out)) hb); clear HB; have HB := n0_; clear n0_; (try clear hb); (try clear hb2); (try clear hk); (try clear hi)))
                                              go_ret
                                              exact ⟨by first | rfl | (simp [errW_none, errW_some] <;> rfl) | (simp only [← hji31]; first | rfl | (simp [errW_none, errW_some] <;> rfl)) | (simp [*, errW_none, errW_some] <;> rfl), by repeat (first | (with_reducible first | exact HB.out | apply below_alloc | apply pw_below_drewN | apply below_drew1) | exact HB.out)⟩
                                          · rw [if_neg c39] at H
                                            exact absurd H (by simp)
                                        · rw [if_neg c38] at H
                                          have c38b0 : (t209 == t199) = false := beq_eq_false_iff_ne.mpr c38
                                          have c38b1 : (t209 != t199) = true := bne_iff_ne.mpr c38
                                          obtain rfl := Option.some.inj H
                                          go_wp2_with (first | ((with_reducible refine gate_callee (f := 6) rfl ?_); refine goesL_ (some 107) rfl rfl Try.func6 (by kernel_rfl) rfl #[.int .i64 t197, .string (t198.extract 0 ((ji31) : Int).toNat)] rfl (by (try simp only [List.map_toArray, List.map_cons, List.map_nil]); first | done | (simp only [hji31]; rfl) | rfl | (simp only [List.length_drop, List.length_take]; rfl)) ?_; (with_reducible refine (impl_ColourLine.calls kj27 t197 (t198.extract 0 ((ji31) : Int).toNat) t206 t207 t208 _ A34.out).mono ?_); rintro e w45 ⟨rfl, hb⟩; refine ⟨_, rfl, ?_⟩; have n0_ := Aside0.mk (below_step (by repeat (first | (with_reducible first | exact HB.out | apply below_alloc | apply pw_below_drewN | apply below_drew1) | exact HB.out)) hb); clear HB; have HB := n0_; clear n0_; (try clear hb); (try clear hb2); (try clear hk); (try clear hi)) | ((with_reducible refine gate_callee (f := 6) rfl ?_); refine goesL_ (some 117) rfl rfl Try.func6 (by kernel_rfl) rfl #[.int .i64 t206, .string (t198.extract ((ji31) : Int).toNat t198.size)] rfl (by (try simp only [List.map_toArray, List.map_cons, List.map_nil]); first | done | (simp only [hji31]; rfl) | rfl | (simp only [List.length_drop, List.length_take]; rfl)) ?_; (with_reducible refine (impl_ColourLine.calls kj27 t206 (t198.extract ((ji31) : Int).toNat t198.size) t209 t210 t211 _ A37.out).mono ?_); rintro e w46 ⟨rfl, hb⟩; refine ⟨_, rfl, ?_⟩; have n0_ := Aside0.mk (below_step (by repeat (first | (with_reducible first | exact HB.out | apply below_alloc | apply pw_below_drewN | apply below_drew1) | exact HB.out)) hb); clear HB; have HB := n0_; clear n0_; (try clear hb); (try clear hb2); (try clear hk); (try clear hi)))
                                          go_ret
                                          exact ⟨by first | rfl | (simp [errW_none, errW_some] <;> rfl) | (simp only [← hji31]; first | rfl | (simp [errW_none, errW_some] <;> rfl)) | (simp [*, errW_none, errW_some] <;> rfl), by repeat (first | (with_reducible first | exact HB.out | apply below_alloc | apply pw_below_drewN | apply below_drew1) | exact HB.out)⟩
                                      · rw [if_neg c33] at H
                                        exact absurd H (by simp)
                                    · rw [if_neg c32] at H
                                      exact absurd H (by simp)
                                  · rw [if_neg c30] at H
                                    have c30b0 : ((Int.tmod x11_27 2) == 0) = false := beq_eq_false_iff_ne.mpr c30
                                    have c30b1 : ((Int.tmod x11_27 2) != 0) = true := bne_iff_ne.mpr c30
                                    have H' := Aside0.mk H
                                    clear H
                                    go_wp2
                                    go_roundg kj27
                                    case measure => have := HJ5.out; have := HK2.out; have := HJ14.out; have := HJ20.out; have := HJ27.out; omega
                                    case rel => exact ⟨(x11_27), (wrap64 (x12_2 + 1)), (by first | rfl | (simp; done) | (simp [*]; done)), (by first | rfl | (simp; done) | (simp [*]; done)), H', ⟨by have := HJ5.out; have := HK2.out; have := HJ14.out; have := HJ20.out; have := HJ27.out; omega⟩, ⟨by repeat (first | (with_reducible first | exact HB.out | apply below_alloc | apply pw_below_drewN | apply below_drew1) | exact HB.out)⟩⟩
                  · rw [if_neg c14] at H
                    have c14b0 : decide (x12_2 < (t200.size : Int)) = false := decide_eq_false c14
                    clear c14
                    by_cases c47 : t199 ≥ 0
                    · rw [if_pos c47] at H
                      have c47b0 : decide (0 ≤ t199) = true := decide_eq_true c47
                      clear c47
                      obtain rfl := Option.some.inj H
                      go_wp2
                      go_ret
                      exact ⟨by first | rfl | (simp [errW_none, errW_some] <;> rfl) | (simp [*, errW_none, errW_some] <;> rfl), by repeat (first | (with_reducible first | exact HB.out | apply below_alloc | apply pw_below_drewN | apply below_drew1) | exact HB.out)⟩
                    · rw [if_neg c47] at H
                      have c47b0 : decide (0 ≤ t199) = false := decide_eq_false c47
                      clear c47
                      obtain rfl := Option.some.inj H
                      go_wp2
                      go_ret
                      exact ⟨by first | rfl | (simp [errW_none, errW_some] <;> rfl) | (simp [*, errW_none, errW_some] <;> rfl), by repeat (first | (with_reducible first | exact HB.out | apply below_alloc | apply pw_below_drewN | apply below_drew1) | exact HB.out)⟩
            · rw [if_neg c13] at H
              have c13b0 : ((t200.size : Int) == (t198.size : Int)) = false := beq_eq_false_iff_ne.mpr c13
              have c13b1 : ((t200.size : Int) != (t198.size : Int)) = true := bne_iff_ne.mpr c13
              have c13b2 : (t200.size == t198.size) = false := by first | simpa using c13 | (simp at c13 ⊢; omega)
              obtain rfl := Option.some.inj H
              go_wp2
              go_ret
              exact ⟨by first | rfl | (simp [errW_none, errW_some] <;> rfl) | (simp [*, errW_none, errW_some] <;> rfl), by repeat (first | (with_reducible first | exact HB.out | apply below_alloc | apply pw_below_drewN | apply below_drew1) | exact HB.out)⟩
          · replace c12 := Bool.eq_false_iff.mpr c12
            subst c12
            have H1 : (if t199 = (-1) then (if t200.toList = ([] : List UInt8) then ((laws_alive.f kj5).bind fun t205 => (some t205)) else (some false)) else (some false)) = some r := by rw [if_neg (show ¬ (false = true) by decide)] at H; exact H
            clear H
            have H := H1
            clear H1
            by_cases c48 : t199 = (-1)
            · rw [if_pos c48] at H
              have c48b0 : (t199 == (-1)) = true := beq_iff_eq.mpr c48
              have c48b1 : (t199 != (-1)) = false := bne_eq_false_iff_eq.mpr c48
              clear c48
              by_cases c49 : t200.toList = ([] : List UInt8)
              · rw [if_pos c49] at H
                have c49b0 : (t200.toList == ([] : List UInt8)) = true := beq_iff_eq.mpr c49
                have c49b1 : (t200.toList != ([] : List UInt8)) = false := bne_eq_false_iff_eq.mpr c49
                clear c49
                replace H := Option.bind_eq_some_iff.mp H
                obtain ⟨t205, A500, H⟩ := H
                replace H : (some t205) = some r := H
                have A50 := Aside0.mk A500
                clear A500
                obtain rfl := Option.some.inj H
                go_wp2_with (first | (go_at_call 8; (with_reducible refine (laws_alive.calls kj5  t205 _ A50.out).mono ?_); rintro e w' ⟨rfl, ⟨nd, rfl⟩⟩))
                go_ret
                exact ⟨by first | rfl | (simp [errW_none, errW_some] <;> rfl) | (simp [*, errW_none, errW_some] <;> rfl), by repeat (first | (with_reducible first | exact HB.out | apply below_alloc | apply pw_below_drewN | apply below_drew1) | exact HB.out)⟩
              · rw [if_neg c49] at H
                have c49b0 : (t200.toList == ([] : List UInt8)) = false := beq_eq_false_iff_ne.mpr c49
                have c49b1 : (t200.toList != ([] : List UInt8)) = true := bne_iff_ne.mpr c49
                obtain rfl := Option.some.inj H
                go_wp2
                go_ret
                exact ⟨by first | rfl | (simp [errW_none, errW_some] <;> rfl) | (simp [*, errW_none, errW_some] <;> rfl), by repeat (first | (with_reducible first | exact HB.out | apply below_alloc | apply pw_below_drewN | apply below_drew1) | exact HB.out)⟩
            · rw [if_neg c48] at H
              have c48b0 : (t199 == (-1)) = false := beq_eq_false_iff_ne.mpr c48
              have c48b1 : (t199 != (-1)) = true := bne_iff_ne.mpr c48
              obtain rfl := Option.some.inj H
              go_wp2
              go_ret
              exact ⟨by first | rfl | (simp [errW_none, errW_some] <;> rfl) | (simp [*, errW_none, errW_some] <;> rfl), by repeat (first | (with_reducible first | exact HB.out | apply below_alloc | apply pw_below_drewN | apply below_drew1) | exact HB.out)⟩

/-- THE ONE PURE STATEMENT of laws_FnColourLine: yours. -/
def laws_FnColourLine.Pure : Prop := ∀ (l0 : List Int), l0.length ≤ maxLen → l0.length * 1 ≤ 140737488351232 → (∀ x ∈ l0, (Lit.int .u8 x).wf = true) → ∃ k, laws_FnColourLine.f k l0 = some true
theorem laws_FnColourLine.walk (P : laws_FnColourLine.Pure) (a0 : Option Addr) (len0 cap0 : Nat) (z0 : List Int) (w : World) (w0 : (a0 = none ∧ len0 = 0 ∧ cap0 = 0 ∧ z0 = []) ∨ ∃ x, a0 = some x ∧ len0 ≤ cap0 ∧ cap0 ≤ maxLen ∧ z0.length = cap0 ∧ (∀ i, i < z0.length → w.cell? (x.add i) = some (.int .u8 (z0.getD i 0))) ∧ ∀ n ∈ z0, (Lit.int .u8 n).wf = true) (y0 : len0 * 1 ≤ 140737488351232) :
    Calls Try.prog 4 #[.slice a0 len0 cap0] w fun e w' => e = .returned (.bool true) ∧ Below w.heap.size w w' := by
  obtain ⟨l0, rfl, hr0, hm0, hw0, hc0⟩ := ReadsInt.ofRowC w0
  obtain ⟨k, h⟩ := P l0 hm0 y0 hw0
  refine (laws_FnColourLine.calls k _ _ l0 true w (Kd.C_of_reads (d := (0 : Int)) (h1 := fun _ => rfl) hr0) hc0 h).mono ?_
  rintro e w' ⟨rfl, hd⟩
  exact ⟨rfl, hd⟩

end Go.Proofs.Ytheglgphknahdaa.X
