/- The contract of the program's NamesOf, walked by hand: strings.FieldsFunc over a closure, slices.Sort, slices.Compact. -/
import Derived.Test.YtpaijbpenjjmkaaX2
import Derived.Test.YtpaijbpenjjmkaaX6
import Derived.Test.YtpaijbpenjjmkaaLib1
import Derived.Test.YtpaijbpenjjmkaaThC
import Derived.Test.YtpaijbpenjjmkaaEvS
import Derived.Test.YtpaijbpenjjmkaaEvA
import Derived.Test.YtpaijbpenjjmkaaWp
import Derived.Lib.OwnBridge
import Derived.Lib.AppendIntMem
import Derived.WalkKit
import Derived.WalkMore
import Derived.Shelf.Abstract
namespace Go.Proofs.Ytpaijbpenjjmkaa.X
open Go.RowKit Go.Proofs.YtpaijbpenjjmkaaW.PrintWords Go.Proofs.YtpaijbpenjjmkaaW.PrintLast Go.Proofs.YtpaijbpenjjmkaaW.PrintMore Go.Proofs.Ytpaijbpenjjmkaa.ThC Go.Proofs.Ytpaijbpenjjmkaa.Wp Go.Proofs.Ytpaijbpenjjmkaa.Ev
set_option linter.unusedVariables false
set_option linter.unusedSimpArgs false

/-- A text is valid. -/
def tv (s : ByteArray) : Bool := decide (s.size ≤ 120) && s.data.toList.all (fun c => c.toNat == 10 || (decide (32 ≤ c.toNat) && decide (c.toNat ≤ 126)))
theorem tv_iff (s : ByteArray) : tv s = true ↔ s.size ≤ 120 ∧ ∀ j : Int, 0 ≤ j → j < s.size → bt s j = 10 ∨ (32 ≤ bt s j ∧ bt s j ≤ 126) := by
  unfold tv
  simp only [Bool.and_eq_true, decide_eq_true_eq, List.all_eq_true, Bool.or_eq_true, beq_iff_eq]
  constructor
  · rintro ⟨h1, h2⟩
    refine ⟨h1, fun j h0 h3 => ?_⟩
    obtain ⟨p, e⟩ := bt_eq s h0 h3
    have hm : s[j.toNat]'p ∈ s.data.toList := by rw [Array.mem_toList_iff]; exact Array.getElem_mem p
    have := h2 _ hm
    rw [e]
    omega
  · rintro ⟨h1, h2⟩
    refine ⟨h1, fun c hc => ?_⟩
    obtain ⟨i, hi, rfl⟩ := List.getElem_of_mem hc
    have hi2 : i < s.size := by rw [Array.length_toList] at hi; exact hi
    have h3 := h2 i (by omega) (by omega)
    obtain ⟨p, e⟩ := bt_eq s (i := (i : Int)) (by omega) (by omega)
    rw [e] at h3
    have e2 : (s[((i : Int)).toNat]'p) = s.data.toList[i] := rfl
    rw [e2] at h3
    omega
theorem classN (c : Int) : ∃ k, impl_class.f k c = some (cls c) := by
  refine W.rounds (r := cls c) ?_
  unfold impl_class.f
  have yes : c = 32 ∨ c = 10 → W (fun k => impl_class.j0 k c true) (· = cls c) := fun h =>
    W.step (fun k => impl_class.j0.eq_2 ..) (W.pos rfl (W.ret (by unfold cls; rw [if_pos h])))
  refine W.ite (fun h => yes (.inl h)) (fun h => ?_)
  by_cases h10 : c = 10
  · rw [show (c == 10) = true from by simpa using h10]; exact yes (.inr h10)
  · rw [show (c == 10) = false from by simpa using h10]
    refine W.step (fun k => impl_class.j0.eq_2 ..) (W.neg (by decide) ?_)
    by_cases a : (48 ≤ c ∧ c ≤ 57) ∨ (97 ≤ c ∧ c ≤ 122) ∨ (65 ≤ c ∧ c ≤ 90)
    · rw [show cls c = 1 from by unfold cls; rw [if_neg (by omega), if_pos a]]
      repeat' (first | exact W.ret rfl | (exfalso; omega) | refine W.ite (fun _ => ?_) (fun _ => ?_))
    · rw [show cls c = 2 from by unfold cls; rw [if_neg (by omega), if_neg a]]
      repeat' (first | exact W.ret rfl | (exfalso; omega) | refine W.ite (fun _ => ?_) (fun _ => ?_))

/-- No letter and no digit. -/
def notName (x : Nat) : Bool := cls ((x % 256 : Nat) : Int) != 1
/-- The names: words, sorted, each once. -/
def namesL (s : ByteArray) : List (List UInt8) := Lib.compact (((Lib.goFieldsP notName s).map (·.data.toList)).mergeSort fun x y => decide (x ≤ y))
def impl_NamesOf.f (a0 : ByteArray) : Option (List ByteArray) := if a0.size ≤ 4000000000 then (if tv a0 = true then some ((namesL a0).map fun l => ⟨l.toArray⟩) else some []) else none

set_option maxHeartbeats 1000000 in
set_option maxRecDepth 1000000 in
theorem names_pays (w : World) : PredGrows Try.prog 44 #[] notName w := by
  intro W x hx hb
  obtain ⟨k, hk⟩ := classN ((x : Int) % 256)
  have cC : ∀ W1, Calls Try.prog 45 #[.int .u8 ((x : Int) % 256)] W1 _ := fun W1 => impl_class.calls k _ _ W1 hk
  have e1 : notName x = (cls ((x : Int) % 256) != 1) := by
    unfold notName
    rw [show ((x % 256 : Nat) : Int) = (x : Int) % 256 from by omega]
  rw [e1]
  show Calls Try.prog 44 #[.int .i32 (x : Int)] W _
  generalize cls ((x : Int) % 256) = C at cC ⊢
  go_enter Try.func44, Try.ntmps44
  go_wp2_with (go_at_call 45; refine (cC _).mono ?_; rintro e w' ⟨rfl, ⟨nd, rfl⟩⟩)
  go_ret
  exact ⟨rfl, pw_below_drewN (Below.refl _ _) _⟩

theorem spans_len (p : Nat → Bool) (s : ByteArray) : ∀ (f pos : Nat) (st : Option Nat) (acc : List (Nat × Nat)), (Lib.spansFromP p s f pos st acc).1.length ≤ acc.length + f
  | 0, _, _, acc => Nat.le_refl _
  | f + 1, pos, st, acc => by
    have h := fun pos st acc => spans_len p s f pos st acc
    unfold Lib.spansFromP
    split
    · split
      · cases st with
        | none => have := h (pos + (Utf8.decode s pos).2) none acc; dsimp only; omega
        | some a =>
          have := h (pos + (Utf8.decode s pos).2) none (acc ++ [(a, pos)])
          rw [List.length_append] at this
          dsimp only
          have e : ([(a, pos)] : List (Nat × Nat)).length = 1 := rfl
          omega
      · cases st with
        | none => have := h (pos + (Utf8.decode s pos).2) (some pos) acc; dsimp only; omega
        | some a => have := h (pos + (Utf8.decode s pos).2) (some a) acc; dsimp only; omega
    · dsimp only; omega
theorem fields_len (p : Nat → Bool) (s : ByteArray) : (Lib.goFieldsP p s).length ≤ s.size + 1 := by
  unfold Lib.goFieldsP Lib.spansOfP Lib.closeSpans
  have h := spans_len p s s.size 0 none []
  have e0 : ([] : List (Nat × Nat)).length = 0 := rfl
  rw [List.length_map]
  cases hc : (Lib.spansFromP p s s.size 0 none []).2 with
  | none => simp only [hc]; omega
  | some a => simp only [hc, List.length_append]; show _ + 1 ≤ _; omega
/-- A slice of the call's own, sorted. -/
theorem sort_own (w : World) (base A n : Nat) (ss : List (List UInt8)) (hs : ss.length < 4611686018427387904) (hown : w.ownsRow base 9 1 (.slice (some ⟨A, 0, none⟩) n n) n (ss.map encStr)) :
    Calls Try.prog 46 #[.slice (some ⟨A, 0, none⟩) n n] w fun e w' => e = .returned (.tuple #[]) ∧ w'.ownsRow base 9 1 (.slice (some ⟨A, 0, none⟩) n n) n ((ss.mergeSort fun x y => decide (x ≤ y)).map encStr) ∧ Below base w w' := by
  obtain ⟨g, cap, he, hbg, hlt, hnc, _, hl, hH⟩ := Lib.holds_of_ownsRow hown (by simp)
  injection he with he1 _ he3
  injection he1 with he1
  injection he1 with he1
  subst he1; subst he3; subst hl
  refine (Try.slices_Sort_string A 0 _ ss w hH hlt hs).mono ?_
  rintro e w' ⟨rfl, q, os, rfl⟩
  have h1 := Lib.ownsRow_putRow (q := q) (k := ss.length) (ys := ss.mergeSort fun x y => decide (x ≤ y)) hown (by simp) (Nat.le_refl _)
  rw [List.take_of_length_le (by simp)] at h1
  have h2 := Lib.ownsRow_grow h1 0 os
  refine ⟨rfl, h2, ?_⟩
  have b1 : Below base w (Sort.putRow encStr (Sort.ahead w q) A 0 (ss.mergeSort fun x y => decide (x ≤ y)).toArray) := Lib.below_putRow (Below.refl _ _) hbg
  exact b1.trans (Lib.below_grow base _ (by have := b1.size; omega) 0 os)
/-- A slice of the call's own, each element once. -/
theorem compact_own (w : World) (base A n : Nat) (zs : List (List UInt8)) (hs : zs.length ≤ 9223372036854775807) (hown : w.ownsRow base 9 1 (.slice (some ⟨A, 0, none⟩) n n) n (zs.map encStr)) :
    Calls Try.prog 47 #[.slice (some ⟨A, 0, none⟩) n n] w fun e w' => e = .returned (.slice (some ⟨A, 0, none⟩) (Lib.compact zs).length n) ∧ w'.ownsRow base 9 1 (.slice (some ⟨A, 0, none⟩) (Lib.compact zs).length n) (Lib.compact zs).length ((Lib.compact zs).map encStr) ∧ Below base w w' := by
  obtain ⟨g, cap, he, hbg, hlt, hnc, _, hl, hH⟩ := Lib.holds_of_ownsRow hown (by simp)
  injection he with he1 _ he3
  injection he1 with he1
  injection he1 with he1
  subst he1; subst he3; subst hl
  have hle : (Lib.compact zs).length ≤ zs.length := by
    unfold Lib.compact Lib.compactUpTo
    rw [List.length_map]
    have := List.length_filter_le (Lib.keeps zs.toArray) (List.range zs.length)
    rw [List.length_range] at this
    exact this
  refine (Try.slices_Compact_string A 0 _ zs w hH hs (Nat.le_refl _)).mono ?_
  rintro e w' ⟨rfl, q, rfl⟩
  have h1 := Lib.ownsRow_putRow (q := q) (k := (Lib.compact zs).length) (ys := Lib.compact zs ++ List.replicate (zs.length - (Lib.compact zs).length) []) hown (by simp; omega) hle
  rw [List.take_left] at h1
  exact ⟨rfl, h1, Lib.below_putRow (Below.refl _ _) hbg⟩

theorem tv_VT (s : ByteArray) : tv s = true ↔ VT s := by rw [tv_iff]; rfl

set_option maxHeartbeats 4000000 in
set_option maxRecDepth 1000000 in
theorem impl_NamesOf.calls (a0 : ByteArray) (r : List ByteArray) (w : World) (h : impl_NamesOf.f a0 = some r) :
    Calls Try.prog 17 #[.string a0] w fun e w' => ∃ v0_ : Value, e = .returned (v0_) ∧ Kd.R Kd.string 9 w' w.heap.size (fun _ => True) v0_ r ∧ Below w.heap.size w w' := by
  unfold impl_NamesOf.f at h
  split at h
  case isFalse => cases h
  rename_i hs
  obtain ⟨bv, hbv, K, hK⟩ := implTV a0 (by omega)
  have hT := hK K (Nat.le_refl K)
  have ebv : bv = tv a0 := by rw [Bool.eq_iff_iff, hbv, tv_VT]
  rw [ebv] at hT
  have cT : ∀ W1, Calls Try.prog 42 #[.string a0] W1 _ := fun W1 => impl_TextValid.calls K a0 _ W1 hT
  clear hbv hK hT ebv
  split at h
  case isFalse hv =>
    have hv2 : tv a0 = false := by simpa using hv
    rw [hv2] at cT
    obtain rfl := Option.some.inj h
    clear h hv hv2
    go_enter Try.func17, Try.ntmps17
    go_wp2_with (go_at_call 42; refine (cT _).mono ?_; rintro e w' ⟨rfl, ⟨nd, rfl⟩⟩)
    go_ret
    exact ⟨_, rfl, Kd.R_nil _ _ _ _ _, pw_below_drewN (Below.refl _ _) _⟩
  case isTrue hv =>
    rw [hv] at cT
    obtain rfl := Option.some.inj h
    clear h hv
    have cF : ∀ W1, Calls Try.prog 43 #[.string a0, .func (.func 44) #[] #[]] W1 _ := fun W1 => Try.strings_FieldsFunc_grows 44 #[] (enters_of Try.func44 (by kernel_rfl) rfl) notName a0 W1 (by omega) (names_pays W1)
    have cS := fun (W1 : World) (A : Nat) (hl : ((Lib.goFieldsP notName a0).map (·.data.toList)).length < 4611686018427387904) => sort_own W1 w.heap.size A (Lib.goFieldsP notName a0).length ((Lib.goFieldsP notName a0).map (·.data.toList)) hl
    have cC := fun (W1 : World) (A : Nat) (hl : (((Lib.goFieldsP notName a0).map (·.data.toList)).mergeSort fun x y => decide (x ≤ y)).length ≤ 9223372036854775807) => compact_own W1 w.heap.size A (Lib.goFieldsP notName a0).length (((Lib.goFieldsP notName a0).map (·.data.toList)).mergeSort fun x y => decide (x ≤ y)) hl
    have hmx : (Lib.goFieldsP notName a0).length ≤ 4611686018427387903 := by have := fields_len notName a0; omega
    have hN : namesL a0 = Lib.compact (((Lib.goFieldsP notName a0).map (·.data.toList)).mergeSort fun x y => decide (x ≤ y)) := rfl
    rw [hN]
    have hmap := Lib.map_encStr (Lib.goFieldsP notName a0)
    rw [List.length_map] at cS
    simp only [List.length_mergeSort, List.length_map] at cC
    generalize ((Lib.goFieldsP notName a0).map (·.data.toList)).mergeSort (fun x y => decide (x ≤ y)) = TS at cS cC ⊢
    generalize (Lib.goFieldsP notName a0).map (·.data.toList) = SS at cS hmap
    generalize Lib.goFieldsP notName a0 = FS at cF cS cC hmap hmx
    rw [← hmap] at cF
    go_enter Try.func17, Try.ntmps17
    go_wp2_with (first
      | (go_at_call 42; refine (cT _).mono ?_; rintro e w' ⟨rfl, ⟨nd, rfl⟩⟩)
      | (go_at_call 43; refine (cF _).mono ?_; rintro e w1 ⟨A, rfl, hA, hown, hb1⟩)
      | (go_at_call 46; refine (cS _ A (by omega) hown).mono ?_; rintro e w2 ⟨rfl, hown2, hb2⟩)
      | (go_at_call 47; refine (cC _ A (by omega) hown2).mono ?_; rintro e w3 ⟨rfl, hown3, hb3⟩))
    go_ret
    have hfin := Kd.R_of_own (h1 := fun _ => rfl) (enc := Value.string) (ok := fun _ => True) (xs := (Lib.compact TS).map fun l => (⟨l.toArray⟩ : ByteArray)) (v := .slice (some ⟨A, 0, none⟩) (Lib.compact TS).length FS.length) (base := w.heap.size) (e := 9) (w := w3) (by
      rw [List.length_map]
      have : encs Value.string ((Lib.compact TS).map fun l => (⟨l.toArray⟩ : ByteArray)) = (Lib.compact TS).map encStr := by
        unfold encs
        rw [List.map_map]
        rfl
      rw [this]
      exact hown3) (fun _ _ => trivial)
    exact ⟨_, rfl, hfin, (((pw_below_drewN (Below.refl _ _) nd).trans hb1).trans hb2).trans hb3⟩
end Go.Proofs.Ytpaijbpenjjmkaa.X
