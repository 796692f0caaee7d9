/- Lists as tables. No program in sight. -/
import Derived.Test.YtheglgphknahdaaDoorThB
namespace Go.Proofs.YtheglgphknahdaaDoor.ThT
open Go.RowKit Go.Proofs.YtheglgphknahdaaDoorW.PrintWords Go.Proofs.YtheglgphknahdaaDoor.ThB
set_option linter.unusedVariables false
set_option linter.unusedSimpArgs false

def tab {α : Type} (f : Nat → α) : Nat → List α
  | 0 => []
  | n + 1 => tab f n ++ [f n]
theorem tab_succ {α : Type} (f : Nat → α) (n : Nat) : tab f (n + 1) = tab f n ++ [f n] := rfl
theorem tab_len {α : Type} (f : Nat → α) : ∀ n, (tab f n).length = n
  | 0 => rfl
  | n + 1 => by rw [tab_succ, List.length_append, tab_len f n]; rfl
theorem tab_get {α : Type} (f : Nat → α) : ∀ (n i : Nat), i < n → (tab f n)[i]? = some (f i)
  | 0, i, h => by omega
  | n + 1, i, h => by
    have hl := tab_len f n
    rw [tab_succ]
    by_cases e : i = n
    · subst e; rw [List.getElem?_append_right (by omega), hl, Nat.sub_self]; rfl
    · rw [List.getElem?_append_left (by omega)]; exact tab_get f n i (by omega)
theorem rd_tab (f : Nat → Int) (n : Nat) {i : Int} (h0 : 0 ≤ i) (h1 : i < n) : rd (tab f n) i = f i.toNat := by
  unfold rd
  rw [List.getD_eq_getElem?_getD, tab_get f n _ (by omega)]; rfl
theorem rdOf_tab {α : Type} (d : α) (f : Nat → α) (n : Nat) {i : Int} (h0 : 0 ≤ i) (h1 : i < n) : rdOf d (tab f n) i = f i.toNat := by
  unfold rdOf
  rw [List.getD_eq_getElem?_getD, tab_get f n _ (by omega)]; rfl
theorem tab_congr {α : Type} {f g : Nat → α} : ∀ n, (∀ i, i < n → f i = g i) → tab f n = tab g n
  | 0, _ => rfl
  | n + 1, h => by rw [tab_succ, tab_succ, tab_congr n (fun i hi => h i (by omega)), h n (by omega)]
theorem tab_take {α : Type} (f : Nat → α) (n m : Nat) (h : m ≤ n) : (tab f n).take m = tab f m := by
  apply List.ext_getElem?
  intro i
  rw [List.getElem?_take]
  by_cases c : i < m
  · rw [if_pos c, tab_get f n i (by omega), tab_get f m i c]
  · rw [if_neg c, List.getElem?_eq_none (by rw [tab_len]; omega)]
theorem tab_of {α : Type} (d : α) (l : List α) : l = tab (fun i => rdOf d l i) l.length := by
  apply List.ext_getElem?
  intro i
  by_cases c : i < l.length
  · rw [tab_get _ _ i c]
    unfold rdOf
    rw [List.getD_eq_getElem?_getD, Int.toNat_natCast, List.getElem?_eq_getElem c]
    rfl
  · rw [List.getElem?_eq_none (by omega), List.getElem?_eq_none (by rw [tab_len]; omega)]
/-- A table with n entries, of which the first i are laid. -/
theorem tab_set {α : Type} (d : α) (f : Nat → α) (n i : Nat) (h : i < n) : (tab f i ++ List.replicate (n - i) d).set i (f i) = tab f (i + 1) ++ List.replicate (n - (i + 1)) d := by
  have hl := tab_len f i
  have e : n - i = (n - (i + 1)) + 1 := by omega
  rw [List.set_append_right _ _ (by omega), hl, Nat.sub_self, e, List.replicate_succ, List.set_cons_zero, tab_succ, List.append_assoc]
  rfl
theorem rdOf_ext {α : Type} (d : α) {a b : List α} (hl : a.length = b.length) (h : ∀ i : Int, 0 ≤ i → i < a.length → rdOf d a i = rdOf d b i) : a = b := by
  apply List.ext_getElem hl
  intro i h1 h2
  have := h i (by omega) (by omega)
  unfold rdOf at this
  simpa [List.getD_eq_getElem?_getD, h1, h2] using this
theorem rdOf_set_self {α : Type} (d : α) (xs : List α) (v : α) {i : Int} (h0 : 0 ≤ i) (h : i < xs.length) : rdOf d (xs.set i.toNat v) i = v := by
  unfold rdOf
  rw [List.getD_eq_getElem?_getD, List.getElem?_set_self (by omega)]
  rfl
theorem rdOf_set_ne {α : Type} (d : α) (xs : List α) (v : α) {i j : Int} (h0 : 0 ≤ i) (hj : 0 ≤ j) (h : i ≠ j) : rdOf d (xs.set j.toNat v) i = rdOf d xs i := by
  unfold rdOf
  rw [List.getD_eq_getElem?_getD, List.getD_eq_getElem?_getD, List.getElem?_set_ne (by omega)]
theorem rdOf_left {α : Type} (d : α) (xs ys : List α) {i : Int} (h0 : 0 ≤ i) (h : i < xs.length) : rdOf d (xs ++ ys) i = rdOf d xs i := by
  unfold rdOf
  rw [List.getD_eq_getElem?_getD, List.getD_eq_getElem?_getD, List.getElem?_append_left (by omega)]
end Go.Proofs.YtheglgphknahdaaDoor.ThT
