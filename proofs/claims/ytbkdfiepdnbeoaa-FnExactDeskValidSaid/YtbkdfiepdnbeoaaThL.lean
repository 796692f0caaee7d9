/- The plain law of lines: line ends counted, where lines begin and end. No program in sight. -/
import Derived.Test.YtbkdfiepdnbeoaaEvS
namespace Go.Proofs.Ytbkdfiepdnbeoaa.ThL
open Go.RowKit Go.Proofs.YtbkdfiepdnbeoaaW.PrintWords Go.Proofs.Ytbkdfiepdnbeoaa.Ev
set_option linter.unusedVariables false
set_option linter.unusedSimpArgs false

/-- How many line ends stand before place p. -/
def nl (s : ByteArray) : Nat → Nat
  | 0 => 0
  | n + 1 => nl s n + if bt s n = 10 then 1 else 0
theorem nl_step (s : ByteArray) (n : Nat) : nl s (n + 1) = nl s n + if bt s n = 10 then 1 else 0 := rfl
theorem nl_mono (s : ByteArray) {a b : Nat} (h : a ≤ b) : nl s a ≤ nl s b := by
  induction b with
  | zero => have : a = 0 := by omega
            subst this; exact Nat.le_refl _
  | succ b ih =>
    by_cases e : a = b + 1
    · subst e; exact Nat.le_refl _
    · have := ih (by omega)
      rw [nl_step]; omega
theorem nl_le (s : ByteArray) : ∀ n, nl s n ≤ n
  | 0 => Nat.le_refl _
  | n + 1 => by have := nl_le s n; rw [nl_step]; split <;> omega
theorem nl_same (s : ByteArray) {a b : Nat} (h : a ≤ b) (hn : ∀ j : Int, a ≤ j → j < b → bt s j ≠ 10) : nl s b = nl s a := by
  induction b with
  | zero => have : a = 0 := by omega
            subst this; rfl
  | succ b ih =>
    by_cases e : a = b + 1
    · subst e; rfl
    · rw [nl_step, ih (by omega) (fun j h0 h1 => hn j h0 (by omega)), if_neg (hn b (by omega) (by omega))]; omega
theorem nl_lt (s : ByteArray) {a b : Nat} {j : Nat} (h : a ≤ j) (h2 : j < b) (hn : bt s j = 10) : nl s a < nl s b := by
  have h1 := nl_mono s h
  have h3 := nl_mono s (show j + 1 ≤ b from h2)
  rw [nl_step, if_pos hn] at h3
  omega

/-- The first line end from place p on, or the end of the text. -/
def fnlA (s : ByteArray) : Nat → Nat → Nat
  | 0, p => p
  | d + 1, p => if bt s p = 10 then p else fnlA s d (p + 1)
def fnl (s : ByteArray) (p : Nat) : Nat := fnlA s (s.size - p) p
theorem fnlA_spec (s : ByteArray) : ∀ d p, p + d = s.size → p ≤ fnlA s d p ∧ fnlA s d p ≤ s.size ∧ (∀ j : Int, p ≤ j → j < fnlA s d p → bt s j ≠ 10) ∧ (fnlA s d p < s.size → bt s (fnlA s d p) = 10)
  | 0, p, h => ⟨Nat.le_refl _, by simp [fnlA]; omega, fun j h0 h1 => by simp [fnlA] at h1; omega, fun h1 => by simp [fnlA] at h1; omega⟩
  | d + 1, p, h => by
    unfold fnlA
    by_cases c : bt s p = 10
    · rw [if_pos c]; exact ⟨Nat.le_refl _, by omega, fun j h0 h1 => by omega, fun _ => c⟩
    · rw [if_neg c]
      obtain ⟨h1, h2, h3, h4⟩ := fnlA_spec s d (p + 1) (by omega)
      refine ⟨by omega, h2, fun j h5 h6 => ?_, h4⟩
      by_cases e : j = p
      · subst e; exact c
      · exact h3 j (by omega) h6
theorem fnl_spec (s : ByteArray) {p : Nat} (h : p ≤ s.size) : p ≤ fnl s p ∧ fnl s p ≤ s.size ∧ (∀ j : Int, p ≤ j → j < fnl s p → bt s j ≠ 10) ∧ (fnl s p < s.size → bt s (fnl s p) = 10) := fnlA_spec s _ p (by omega)
theorem fnl_uniq (s : ByteArray) {p q : Nat} (h : p ≤ s.size) (h1 : p ≤ q) (h2 : q ≤ s.size) (h3 : ∀ j : Int, p ≤ j → j < q → bt s j ≠ 10) (h4 : q < s.size → bt s q = 10) : q = fnl s p := by
  obtain ⟨a, b, c, d⟩ := fnl_spec s h
  by_cases hlt : q < fnl s p
  · exact absurd (h4 (by omega)) (c q (by omega) (by omega))
  · by_cases hgt : fnl s p < q
    · exact absurd (d (by omega)) (h3 (fnl s p) (by omega) (by omega))
    · omega

/-- Where line k begins, where it ends. -/
def st (s : ByteArray) : Nat → Nat
  | 0 => 0
  | k + 1 => fnl s (st s k) + 1
def en (s : ByteArray) (k : Nat) : Nat := fnl s (st s k)
theorem st_succ (s : ByteArray) (k : Nat) : st s (k + 1) = en s k + 1 := rfl
theorem st_spec (s : ByteArray) : ∀ k, k ≤ nl s s.size → st s k ≤ s.size ∧ nl s (st s k) = k ∧ (k = 0 ∨ bt s ((st s k : Int) - 1) = 10)
  | 0 => fun _ => ⟨Nat.zero_le _, rfl, .inl rfl⟩
  | k + 1 => fun h => by
    obtain ⟨h1, h2, _⟩ := st_spec s k (by omega)
    obtain ⟨a, b, c, d⟩ := fnl_spec s h1
    have hs := nl_same s a c
    have hlt : en s k < s.size := by
      show fnl s (st s k) < s.size
      by_cases e : fnl s (st s k) = s.size
      · rw [e] at hs; omega
      · omega
    have hd := d hlt
    rw [st_succ]
    refine ⟨hlt, ?_, .inr ?_⟩
    · rw [nl_step]
      show nl s (fnl s (st s k)) + (if bt s (fnl s (st s k) : Nat) = 10 then 1 else 0) = _
      rw [hs, h2, if_pos hd]
    · rw [show (((en s k + 1 : Nat) : Int) - 1) = (en s k : Nat) from by omega]; exact hd
theorem en_spec (s : ByteArray) {k : Nat} (h : k ≤ nl s s.size) : st s k ≤ en s k ∧ en s k ≤ s.size ∧ (∀ j : Int, st s k ≤ j → j < en s k → bt s j ≠ 10) ∧ (en s k < s.size → bt s (en s k) = 10) ∧ nl s (en s k) = k := by
  obtain ⟨h1, h2, _⟩ := st_spec s k h
  obtain ⟨a, b, c, d⟩ := fnl_spec s h1
  exact ⟨a, b, c, d, by rw [show nl s (en s k) = nl s (fnl s (st s k)) from rfl, nl_same s a c, h2]⟩
/-- Two places at which lines begin, with as many line ends before them, are one. -/
theorem start_uniq (s : ByteArray) {p q : Nat} (hn : nl s p = nl s q) (hp : p = 0 ∨ bt s ((p : Int) - 1) = 10) (hq : q = 0 ∨ bt s ((q : Int) - 1) = 10) : p = q := by
  by_cases h : p < q
  · rcases hq with rfl | hq
    · omega
    · have := nl_lt s (a := p) (b := q) (j := q - 1) (by omega) (by omega) (by rw [show (((q - 1 : Nat)) : Int) = (q : Int) - 1 from by omega]; exact hq)
      omega
  · by_cases h2 : q < p
    · rcases hp with rfl | hp
      · omega
      · have := nl_lt s (a := q) (b := p) (j := p - 1) (by omega) (by omega) (by rw [show (((p - 1 : Nat)) : Int) = (p : Int) - 1 from by omega]; exact hp)
        omega
    · omega
theorem last_en (s : ByteArray) : en s (nl s s.size) = s.size := by
  obtain ⟨a, b, c, d, e⟩ := en_spec s (Nat.le_refl _)
  by_cases h : en s (nl s s.size) = s.size
  · exact h
  · have := nl_lt s (a := en s (nl s s.size)) (b := s.size) (j := en s (nl s s.size)) (Nat.le_refl _) (by omega) (d (by omega))
    omega
/-- Line k. -/
def lineAt (s : ByteArray) (k : Nat) : ByteArray := s.extract (st s k) (en s k)
/-- The first n lines. -/
def lns (s : ByteArray) : Nat → List ByteArray
  | 0 => []
  | n + 1 => lns s n ++ [lineAt s n]
theorem lns_succ (s : ByteArray) (n : Nat) : lns s (n + 1) = lns s n ++ [lineAt s n] := rfl
theorem lns_len (s : ByteArray) : ∀ n, (lns s n).length = n
  | 0 => rfl
  | n + 1 => by rw [lns_succ, List.length_append, lns_len s n]; rfl
/-- All lines. -/
def lines (s : ByteArray) : List ByteArray := lns s (nl s s.size + 1)
theorem lines_len (s : ByteArray) : (lines s).length = nl s s.size + 1 := lns_len s _
theorem lns_get (s : ByteArray) : ∀ (n : Nat) (i : Int), 0 ≤ i → i < n → rdOf ByteArray.empty (lns s n) i = lineAt s i.toNat
  | 0 => fun i h0 h1 => by omega
  | n + 1 => fun i h0 h1 => by
    have hl := lns_len s n
    have ih := lns_get s n i h0
    unfold rdOf at ih ⊢
    rw [lns_succ]
    by_cases e : i = n
    · subst e
      rw [List.getD_eq_getElem?_getD, List.getElem?_append_right (by omega), hl]
      simp
    · rw [List.getD_eq_getElem?_getD, List.getElem?_append_left (by omega), ← List.getD_eq_getElem?_getD]
      exact ih (by omega)
theorem lines_get (s : ByteArray) {i : Int} (h0 : 0 ≤ i) (h1 : i ≤ nl s s.size) : rdOf ByteArray.empty (lines s) i = lineAt s i.toNat := lns_get s _ i h0 (by omega)
theorem lineAt_size (s : ByteArray) {k : Nat} (h : k ≤ nl s s.size) : (lineAt s k).size = en s k - st s k := by
  obtain ⟨a, b, _⟩ := en_spec s h
  unfold lineAt
  rw [ByteArray.size_extract]; omega
theorem lineAt_bt (s : ByteArray) {k : Nat} (h : k ≤ nl s s.size) {i : Int} (h0 : 0 ≤ i) (h1 : i < (lineAt s k).size) : bt (lineAt s k) i = bt s (st s k + i) := by
  obtain ⟨a, b, _⟩ := en_spec s h
  rw [lineAt_size s h] at h1
  have := bt_ext s (a := (st s k : Int)) (b := (en s k : Int)) (i := i) (by omega) h0 (by omega) (by omega)
  rw [Int.toNat_natCast, Int.toNat_natCast] at this
  exact this
theorem lineAt_plain (s : ByteArray) {k : Nat} (h : k ≤ nl s s.size) {i : Int} (h0 : 0 ≤ i) (h1 : i < (lineAt s k).size) : bt (lineAt s k) i ≠ 10 := by
  rw [lineAt_bt s h h0 h1]
  obtain ⟨a, b, c, _⟩ := en_spec s h
  rw [lineAt_size s h] at h1
  exact c _ (by omega) (by omega)
theorem nl_zero_iff (s : ByteArray) : nl s s.size = 0 ↔ ∀ j : Int, 0 ≤ j → j < s.size → bt s j ≠ 10 := by
  constructor
  · intro h j h0 h1 h2
    have := nl_lt s (a := 0) (b := s.size) (j := j.toNat) (by omega) (by omega) (by rw [show ((j.toNat : Nat) : Int) = j from by omega]; exact h2)
    omega
  · intro h
    have := nl_same s (a := 0) (b := s.size) (by omega) (fun j h0 h1 => h j (by omega) h1)
    rw [this]; rfl
end Go.Proofs.Ytbkdfiepdnbeoaa.ThL
