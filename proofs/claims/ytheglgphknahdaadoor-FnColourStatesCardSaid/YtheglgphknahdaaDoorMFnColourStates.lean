/- For every code, the law on ColourStates answers true: one state more than lines; the first one is 0; each is the state after the line before it. Conditions: none. -/
import Derived.Test.YtheglgphknahdaaDoorX15
import Derived.Test.YtheglgphknahdaaDoorX3
import Derived.Test.YtheglgphknahdaaDoorX4
import Derived.Test.YtheglgphknahdaaDoorX9
import Derived.Test.YtheglgphknahdaaDoorWp
import Derived.Test.YtheglgphknahdaaDoorWMore
import Derived.Laws.Strings
import Derived.Test.YtheglgphknahdaaDoorX14
import Derived.Test.YtheglgphknahdaaDoorLibC
import Derived.Lib.IndexLaws
import Derived.Test.YtheglgphknahdaaDoorX12
import Derived.Test.YtheglgphknahdaaDoorX5
import Derived.Test.YtheglgphknahdaaDoorX6
import Derived.Test.YtheglgphknahdaaDoorX8
import Derived.Test.YtheglgphknahdaaDoorX10
import Derived.Test.YtheglgphknahdaaDoorX20
import Derived.Test.YtheglgphknahdaaDoorX7
import Derived.Test.YtheglgphknahdaaDoorX13
import Derived.Test.YtheglgphknahdaaDoorX19
/- What the printed functions answer, part A: valid texts, places, ranges. -/
namespace Go.Proofs.YtheglgphknahdaaDoor.Ev
open Go.RowKit Go.Proofs.YtheglgphknahdaaDoor.X Go.Proofs.YtheglgphknahdaaDoor.Wp Go.Proofs.YtheglgphknahdaaDoorW.PrintWords
set_option linter.unusedVariables false
set_option linter.unusedSimpArgs false

def okB (c : Int) : Prop := c = 10 ∨ (32 ≤ c ∧ c ≤ 126)
instance (c : Int) : Decidable (okB c) := by unfold okB; infer_instance
/-- A valid text. -/
def VT (s : ByteArray) : Prop := s.size ≤ 120 ∧ ∀ j : Int, 0 ≤ j → j < s.size → okB (bt s j)

noncomputable instance (s : ByteArray) : Decidable (VT s) := Classical.propDecidable _

theorem isByte_eq (c : Int) : impl_isByte.f c = some (decide (okB c)) := by
  unfold impl_isByte.f okB
  by_cases h1 : c = 10
  · simp [h1]
  · by_cases h2 : c ≥ 32
    · simp [h1, h2]
    · have : ¬ 32 ≤ c := h2
      simp [h1, this]
theorem in_eq (a b c : Int) : impl_in.f a b c = some (decide (b ≤ a ∧ a ≤ c)) := by
  unfold impl_in.f
  by_cases h : b ≤ a <;> simp [h]
theorem l1In_eq (a b c : Int) : spec_l1In.f a b c = some (decide (b ≤ a ∧ a ≤ c)) := by
  unfold spec_l1In.f
  by_cases h : b ≤ a
  · simp [h]
  · have : ¬ a ≥ b := h
    simp [h]

theorem implTV (s : ByteArray) (hs : s.size ≤ 140737488351232) : W (fun k => impl_TextValid.f k s) (fun b => b = true ↔ VT s) := by
  unfold impl_TextValid.f
  refine W.loop (l := fun i k => impl_TextValid.l0 k s s.size i) (P := fun _ b => b = true ↔ VT s) (fun i => 0 ≤ i ∧ i ≤ s.size ∧ ∀ j, 0 ≤ j → j < i → okB (bt s j)) (fun i => (s.size - i).toNat) ?_ 0 ⟨by omega, by omega, fun j h0 h1 => by omega⟩
  intro i ⟨h0, h1, h2⟩ ih
  refine W.step (fun k => impl_TextValid.l0.eq_2 ..) ?_
  by_cases hlt : i < s.size
  · simp (disch := omega) only [if_pos, w64, isByte_eq, Option.bind_some]
    by_cases hb : okB (bt s i)
    · simp only [hb, decide_true, if_true]
      exact ih (i + 1) ⟨by omega, by omega, fun j h3 h4 => by
        by_cases e : j = i
        · subst e; exact hb
        · exact h2 j h3 (by omega)⟩ (by omega)
    · simp only [hb, decide_false]
      exact W.ret ⟨fun h => by simp at h, fun h => absurd (h.2 i h0 hlt) hb⟩
  · simp (disch := omega) only [if_neg]
    refine W.ret ?_
    simp only [decide_eq_true_eq]
    exact ⟨fun h => ⟨by omega, fun j h3 h4 => h2 j h3 (by omega)⟩, fun h => by have := h.1; omega⟩

theorem specPlain (s : ByteArray) (hs : s.size ≤ 140737488351232) : W (fun k => spec_l1Plain.f k s) (fun b => b = true ↔ ∀ j : Int, 0 ≤ j → j < s.size → okB (bt s j)) := by
  unfold spec_l1Plain.f
  refine W.loop (l := fun i k => spec_l1Plain.l0 k s i) (P := fun _ b => b = true ↔ ∀ j : Int, 0 ≤ j → j < s.size → okB (bt s j)) (fun i => 0 ≤ i ∧ i ≤ s.size ∧ ∀ j, 0 ≤ j → j < i → okB (bt s j)) (fun i => (s.size - i).toNat) ?_ 0 ⟨by omega, by omega, fun j h0 h1 => by omega⟩
  intro i ⟨h0, h1, h2⟩ ih
  refine W.step (fun k => spec_l1Plain.l0.eq_2 ..) ?_
  have hr := bt_range s i
  by_cases hlt : i < s.size
  · simp (disch := omega) only [if_pos, w64, l1In_eq, Option.bind_some]
    have next : okB (bt s i) → ∀ j, 0 ≤ j → j < i + 1 → okB (bt s j) := fun hb j h3 h4 => by
      by_cases e : j = i
      · subst e; exact hb
      · exact h2 j h3 (by omega)
    refine W.ite (fun hc => ih (i + 1) ⟨by omega, by omega, next (.inl hc)⟩ (by omega)) (fun hc => ?_)
    refine W.ite (fun hd => ih (i + 1) ⟨by omega, by omega, next (.inr (by simpa using hd))⟩ (by omega)) (fun hd => ?_)
    refine W.ret ⟨fun h => by simp at h, fun h => ?_⟩
    rcases h i h0 hlt with h | h
    · exact absurd h hc
    · exact absurd (by simpa using h) hd
  · simp (disch := omega) only [if_neg]
    exact W.ret ⟨fun _ j h3 h4 => h2 j h3 (by omega), fun _ => rfl⟩

theorem specTV (s : ByteArray) (hs : s.size ≤ 140737488351232) : W (fun k => spec_TextValid.f k s) (fun b => b = true ↔ VT s) := by
  unfold spec_TextValid.f
  refine W.ite (fun h => ?_) (fun h => ?_)
  · refine W.bind (specPlain s hs) (fun b hb => W.ret ?_)
    rw [hb]
    exact ⟨fun h' => ⟨by omega, h'⟩, fun h' => h'.2⟩
  · exact W.ret ⟨fun h' => by simp at h', fun h' => by have := h'.1; omega⟩

theorem tv_pos {g : Nat → Option Bool} {s : ByteArray} (h : W g (fun b => b = true ↔ VT s)) (hv : VT s) : W g (· = true) := h.mono fun b hb => hb.2 hv
theorem tv_neg {g : Nat → Option Bool} {s : ByteArray} (h : W g (fun b => b = true ↔ VT s)) (hv : ¬ VT s) : W g (· = false) := h.mono fun b hb => by
  cases b
  · rfl
  · exact absurd (hb.1 rfl) hv

theorem implPlace (s : ByteArray) (p : Int) (hs : s.size ≤ 140737488351232) : W (fun k => impl_isPlace.f k s p) (fun b => b = true ↔ VT s ∧ 0 ≤ p ∧ p ≤ s.size) := by
  unfold impl_isPlace.f
  refine W.bind (implTV s hs) (fun b hb => W.ite (fun h => ?_) (fun h => ?_))
  · simp only [in_eq, Option.bind_some]
    refine W.ret ?_
    simp only [decide_eq_true_eq]
    exact ⟨fun h' => ⟨hb.1 h, h'⟩, fun h' => h'.2⟩
  · refine W.ret ⟨fun h' => by simp at h', fun h' => absurd (hb.2 h'.1) h⟩
end Go.Proofs.YtheglgphknahdaaDoor.Ev
/- Texts as bytes: parts, sums, equality. -/
namespace Go.Proofs.YtheglgphknahdaaDoor.Ev
open Go.RowKit Go.Proofs.YtheglgphknahdaaDoorW.PrintWords
set_option linter.unusedVariables false
set_option linter.unusedSimpArgs false

theorem bt_eq (s : ByteArray) {i : Int} (h0 : 0 ≤ i) (h : i < s.size) : ∃ h' : i.toNat < s.size, bt s i = (s[i.toNat]'h').toNat := by
  have h' : i.toNat < s.size := by omega
  exact ⟨h', by unfold bt; rw [dif_pos h']⟩
theorem str_ext {a b : ByteArray} (hl : a.size = b.size) (h : ∀ i : Int, 0 ≤ i → i < a.size → bt a i = bt b i) : a = b := by
  apply ByteArray.ext_getElem hl
  intro i h1 h2
  have := h i (by omega) (by omega)
  unfold bt at this
  rw [dif_pos (by simpa using h1), dif_pos (by simpa using h2)] at this
  exact UInt8.toNat_inj.1 (by exact_mod_cast this)
theorem toList_data (a : ByteArray) : a.toList = a.data.toList := ByteArray.toList_eq a
theorem toList_inj {a b : ByteArray} : a.toList = b.toList ↔ a = b := by
  rw [toList_data, toList_data]
  constructor
  · intro h
    obtain ⟨⟨x⟩⟩ := a
    obtain ⟨⟨y⟩⟩ := b
    simp only at h
    subst h; rfl
  · intro h; rw [h]
theorem bt_cat_left (a b : ByteArray) {i : Int} (h : i.toNat < a.size) : bt (a ++ b) i = bt a i := by
  unfold bt
  rw [dif_pos (by rw [ByteArray.size_append]; omega), dif_pos h, ByteArray.getElem_append_left h]
theorem bt_cat_right (a b : ByteArray) {i : Int} (h : a.size ≤ i) : bt (a ++ b) i = bt b (i - a.size) := by
  unfold bt
  by_cases hb : (i - a.size).toNat < b.size
  · rw [dif_pos (by rw [ByteArray.size_append]; omega), dif_pos hb]
    rw [ByteArray.getElem_append_right (by omega)]
    congr 2
    congr 1
    omega
  · rw [dif_neg (by rw [ByteArray.size_append]; omega), dif_neg hb]
theorem ext_size (s : ByteArray) {a b : Int} (h0 : 0 ≤ a) (h1 : a ≤ b) (h2 : b ≤ s.size) : ((s.extract a.toNat b.toNat).size : Int) = b - a := by
  rw [ByteArray.size_extract]; omega
theorem bt_ext (s : ByteArray) {a b i : Int} (h0 : 0 ≤ a) (h1 : 0 ≤ i) (h2 : i < b - a) (h3 : b ≤ s.size) : bt (s.extract a.toNat b.toNat) i = bt s (a + i) := by
  unfold bt
  rw [dif_pos (by rw [ByteArray.size_extract]; omega), dif_pos (by omega), ByteArray.getElem_extract]
  congr 2
  congr 1
  omega
theorem bt_out (s : ByteArray) {i : Int} (h : s.size ≤ i) : bt s i = 0 := by
  unfold bt
  rw [dif_neg (by omega)]
end Go.Proofs.YtheglgphknahdaaDoor.Ev
/- The plain law of lines: line ends counted, where lines begin and end. No program in sight. -/
namespace Go.Proofs.YtheglgphknahdaaDoor.ThL
open Go.RowKit Go.Proofs.YtheglgphknahdaaDoorW.PrintWords Go.Proofs.YtheglgphknahdaaDoor.Ev
set_option linter.unusedVariables false
set_option linter.unusedSimpArgs false

/-- How many line ends stand before place p. -/
def nl (s : ByteArray) : Nat → Nat
  | 0 => 0
  | n + 1 => nl s n + if bt s n = 10 then 1 else 0
theorem nl_step (s : ByteArray) (n : Nat) : nl s (n + 1) = nl s n + if bt s n = 10 then 1 else 0 := rfl
theorem nl_mono (s : ByteArray) {a b : Nat} (h : a ≤ b) : nl s a ≤ nl s b := by
  induction b with
  | zero => have : a = 0 := by omega
            subst this; exact Nat.le_refl _
  | succ b ih =>
    by_cases e : a = b + 1
    · subst e; exact Nat.le_refl _
    · have := ih (by omega)
      rw [nl_step]; omega
theorem nl_le (s : ByteArray) : ∀ n, nl s n ≤ n
  | 0 => Nat.le_refl _
  | n + 1 => by have := nl_le s n; rw [nl_step]; split <;> omega
theorem nl_same (s : ByteArray) {a b : Nat} (h : a ≤ b) (hn : ∀ j : Int, a ≤ j → j < b → bt s j ≠ 10) : nl s b = nl s a := by
  induction b with
  | zero => have : a = 0 := by omega
            subst this; rfl
  | succ b ih =>
    by_cases e : a = b + 1
    · subst e; rfl
    · rw [nl_step, ih (by omega) (fun j h0 h1 => hn j h0 (by omega)), if_neg (hn b (by omega) (by omega))]; omega
theorem nl_lt (s : ByteArray) {a b : Nat} {j : Nat} (h : a ≤ j) (h2 : j < b) (hn : bt s j = 10) : nl s a < nl s b := by
  have h1 := nl_mono s h
  have h3 := nl_mono s (show j + 1 ≤ b from h2)
  rw [nl_step, if_pos hn] at h3
  omega

/-- The first line end from place p on, or the end of the text. -/
def fnlA (s : ByteArray) : Nat → Nat → Nat
  | 0, p => p
  | d + 1, p => if bt s p = 10 then p else fnlA s d (p + 1)
def fnl (s : ByteArray) (p : Nat) : Nat := fnlA s (s.size - p) p
theorem fnlA_spec (s : ByteArray) : ∀ d p, p + d = s.size → p ≤ fnlA s d p ∧ fnlA s d p ≤ s.size ∧ (∀ j : Int, p ≤ j → j < fnlA s d p → bt s j ≠ 10) ∧ (fnlA s d p < s.size → bt s (fnlA s d p) = 10)
  | 0, p, h => ⟨Nat.le_refl _, by simp [fnlA]; omega, fun j h0 h1 => by simp [fnlA] at h1; omega, fun h1 => by simp [fnlA] at h1; omega⟩
  | d + 1, p, h => by
    unfold fnlA
    by_cases c : bt s p = 10
    · rw [if_pos c]; exact ⟨Nat.le_refl _, by omega, fun j h0 h1 => by omega, fun _ => c⟩
    · rw [if_neg c]
      obtain ⟨h1, h2, h3, h4⟩ := fnlA_spec s d (p + 1) (by omega)
      refine ⟨by omega, h2, fun j h5 h6 => ?_, h4⟩
      by_cases e : j = p
      · subst e; exact c
      · exact h3 j (by omega) h6
theorem fnl_spec (s : ByteArray) {p : Nat} (h : p ≤ s.size) : p ≤ fnl s p ∧ fnl s p ≤ s.size ∧ (∀ j : Int, p ≤ j → j < fnl s p → bt s j ≠ 10) ∧ (fnl s p < s.size → bt s (fnl s p) = 10) := fnlA_spec s _ p (by omega)
theorem fnl_uniq (s : ByteArray) {p q : Nat} (h : p ≤ s.size) (h1 : p ≤ q) (h2 : q ≤ s.size) (h3 : ∀ j : Int, p ≤ j → j < q → bt s j ≠ 10) (h4 : q < s.size → bt s q = 10) : q = fnl s p := by
  obtain ⟨a, b, c, d⟩ := fnl_spec s h
  by_cases hlt : q < fnl s p
  · exact absurd (h4 (by omega)) (c q (by omega) (by omega))
  · by_cases hgt : fnl s p < q
    · exact absurd (d (by omega)) (h3 (fnl s p) (by omega) (by omega))
    · omega

/-- Where line k begins, where it ends. -/
def st (s : ByteArray) : Nat → Nat
  | 0 => 0
  | k + 1 => fnl s (st s k) + 1
def en (s : ByteArray) (k : Nat) : Nat := fnl s (st s k)
theorem st_succ (s : ByteArray) (k : Nat) : st s (k + 1) = en s k + 1 := rfl
theorem st_spec (s : ByteArray) : ∀ k, k ≤ nl s s.size → st s k ≤ s.size ∧ nl s (st s k) = k ∧ (k = 0 ∨ bt s ((st s k : Int) - 1) = 10)
  | 0 => fun _ => ⟨Nat.zero_le _, rfl, .inl rfl⟩
  | k + 1 => fun h => by
    obtain ⟨h1, h2, _⟩ := st_spec s k (by omega)
    obtain ⟨a, b, c, d⟩ := fnl_spec s h1
    have hs := nl_same s a c
    have hlt : en s k < s.size := by
      show fnl s (st s k) < s.size
      by_cases e : fnl s (st s k) = s.size
      · rw [e] at hs; omega
      · omega
    have hd := d hlt
    rw [st_succ]
    refine ⟨hlt, ?_, .inr ?_⟩
    · rw [nl_step]
      show nl s (fnl s (st s k)) + (if bt s (fnl s (st s k) : Nat) = 10 then 1 else 0) = _
      rw [hs, h2, if_pos hd]
    · rw [show (((en s k + 1 : Nat) : Int) - 1) = (en s k : Nat) from by omega]; exact hd
theorem en_spec (s : ByteArray) {k : Nat} (h : k ≤ nl s s.size) : st s k ≤ en s k ∧ en s k ≤ s.size ∧ (∀ j : Int, st s k ≤ j → j < en s k → bt s j ≠ 10) ∧ (en s k < s.size → bt s (en s k) = 10) ∧ nl s (en s k) = k := by
  obtain ⟨h1, h2, _⟩ := st_spec s k h
  obtain ⟨a, b, c, d⟩ := fnl_spec s h1
  exact ⟨a, b, c, d, by rw [show nl s (en s k) = nl s (fnl s (st s k)) from rfl, nl_same s a c, h2]⟩
/-- Two places at which lines begin, with as many line ends before them, are one. -/
theorem start_uniq (s : ByteArray) {p q : Nat} (hn : nl s p = nl s q) (hp : p = 0 ∨ bt s ((p : Int) - 1) = 10) (hq : q = 0 ∨ bt s ((q : Int) - 1) = 10) : p = q := by
  by_cases h : p < q
  · rcases hq with rfl | hq
    · omega
    · have := nl_lt s (a := p) (b := q) (j := q - 1) (by omega) (by omega) (by rw [show (((q - 1 : Nat)) : Int) = (q : Int) - 1 from by omega]; exact hq)
      omega
  · by_cases h2 : q < p
    · rcases hp with rfl | hp
      · omega
      · have := nl_lt s (a := q) (b := p) (j := p - 1) (by omega) (by omega) (by rw [show (((p - 1 : Nat)) : Int) = (p : Int) - 1 from by omega]; exact hp)
        omega
    · omega
theorem last_en (s : ByteArray) : en s (nl s s.size) = s.size := by
  obtain ⟨a, b, c, d, e⟩ := en_spec s (Nat.le_refl _)
  by_cases h : en s (nl s s.size) = s.size
  · exact h
  · have := nl_lt s (a := en s (nl s s.size)) (b := s.size) (j := en s (nl s s.size)) (Nat.le_refl _) (by omega) (d (by omega))
    omega
/-- Line k. -/
def lineAt (s : ByteArray) (k : Nat) : ByteArray := s.extract (st s k) (en s k)
/-- The first n lines. -/
def lns (s : ByteArray) : Nat → List ByteArray
  | 0 => []
  | n + 1 => lns s n ++ [lineAt s n]
theorem lns_succ (s : ByteArray) (n : Nat) : lns s (n + 1) = lns s n ++ [lineAt s n] := rfl
theorem lns_len (s : ByteArray) : ∀ n, (lns s n).length = n
  | 0 => rfl
  | n + 1 => by rw [lns_succ, List.length_append, lns_len s n]; rfl
/-- All lines. -/
def lines (s : ByteArray) : List ByteArray := lns s (nl s s.size + 1)
theorem lines_len (s : ByteArray) : (lines s).length = nl s s.size + 1 := lns_len s _
theorem lns_get (s : ByteArray) : ∀ (n : Nat) (i : Int), 0 ≤ i → i < n → rdOf ByteArray.empty (lns s n) i = lineAt s i.toNat
  | 0 => fun i h0 h1 => by omega
  | n + 1 => fun i h0 h1 => by
    have hl := lns_len s n
    have ih := lns_get s n i h0
    unfold rdOf at ih ⊢
    rw [lns_succ]
    by_cases e : i = n
    · subst e
      rw [List.getD_eq_getElem?_getD, List.getElem?_append_right (by omega), hl]
      simp
    · rw [List.getD_eq_getElem?_getD, List.getElem?_append_left (by omega), ← List.getD_eq_getElem?_getD]
      exact ih (by omega)
theorem lines_get (s : ByteArray) {i : Int} (h0 : 0 ≤ i) (h1 : i ≤ nl s s.size) : rdOf ByteArray.empty (lines s) i = lineAt s i.toNat := lns_get s _ i h0 (by omega)
theorem lineAt_size (s : ByteArray) {k : Nat} (h : k ≤ nl s s.size) : (lineAt s k).size = en s k - st s k := by
  obtain ⟨a, b, _⟩ := en_spec s h
  unfold lineAt
  rw [ByteArray.size_extract]; omega
theorem lineAt_bt (s : ByteArray) {k : Nat} (h : k ≤ nl s s.size) {i : Int} (h0 : 0 ≤ i) (h1 : i < (lineAt s k).size) : bt (lineAt s k) i = bt s (st s k + i) := by
  obtain ⟨a, b, _⟩ := en_spec s h
  rw [lineAt_size s h] at h1
  have := bt_ext s (a := (st s k : Int)) (b := (en s k : Int)) (i := i) (by omega) h0 (by omega) (by omega)
  rw [Int.toNat_natCast, Int.toNat_natCast] at this
  exact this
theorem lineAt_plain (s : ByteArray) {k : Nat} (h : k ≤ nl s s.size) {i : Int} (h0 : 0 ≤ i) (h1 : i < (lineAt s k).size) : bt (lineAt s k) i ≠ 10 := by
  rw [lineAt_bt s h h0 h1]
  obtain ⟨a, b, c, _⟩ := en_spec s h
  rw [lineAt_size s h] at h1
  exact c _ (by omega) (by omega)
theorem nl_zero_iff (s : ByteArray) : nl s s.size = 0 ↔ ∀ j : Int, 0 ≤ j → j < s.size → bt s j ≠ 10 := by
  constructor
  · intro h j h0 h1 h2
    have := nl_lt s (a := 0) (b := s.size) (j := j.toNat) (by omega) (by omega) (by rw [show ((j.toNat : Nat) : Int) = j from by omega]; exact h2)
    omega
  · intro h
    have := nl_same s (a := 0) (b := s.size) (by omega) (fun j h0 h1 => h j (by omega) h1)
    rw [this]; rfl
end Go.Proofs.YtheglgphknahdaaDoor.ThL
/- What the printed functions answer, part Ln: the reference's lines. -/
namespace Go.Proofs.YtheglgphknahdaaDoor.Ev
open Go.RowKit Go.Proofs.YtheglgphknahdaaDoor.X Go.Proofs.YtheglgphknahdaaDoor.Wp Go.Proofs.YtheglgphknahdaaDoorW.PrintWords Go.Proofs.YtheglgphknahdaaDoor.ThL
set_option linter.unusedVariables false
set_option linter.unusedSimpArgs false

theorem specLineMany (s : ByteArray) (hs : s.size ≤ 140737488351232) : W (fun k => spec_LineMany.f k s) (fun r => r = if VT s then (nl s s.size : Int) + 1 else -1) := by
  unfold spec_LineMany.f
  refine W.bind (specTV s hs) (fun b hb => W.ite (fun h => ?_) (fun h => ?_))
  · rw [if_pos (hb.1 h)]
    have key := W.loop (l := fun (n : Nat) k => spec_LineMany.l0 k s ((nl s n : Int) + 1) n) (P := fun _ r => r = (nl s s.size : Int) + 1) (fun n : Nat => n ≤ s.size) (fun n => s.size - n) (by
      intro n hn ih
      refine W.step (fun k => spec_LineMany.l0.eq_2 ..) ?_
      have hle := nl_le s n
      by_cases hlt : n < s.size
      · have next := ih (n + 1) (by omega) (by omega)
        rw [nl_step, show ((n + 1 : Nat) : Int) = (n : Int) + 1 from by omega] at next
        rw [w64 (x := (n : Int) + 1) (by omega) (by omega), w64 (x := (nl s n : Int) + 1 + 1) (by omega) (by omega)]
        refine W.pos (by omega) (W.pos (by omega) (W.ite (fun hc => ?_) (fun hc => ?_)))
        · rw [if_pos hc] at next; exact next
        · rw [if_neg hc] at next; exact next
      · have e : n = s.size := by omega
        subst e
        exact W.neg (by omega) (W.ret rfl)) 0 (by omega)
    exact key
  · rw [if_neg (fun hv => h (hb.2 hv))]
    exact W.ret rfl

theorem specLineStart (s : ByteArray) (line : Int) (hs : s.size ≤ 140737488351232) : W (fun k => spec_LineStart.f k s line) (fun r => r = if VT s ∧ 0 ≤ line ∧ line ≤ nl s s.size then (st s line.toNat : Int) else -1) := by
  unfold spec_LineStart.f
  have out : ¬ (VT s ∧ 0 ≤ line ∧ line ≤ nl s s.size) → W (fun k => spec_LineStart.j0 k s line true) (fun r => r = if VT s ∧ 0 ≤ line ∧ line ≤ nl s s.size then (st s line.toNat : Int) else -1) := fun hv => by
    rw [if_neg hv]
    exact W.step (fun k => spec_LineStart.j0.eq_2 ..) (W.pos rfl (W.ret rfl))
  refine W.bind (specTV s hs) (fun b hb => W.ite (fun h => ?_) (fun h => out (fun hv => h (hb.2 hv.1))))
  have hv := hb.1 h
  have hsz := hv.1
  by_cases hl : line < 0
  · rw [decide_eq_true hl]; exact out (fun h => by omega)
  · rw [decide_eq_false hl]
    refine W.step (fun k => spec_LineStart.j0.eq_2 ..) (W.neg (by decide) ?_)
    have fin := nl_le s s.size
    have key := W.loop (l := fun (n : Nat) k => spec_LineStart.l0 k s line (nl s n) n) (P := fun _ r => r = if VT s ∧ 0 ≤ line ∧ line ≤ nl s s.size then (st s line.toNat : Int) else -1) (fun n : Nat => n ≤ s.size + 1 ∧ (line ≤ nl s s.size → n ≤ st s line.toNat)) (fun n => s.size + 1 - n) (by
      intro n ⟨hn, hst⟩ ih
      refine W.step (fun k => spec_LineStart.l0.eq_2 ..) ?_
      have hle := nl_le s n
      by_cases hlt : n ≤ s.size
      · have hmono := nl_mono s hlt
        -- going on
        have go : ¬ (nl s n = line ∧ (n = 0 ∨ bt s ((n : Int) - 1) = 10)) → W (fun k => spec_LineStart.j2 k s line (nl s n) n false) (fun r => r = if VT s ∧ 0 ≤ line ∧ line ≤ nl s s.size then (st s line.toNat : Int) else -1) := by
          intro hno
          have next := ih (n + 1) ⟨by omega, fun hle2 => by
            have h1 := hst hle2
            obtain ⟨a, b, c⟩ := st_spec s line.toNat (by omega)
            by_cases e : n = st s line.toNat
            · exfalso; apply hno
              rw [e]
              refine ⟨by omega, ?_⟩
              rcases c with c | c
              · left; rw [c]; rfl
              · right; exact c
            · omega⟩ (by omega)
          refine W.step (fun k => spec_LineStart.j2.eq_2 ..) (W.neg (by decide) ?_)
          rw [show ((n + 1 : Nat) : Int) = (n : Int) + 1 from by omega] at next
          rw [w64 (x := (n : Int) + 1) (by omega) (by omega)]
          by_cases hlt2 : n < s.size
          · rw [nl_step] at next
            rw [w64 (x := (nl s n : Int) + 1) (by omega) (by omega)]
            refine W.pos (by omega) (W.pos (by omega) (W.ite (fun hc => ?_) (fun hc => ?_)))
            · rw [if_pos hc] at next; exact next
            · rw [if_neg hc] at next; exact next
          · refine W.neg (by omega) ?_
            have e : n = s.size := by omega
            rw [show nl s (n + 1) = nl s n from by rw [nl_step, bt_out s (by omega), if_neg (by omega)]; rfl] at next
            exact next
        have found : (nl s n : Int) = line → (n = 0 ∨ bt s ((n : Int) - 1) = 10) → W (fun k => spec_LineStart.j2 k s line (nl s n) n true) (fun r => r = if VT s ∧ 0 ≤ line ∧ line ≤ nl s s.size then (st s line.toNat : Int) else -1) := by
          intro h1 h2
          refine W.step (fun k => spec_LineStart.j2.eq_2 ..) (W.pos rfl (W.ret ?_))
          rw [if_pos ⟨hv, by omega, by omega⟩]
          obtain ⟨a, b, c⟩ := st_spec s line.toNat (by omega)
          have c' : st s line.toNat = 0 ∨ bt s ((st s line.toNat : Int) - 1) = 10 := by
            rcases c with c | c
            · left; rw [c]; rfl
            · right; exact c
          rw [start_uniq s (p := n) (q := st s line.toNat) (by omega) h2 c']
        refine W.pos (by omega) (W.ite (fun h1 => W.ite (fun h2 => found h1 (.inl (by omega))) (fun h2 => ?_)) (fun h1 => go (fun h => h1 (by omega))))
        rw [w64 (x := (n : Int) - 1) (by omega) (by omega)]
        refine W.pos (by omega) (W.pos (by omega) ?_)
        by_cases h3 : bt s ((n : Int) - 1) = 10
        · rw [show (bt s ((n : Int) - 1) == 10) = true from by simpa using h3]
          exact found h1 (.inr h3)
        · rw [show (bt s ((n : Int) - 1) == 10) = false from by simpa using h3]
          exact go (fun h => by
            rcases h.2 with h | h
            · omega
            · exact h3 h)
      · refine W.neg (by omega) (W.ret ?_)
        rw [if_neg]
        intro h
        have := hst h.2.2
        have := (st_spec s line.toNat (by omega)).1
        omega) 0 ⟨by omega, fun _ => by omega⟩
    exact key

theorem specLineEnd (s : ByteArray) (line : Int) (hs : s.size ≤ 140737488351232) : W (fun k => spec_LineEnd.f k s line) (fun r => r = if VT s ∧ 0 ≤ line ∧ line ≤ nl s s.size then (en s line.toNat : Int) else -1) := by
  unfold spec_LineEnd.f
  refine W.bind_eq (specLineStart s line hs) ?_
  by_cases hv : VT s ∧ 0 ≤ line ∧ line ≤ nl s s.size
  · rw [if_pos hv, if_pos hv]
    obtain ⟨a, b, c, d, e⟩ := en_spec s (k := line.toNat) (by omega)
    have hsz := hv.1.1
    refine W.loop (l := fun (i : Int) k => spec_LineEnd.l0 k s i) (P := fun _ r => r = (en s line.toNat : Int)) (fun i => (st s line.toNat : Int) ≤ i ∧ i ≤ en s line.toNat) (fun i => (en s line.toNat - i).toNat) ?_ (st s line.toNat : Int) ⟨by omega, by omega⟩
    intro i ⟨h0, h1⟩ ih
    refine W.step (fun k => spec_LineEnd.l0.eq_2 ..) (W.pos (by omega) ?_)
    refine W.ite (fun hlt => W.pos (by omega) (W.ite (fun hc => W.ret ?_) (fun hc => ?_))) (fun hge => W.ret (by omega))
    · by_cases h2 : i < en s line.toNat
      · exact absurd hc (c i h0 h2)
      · omega
    · rw [w64 (x := i + 1) (by omega) (by omega)]
      have hne : i ≠ en s line.toNat := fun e2 => hc (by rw [e2]; exact d (by omega))
      exact ih (i + 1) ⟨by omega, by omega⟩ (by omega)
  · rw [if_neg hv, if_neg hv]
    exact W.step (fun k => spec_LineEnd.l0.eq_2 ..) (W.neg (by omega) (W.ret rfl))
theorem specLinesOf (s : ByteArray) (hs : s.size ≤ 140737488351232) : W (fun k => spec_LinesOf.f k s) (fun r => r = if VT s then lines s else []) := by
  unfold spec_LinesOf.f
  by_cases hv : VT s
  · rw [if_pos hv]
    have hsz := hv.1
    have fin := nl_le s s.size
    have key := W.loop (l := fun (n : Nat) k => spec_LinesOf.l0 k s (lns s n) n) (P := fun _ r => r = lines s) (fun n : Nat => n ≤ nl s s.size + 1) (fun n => nl s s.size + 1 - n) (by
      intro n hn ih
      refine W.step (fun k => spec_LinesOf.l0.eq_2 ..) (W.bind_eq (specLineMany s hs) ?_)
      rw [if_pos hv]
      have hlen := lns_len s n
      by_cases hlt : n < nl s s.size + 1
      · have next := ih (n + 1) (by omega) (by omega)
        rw [lns_succ, show ((n + 1 : Nat) : Int) = (n : Int) + 1 from by omega] at next
        refine W.pos (by omega) (W.bind_eq (specLineStart s n hs) (W.bind_eq (specLineEnd s n hs) ?_))
        rw [if_pos ⟨hv, by omega, by omega⟩, if_pos ⟨hv, by omega, by omega⟩, w64 (x := (n : Int) + 1) (by omega) (by omega), Int.toNat_natCast]
        obtain ⟨a, b, _⟩ := en_spec s (k := n) (by omega)
        refine W.pos (by omega) (W.pos (by omega) (W.pos (by omega) (W.pos (by omega) ?_)))
        rw [Int.toNat_natCast, Int.toNat_natCast]
        exact next
      · have e : n = nl s s.size + 1 := by omega
        subst e
        exact W.neg (by omega) (W.ret rfl)) 0 (by omega)
    exact key
  · rw [if_neg hv]
    refine W.step (fun k => spec_LinesOf.l0.eq_2 ..) (W.bind_eq (specLineMany s hs) ?_)
    rw [if_neg hv]
    exact W.neg (by omega) (W.ret rfl)
end Go.Proofs.YtheglgphknahdaaDoor.Ev
/- What the printed functions answer, part C: a line's colours. -/
namespace Go.Proofs.YtheglgphknahdaaDoor.Ev
open Go.RowKit Go.Proofs.YtheglgphknahdaaDoor.X Go.Proofs.YtheglgphknahdaaDoor.Wp Go.Proofs.YtheglgphknahdaaDoorW.PrintWords Go.Proofs.YtheglgphknahdaaDoor.ThL Go.Proofs.YtheglgphknahdaaDoor.ThC
set_option linter.unusedVariables false
set_option linter.unusedSimpArgs false

theorem kindC (c : Int) : W (fun k => spec_l8Kind.f k c) (· = cls c) := by
  unfold spec_l8Kind.f
  have yes : c = 32 ∨ c = 10 → W (fun k => spec_l8Kind.j0 k c true) (· = cls c) := fun h =>
    W.step (fun k => spec_l8Kind.j0.eq_2 ..) (W.pos rfl (W.ret (by unfold cls; rw [if_pos h])))
  refine W.ite (fun h => yes (.inl h)) (fun h => ?_)
  by_cases h10 : c = 10
  · rw [show (c == 10) = true from by simpa using h10]; exact yes (.inr h10)
  · rw [show (c == 10) = false from by simpa using h10]
    refine W.step (fun k => spec_l8Kind.j0.eq_2 ..) (W.neg (by decide) ?_)
    by_cases a : (48 ≤ c ∧ c ≤ 57) ∨ (97 ≤ c ∧ c ≤ 122) ∨ (65 ≤ c ∧ c ≤ 90)
    · rw [show cls c = 1 from by unfold cls; rw [if_neg (by omega), if_pos a]]
      repeat' (first | exact W.ret rfl | (exfalso; omega) | refine W.ite (fun _ => ?_) (fun _ => ?_))
    · rw [show cls c = 2 from by unfold cls; rw [if_neg (by omega), if_neg a]]
      repeat' (first | exact W.ret rfl | (exfalso; omega) | refine W.ite (fun _ => ?_) (fun _ => ?_))

/-- The colours of the first n bytes, as a text. -/
def colT (a : Int) (s : ByteArray) (n : Nat) : ByteArray := ⟨(crun a s n).2.2.toArray⟩
theorem colT_size (a : Int) (s : ByteArray) (n : Nat) : (colT a s n).size = n := by
  show (crun a s n).2.2.toArray.size = n
  rw [List.size_toArray, crun_len]
theorem arr_snoc (l : List UInt8) (o : UInt8) : (⟨l.toArray⟩ : ByteArray) ++ ⟨#[o]⟩ = ⟨(l ++ [o]).toArray⟩ := by
  apply str_ext
  · rw [ByteArray.size_append]
    show l.toArray.size + 1 = (l ++ [o]).toArray.size
    simp
  · intro i h0 h1
    rw [ByteArray.size_append] at h1
    have hz : (⟨l.toArray⟩ : ByteArray).size = l.length := by show l.toArray.size = _; simp
    have hz1 : (⟨#[o]⟩ : ByteArray).size = 1 := rfl
    have hz2 : (⟨(l ++ [o]).toArray⟩ : ByteArray).size = l.length + 1 := by show (l ++ [o]).toArray.size = _; simp
    rw [hz, hz1] at h1
    by_cases c : i < l.length
    · rw [bt_cat_left _ _ (by omega)]
      obtain ⟨p, e⟩ := bt_eq (⟨l.toArray⟩ : ByteArray) h0 (by omega)
      obtain ⟨p2, e2⟩ := bt_eq (⟨(l ++ [o]).toArray⟩ : ByteArray) h0 (by omega)
      rw [e, e2]
      show ((l.toArray[i.toNat]'p).toNat : Int) = ((l ++ [o]).toArray[i.toNat]'p2).toNat
      rw [List.getElem_toArray, List.getElem_toArray, List.getElem_append_left (by omega)]
    · rw [bt_cat_right _ _ (by omega)]
      have ei : i = l.length := by omega
      subst ei
      obtain ⟨p2, e2⟩ := bt_eq (⟨(l ++ [o]).toArray⟩ : ByteArray) (i := (l.length : Int)) (by omega) (by omega)
      rw [e2, hz, Int.sub_self]
      show (o.toNat : Int) = ((l ++ [o]).toArray[(l.length : Int).toNat]'p2).toNat
      rw [List.getElem_toArray]
      simp
theorem colT_succ (a : Int) (s : ByteArray) (n : Nat) : colT a s (n + 1) = colT a s n ++ ⟨#[(cstep (crun a s n).1 (crun a s n).2.1 (bt s n)).2.2]⟩ := by
  unfold colT
  rw [arr_snoc]; rfl

theorem specLine (a : Int) (s : ByteArray) (h0 : 0 ≤ a) (h9 : a ≤ 9) (hs : s.size ≤ 1000000) : W (fun k => spec_l17Line.f k a s) (fun r => r = ((crun a s s.size).1, colT a s s.size)) := by
  unfold spec_l17Line.f
  have key := W.loop (l := fun (n : Nat) k => spec_l17Line.l0 k (crun a s n).1 s (colT a s n) (crun a s n).2.1 n) (P := fun _ r => r = ((crun a s s.size).1, colT a s s.size)) (fun n : Nat => n ≤ s.size) (fun n => s.size - n) (by
    intro n hn ih
    refine W.step (fun k => spec_l17Line.l0.eq_2 ..) ?_
    obtain ⟨r0, r9⟩ := crun_range s h0 h9 n
    have hz := colT_size a s n
    by_cases hlt : n < s.size
    · have next := ih (n + 1) (by omega) (by omega)
      rw [colT_succ, show ((n + 1 : Nat) : Int) = (n : Int) + 1 from by omega] at next
      rw [show (crun a s (n + 1)).1 = (cstep (crun a s n).1 (crun a s n).2.1 (bt s n)).1 from rfl, show (crun a s (n + 1)).2.1 = (cstep (crun a s n).1 (crun a s n).2.1 (bt s n)).2.1 from rfl] at next
      rw [w64 (x := (n : Int) + 1) (by omega) (by omega)]
      obtain ⟨A, hA⟩ : ∃ A, A = (crun a s n).1 := ⟨_, rfl⟩
      obtain ⟨Q, hQ⟩ : ∃ Q, Q = (crun a s n).2.1 := ⟨_, rfl⟩
      obtain ⟨c, hc⟩ : ∃ c, c = bt s n := ⟨_, rfl⟩
      rw [← hA, ← hQ, ← hc] at next
      rw [← hA] at r0 r9
      rw [← hA, ← hQ, ← hc]
      refine W.pos (by omega) (W.pos (by omega) ?_)
      unfold cstep at next
      cases Q with
      | true =>
        rw [if_pos rfl] at next
        exact W.pos rfl (W.pos (by omega) next)
      | false =>
        rw [if_neg (show ¬ (false = true) by decide)] at next
        refine W.neg (show ¬ (false = true) by decide) ?_
        have j1 : ∀ b : Bool, b = decide (c = 123 ∧ A < 9) → W (fun k => spec_l17Line.j1 k A s (colT a s n) false n c (⟨#[48]⟩ : ByteArray) b) (fun r => r = ((crun a s s.size).1, colT a s s.size)) := by
          intro b hb
          refine W.step (fun k => spec_l17Line.j1.eq_2 ..) ?_
          rw [w64 (x := (n : Int) + 1) (by omega) (by omega), w64 (x := A + 1) (by omega) (by omega), w64 (x := A - 1) (by omega) (by omega)]
          by_cases h2 : c = 123 ∧ A < 9
          · rw [if_pos h2] at next
            exact W.pos (by rw [hb]; simpa using h2) (W.pos (by omega) next)
          · rw [if_neg h2] at next
            refine W.neg (by rw [hb]; simpa using h2) ?_
            by_cases h3 : A > 0
            · rw [if_pos h3] at next
              refine W.pos h3 ?_
              by_cases h4 : c = 125
              · rw [if_pos h4] at next
                exact W.pos h4 (W.pos (by omega) next)
              · rw [if_neg h4] at next
                exact W.neg h4 (W.pos (by omega) next)
            · rw [if_neg h3] at next
              refine W.neg h3 ?_
              by_cases h5 : c = 34
              · rw [if_pos h5] at next
                exact W.pos h5 (W.pos (by omega) next)
              · rw [if_neg h5] at next
                refine W.neg h5 ?_
                have j2 : ∀ b : Bool, b = decide (48 ≤ c ∧ c ≤ 57) → W (fun k => spec_l17Line.j2 k A s (colT a s n) false n c (⟨#[48]⟩ : ByteArray) b) (fun r => r = ((crun a s s.size).1, colT a s s.size)) := by
                  intro b hb
                  refine W.step (fun k => spec_l17Line.j2.eq_2 ..) ?_
                  rw [w64 (x := (n : Int) + 1) (by omega) (by omega)]
                  by_cases h6 : 48 ≤ c ∧ c ≤ 57
                  · rw [if_pos h6] at next
                    exact W.pos (by rw [hb]; simpa using h6) (W.pos (by omega) next)
                  · rw [if_neg h6] at next
                    refine W.neg (by rw [hb]; simpa using h6) (W.bind_eq (kindC c) ?_)
                    by_cases h7 : cls c = 1
                    · rw [if_pos h7] at next
                      exact W.pos h7 (W.pos (by omega) next)
                    · rw [if_neg h7] at next
                      exact W.neg h7 (W.pos (by rw [hz]; show n + 1 ≤ _; omega) next)
                refine W.ite (fun h => j2 _ ?_) (fun h => j2 _ ?_)
                · by_cases h8 : c ≤ 57 <;> simp [h8]; omega
                · rw [Eq.comm, decide_eq_false_iff_not]; omega
        refine W.ite (fun h => j1 _ ?_) (fun h => j1 _ ?_)
        · by_cases h8 : A < 9 <;> simp [h, h8]
        · rw [Eq.comm, decide_eq_false_iff_not]; exact fun h' => h h'.1
    · have e : n = s.size := by omega
      subst e
      exact W.neg (by omega) (W.ret rfl)) 0 (by omega)
  exact key

/-- What a line's colouring answers. -/
noncomputable def clRes (a : Int) (s : ByteArray) : Int × ByteArray × Bool := if (0 ≤ a ∧ a ≤ 9) ∧ VT s ∧ nl s s.size = 0 then ((crun a s s.size).1, colT a s s.size, true) else (-1, ⟨#[]⟩, false)

theorem contains10 (s : ByteArray) : strings_Contains.f s (⟨#[10]⟩ : ByteArray) = some (decide (nl s s.size ≠ 0)) := by
  have h1 : strings_Contains.f s (⟨#[10]⟩ : ByteArray) = some (decide (0 ≤ Lib.indexByte s.data.toList 10)) := rfl
  rw [h1]
  congr 1
  rw [Bool.eq_iff_iff]
  simp only [decide_eq_true_eq]
  have ib : ∀ l : List UInt8, 0 ≤ Lib.indexByte l 10 ↔ ∃ i : Nat, ∃ h : i < l.length, l[i] = 10 := by
    intro l
    induction l with
    | nil => simp [Lib.indexByte]
    | cons b l ih =>
      have hge := Lib.indexByte_ge l 10
      unfold Lib.indexByte
      by_cases c : b = 10
      · rw [if_pos (by simpa using c)]
        exact ⟨fun _ => ⟨0, by simp, c⟩, fun _ => by omega⟩
      · rw [if_neg (by simpa using c)]
        by_cases d : Lib.indexByte l 10 = -1
        · rw [if_pos (by simpa using d)]
          constructor
          · intro h; omega
          · rintro ⟨i, hi, he⟩
            cases i with
            | zero => exact absurd he c
            | succ i => exact absurd (ih.2 ⟨i, by simpa using hi, by simpa using he⟩) (by omega)
        · rw [if_neg (by simpa using d)]
          constructor
          · intro _
            obtain ⟨i, hi, he⟩ := ih.1 (by omega)
            exact ⟨i + 1, by simpa using hi, by simpa using he⟩
          · intro _; omega
  rw [ib, Ne, nl_zero_iff]
  constructor
  · rintro ⟨i, hi, he⟩ hno
    have hi2 : i < s.size := by rw [data_length] at hi; exact hi
    obtain ⟨p, e⟩ := bt_eq s (i := (i : Int)) (by omega) (by omega)
    apply hno i (by omega) (by omega)
    rw [e]
    have : s[i]'hi2 = 10 := by rw [← he]; rfl
    simp only [Int.toNat_natCast]
    rw [this]; rfl
  · intro hno
    apply Classical.byContradiction
    intro hex
    apply hno
    intro j h0 h2 h3
    obtain ⟨p, e⟩ := bt_eq s h0 h2
    apply hex
    refine ⟨j.toNat, by rw [data_length]; exact p, ?_⟩
    rw [e] at h3
    have : (s[j.toNat]'p) = 10 := UInt8.toNat_inj.1 (by simpa using (by exact_mod_cast h3 : (s[j.toNat]'p).toNat = 10))
    rw [← this]; rfl
theorem implCL (a : Int) (s : ByteArray) (hs : s.size ≤ 140737488351232) : W (fun k => impl_ColourLine.f k a s) (fun r => r = clRes a s) := by
  unfold impl_ColourLine.f clRes
  refine W.call (in_eq ..) (W.ite (fun h1 => ?_) (fun h1 => W.ret (by rw [if_neg (fun h => h1 (by simpa using h.1))])))
  rw [decide_eq_true_eq] at h1
  refine W.bind (implTV s hs) (fun b hb => W.ite (fun h2 => ?_) (fun h2 => W.ret (by rw [if_neg (fun h => h2 (hb.2 h.2.1))])))
  have hv := hb.1 h2
  have hsz := hv.1
  refine W.call (contains10 s) (W.ite (fun h3 => W.ret ?_) (fun h3 => ?_))
  · rw [decide_eq_true_eq] at h3
    rw [if_neg (fun h => h3 h.2.2)]
  · rw [decide_eq_true_eq] at h3
    refine W.call (show impl_colour.f a s = some ((crun a s s.size).1, colT a s s.size) from by unfold impl_colour.f; rw [if_pos ⟨h1.1, h1.2, by omega⟩]; rfl) (W.ret ?_)
    rw [if_pos ⟨h1, hv, by omega⟩]
end Go.Proofs.YtheglgphknahdaaDoor.Ev
/- Lists of numbers: read, set, cut. No program in sight. -/
namespace Go.Proofs.YtheglgphknahdaaDoor.ThB
open Go.RowKit Go.Proofs.YtheglgphknahdaaDoorW.PrintWords
set_option linter.unusedVariables false
set_option linter.unusedSimpArgs false

theorem rd_left (xs ys : List Int) {i : Int} (h0 : 0 ≤ i) (h : i < xs.length) : rd (xs ++ ys) i = rd xs i := by
  unfold rd
  rw [List.getD_eq_getElem?_getD, List.getD_eq_getElem?_getD, List.getElem?_append_left (by omega)]
theorem rd_snoc (xs : List Int) (v : Int) {i : Int} (h : i = xs.length) : rd (xs ++ [v]) i = v := by
  subst h
  unfold rd
  rw [List.getD_eq_getElem?_getD, List.getElem?_append_right (by simp)]
  simp
theorem rd_set_self (xs : List Int) (v : Int) {i : Int} (h0 : 0 ≤ i) (h : i < xs.length) : rd (xs.set i.toNat v) i = v := by
  unfold rd
  rw [List.getD_eq_getElem?_getD, List.getElem?_set_self (by omega)]
  rfl
theorem rd_set_ne (xs : List Int) (v : Int) {i j : Int} (h0 : 0 ≤ i) (hj : 0 ≤ j) (h : i ≠ j) : rd (xs.set j.toNat v) i = rd xs i := by
  unfold rd
  rw [List.getD_eq_getElem?_getD, List.getD_eq_getElem?_getD, List.getElem?_set_ne (by omega)]
theorem rd_take (xs : List Int) (n : Nat) {i : Int} (h0 : 0 ≤ i) (h : i < n) : rd (xs.take n) i = rd xs i := by
  unfold rd
  rw [List.getD_eq_getElem?_getD, List.getD_eq_getElem?_getD, List.getElem?_take, if_pos (by omega)]
theorem rd_ext {xs ys : List Int} (hl : xs.length = ys.length) (h : ∀ i : Int, 0 ≤ i → i < xs.length → rd xs i = rd ys i) : xs = ys := by
  apply List.ext_getElem hl
  intro i h1 h2
  have := h i (by omega) (by omega)
  unfold rd at this
  simpa [List.getD_eq_getElem?_getD, h1, h2] using this
end Go.Proofs.YtheglgphknahdaaDoor.ThB
/- Lists as tables. No program in sight. -/
namespace Go.Proofs.YtheglgphknahdaaDoor.ThT
open Go.RowKit Go.Proofs.YtheglgphknahdaaDoorW.PrintWords Go.Proofs.YtheglgphknahdaaDoor.ThB
set_option linter.unusedVariables false
set_option linter.unusedSimpArgs false

def tab {α : Type} (f : Nat → α) : Nat → List α
  | 0 => []
  | n + 1 => tab f n ++ [f n]
theorem tab_succ {α : Type} (f : Nat → α) (n : Nat) : tab f (n + 1) = tab f n ++ [f n] := rfl
theorem tab_len {α : Type} (f : Nat → α) : ∀ n, (tab f n).length = n
  | 0 => rfl
  | n + 1 => by rw [tab_succ, List.length_append, tab_len f n]; rfl
theorem tab_get {α : Type} (f : Nat → α) : ∀ (n i : Nat), i < n → (tab f n)[i]? = some (f i)
  | 0, i, h => by omega
  | n + 1, i, h => by
    have hl := tab_len f n
    rw [tab_succ]
    by_cases e : i = n
    · subst e; rw [List.getElem?_append_right (by omega), hl, Nat.sub_self]; rfl
    · rw [List.getElem?_append_left (by omega)]; exact tab_get f n i (by omega)
theorem rd_tab (f : Nat → Int) (n : Nat) {i : Int} (h0 : 0 ≤ i) (h1 : i < n) : rd (tab f n) i = f i.toNat := by
  unfold rd
  rw [List.getD_eq_getElem?_getD, tab_get f n _ (by omega)]; rfl
theorem rdOf_tab {α : Type} (d : α) (f : Nat → α) (n : Nat) {i : Int} (h0 : 0 ≤ i) (h1 : i < n) : rdOf d (tab f n) i = f i.toNat := by
  unfold rdOf
  rw [List.getD_eq_getElem?_getD, tab_get f n _ (by omega)]; rfl
theorem tab_congr {α : Type} {f g : Nat → α} : ∀ n, (∀ i, i < n → f i = g i) → tab f n = tab g n
  | 0, _ => rfl
  | n + 1, h => by rw [tab_succ, tab_succ, tab_congr n (fun i hi => h i (by omega)), h n (by omega)]
theorem tab_take {α : Type} (f : Nat → α) (n m : Nat) (h : m ≤ n) : (tab f n).take m = tab f m := by
  apply List.ext_getElem?
  intro i
  rw [List.getElem?_take]
  by_cases c : i < m
  · rw [if_pos c, tab_get f n i (by omega), tab_get f m i c]
  · rw [if_neg c, List.getElem?_eq_none (by rw [tab_len]; omega)]
theorem tab_of {α : Type} (d : α) (l : List α) : l = tab (fun i => rdOf d l i) l.length := by
  apply List.ext_getElem?
  intro i
  by_cases c : i < l.length
  · rw [tab_get _ _ i c]
    unfold rdOf
    rw [List.getD_eq_getElem?_getD, Int.toNat_natCast, List.getElem?_eq_getElem c]
    rfl
  · rw [List.getElem?_eq_none (by omega), List.getElem?_eq_none (by rw [tab_len]; omega)]
/-- A table with n entries, of which the first i are laid. -/
theorem tab_set {α : Type} (d : α) (f : Nat → α) (n i : Nat) (h : i < n) : (tab f i ++ List.replicate (n - i) d).set i (f i) = tab f (i + 1) ++ List.replicate (n - (i + 1)) d := by
  have hl := tab_len f i
  have e : n - i = (n - (i + 1)) + 1 := by omega
  rw [List.set_append_right _ _ (by omega), hl, Nat.sub_self, e, List.replicate_succ, List.set_cons_zero, tab_succ, List.append_assoc]
  rfl
theorem rdOf_ext {α : Type} (d : α) {a b : List α} (hl : a.length = b.length) (h : ∀ i : Int, 0 ≤ i → i < a.length → rdOf d a i = rdOf d b i) : a = b := by
  apply List.ext_getElem hl
  intro i h1 h2
  have := h i (by omega) (by omega)
  unfold rdOf at this
  simpa [List.getD_eq_getElem?_getD, h1, h2] using this
theorem rdOf_set_self {α : Type} (d : α) (xs : List α) (v : α) {i : Int} (h0 : 0 ≤ i) (h : i < xs.length) : rdOf d (xs.set i.toNat v) i = v := by
  unfold rdOf
  rw [List.getD_eq_getElem?_getD, List.getElem?_set_self (by omega)]
  rfl
theorem rdOf_set_ne {α : Type} (d : α) (xs : List α) (v : α) {i j : Int} (h0 : 0 ≤ i) (hj : 0 ≤ j) (h : i ≠ j) : rdOf d (xs.set j.toNat v) i = rdOf d xs i := by
  unfold rdOf
  rw [List.getD_eq_getElem?_getD, List.getD_eq_getElem?_getD, List.getElem?_set_ne (by omega)]
theorem rdOf_left {α : Type} (d : α) (xs ys : List α) {i : Int} (h0 : 0 ≤ i) (h : i < xs.length) : rdOf d (xs ++ ys) i = rdOf d xs i := by
  unfold rdOf
  rw [List.getD_eq_getElem?_getD, List.getD_eq_getElem?_getD, List.getElem?_append_left (by omega)]
end Go.Proofs.YtheglgphknahdaaDoor.ThT
/- What the printed functions answer, part Sp: a text split at its line ends is its lines. -/
namespace Go.Proofs.YtheglgphknahdaaDoor.Ev
open Go.RowKit Go.Proofs.YtheglgphknahdaaDoor.X Go.Proofs.YtheglgphknahdaaDoor.Wp Go.Proofs.YtheglgphknahdaaDoorW.PrintWords Go.Proofs.YtheglgphknahdaaDoor.ThL Go.Proofs.YtheglgphknahdaaDoor.ThT
set_option linter.unusedVariables false
set_option linter.unusedSimpArgs false

theorem data_get (s : ByteArray) (n : Nat) (c : UInt8) : s.data.toList[n]? = some c ↔ n < s.size ∧ bt s n = c.toNat := by
  have hlen : s.data.toList.length = s.size := by rw [Array.length_toList]; rfl
  constructor
  · intro h
    have hn : n < s.data.toList.length := by
      rcases Nat.lt_or_ge n s.data.toList.length with h1 | h1
      · exact h1
      · rw [List.getElem?_eq_none h1] at h; cases h
    rw [List.getElem?_eq_getElem hn] at h
    injection h with h
    refine ⟨by omega, ?_⟩
    obtain ⟨p, e⟩ := bt_eq s (i := (n : Int)) (by omega) (by omega)
    rw [e]
    simp only [Int.toNat_natCast]
    have : s[n]'(by omega) = s.data.toList[n]'hn := rfl
    rw [this, h]
  · rintro ⟨h1, h2⟩
    obtain ⟨p, e⟩ := bt_eq s (i := (n : Int)) (by omega) (by omega)
    rw [e] at h2
    rw [List.getElem?_eq_getElem (by omega)]
    congr 1
    apply UInt8.toNat_inj.1
    simp only [Int.toNat_natCast] at h2
    exact_mod_cast h2
theorem ib_cases (s : ByteArray) (c : UInt8) : (Lib.indexByte s.data.toList c = -1 ∧ ∀ j : Int, 0 ≤ j → j < s.size → bt s j ≠ c.toNat) ∨ ∃ o : Nat, Lib.indexByte s.data.toList c = o ∧ o < s.size ∧ bt s o = c.toNat ∧ ∀ j : Int, 0 ≤ j → j < o → bt s j ≠ c.toNat := by
  have hge := Lib.indexByte_ge s.data.toList c
  by_cases h : Lib.indexByte s.data.toList c = -1
  · refine .inl ⟨h, fun j h0 h1 h2 => ?_⟩
    exact Lib.indexByte_none h j.toNat ((data_get s _ _).2 ⟨by omega, by rw [show ((j.toNat : Nat) : Int) = j from by omega]; exact h2⟩)
  · obtain ⟨o, ho⟩ : ∃ o : Nat, Lib.indexByte s.data.toList c = o := ⟨(Lib.indexByte s.data.toList c).toNat, by omega⟩
    obtain ⟨h1, h2⟩ := Lib.indexByte_some ho
    obtain ⟨h3, h4⟩ := (data_get s _ _).1 h1
    refine .inr ⟨o, ho, h3, h4, fun j h0 h5 h6 => ?_⟩
    exact h2 j.toNat (by omega) ((data_get s _ _).2 ⟨by omega, by rw [show ((j.toNat : Nat) : Int) = j from by omega]; exact h6⟩)
theorem count10 (s : ByteArray) : ∀ n, n ≤ s.size → (s.data.toList.take n).count 10 = nl s n
  | 0, _ => by rw [List.take_zero]; rfl
  | n + 1, h => by
    rw [List.take_add_one, List.count_append, count10 s n (by omega), nl_step]
    have hn : n < s.data.toList.length := by rw [Array.length_toList]; exact h
    rw [List.getElem?_eq_getElem hn]
    have hg : s.data.toList[n]? = some (s.data.toList[n]'hn) := List.getElem?_eq_getElem hn
    by_cases e : bt s n = 10
    · have := (data_get s n 10).2 ⟨by omega, e⟩
      rw [hg] at this
      injection this with this
      rw [this, if_pos e]; rfl
    · rw [if_neg e]
      have hne : s.data.toList[n]'hn ≠ 10 := fun h2 => by
        rw [h2] at hg
        exact e ((data_get s n 10).1 hg).2
      rw [Option.toList_some, List.count_singleton, if_neg (by simpa using hne)]
theorem countNl (s : ByteArray) : Lib.countByte s.data.toList 10 = nl s s.size := by
  rw [← count10 s s.size (Nat.le_refl _)]
  unfold Lib.countByte
  rw [List.take_of_length_le]
  rw [Array.length_toList]; exact Nat.le_refl _

/-- The text from line i's beginning on. -/
def rest (s : ByteArray) (i : Nat) : ByteArray := s.extract (st s i) s.size
theorem rest_size (s : ByteArray) {i : Nat} (h : i ≤ nl s s.size) : (rest s i).size = s.size - st s i := by
  unfold rest; rw [ByteArray.size_extract]; omega
theorem rest_bt (s : ByteArray) {i : Nat} (h : i ≤ nl s s.size) {j : Int} (h0 : 0 ≤ j) (h1 : j < (rest s i).size) : bt (rest s i) j = bt s (st s i + j) := by
  obtain ⟨a, _, _⟩ := st_spec s i h
  rw [rest_size s h] at h1
  have := bt_ext s (a := (st s i : Int)) (b := (s.size : Int)) (i := j) (by omega) h0 (by omega) (by omega)
  rw [Int.toNat_natCast, Int.toNat_natCast] at this
  exact this
theorem rest_last (s : ByteArray) : rest s (nl s s.size) = lineAt s (nl s s.size) := by unfold rest lineAt; rw [last_en]
theorem index10 (s : ByteArray) {i : Nat} (h : i < nl s s.size) : strings_Index.f (rest s i) (⟨#[10]⟩ : ByteArray) = some ((en s i - st s i : Nat) : Int) := by
  have h1 : strings_Index.f (rest s i) (⟨#[10]⟩ : ByteArray) = some (Lib.indexByte (rest s i).data.toList 10) := rfl
  rw [h1]
  congr 1
  obtain ⟨a, b, c, d, e⟩ := en_spec s (k := i) (by omega)
  have hlt : en s i < s.size := by
    have := (st_spec s (i + 1) (by omega)).1
    rw [st_succ] at this; omega
  have hz := rest_size s (i := i) (by omega)
  have hat : bt (rest s i) ((en s i - st s i : Nat) : Int) = 10 := by
    rw [rest_bt s (by omega) (by omega) (by omega), show (st s i : Int) + ((en s i - st s i : Nat) : Int) = (en s i : Nat) from by omega]
    exact d hlt
  rcases ib_cases (rest s i) 10 with ⟨_, h2⟩ | ⟨o, h2, h3, h4, h5⟩
  · exact absurd hat (h2 _ (by omega) (by omega))
  · rw [h2]
    have e1 : ¬ o < en s i - st s i := fun h6 => by
      rw [rest_bt s (by omega) (by omega) (by omega)] at h4
      exact c _ (by omega) (by omega) h4
    have e2 : ¬ en s i - st s i < o := fun h6 => h5 _ (by omega) (by omega) hat
    omega

theorem genSplit10 (s : ByteArray) (hs : s.size ≤ 1000000) : W (fun k => strings_genSplit.f k s (⟨#[10]⟩ : ByteArray) 0 (-1)) (fun r => r = lines s) := by
  unfold strings_genSplit.f
  have fin := nl_le s s.size
  refine W.neg (by omega) (W.neg (by rw [toList_data]; simp) (W.pos (by omega) (W.call (show strings_Count.f s (⟨#[10]⟩ : ByteArray) = some (nl s s.size : Int) from by rw [show strings_Count.f s (⟨#[10]⟩ : ByteArray) = some ((Lib.countByte s.data.toList 10 : Nat) : Int) from rfl, countNl]) ?_)))
  rw [w64 (x := (nl s s.size : Int) + 1) (by omega) (by omega)]
  refine W.step (fun k => strings_genSplit.j0.eq_2 ..) ?_
  rw [w64 (x := (s.size : Int) + 1) (by omega) (by omega), show mn ((nl s s.size : Int) + 1) ((s.size : Int) + 1) = ((nl s s.size + 1 : Nat) : Int) from by unfold mn; split <;> omega, Int.toNat_natCast, w64 (x := ((nl s s.size + 1 : Nat) : Int) - 1) (by omega) (by omega), show ((nl s s.size + 1 : Nat) : Int) - 1 = (nl s s.size : Nat) from by omega]
  refine W.pos (by omega) (W.pos (by omega) ?_)
  obtain ⟨m, hm⟩ : ∃ m, m = nl s s.size := ⟨_, rfl⟩
  rw [← hm]
  have hd : (⟨#[]⟩ : ByteArray) = ByteArray.empty := rfl
  have key := W.loop (l := fun (i : Nat) k => strings_genSplit.l0 k (rest s i) (⟨#[10]⟩ : ByteArray) 0 m (tab (lineAt s) i ++ List.replicate (m + 1 - i) (⟨#[]⟩ : ByteArray)) i) (P := fun _ r => r = lines s) (fun i : Nat => i ≤ m) (fun i => m - i) (by
    intro i hi ih
    refine W.step (fun k => strings_genSplit.l0.eq_2 ..) ?_
    have hlen : (tab (lineAt s) i ++ List.replicate (m + 1 - i) (⟨#[]⟩ : ByteArray)).length = m + 1 := by rw [List.length_append, tab_len, List.length_replicate]; omega
    by_cases hlt : i < m
    · have next := ih (i + 1) (by omega) (by omega)
      obtain ⟨a, b, c, d, e⟩ := en_spec s (k := i) (by omega)
      have hes : en s i < s.size := by
        have := (st_spec s (i + 1) (by omega)).1
        rw [st_succ] at this; omega
      have hz := rest_size s (i := i) (by omega)
      have e1 : (rest s i).extract 0 (en s i - st s i) = lineAt s i := by
        unfold rest lineAt
        rw [ByteArray.extract_extract]
        congr 1 <;> omega
      have e2 : (rest s i).extract (en s i - st s i + 1) (rest s i).size = rest s (i + 1) := by
        rw [hz]
        unfold rest
        rw [ByteArray.extract_extract, st_succ]
        congr 1 <;> omega
      rw [show ((i + 1 : Nat) : Int) = (i : Int) + 1 from by omega] at next
      refine W.pos (by omega) (W.call (index10 s (by omega)) (W.neg (by omega) ?_))
      have hone : ((⟨#[10]⟩ : ByteArray).size : Int) = 1 := rfl
      rw [hone, w64 (x := ((en s i - st s i : Nat) : Int) + 0) (by omega) (by omega), w64 (x := ((en s i - st s i : Nat) : Int) + 1) (by omega) (by omega), w64 (x := (i : Int) + 1) (by omega) (by omega), Int.add_zero, Int.toNat_natCast, Int.toNat_natCast, show (((en s i - st s i : Nat) : Int) + 1).toNat = en s i - st s i + 1 from by omega, e1, e2, tab_set _ _ (m + 1) i (by omega)]
      exact W.pos (by omega) (W.pos (by omega) (W.pos (by omega) (W.pos (by omega) (W.pos (by omega) (W.pos (by omega) next)))))
    · have e : i = m := by omega
      subst e
      refine W.neg (by omega) (W.pos (by omega) (W.pos (by omega) ?_))
      rw [w64 (x := (i : Int) + 1) (by omega) (by omega)]
      refine W.pos (by omega) (W.pos (by omega) (W.ret ?_))
      rw [Int.toNat_natCast, show ((i : Int) + 1).toNat = i + 1 from by omega]
      have hl : rest s i = lineAt s i := by rw [hm]; exact rest_last s
      rw [hl, tab_set _ _ (i + 1) i (by omega), Nat.sub_self, List.replicate_zero, List.append_nil, List.take_of_length_le (by rw [tab_len]; exact Nat.le_refl _)]
      unfold lines
      rw [← hm]
      clear hlt hlen hl ih hi
      induction (i + 1) with
      | zero => rfl
      | succ n ih => rw [tab_succ, lns_succ, ih]) 0 (by omega)
  have e0 : rest s 0 = s := by
    unfold rest
    rw [show st s 0 = 0 from rfl]
    exact ByteArray.extract_zero_size
  rw [e0] at key
  exact key
theorem linesOfW (s : ByteArray) (hs : s.size ≤ 1000000) : W (fun k => impl_linesOf.f k s) (fun r => r = lines s) := by
  unfold impl_linesOf.f strings_Split.f
  exact W.bind_eq (W.bind_eq (genSplit10 s hs) (W.ret rfl)) (W.ret rfl)
theorem implLinesOf (s : ByteArray) (hs : s.size ≤ 140737488351232) : W (fun k => impl_LinesOf.f k s) (fun r => r = if VT s then lines s else []) := by
  unfold impl_LinesOf.f
  refine W.bind (implTV s hs) (fun b hb => W.ite (fun h => ?_) (fun h => W.ret (by rw [if_neg (fun hv => h (hb.2 hv))])))
  have hv := hb.1 h
  rw [if_pos hv]
  exact W.bind_eq (linesOfW s (by have := hv.1; omega)) (W.ret rfl)
end Go.Proofs.YtheglgphknahdaaDoor.Ev
/- What the printed functions answer, part Cs: the states before a text's lines, the colours of its lines. -/
namespace Go.Proofs.YtheglgphknahdaaDoor.Ev
open Go.RowKit Go.Proofs.YtheglgphknahdaaDoor.X Go.Proofs.YtheglgphknahdaaDoor.Wp Go.Proofs.YtheglgphknahdaaDoorW.PrintWords Go.Proofs.YtheglgphknahdaaDoor.ThL Go.Proofs.YtheglgphknahdaaDoor.ThC Go.Proofs.YtheglgphknahdaaDoor.ThT
set_option linter.unusedVariables false
set_option linter.unusedSimpArgs false

/-- The state before line k. -/
def cst (s : ByteArray) : Nat → Int
  | 0 => 0
  | k + 1 => (crun (cst s k) (lineAt s k) (lineAt s k).size).1
theorem cst_range (s : ByteArray) : ∀ k, 0 ≤ cst s k ∧ cst s k ≤ 9
  | 0 => ⟨Int.le_refl 0, show (0 : Int) ≤ 9 by decide⟩
  | k + 1 => by
    have := cst_range s k
    exact crun_range _ this.1 this.2 _
/-- The colours of line k. -/
def ccol (s : ByteArray) (k : Nat) : ByteArray := colT (cst s k) (lineAt s k) (lineAt s k).size
theorem lineAt_le (s : ByteArray) (k : Nat) : (lineAt s k).size ≤ s.size := by
  unfold lineAt; rw [ByteArray.size_extract]; omega
theorem colourAt (s : ByteArray) (hs : s.size ≤ 1000000) (k : Nat) : impl_colour.f (cst s k) (lineAt s k) = some (cst s (k + 1), ccol s k) := by
  have := cst_range s k
  have := lineAt_le s k
  unfold impl_colour.f; rw [if_pos ⟨by omega, by omega, by omega⟩]; rfl
theorem lines_tab (s : ByteArray) : lines s = tab (lineAt s) (nl s s.size + 1) := by
  unfold lines
  induction (nl s s.size + 1) with
  | zero => rfl
  | succ n ih => rw [tab_succ, lns_succ, ih]

theorem implStates (s : ByteArray) (hs : s.size ≤ 140737488351232) : W (fun k => impl_ColourStates.f k s) (fun r => r = if VT s then tab (cst s) (nl s s.size + 2) else []) := by
  unfold impl_ColourStates.f
  refine W.bind (implTV s hs) (fun b hb => W.ite (fun h => ?_) (fun h => W.ret (by rw [if_neg (fun hv => h (hb.2 hv))])))
  have hv := hb.1 h
  have hsz := hv.1
  rw [if_pos hv]
  have fin := nl_le s s.size
  refine W.bind_eq (linesOfW s (by omega)) ?_
  have hl := lines_len s
  rw [hl]
  have key := W.loop (l := fun (i : Nat) k => impl_ColourStates.l0 k (tab (cst s) (i + 1)) (lines s) ((nl s s.size + 1 : Nat) : Int) i) (P := fun _ r => r = tab (cst s) (nl s s.size + 2)) (fun i : Nat => i ≤ nl s s.size + 1) (fun i => nl s s.size + 1 - i) (by
    intro i hi ih
    refine W.step (fun k => impl_ColourStates.l0.eq_2 ..) ?_
    have ht := tab_len (cst s) (i + 1)
    by_cases hlt : i < nl s s.size + 1
    · have next := ih (i + 1) (by omega) (by omega)
      rw [tab_succ, show ((i + 1 : Nat) : Int) = (i : Int) + 1 from by omega] at next
      rw [w64 (x := ((tab (cst s) (i + 1)).length : Int) - 1) (by omega) (by omega), w64 (x := (i : Int) + 1) (by omega) (by omega)]
      refine W.pos (by omega) (W.pos (by omega) (W.pos (by omega) (W.pos (by omega) (W.pos (by omega) ?_))))
      rw [show rd (tab (cst s) (i + 1)) (((tab (cst s) (i + 1)).length : Int) - 1) = cst s i from by rw [rd_tab _ _ (by omega) (by omega), show (((tab (cst s) (i + 1)).length : Int) - 1).toNat = i from by omega], lines_get s (by omega) (by omega), Int.toNat_natCast]
      exact W.call (colourAt s (by omega) i) (W.pos (by omega) next)
    · have e : i = nl s s.size + 1 := by omega
      subst e
      exact W.neg (by omega) (W.ret rfl)) 0 (by omega)
  exact key
theorem specStates (s : ByteArray) (hs : s.size ≤ 140737488351232) : W (fun k => spec_ColourStates.f k s) (fun r => r = if VT s then tab (cst s) (nl s s.size + 2) else []) := by
  unfold spec_ColourStates.f
  refine W.bind_eq (specLinesOf s hs) ?_
  by_cases hv : VT s
  · rw [if_pos hv, if_pos hv]
    have hsz := hv.1
    have fin := nl_le s s.size
    have hl := lines_len s
    have key := W.loop (l := fun (i : Nat) k => spec_ColourStates.l0 k (lines s) (tab (cst s) i) (cst s i) i) (P := fun _ r => r = tab (cst s) (nl s s.size + 2)) (fun i : Nat => i ≤ nl s s.size + 1) (fun i => nl s s.size + 1 - i) (by
      intro i hi ih
      refine W.step (fun k => spec_ColourStates.l0.eq_2 ..) ?_
      have ht := tab_len (cst s) i
      by_cases hlt : i < nl s s.size + 1
      · have next := ih (i + 1) (by omega) (by omega)
        have rg := cst_range s i
        have lz := lineAt_le s i
        rw [tab_succ, show ((i + 1 : Nat) : Int) = (i : Int) + 1 from by omega] at next
        rw [w64 (x := (i : Int) + 1) (by omega) (by omega), lines_get s (by omega) (by omega), Int.toNat_natCast]
        exact W.pos (by omega) (W.pos (by omega) (W.pos (by omega) (W.bind_eq (specLine _ _ rg.1 rg.2 (by omega)) next)))
      · have e : i = nl s s.size + 1 := by omega
        subst e
        refine W.neg (by omega) (W.pos (by omega) (W.pos (by omega) (W.ret rfl)))) 0 (by omega)
    exact key
  · rw [if_neg hv, if_neg hv]
    exact W.step (fun k => spec_ColourStates.l0.eq_2 ..) (W.neg (by simp) (W.neg (by simp) (W.ret rfl)))
theorem implCText (s : ByteArray) (hs : s.size ≤ 140737488351232) : W (fun k => impl_ColourText.f k s) (fun r => r = if VT s then tab (ccol s) (nl s s.size + 1) else []) := by
  unfold impl_ColourText.f
  refine W.bind (implTV s hs) (fun b hb => W.ite (fun h => ?_) (fun h => W.ret (by rw [if_neg (fun hv => h (hb.2 hv))])))
  have hv := hb.1 h
  have hsz := hv.1
  rw [if_pos hv]
  have fin := nl_le s s.size
  refine W.bind_eq (linesOfW s (by omega)) ?_
  have hl := lines_len s
  rw [hl]
  have key := W.loop (l := fun (i : Nat) k => impl_ColourText.l0 k (tab (ccol s) i) (cst s i) (lines s) ((nl s s.size + 1 : Nat) : Int) i) (P := fun _ r => r = tab (ccol s) (nl s s.size + 1)) (fun i : Nat => i ≤ nl s s.size + 1) (fun i => nl s s.size + 1 - i) (by
    intro i hi ih
    refine W.step (fun k => impl_ColourText.l0.eq_2 ..) ?_
    have ht := tab_len (ccol s) i
    by_cases hlt : i < nl s s.size + 1
    · have next := ih (i + 1) (by omega) (by omega)
      rw [tab_succ, show ((i + 1 : Nat) : Int) = (i : Int) + 1 from by omega] at next
      rw [w64 (x := (i : Int) + 1) (by omega) (by omega), lines_get s (by omega) (by omega), Int.toNat_natCast]
      exact W.pos (by omega) (W.pos (by omega) (W.pos (by omega) (W.call (colourAt s (by omega) i) (W.pos (by omega) next))))
    · have e : i = nl s s.size + 1 := by omega
      subst e
      exact W.neg (by omega) (W.ret rfl)) 0 (by omega)
  exact key
theorem specCText (s : ByteArray) (hs : s.size ≤ 140737488351232) : W (fun k => spec_ColourText.f k s) (fun r => r = if VT s then tab (ccol s) (nl s s.size + 1) else []) := by
  unfold spec_ColourText.f
  refine W.bind_eq (specLinesOf s hs) ?_
  by_cases hv : VT s
  · rw [if_pos hv, if_pos hv]
    have hsz := hv.1
    have fin := nl_le s s.size
    have hl := lines_len s
    have key := W.loop (l := fun (i : Nat) k => spec_ColourText.l0 k (lines s) (tab (ccol s) i) (cst s i) i) (P := fun _ r => r = tab (ccol s) (nl s s.size + 1)) (fun i : Nat => i ≤ nl s s.size + 1) (fun i => nl s s.size + 1 - i) (by
      intro i hi ih
      refine W.step (fun k => spec_ColourText.l0.eq_2 ..) ?_
      have ht := tab_len (ccol s) i
      by_cases hlt : i < nl s s.size + 1
      · have next := ih (i + 1) (by omega) (by omega)
        have rg := cst_range s i
        have lz := lineAt_le s i
        rw [tab_succ, show ((i + 1 : Nat) : Int) = (i : Int) + 1 from by omega] at next
        rw [w64 (x := (i : Int) + 1) (by omega) (by omega), lines_get s (by omega) (by omega), Int.toNat_natCast]
        exact W.pos (by omega) (W.pos (by omega) (W.bind_eq (specLine _ _ rg.1 rg.2 (by omega)) (W.pos (by omega) next)))
      · have e : i = nl s s.size + 1 := by omega
        subst e
        exact W.neg (by omega) (W.ret rfl)) 0 (by omega)
    exact key
  · rw [if_neg hv, if_neg hv]
    exact W.step (fun k => spec_ColourText.l0.eq_2 ..) (W.neg (by simp) (W.ret rfl))
end Go.Proofs.YtheglgphknahdaaDoor.Ev
/- Reading lists. -/
namespace Go.Proofs.YtheglgphknahdaaDoor.Ev
open Go.RowKit Go.Proofs.YtheglgphknahdaaDoorW.PrintWords
theorem rd_take' (xs : List Int) (n : Nat) {i : Int} (h0 : 0 ≤ i) (h : i < n) : rd (xs.take n) i = rd xs i := by
  unfold rd
  rw [List.getD_eq_getElem?_getD, List.getD_eq_getElem?_getD, List.getElem?_take, if_pos (by omega)]
end Go.Proofs.YtheglgphknahdaaDoor.Ev
/- What the printed functions answer, part D: drawn texts. They end, and what they draw is short. -/
namespace Go.Proofs.YtheglgphknahdaaDoor.Ev
open Go.RowKit Go.Proofs.YtheglgphknahdaaDoor.X Go.Proofs.YtheglgphknahdaaDoor.Wp Go.Proofs.YtheglgphknahdaaDoorW.PrintWords
set_option linter.unusedVariables false
set_option linter.unusedSimpArgs false

/-- A reader's bytes. -/
def RB (b : List Int) : Prop := ∀ j : Int, 0 ≤ j → j < b.length → 0 ≤ rd b j ∧ rd b j ≤ 255
theorem RB_of {l : List Int} (h : ∀ x ∈ l, (Lit.int .u8 x).wf = true) : RB l := by
  intro j h0 h1
  have hm : rd l j ∈ l := by
    unfold rd
    rw [List.getD_eq_getElem?_getD, List.getElem?_eq_getElem (by omega)]
    exact List.getElem_mem _
  have := h _ hm
  simp [Lit.wf, IntKind.min, IntKind.max, IntKind.signed, IntKind.bits] at this
  omega
theorem RB_take {l : List Int} (h : RB l) (n : Nat) : RB (l.take n) := by
  intro j h0 h1
  rw [List.length_take] at h1
  rw [rd_take' l n h0 (by omega)]
  exact h j h0 (by omega)

theorem xor_nonneg {a b : Int} (a0 : 0 ≤ a) (a1 : a < 4611686018427387904) (b0 : 0 ≤ b) (b1 : b < 4611686018427387904) : 0 ≤ Go.bits .xor .i64 a b := by
  obtain ⟨x, rfl⟩ := Int.eq_ofNat_of_zero_le a0
  obtain ⟨y, rfl⟩ := Int.eq_ofNat_of_zero_le b0
  have hx : x < 2 ^ 62 := by omega
  have hy : y < 2 ^ 62 := by omega
  have h := Nat.xor_lt_two_pow hx hy
  simp only [Go.bits, BitVec.ofInt_natCast, BitVec.toNat_xor, BitVec.toNat_ofNat]
  rw [Nat.mod_eq_of_lt (show x < 2 ^ IntKind.i64.bits from Nat.lt_of_lt_of_le hx (by decide)), Nat.mod_eq_of_lt (show y < 2 ^ IntKind.i64.bits from Nat.lt_of_lt_of_le hy (by decide))]
  show 0 ≤ IntKind.i64.wrap ((x ^^^ y : Nat) : Int)
  rw [IntKind.wrap_i64]
  omega

theorem tmod_in {a n : Int} (h0 : 0 ≤ a) (h1 : 0 < n) : 0 ≤ Int.tmod a n ∧ Int.tmod a n < n := by
  rw [Int.tmod_eq_emod_of_nonneg h0]
  exact ⟨Int.emod_nonneg _ (by omega), Int.emod_lt_of_pos _ h1⟩

theorem pickW {b : List Int} {p n : Int} (hb : RB b) (hp : 0 ≤ p) (hp2 : p ≤ 1000000000) (hn : n ≤ 1000000000) : W (fun k => spec_l20Rd_pick.f k b p n) (fun r => 0 ≤ r.1 ∧ (r.1 < n ∨ r.1 = 0) ∧ r.2 = p + 1) := by
  unfold spec_l20Rd_pick.f
  rw [w64 (x := p + 1) (by omega) (by omega)]
  have zero : W (fun k => spec_l20Rd_pick.j0 k n true b (p + 1)) (fun r => 0 ≤ r.1 ∧ (r.1 < n ∨ r.1 = 0) ∧ r.2 = p + 1) :=
    W.step (fun k => spec_l20Rd_pick.j0.eq_2 ..) (W.pos rfl (W.ret ⟨by simp, .inr rfl, rfl⟩))
  refine W.ite (fun _ => zero) (fun hn1 => ?_)
  by_cases hl : (b.length : Int) = 0
  · rw [show ((b.length : Int) == 0) = true from by simpa using hl]
    exact zero
  · rw [show ((b.length : Int) == 0) = false from by simpa using hl]
    refine W.step (fun k => spec_l20Rd_pick.j0.eq_2 ..) (W.neg (by decide) ?_)
    rw [w64 (x := p + 1 - 1) (by omega) (by omega), show p + 1 - 1 = p from by omega]
    refine W.ite (fun hlt => W.pos hp (W.neg (by omega) ?_)) (fun hge => W.neg hl ?_)
    · have h := hb p hp hlt
      rw [w64 (x := rd b p) (by omega) (by omega)]
      have := tmod_in (a := rd b p) (n := n) h.1 (by omega)
      exact W.ret ⟨this.1, .inl this.2, rfl⟩
    · rw [w64 (x := p * 7) (by omega) (by omega), w64 (x := p * 7 + 3) (by omega) (by omega), w64 (x := p * 29) (by omega) (by omega)]
      have i1 := tmod_in (a := p) (n := (b.length : Int)) hp (by omega)
      have i2 := tmod_in (a := p * 7 + 3) (n := (b.length : Int)) (by omega) (by omega)
      have h1 := hb _ i1.1 i1.2
      have h2 := hb _ i2.1 i2.2
      have q1 : 0 ≤ Int.tdiv p (b.length : Int) ∧ Int.tdiv p (b.length : Int) ≤ p := by
        rw [Int.tdiv_eq_ediv_of_nonneg hp]
        exact ⟨Int.ediv_nonneg hp (by omega), Int.ediv_le_self _ hp⟩
      refine W.pos i1.1 (W.pos i1.2 (W.pos i2.1 (W.pos i2.2 (W.neg (by omega) ?_))))
      obtain ⟨u, hu⟩ : ∃ u, u = rd b (Int.tmod p (b.length : Int)) := ⟨_, rfl⟩
      obtain ⟨v, hv⟩ : ∃ v, v = rd b (Int.tmod (p * 7 + 3) (b.length : Int)) := ⟨_, rfl⟩
      obtain ⟨q, hq⟩ : ∃ q, q = Int.tdiv p (b.length : Int) := ⟨_, rfl⟩
      rw [← hu] at h1
      rw [← hv] at h2
      rw [← hq] at q1
      rw [← hu, ← hv, ← hq]
      rw [w64 (x := u) (by omega) (by omega), w64 (x := v) (by omega) (by omega), w64 (x := q) (by omega) (by omega), w64 (x := u * 131) (by omega) (by omega), w64 (x := v * 1117) (by omega) (by omega), w64 (x := q * 53) (by omega) (by omega),
        w64 (x := u * 131 + v * 1117) (by omega) (by omega), w64 (x := u * 131 + v * 1117 + p * 29) (by omega) (by omega), w64 (x := u * 131 + v * 1117 + p * 29 + q * 53) (by omega) (by omega)]
      obtain ⟨x, hx⟩ : ∃ x, x = u * 131 + v * 1117 + p * 29 + q * 53 := ⟨_, rfl⟩
      have x0 : 0 ≤ x ∧ x ≤ 1000000000000 := by omega
      rw [← hx]
      have x1 : 0 ≤ Int.tdiv x 64 ∧ Int.tdiv x 64 ≤ x := by
        rw [Int.tdiv_eq_ediv_of_nonneg x0.1]
        omega
      rw [w64 (x := Int.tdiv x 64) (by omega) (by omega)]
      have := tmod_in (n := n) (xor_nonneg (a := x) (b := Int.tdiv x 64) (by omega) (by omega) (by omega) (by omega)) (by omega)
      exact W.ret ⟨this.1, .inl this.2, rfl⟩

theorem oddW {b : List Int} {p n : Int} (hb : RB b) (hp : 0 ≤ p) (hp2 : p ≤ 1000000000) (hn : n ≤ 1000000000) : W (fun k => spec_l20Rd_odd.f k b p n) (fun r => p ≤ r.2 ∧ r.2 ≤ p + 1) := by
  unfold spec_l20Rd_odd.f
  refine W.ite (fun _ => W.bind (pickW hb hp hp2 hn) (fun a ha => W.ret ?_)) (fun _ => W.ret (by dsimp only; omega))
  dsimp only; omega

theorem rdOf_size {parts : List ByteArray} {m : Nat} (h : ∀ x ∈ parts, x.size ≤ m) (i : Int) : (rdOf ByteArray.empty parts i).size ≤ m := by
  unfold rdOf
  rw [List.getD_eq_getElem?_getD]
  cases hx : parts[i.toNat]? with
  | none => simp
  | some y => exact h y (List.mem_of_getElem? hx)

theorem textW {b : List Int} {p n : Int} (hb : RB b) (hp : 0 ≤ p) (hp2 : p ≤ 1000000) (hn : n ≤ 1000000000) : W (fun k => spec_l20Text.f k b p n) (fun r => r.1.size ≤ 125 ∧ p ≤ r.2 ∧ r.2 ≤ p + 30) := by
  unfold spec_l20Text.f
  refine W.bind (pickW hb hp (by omega) (by omega)) (fun a ha => ?_)
  obtain ⟨a1, a2⟩ := a
  dsimp only at ha ⊢
  obtain ⟨parts, hparts, hlen, hsz⟩ : ∃ parts : List ByteArray, parts = [(⟨#[97]⟩ : ByteArray), (⟨#[98]⟩ : ByteArray), (⟨#[97, 98]⟩ : ByteArray), (⟨#[119, 111, 114, 100]⟩ : ByteArray), (⟨#[120, 49]⟩ : ByteArray), (⟨#[32]⟩ : ByteArray), (⟨#[32]⟩ : ByteArray), (⟨#[32, 32]⟩ : ByteArray), (⟨#[10]⟩ : ByteArray), (⟨#[10]⟩ : ByteArray), (⟨#[10, 32, 32]⟩ : ByteArray), (⟨#[40]⟩ : ByteArray), (⟨#[41]⟩ : ByteArray), (⟨#[91, 97, 93]⟩ : ByteArray), (⟨#[123, 99, 125]⟩ : ByteArray), (⟨#[123]⟩ : ByteArray), (⟨#[125]⟩ : ByteArray), (⟨#[46]⟩ : ByteArray), (⟨#[34]⟩ : ByteArray), (⟨#[34, 115, 34]⟩ : ByteArray), (⟨#[55]⟩ : ByteArray), (⟨#[102, 111, 111, 32, 98, 97, 114]⟩ : ByteArray), (⟨#[92]⟩ : ByteArray), (⟨#[97, 97]⟩ : ByteArray)] ∧ parts.length = 24 ∧ ∀ x ∈ parts, x.size ≤ 7 := ⟨_, rfl, rfl, by
    intro x hx
    simp only [List.mem_cons, List.mem_nil_iff, or_false] at hx
    rcases hx with rfl | rfl | rfl | rfl | rfl | rfl | rfl | rfl | rfl | rfl | rfl | rfl | rfl | rfl | rfl | rfl | rfl | rfl | rfl | rfl | rfl | rfl | rfl | rfl <;> decide⟩
  rw [← hparts]
  have last : ∀ (s : ByteArray) (q : Int), s.size ≤ 125 → p ≤ q → q ≤ p + 30 → W (fun k => spec_l20Text.l1 k s b q) (fun r => r.1.size ≤ 125 ∧ p ≤ r.2 ∧ r.2 ≤ p + 30) := by
    intro s q hs h0 h1
    refine W.loop (l := fun s k => spec_l20Text.l1 k s b q) (P := fun _ r => r.1.size ≤ 125 ∧ p ≤ r.2 ∧ r.2 ≤ p + 30) (fun s : ByteArray => s.size ≤ 125) (fun s => 121 - s.size) ?_ s hs
    intro s hs ih
    refine W.step (fun k => spec_l20Text.l1.eq_2 ..) (W.ite (fun h => W.pos (by omega) (ih _ ?_ ?_)) (fun h => W.ret ⟨hs, h0, h1⟩))
    · rw [ByteArray.size_append]; show s.size + 5 ≤ 125; omega
    · rw [ByteArray.size_append]; show 121 - (s.size + 5) < 121 - s.size; omega
  refine W.loop (l := fun (z : ByteArray × Int × Int) k => spec_l20Text.l0 k n z.1 parts z.2.1 b z.2.2) (P := fun _ r => r.1.size ≤ 125 ∧ p ≤ r.2 ∧ r.2 ≤ p + 30) (fun z => z.1.size + 7 * z.2.1 ≤ 161 ∧ z.2.1 ≤ 23 ∧ -1 ≤ z.2.1 ∧ p ≤ z.2.2 ∧ z.2.2 + z.2.1 ≤ p + 24) (fun z => z.2.1.toNat) ?_ (⟨#[]⟩, a1, a2) ⟨by show 0 + 7 * a1 ≤ 161; omega, by dsimp only; omega, by dsimp only; omega, by dsimp only; omega, by dsimp only; omega⟩
  rintro ⟨s, c, q⟩ ⟨h1, h2, h3, h4, h5⟩ ih
  dsimp only at h1 h2 h3 h4 h5 ⊢
  refine W.step (fun k => spec_l20Text.l0.eq_2 ..) (W.ite (fun hc => ?_) (fun hc => ?_))
  · refine W.bind (pickW hb (by omega) (by omega) (by omega)) (fun d hd => ?_)
    have hr := rdOf_size hsz d.1
    rw [w64 (x := c - 1) (by omega) (by omega)]
    refine W.pos hd.1 (W.pos (by omega) (W.pos (by omega) (ih (_, c - 1, d.2) ⟨?_, ?_, ?_, ?_, ?_⟩ ?_)))
    · dsimp only; rw [ByteArray.size_append]; omega
    all_goals (dsimp only; omega)
  · have hmn : mn (s.size : Int) 120 ≤ s.size ∧ 0 ≤ mn (s.size : Int) 120 ∧ mn (s.size : Int) 120 ≤ 120 := by unfold mn; split <;> omega
    have hsz2 : (s.extract 0 (mn (s.size : Int) 120).toNat).size ≤ 120 := by rw [ByteArray.size_extract]; omega
    refine W.pos hmn.2.1 (W.pos hmn.1 (W.bind (oddW hb (by omega) (by omega) hn) (fun o ho => W.ite (fun _ => ?_) (fun _ => W.ret ⟨by dsimp only; omega, by dsimp only; omega, by dsimp only; omega⟩))))
    refine W.bind (pickW hb (by omega) (by omega) (by omega)) (fun d hd => W.ite (fun _ => W.pos (by omega) (W.ret ⟨?_, by dsimp only; omega, by dsimp only; omega⟩)) (fun _ => W.ite (fun _ => W.pos (by omega) (W.ret ⟨?_, by dsimp only; omega, by dsimp only; omega⟩)) (fun _ => last _ _ (by omega) (by omega) (by omega))))
    · dsimp only; rw [ByteArray.size_append]; show _ + 1 ≤ 125; omega
    · dsimp only; rw [ByteArray.size_append]; show _ + 1 ≤ 125; omega

theorem openW {l : List Int} (h : RB l) : ∃ b, spec_l20Open.f l = some (b, 0) ∧ RB b := by
  unfold spec_l20Open.f
  by_cases hl : (l.length : Int) > 2000
  · exact ⟨l.take 2000, by rw [if_pos hl, if_pos (by omega)], RB_take h _⟩
  · exact ⟨l, by rw [if_neg hl], h⟩
end Go.Proofs.YtheglgphknahdaaDoor.Ev
/- What the printed functions answer, part Sm: lists held against each other. -/
namespace Go.Proofs.YtheglgphknahdaaDoor.Ev
open Go.RowKit Go.Proofs.YtheglgphknahdaaDoor.X Go.Proofs.YtheglgphknahdaaDoor.Wp Go.Proofs.YtheglgphknahdaaDoorW.PrintWords Go.Proofs.YtheglgphknahdaaDoor.ThB Go.Proofs.YtheglgphknahdaaDoor.ThT
set_option linter.unusedVariables false
set_option linter.unusedSimpArgs false

theorem sameIntsW (a b : List Int) (ha : a.length ≤ 140737488351232) : W (fun k => laws_sameInts.f k a b) (fun r => r = true ↔ a = b) := by
  unfold laws_sameInts.f
  refine W.ite (fun hl => ?_) (fun hl => W.ret ⟨fun h => by simp at h, fun h => absurd (by rw [h]) hl⟩)
  refine W.loop (l := fun i k => laws_sameInts.l0 k a b i) (P := fun _ r => r = true ↔ a = b) (fun i : Int => 0 ≤ i ∧ i ≤ a.length ∧ ∀ j, 0 ≤ j → j < i → rd a j = rd b j) (fun i => (a.length - i).toNat) ?_ 0 ⟨by omega, by omega, fun j h0 h1 => by omega⟩
  intro i ⟨h0, h1, h2⟩ ih
  refine W.step (fun k => laws_sameInts.l0.eq_2 ..) ?_
  by_cases hlt : i < a.length
  · rw [w64 (x := i + 1) (by omega) (by omega)]
    refine W.pos hlt (W.pos h0 (W.pos (by omega) (W.ite (fun he => ih (i + 1) ⟨by omega, by omega, fun j h3 h4 => ?_⟩ (by omega)) (fun he => W.ret ⟨fun h => by simp at h, fun h => absurd (by rw [h]) he⟩))))
    by_cases e : j = i
    · subst e; exact he
    · exact h2 j h3 (by omega)
  · refine W.neg hlt (W.ret ⟨fun _ => rd_ext (by omega) (fun j h3 h4 => h2 j h3 (by omega)), fun _ => rfl⟩)
theorem sameTextsW (a b : List ByteArray) (ha : a.length ≤ 140737488351232) : W (fun k => laws_sameTexts.f k a b) (fun r => r = true ↔ a = b) := by
  unfold laws_sameTexts.f
  refine W.ite (fun hl => ?_) (fun hl => W.ret ⟨fun h => by simp at h, fun h => absurd (by rw [h]) hl⟩)
  refine W.loop (l := fun i k => laws_sameTexts.l0 k a b i) (P := fun _ r => r = true ↔ a = b) (fun i : Int => 0 ≤ i ∧ i ≤ a.length ∧ ∀ j, 0 ≤ j → j < i → rdOf ByteArray.empty a j = rdOf ByteArray.empty b j) (fun i => (a.length - i).toNat) ?_ 0 ⟨by omega, by omega, fun j h0 h1 => by omega⟩
  intro i ⟨h0, h1, h2⟩ ih
  refine W.step (fun k => laws_sameTexts.l0.eq_2 ..) ?_
  by_cases hlt : i < a.length
  · rw [w64 (x := i + 1) (by omega) (by omega)]
    refine W.pos hlt (W.pos h0 (W.pos (by omega) (W.ite (fun he => ih (i + 1) ⟨by omega, by omega, fun j h3 h4 => ?_⟩ (by omega)) (fun he => W.ret ⟨fun h => by simp at h, fun h => absurd (by rw [h]) he⟩))))
    by_cases e : j = i
    · subst e; exact toList_inj.1 he
    · exact h2 j h3 (by omega)
  · refine W.neg hlt (W.ret ⟨fun _ => rdOf_ext ByteArray.empty (by omega) (fun j h3 h4 => h2 j h3 (by omega)), fun _ => rfl⟩)
end Go.Proofs.YtheglgphknahdaaDoor.Ev
/- What the printed functions answer, part L: 'alive'. -/
namespace Go.Proofs.YtheglgphknahdaaDoor.Ev
open Go.RowKit Go.Proofs.YtheglgphknahdaaDoor.X Go.Proofs.YtheglgphknahdaaDoor.Wp Go.Proofs.YtheglgphknahdaaDoorW.PrintWords
set_option linter.unusedVariables false
set_option linter.unusedSimpArgs false

theorem aliveW : W (fun k => laws_alive.f k) (· = true) := by
  have hv : VT (⟨#[97, 10, 98]⟩ : ByteArray) := by
    refine ⟨by decide, fun j h0 h1 => ?_⟩
    have h3 : ((⟨#[97, 10, 98]⟩ : ByteArray).size : Int) = 3 := rfl
    have : j = 0 ∨ j = 1 ∨ j = 2 := by omega
    rcases this with rfl | rfl | rfl
    · right; decide
    · left; rfl
    · right; decide
  unfold laws_alive.f impl_LineMany.f
  refine W.bind_eq (a := 2) (W.bind_eq (tv_pos (implTV _ (by decide)) hv) (W.pos rfl (W.call (r := 1) rfl (W.ret ?_)))) (W.ret rfl)
  exact w64 (by omega) (by omega)
theorem alive_then : W (fun k => (laws_alive.f k).bind fun t => some t) (· = true) := W.bind_eq aliveW (W.ret rfl)
end Go.Proofs.YtheglgphknahdaaDoor.Ev
/- What the printed functions answer, part Cl: lines coloured one after the other; a text with further lines. -/
namespace Go.Proofs.YtheglgphknahdaaDoor.Ev
open Go.RowKit Go.Proofs.YtheglgphknahdaaDoor.X Go.Proofs.YtheglgphknahdaaDoor.Wp Go.Proofs.YtheglgphknahdaaDoorW.PrintWords Go.Proofs.YtheglgphknahdaaDoor.ThL Go.Proofs.YtheglgphknahdaaDoor.ThC Go.Proofs.YtheglgphknahdaaDoor.ThT
set_option linter.unusedVariables false
set_option linter.unusedSimpArgs false

theorem drawCS {l : List Int} (hw : ∀ x ∈ l, (Lit.int .u8 x).wf = true) : W (fun k => spec_DrawColourStates.f k l) (fun s => s.size ≤ 125) := by
  obtain ⟨b, he, hb⟩ := openW (RB_of hw)
  unfold spec_DrawColourStates.f
  exact W.call he (W.bind (textW hb (Int.le_refl 0) (show (0 : Int) ≤ 1000000 by decide) (by omega)) (fun r hr => W.ret hr.1))
theorem drawCT {l : List Int} (hw : ∀ x ∈ l, (Lit.int .u8 x).wf = true) : W (fun k => spec_DrawColourText.f k l) (fun s => s.size ≤ 125) := by
  obtain ⟨b, he, hb⟩ := openW (RB_of hw)
  unfold spec_DrawColourText.f
  exact W.call he (W.bind (textW hb (Int.le_refl 0) (show (0 : Int) ≤ 1000000 by decide) (by omega)) (fun r hr => W.ret hr.1))
theorem lineAt_VT {s : ByteArray} (hv : VT s) {k : Nat} (h : k ≤ nl s s.size) : VT (lineAt s k) := by
  have := lineAt_le s k
  refine ⟨by have := hv.1; omega, fun j h0 h1 => ?_⟩
  rw [lineAt_bt s h h0 h1]
  have hz := lineAt_size s h
  obtain ⟨a, b, _⟩ := en_spec s h
  exact hv.2 _ (by omega) (by omega)
theorem clAt {s : ByteArray} (hv : VT s) {k : Nat} (h : k ≤ nl s s.size) : clRes (cst s k) (lineAt s k) = (cst s (k + 1), ccol s k, true) := by
  unfold clRes
  rw [if_pos ⟨cst_range s k, lineAt_VT hv h, (nl_zero_iff _).2 (fun j h0 h1 => lineAt_plain s h h0 h1)⟩]
  rfl
theorem states_len (s : ByteArray) : (if VT s then tab (cst s) (nl s s.size + 2) else []).length ≤ 140737488351232 := by
  have := nl_le s s.size
  split
  · rename_i hv
    have := hv.1
    rw [tab_len]; omega
  · simp
theorem colours_len (s : ByteArray) : (if VT s then tab (ccol s) (nl s s.size + 1) else []).length ≤ 140737488351232 := by
  have := nl_le s s.size
  split
  · rename_i hv
    have := hv.1
    rw [tab_len]; omega
  · simp

/-- A text, a line end, another text. -/
theorem join_bt (s t : ByteArray) {i : Int} (h0 : 0 ≤ i) (h : i < s.size) : bt ((s ++ (⟨#[10]⟩ : ByteArray)) ++ t) i = bt s i := by
  rw [bt_cat_left _ _ (by rw [ByteArray.size_append]; omega), bt_cat_left _ _ (by omega)]
theorem join_mid (s t : ByteArray) : bt ((s ++ (⟨#[10]⟩ : ByteArray)) ++ t) s.size = 10 := by
  have h1 : (⟨#[10]⟩ : ByteArray).size = 1 := rfl
  rw [bt_cat_left _ _ (by rw [ByteArray.size_append]; omega), bt_cat_right _ _ (by omega), Int.sub_self]; rfl
theorem join_size (s t : ByteArray) : ((s ++ (⟨#[10]⟩ : ByteArray)) ++ t).size = s.size + 1 + t.size := by
  rw [ByteArray.size_append, ByteArray.size_append]; rfl
theorem join_en (s t : ByteArray) {k : Nat} (h : k ≤ nl s s.size) (e : st ((s ++ (⟨#[10]⟩ : ByteArray)) ++ t) k = st s k) : en ((s ++ (⟨#[10]⟩ : ByteArray)) ++ t) k = en s k := by
  obtain ⟨a, b, c, d, _⟩ := en_spec s h
  have hz := join_size s t
  symm
  show en s k = fnl _ (st _ k)
  rw [e]
  refine fnl_uniq _ (by omega) (by omega) (by omega) (fun j h0 h1 => ?_) (fun _ => ?_)
  · rw [join_bt s t (by omega) (by omega)]; exact c j h0 h1
  · by_cases hlt : en s k < s.size
    · rw [join_bt s t (by omega) (by omega)]; exact d hlt
    · rw [show en s k = s.size from by omega]; exact join_mid s t
theorem join_st (s t : ByteArray) : ∀ k, k ≤ nl s s.size → st ((s ++ (⟨#[10]⟩ : ByteArray)) ++ t) k = st s k
  | 0, _ => rfl
  | k + 1, h => by
    rw [st_succ, st_succ, join_en s t (by omega) (join_st s t k (by omega))]
theorem join_line (s t : ByteArray) {k : Nat} (h : k ≤ nl s s.size) : lineAt ((s ++ (⟨#[10]⟩ : ByteArray)) ++ t) k = lineAt s k := by
  have e1 := join_st s t k h
  have e2 := join_en s t h e1
  obtain ⟨a, b, _⟩ := en_spec s h
  unfold lineAt
  rw [e1, e2]
  have hz := join_size s t
  apply str_ext
  · rw [ByteArray.size_extract, ByteArray.size_extract]; omega
  · intro i h0 h1
    rw [ByteArray.size_extract] at h1
    have x1 := bt_ext ((s ++ (⟨#[10]⟩ : ByteArray)) ++ t) (a := (st s k : Int)) (b := (en s k : Int)) (i := i) (by omega) h0 (by omega) (by omega)
    have x2 := bt_ext s (a := (st s k : Int)) (b := (en s k : Int)) (i := i) (by omega) h0 (by omega) (by omega)
    rw [Int.toNat_natCast, Int.toNat_natCast] at x1 x2
    rw [x1, x2, join_bt s t (by omega) (by omega)]
theorem join_cst (s t : ByteArray) : ∀ k, k ≤ nl s s.size + 1 → cst ((s ++ (⟨#[10]⟩ : ByteArray)) ++ t) k = cst s k
  | 0, _ => rfl
  | k + 1, h => by
    show (crun _ _ _).1 = (crun _ _ _).1
    rw [join_cst s t k (by omega), join_line s t (by omega)]
theorem join_nl (s t : ByteArray) : nl s s.size + 1 ≤ nl ((s ++ (⟨#[10]⟩ : ByteArray)) ++ t) ((s ++ (⟨#[10]⟩ : ByteArray)) ++ t).size := by
  obtain ⟨a, b, c, d, e⟩ := en_spec s (Nat.le_refl (nl s s.size))
  have hz := join_size s t
  have h1 : ∀ n, n ≤ s.size → nl ((s ++ (⟨#[10]⟩ : ByteArray)) ++ t) n = nl s n := by
    intro n
    induction n with
    | zero => intro _; rfl
    | succ n ih => intro hn; rw [nl_step, nl_step, ih (by omega), join_bt s t (by omega) (by omega)]
  have h2 := nl_lt ((s ++ (⟨#[10]⟩ : ByteArray)) ++ t) (a := s.size) (b := ((s ++ (⟨#[10]⟩ : ByteArray)) ++ t).size) (j := s.size) (Nat.le_refl _) (by omega) (join_mid s t)
  rw [h1 _ (Nat.le_refl _)] at h2
  omega
theorem join_VT {s t : ByteArray} (h : VT ((s ++ (⟨#[10]⟩ : ByteArray)) ++ t)) : VT s := by
  have hz := join_size s t
  refine ⟨by have := h.1; omega, fun j h0 h1 => ?_⟩
  have := h.2 j h0 (by omega)
  rw [join_bt s t h0 h1] at this
  exact this
end Go.Proofs.YtheglgphknahdaaDoor.Ev
namespace Go.Proofs.YtheglgphknahdaaDoor.Pure
open Go.RowKit Go.Proofs.YtheglgphknahdaaDoor.X Go.Proofs.YtheglgphknahdaaDoor.Wp Go.Proofs.YtheglgphknahdaaDoor.Ev Go.Proofs.YtheglgphknahdaaDoor.ThL Go.Proofs.YtheglgphknahdaaDoor.ThT Go.Proofs.YtheglgphknahdaaDoorW.PrintWords
set_option linter.unusedVariables false
set_option linter.unusedSimpArgs false

theorem FnColourStates : laws_FnColourStates.Pure := by
  intro l _ _ hw
  refine W.rounds (r := true) ?_
  unfold laws_FnColourStates.f
  refine W.ite (fun _ => W.ret rfl) (fun _ => W.bind (drawCS hw) (fun s hs0 => ?_))
  have hs : s.size ≤ 140737488351232 := by omega
  refine W.bind_eq (implStates s hs) (W.bind_eq (specStates s hs) (W.bind (sameIntsW _ _ (states_len s)) (fun b hb => W.pos (hb.2 rfl) ?_)))
  refine W.bind (specTV s hs) (fun c hc => W.ite (fun h => ?_) (fun h => ?_))
  · have hv := hc.1 h
    rw [if_pos hv]
    have hsz := hv.1
    have fin := nl_le s s.size
    refine W.bind_eq (implLinesOf s hs) ?_
    rw [if_pos hv]
    have hl := lines_len s
    have ht := tab_len (cst s) (nl s s.size + 2)
    have key := W.loop (l := fun (i : Nat) k => laws_FnColourStates.l0 k (tab (cst s) (nl s s.size + 2)) (lines s) i) (P := fun _ r => r = true) (fun i : Nat => i ≤ nl s s.size + 1) (fun i => nl s s.size + 1 - i) (by
      intro i hi ih
      refine W.step (fun k => laws_FnColourStates.l0.eq_2 ..) ?_
      rw [w64 (x := (i : Int) + 1) (by omega) (by omega)]
      by_cases hlt : i < nl s s.size + 1
      · have next := ih (i + 1) (by omega) (by omega)
        rw [show ((i + 1 : Nat) : Int) = (i : Int) + 1 from by omega] at next
        refine W.pos (by omega) ?_
        rw [decide_eq_true (show (i : Int) + 1 < (tab (cst s) (nl s s.size + 2)).length by omega)]
        refine W.step (fun k => laws_FnColourStates.j1.eq_2 ..) (W.pos rfl ?_)
        rw [w64 (x := (i : Int) + 1) (by omega) (by omega), rd_tab _ _ (by omega) (by omega), rd_tab _ _ (by omega) (by omega), lines_get s (by omega) (by omega), Int.toNat_natCast, show ((i : Int) + 1).toNat = i + 1 from by omega]
        have lz := lineAt_le s i
        refine W.pos (by omega) (W.pos (by omega) (W.pos (by omega) (W.bind_eq (implCL _ _ (by omega)) ?_)))
        rw [clAt hv (by omega)]
        exact W.pos rfl (W.pos (by omega) (W.pos (by omega) (W.pos rfl next)))
      · have e : i = nl s s.size + 1 := by omega
        subst e
        refine W.neg (by omega) (W.step (fun k => laws_FnColourStates.j1.eq_2 ..) (W.neg (by decide) ?_))
        rw [w64 (x := ((lines s).length : Int) + 1) (by omega) (by omega), rd_tab _ _ (by omega) (by omega)]
        exact W.pos (by omega) (W.pos (by omega) (W.ret rfl))) 0 (by omega)
    exact key
  · rw [if_neg (fun hv => h (hc.2 hv))]
    exact W.pos rfl alive_then
end Go.Proofs.YtheglgphknahdaaDoor.Pure
