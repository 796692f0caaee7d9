/- For every text and change, the program's ColourAgain returns what the reference's ColourAgain returns, in memory of its own. Conditions: none. -/
import Derived.Test.YtheglgphknahdaaDoorX15
import Derived.Test.YtheglgphknahdaaDoorX3
import Derived.Test.YtheglgphknahdaaDoorX4
import Derived.Test.YtheglgphknahdaaDoorX9
import Derived.Test.YtheglgphknahdaaDoorWp
import Derived.Test.YtheglgphknahdaaDoorWMore
import Derived.Laws.Strings
import Derived.Test.YtheglgphknahdaaDoorLibC
import Derived.Lib.IndexLaws
import Derived.Test.YtheglgphknahdaaDoorX5
import Derived.Test.YtheglgphknahdaaDoorX6
import Derived.Test.YtheglgphknahdaaDoorX7
import Derived.Test.YtheglgphknahdaaDoorX16
import Derived.Test.YtheglgphknahdaaDoorX11
import Derived.Test.YtheglgphknahdaaDoorX22
/- What the printed functions answer, part A: valid texts, places, ranges. -/
namespace Go.Proofs.YtheglgphknahdaaDoor.Ev
open Go.RowKit Go.Proofs.YtheglgphknahdaaDoor.X Go.Proofs.YtheglgphknahdaaDoor.Wp Go.Proofs.YtheglgphknahdaaDoorW.PrintWords
set_option linter.unusedVariables false
set_option linter.unusedSimpArgs false

def okB (c : Int) : Prop := c = 10 ∨ (32 ≤ c ∧ c ≤ 126)
instance (c : Int) : Decidable (okB c) := by unfold okB; infer_instance
/-- A valid text. -/
def VT (s : ByteArray) : Prop := s.size ≤ 120 ∧ ∀ j : Int, 0 ≤ j → j < s.size → okB (bt s j)

noncomputable instance (s : ByteArray) : Decidable (VT s) := Classical.propDecidable _

theorem isByte_eq (c : Int) : impl_isByte.f c = some (decide (okB c)) := by
  unfold impl_isByte.f okB
  by_cases h1 : c = 10
  · simp [h1]
  · by_cases h2 : c ≥ 32
    · simp [h1, h2]
    · have : ¬ 32 ≤ c := h2
      simp [h1, this]
theorem in_eq (a b c : Int) : impl_in.f a b c = some (decide (b ≤ a ∧ a ≤ c)) := by
  unfold impl_in.f
  by_cases h : b ≤ a <;> simp [h]
theorem l1In_eq (a b c : Int) : spec_l1In.f a b c = some (decide (b ≤ a ∧ a ≤ c)) := by
  unfold spec_l1In.f
  by_cases h : b ≤ a
  · simp [h]
  · have : ¬ a ≥ b := h
    simp [h]
theorem implTV (s : ByteArray) (hs : s.size ≤ 140737488351232) : W (fun k => impl_TextValid.f k s) (fun b => b = true ↔ VT s) := by
  unfold impl_TextValid.f
  refine W.loop (l := fun i k => impl_TextValid.l0 k s s.size i) (P := fun _ b => b = true ↔ VT s) (fun i => 0 ≤ i ∧ i ≤ s.size ∧ ∀ j, 0 ≤ j → j < i → okB (bt s j)) (fun i => (s.size - i).toNat) ?_ 0 ⟨by omega, by omega, fun j h0 h1 => by omega⟩
  intro i ⟨h0, h1, h2⟩ ih
  refine W.step (fun k => impl_TextValid.l0.eq_2 ..) ?_
  by_cases hlt : i < s.size
  · simp (disch := omega) only [if_pos, w64, isByte_eq, Option.bind_some]
    by_cases hb : okB (bt s i)
    · simp only [hb, decide_true, if_true]
      exact ih (i + 1) ⟨by omega, by omega, fun j h3 h4 => by
        by_cases e : j = i
        · subst e; exact hb
        · exact h2 j h3 (by omega)⟩ (by omega)
    · simp only [hb, decide_false]
      exact W.ret ⟨fun h => by simp at h, fun h => absurd (h.2 i h0 hlt) hb⟩
  · simp (disch := omega) only [if_neg]
    refine W.ret ?_
    simp only [decide_eq_true_eq]
    exact ⟨fun h => ⟨by omega, fun j h3 h4 => h2 j h3 (by omega)⟩, fun h => by have := h.1; omega⟩

theorem specPlain (s : ByteArray) (hs : s.size ≤ 140737488351232) : W (fun k => spec_l1Plain.f k s) (fun b => b = true ↔ ∀ j : Int, 0 ≤ j → j < s.size → okB (bt s j)) := by
  unfold spec_l1Plain.f
  refine W.loop (l := fun i k => spec_l1Plain.l0 k s i) (P := fun _ b => b = true ↔ ∀ j : Int, 0 ≤ j → j < s.size → okB (bt s j)) (fun i => 0 ≤ i ∧ i ≤ s.size ∧ ∀ j, 0 ≤ j → j < i → okB (bt s j)) (fun i => (s.size - i).toNat) ?_ 0 ⟨by omega, by omega, fun j h0 h1 => by omega⟩
  intro i ⟨h0, h1, h2⟩ ih
  refine W.step (fun k => spec_l1Plain.l0.eq_2 ..) ?_
  have hr := bt_range s i
  by_cases hlt : i < s.size
  · simp (disch := omega) only [if_pos, w64, l1In_eq, Option.bind_some]
    have next : okB (bt s i) → ∀ j, 0 ≤ j → j < i + 1 → okB (bt s j) := fun hb j h3 h4 => by
      by_cases e : j = i
      · subst e; exact hb
      · exact h2 j h3 (by omega)
    refine W.ite (fun hc => ih (i + 1) ⟨by omega, by omega, next (.inl hc)⟩ (by omega)) (fun hc => ?_)
    refine W.ite (fun hd => ih (i + 1) ⟨by omega, by omega, next (.inr (by simpa using hd))⟩ (by omega)) (fun hd => ?_)
    refine W.ret ⟨fun h => by simp at h, fun h => ?_⟩
    rcases h i h0 hlt with h | h
    · exact absurd h hc
    · exact absurd (by simpa using h) hd
  · simp (disch := omega) only [if_neg]
    exact W.ret ⟨fun _ j h3 h4 => h2 j h3 (by omega), fun _ => rfl⟩

theorem specTV (s : ByteArray) (hs : s.size ≤ 140737488351232) : W (fun k => spec_TextValid.f k s) (fun b => b = true ↔ VT s) := by
  unfold spec_TextValid.f
  refine W.ite (fun h => ?_) (fun h => ?_)
  · refine W.bind (specPlain s hs) (fun b hb => W.ret ?_)
    rw [hb]
    exact ⟨fun h' => ⟨by omega, h'⟩, fun h' => h'.2⟩
  · exact W.ret ⟨fun h' => by simp at h', fun h' => by have := h'.1; omega⟩

theorem tv_pos {g : Nat → Option Bool} {s : ByteArray} (h : W g (fun b => b = true ↔ VT s)) (hv : VT s) : W g (· = true) := h.mono fun b hb => hb.2 hv
theorem implPlace (s : ByteArray) (p : Int) (hs : s.size ≤ 140737488351232) : W (fun k => impl_isPlace.f k s p) (fun b => b = true ↔ VT s ∧ 0 ≤ p ∧ p ≤ s.size) := by
  unfold impl_isPlace.f
  refine W.bind (implTV s hs) (fun b hb => W.ite (fun h => ?_) (fun h => ?_))
  · simp only [in_eq, Option.bind_some]
    refine W.ret ?_
    simp only [decide_eq_true_eq]
    exact ⟨fun h' => ⟨hb.1 h, h'⟩, fun h' => h'.2⟩
  · refine W.ret ⟨fun h' => by simp at h', fun h' => absurd (hb.2 h'.1) h⟩
end Go.Proofs.YtheglgphknahdaaDoor.Ev
/- Texts as bytes: parts, sums, equality. -/
namespace Go.Proofs.YtheglgphknahdaaDoor.Ev
open Go.RowKit Go.Proofs.YtheglgphknahdaaDoorW.PrintWords
set_option linter.unusedVariables false
set_option linter.unusedSimpArgs false

theorem bt_eq (s : ByteArray) {i : Int} (h0 : 0 ≤ i) (h : i < s.size) : ∃ h' : i.toNat < s.size, bt s i = (s[i.toNat]'h').toNat := by
  have h' : i.toNat < s.size := by omega
  exact ⟨h', by unfold bt; rw [dif_pos h']⟩
theorem str_ext {a b : ByteArray} (hl : a.size = b.size) (h : ∀ i : Int, 0 ≤ i → i < a.size → bt a i = bt b i) : a = b := by
  apply ByteArray.ext_getElem hl
  intro i h1 h2
  have := h i (by omega) (by omega)
  unfold bt at this
  rw [dif_pos (by simpa using h1), dif_pos (by simpa using h2)] at this
  exact UInt8.toNat_inj.1 (by exact_mod_cast this)
theorem toList_data (a : ByteArray) : a.toList = a.data.toList := ByteArray.toList_eq a
theorem bt_cat_left (a b : ByteArray) {i : Int} (h : i.toNat < a.size) : bt (a ++ b) i = bt a i := by
  unfold bt
  rw [dif_pos (by rw [ByteArray.size_append]; omega), dif_pos h, ByteArray.getElem_append_left h]
theorem bt_cat_right (a b : ByteArray) {i : Int} (h : a.size ≤ i) : bt (a ++ b) i = bt b (i - a.size) := by
  unfold bt
  by_cases hb : (i - a.size).toNat < b.size
  · rw [dif_pos (by rw [ByteArray.size_append]; omega), dif_pos hb]
    rw [ByteArray.getElem_append_right (by omega)]
    congr 2
    congr 1
    omega
  · rw [dif_neg (by rw [ByteArray.size_append]; omega), dif_neg hb]
theorem bt_ext (s : ByteArray) {a b i : Int} (h0 : 0 ≤ a) (h1 : 0 ≤ i) (h2 : i < b - a) (h3 : b ≤ s.size) : bt (s.extract a.toNat b.toNat) i = bt s (a + i) := by
  unfold bt
  rw [dif_pos (by rw [ByteArray.size_extract]; omega), dif_pos (by omega), ByteArray.getElem_extract]
  congr 2
  congr 1
  omega
theorem bt_out (s : ByteArray) {i : Int} (h : s.size ≤ i) : bt s i = 0 := by
  unfold bt
  rw [dif_neg (by omega)]
end Go.Proofs.YtheglgphknahdaaDoor.Ev
/- The plain law of lines: line ends counted, where lines begin and end. No program in sight. -/
namespace Go.Proofs.YtheglgphknahdaaDoor.ThL
open Go.RowKit Go.Proofs.YtheglgphknahdaaDoorW.PrintWords Go.Proofs.YtheglgphknahdaaDoor.Ev
set_option linter.unusedVariables false
set_option linter.unusedSimpArgs false

/-- How many line ends stand before place p. -/
def nl (s : ByteArray) : Nat → Nat
  | 0 => 0
  | n + 1 => nl s n + if bt s n = 10 then 1 else 0
theorem nl_step (s : ByteArray) (n : Nat) : nl s (n + 1) = nl s n + if bt s n = 10 then 1 else 0 := rfl
theorem nl_mono (s : ByteArray) {a b : Nat} (h : a ≤ b) : nl s a ≤ nl s b := by
  induction b with
  | zero => have : a = 0 := by omega
            subst this; exact Nat.le_refl _
  | succ b ih =>
    by_cases e : a = b + 1
    · subst e; exact Nat.le_refl _
    · have := ih (by omega)
      rw [nl_step]; omega
theorem nl_le (s : ByteArray) : ∀ n, nl s n ≤ n
  | 0 => Nat.le_refl _
  | n + 1 => by have := nl_le s n; rw [nl_step]; split <;> omega
theorem nl_same (s : ByteArray) {a b : Nat} (h : a ≤ b) (hn : ∀ j : Int, a ≤ j → j < b → bt s j ≠ 10) : nl s b = nl s a := by
  induction b with
  | zero => have : a = 0 := by omega
            subst this; rfl
  | succ b ih =>
    by_cases e : a = b + 1
    · subst e; rfl
    · rw [nl_step, ih (by omega) (fun j h0 h1 => hn j h0 (by omega)), if_neg (hn b (by omega) (by omega))]; omega
theorem nl_lt (s : ByteArray) {a b : Nat} {j : Nat} (h : a ≤ j) (h2 : j < b) (hn : bt s j = 10) : nl s a < nl s b := by
  have h1 := nl_mono s h
  have h3 := nl_mono s (show j + 1 ≤ b from h2)
  rw [nl_step, if_pos hn] at h3
  omega

/-- The first line end from place p on, or the end of the text. -/
def fnlA (s : ByteArray) : Nat → Nat → Nat
  | 0, p => p
  | d + 1, p => if bt s p = 10 then p else fnlA s d (p + 1)
def fnl (s : ByteArray) (p : Nat) : Nat := fnlA s (s.size - p) p
theorem fnlA_spec (s : ByteArray) : ∀ d p, p + d = s.size → p ≤ fnlA s d p ∧ fnlA s d p ≤ s.size ∧ (∀ j : Int, p ≤ j → j < fnlA s d p → bt s j ≠ 10) ∧ (fnlA s d p < s.size → bt s (fnlA s d p) = 10)
  | 0, p, h => ⟨Nat.le_refl _, by simp [fnlA]; omega, fun j h0 h1 => by simp [fnlA] at h1; omega, fun h1 => by simp [fnlA] at h1; omega⟩
  | d + 1, p, h => by
    unfold fnlA
    by_cases c : bt s p = 10
    · rw [if_pos c]; exact ⟨Nat.le_refl _, by omega, fun j h0 h1 => by omega, fun _ => c⟩
    · rw [if_neg c]
      obtain ⟨h1, h2, h3, h4⟩ := fnlA_spec s d (p + 1) (by omega)
      refine ⟨by omega, h2, fun j h5 h6 => ?_, h4⟩
      by_cases e : j = p
      · subst e; exact c
      · exact h3 j (by omega) h6
theorem fnl_spec (s : ByteArray) {p : Nat} (h : p ≤ s.size) : p ≤ fnl s p ∧ fnl s p ≤ s.size ∧ (∀ j : Int, p ≤ j → j < fnl s p → bt s j ≠ 10) ∧ (fnl s p < s.size → bt s (fnl s p) = 10) := fnlA_spec s _ p (by omega)
/-- Where line k begins, where it ends. -/
def st (s : ByteArray) : Nat → Nat
  | 0 => 0
  | k + 1 => fnl s (st s k) + 1
def en (s : ByteArray) (k : Nat) : Nat := fnl s (st s k)
theorem st_succ (s : ByteArray) (k : Nat) : st s (k + 1) = en s k + 1 := rfl
theorem st_spec (s : ByteArray) : ∀ k, k ≤ nl s s.size → st s k ≤ s.size ∧ nl s (st s k) = k ∧ (k = 0 ∨ bt s ((st s k : Int) - 1) = 10)
  | 0 => fun _ => ⟨Nat.zero_le _, rfl, .inl rfl⟩
  | k + 1 => fun h => by
    obtain ⟨h1, h2, _⟩ := st_spec s k (by omega)
    obtain ⟨a, b, c, d⟩ := fnl_spec s h1
    have hs := nl_same s a c
    have hlt : en s k < s.size := by
      show fnl s (st s k) < s.size
      by_cases e : fnl s (st s k) = s.size
      · rw [e] at hs; omega
      · omega
    have hd := d hlt
    rw [st_succ]
    refine ⟨hlt, ?_, .inr ?_⟩
    · rw [nl_step]
      show nl s (fnl s (st s k)) + (if bt s (fnl s (st s k) : Nat) = 10 then 1 else 0) = _
      rw [hs, h2, if_pos hd]
    · rw [show (((en s k + 1 : Nat) : Int) - 1) = (en s k : Nat) from by omega]; exact hd
theorem en_spec (s : ByteArray) {k : Nat} (h : k ≤ nl s s.size) : st s k ≤ en s k ∧ en s k ≤ s.size ∧ (∀ j : Int, st s k ≤ j → j < en s k → bt s j ≠ 10) ∧ (en s k < s.size → bt s (en s k) = 10) ∧ nl s (en s k) = k := by
  obtain ⟨h1, h2, _⟩ := st_spec s k h
  obtain ⟨a, b, c, d⟩ := fnl_spec s h1
  exact ⟨a, b, c, d, by rw [show nl s (en s k) = nl s (fnl s (st s k)) from rfl, nl_same s a c, h2]⟩
/-- Two places at which lines begin, with as many line ends before them, are one. -/
theorem start_uniq (s : ByteArray) {p q : Nat} (hn : nl s p = nl s q) (hp : p = 0 ∨ bt s ((p : Int) - 1) = 10) (hq : q = 0 ∨ bt s ((q : Int) - 1) = 10) : p = q := by
  by_cases h : p < q
  · rcases hq with rfl | hq
    · omega
    · have := nl_lt s (a := p) (b := q) (j := q - 1) (by omega) (by omega) (by rw [show (((q - 1 : Nat)) : Int) = (q : Int) - 1 from by omega]; exact hq)
      omega
  · by_cases h2 : q < p
    · rcases hp with rfl | hp
      · omega
      · have := nl_lt s (a := q) (b := p) (j := p - 1) (by omega) (by omega) (by rw [show (((p - 1 : Nat)) : Int) = (p : Int) - 1 from by omega]; exact hp)
        omega
    · omega
theorem last_en (s : ByteArray) : en s (nl s s.size) = s.size := by
  obtain ⟨a, b, c, d, e⟩ := en_spec s (Nat.le_refl _)
  by_cases h : en s (nl s s.size) = s.size
  · exact h
  · have := nl_lt s (a := en s (nl s s.size)) (b := s.size) (j := en s (nl s s.size)) (Nat.le_refl _) (by omega) (d (by omega))
    omega
/-- Line k. -/
def lineAt (s : ByteArray) (k : Nat) : ByteArray := s.extract (st s k) (en s k)
/-- The first n lines. -/
def lns (s : ByteArray) : Nat → List ByteArray
  | 0 => []
  | n + 1 => lns s n ++ [lineAt s n]
theorem lns_succ (s : ByteArray) (n : Nat) : lns s (n + 1) = lns s n ++ [lineAt s n] := rfl
theorem lns_len (s : ByteArray) : ∀ n, (lns s n).length = n
  | 0 => rfl
  | n + 1 => by rw [lns_succ, List.length_append, lns_len s n]; rfl
/-- All lines. -/
def lines (s : ByteArray) : List ByteArray := lns s (nl s s.size + 1)
theorem lines_len (s : ByteArray) : (lines s).length = nl s s.size + 1 := lns_len s _
theorem lns_get (s : ByteArray) : ∀ (n : Nat) (i : Int), 0 ≤ i → i < n → rdOf ByteArray.empty (lns s n) i = lineAt s i.toNat
  | 0 => fun i h0 h1 => by omega
  | n + 1 => fun i h0 h1 => by
    have hl := lns_len s n
    have ih := lns_get s n i h0
    unfold rdOf at ih ⊢
    rw [lns_succ]
    by_cases e : i = n
    · subst e
      rw [List.getD_eq_getElem?_getD, List.getElem?_append_right (by omega), hl]
      simp
    · rw [List.getD_eq_getElem?_getD, List.getElem?_append_left (by omega), ← List.getD_eq_getElem?_getD]
      exact ih (by omega)
theorem lines_get (s : ByteArray) {i : Int} (h0 : 0 ≤ i) (h1 : i ≤ nl s s.size) : rdOf ByteArray.empty (lines s) i = lineAt s i.toNat := lns_get s _ i h0 (by omega)
theorem lineAt_size (s : ByteArray) {k : Nat} (h : k ≤ nl s s.size) : (lineAt s k).size = en s k - st s k := by
  obtain ⟨a, b, _⟩ := en_spec s h
  unfold lineAt
  rw [ByteArray.size_extract]; omega
theorem lineAt_bt (s : ByteArray) {k : Nat} (h : k ≤ nl s s.size) {i : Int} (h0 : 0 ≤ i) (h1 : i < (lineAt s k).size) : bt (lineAt s k) i = bt s (st s k + i) := by
  obtain ⟨a, b, _⟩ := en_spec s h
  rw [lineAt_size s h] at h1
  have := bt_ext s (a := (st s k : Int)) (b := (en s k : Int)) (i := i) (by omega) h0 (by omega) (by omega)
  rw [Int.toNat_natCast, Int.toNat_natCast] at this
  exact this
end Go.Proofs.YtheglgphknahdaaDoor.ThL
/- What the printed functions answer, part Ln: the reference's lines. -/
namespace Go.Proofs.YtheglgphknahdaaDoor.Ev
open Go.RowKit Go.Proofs.YtheglgphknahdaaDoor.X Go.Proofs.YtheglgphknahdaaDoor.Wp Go.Proofs.YtheglgphknahdaaDoorW.PrintWords Go.Proofs.YtheglgphknahdaaDoor.ThL
set_option linter.unusedVariables false
set_option linter.unusedSimpArgs false

theorem specLineMany (s : ByteArray) (hs : s.size ≤ 140737488351232) : W (fun k => spec_LineMany.f k s) (fun r => r = if VT s then (nl s s.size : Int) + 1 else -1) := by
  unfold spec_LineMany.f
  refine W.bind (specTV s hs) (fun b hb => W.ite (fun h => ?_) (fun h => ?_))
  · rw [if_pos (hb.1 h)]
    have key := W.loop (l := fun (n : Nat) k => spec_LineMany.l0 k s ((nl s n : Int) + 1) n) (P := fun _ r => r = (nl s s.size : Int) + 1) (fun n : Nat => n ≤ s.size) (fun n => s.size - n) (by
      intro n hn ih
      refine W.step (fun k => spec_LineMany.l0.eq_2 ..) ?_
      have hle := nl_le s n
      by_cases hlt : n < s.size
      · have next := ih (n + 1) (by omega) (by omega)
        rw [nl_step, show ((n + 1 : Nat) : Int) = (n : Int) + 1 from by omega] at next
        rw [w64 (x := (n : Int) + 1) (by omega) (by omega), w64 (x := (nl s n : Int) + 1 + 1) (by omega) (by omega)]
        refine W.pos (by omega) (W.pos (by omega) (W.ite (fun hc => ?_) (fun hc => ?_)))
        · rw [if_pos hc] at next; exact next
        · rw [if_neg hc] at next; exact next
      · have e : n = s.size := by omega
        subst e
        exact W.neg (by omega) (W.ret rfl)) 0 (by omega)
    exact key
  · rw [if_neg (fun hv => h (hb.2 hv))]
    exact W.ret rfl

theorem specLineStart (s : ByteArray) (line : Int) (hs : s.size ≤ 140737488351232) : W (fun k => spec_LineStart.f k s line) (fun r => r = if VT s ∧ 0 ≤ line ∧ line ≤ nl s s.size then (st s line.toNat : Int) else -1) := by
  unfold spec_LineStart.f
  have out : ¬ (VT s ∧ 0 ≤ line ∧ line ≤ nl s s.size) → W (fun k => spec_LineStart.j0 k s line true) (fun r => r = if VT s ∧ 0 ≤ line ∧ line ≤ nl s s.size then (st s line.toNat : Int) else -1) := fun hv => by
    rw [if_neg hv]
    exact W.step (fun k => spec_LineStart.j0.eq_2 ..) (W.pos rfl (W.ret rfl))
  refine W.bind (specTV s hs) (fun b hb => W.ite (fun h => ?_) (fun h => out (fun hv => h (hb.2 hv.1))))
  have hv := hb.1 h
  have hsz := hv.1
  by_cases hl : line < 0
  · rw [decide_eq_true hl]; exact out (fun h => by omega)
  · rw [decide_eq_false hl]
    refine W.step (fun k => spec_LineStart.j0.eq_2 ..) (W.neg (by decide) ?_)
    have fin := nl_le s s.size
    have key := W.loop (l := fun (n : Nat) k => spec_LineStart.l0 k s line (nl s n) n) (P := fun _ r => r = if VT s ∧ 0 ≤ line ∧ line ≤ nl s s.size then (st s line.toNat : Int) else -1) (fun n : Nat => n ≤ s.size + 1 ∧ (line ≤ nl s s.size → n ≤ st s line.toNat)) (fun n => s.size + 1 - n) (by
      intro n ⟨hn, hst⟩ ih
      refine W.step (fun k => spec_LineStart.l0.eq_2 ..) ?_
      have hle := nl_le s n
      by_cases hlt : n ≤ s.size
      · have hmono := nl_mono s hlt
        -- going on
        have go : ¬ (nl s n = line ∧ (n = 0 ∨ bt s ((n : Int) - 1) = 10)) → W (fun k => spec_LineStart.j2 k s line (nl s n) n false) (fun r => r = if VT s ∧ 0 ≤ line ∧ line ≤ nl s s.size then (st s line.toNat : Int) else -1) := by
          intro hno
          have next := ih (n + 1) ⟨by omega, fun hle2 => by
            have h1 := hst hle2
            obtain ⟨a, b, c⟩ := st_spec s line.toNat (by omega)
            by_cases e : n = st s line.toNat
            · exfalso; apply hno
              rw [e]
              refine ⟨by omega, ?_⟩
              rcases c with c | c
              · left; rw [c]; rfl
              · right; exact c
            · omega⟩ (by omega)
          refine W.step (fun k => spec_LineStart.j2.eq_2 ..) (W.neg (by decide) ?_)
          rw [show ((n + 1 : Nat) : Int) = (n : Int) + 1 from by omega] at next
          rw [w64 (x := (n : Int) + 1) (by omega) (by omega)]
          by_cases hlt2 : n < s.size
          · rw [nl_step] at next
            rw [w64 (x := (nl s n : Int) + 1) (by omega) (by omega)]
            refine W.pos (by omega) (W.pos (by omega) (W.ite (fun hc => ?_) (fun hc => ?_)))
            · rw [if_pos hc] at next; exact next
            · rw [if_neg hc] at next; exact next
          · refine W.neg (by omega) ?_
            have e : n = s.size := by omega
            rw [show nl s (n + 1) = nl s n from by rw [nl_step, bt_out s (by omega), if_neg (by omega)]; rfl] at next
            exact next
        have found : (nl s n : Int) = line → (n = 0 ∨ bt s ((n : Int) - 1) = 10) → W (fun k => spec_LineStart.j2 k s line (nl s n) n true) (fun r => r = if VT s ∧ 0 ≤ line ∧ line ≤ nl s s.size then (st s line.toNat : Int) else -1) := by
          intro h1 h2
          refine W.step (fun k => spec_LineStart.j2.eq_2 ..) (W.pos rfl (W.ret ?_))
          rw [if_pos ⟨hv, by omega, by omega⟩]
          obtain ⟨a, b, c⟩ := st_spec s line.toNat (by omega)
          have c' : st s line.toNat = 0 ∨ bt s ((st s line.toNat : Int) - 1) = 10 := by
            rcases c with c | c
            · left; rw [c]; rfl
            · right; exact c
          rw [start_uniq s (p := n) (q := st s line.toNat) (by omega) h2 c']
        refine W.pos (by omega) (W.ite (fun h1 => W.ite (fun h2 => found h1 (.inl (by omega))) (fun h2 => ?_)) (fun h1 => go (fun h => h1 (by omega))))
        rw [w64 (x := (n : Int) - 1) (by omega) (by omega)]
        refine W.pos (by omega) (W.pos (by omega) ?_)
        by_cases h3 : bt s ((n : Int) - 1) = 10
        · rw [show (bt s ((n : Int) - 1) == 10) = true from by simpa using h3]
          exact found h1 (.inr h3)
        · rw [show (bt s ((n : Int) - 1) == 10) = false from by simpa using h3]
          exact go (fun h => by
            rcases h.2 with h | h
            · omega
            · exact h3 h)
      · refine W.neg (by omega) (W.ret ?_)
        rw [if_neg]
        intro h
        have := hst h.2.2
        have := (st_spec s line.toNat (by omega)).1
        omega) 0 ⟨by omega, fun _ => by omega⟩
    exact key

theorem specLineEnd (s : ByteArray) (line : Int) (hs : s.size ≤ 140737488351232) : W (fun k => spec_LineEnd.f k s line) (fun r => r = if VT s ∧ 0 ≤ line ∧ line ≤ nl s s.size then (en s line.toNat : Int) else -1) := by
  unfold spec_LineEnd.f
  refine W.bind_eq (specLineStart s line hs) ?_
  by_cases hv : VT s ∧ 0 ≤ line ∧ line ≤ nl s s.size
  · rw [if_pos hv, if_pos hv]
    obtain ⟨a, b, c, d, e⟩ := en_spec s (k := line.toNat) (by omega)
    have hsz := hv.1.1
    refine W.loop (l := fun (i : Int) k => spec_LineEnd.l0 k s i) (P := fun _ r => r = (en s line.toNat : Int)) (fun i => (st s line.toNat : Int) ≤ i ∧ i ≤ en s line.toNat) (fun i => (en s line.toNat - i).toNat) ?_ (st s line.toNat : Int) ⟨by omega, by omega⟩
    intro i ⟨h0, h1⟩ ih
    refine W.step (fun k => spec_LineEnd.l0.eq_2 ..) (W.pos (by omega) ?_)
    refine W.ite (fun hlt => W.pos (by omega) (W.ite (fun hc => W.ret ?_) (fun hc => ?_))) (fun hge => W.ret (by omega))
    · by_cases h2 : i < en s line.toNat
      · exact absurd hc (c i h0 h2)
      · omega
    · rw [w64 (x := i + 1) (by omega) (by omega)]
      have hne : i ≠ en s line.toNat := fun e2 => hc (by rw [e2]; exact d (by omega))
      exact ih (i + 1) ⟨by omega, by omega⟩ (by omega)
  · rw [if_neg hv, if_neg hv]
    exact W.step (fun k => spec_LineEnd.l0.eq_2 ..) (W.neg (by omega) (W.ret rfl))
theorem specLinesOf (s : ByteArray) (hs : s.size ≤ 140737488351232) : W (fun k => spec_LinesOf.f k s) (fun r => r = if VT s then lines s else []) := by
  unfold spec_LinesOf.f
  by_cases hv : VT s
  · rw [if_pos hv]
    have hsz := hv.1
    have fin := nl_le s s.size
    have key := W.loop (l := fun (n : Nat) k => spec_LinesOf.l0 k s (lns s n) n) (P := fun _ r => r = lines s) (fun n : Nat => n ≤ nl s s.size + 1) (fun n => nl s s.size + 1 - n) (by
      intro n hn ih
      refine W.step (fun k => spec_LinesOf.l0.eq_2 ..) (W.bind_eq (specLineMany s hs) ?_)
      rw [if_pos hv]
      have hlen := lns_len s n
      by_cases hlt : n < nl s s.size + 1
      · have next := ih (n + 1) (by omega) (by omega)
        rw [lns_succ, show ((n + 1 : Nat) : Int) = (n : Int) + 1 from by omega] at next
        refine W.pos (by omega) (W.bind_eq (specLineStart s n hs) (W.bind_eq (specLineEnd s n hs) ?_))
        rw [if_pos ⟨hv, by omega, by omega⟩, if_pos ⟨hv, by omega, by omega⟩, w64 (x := (n : Int) + 1) (by omega) (by omega), Int.toNat_natCast]
        obtain ⟨a, b, _⟩ := en_spec s (k := n) (by omega)
        refine W.pos (by omega) (W.pos (by omega) (W.pos (by omega) (W.pos (by omega) ?_)))
        rw [Int.toNat_natCast, Int.toNat_natCast]
        exact next
      · have e : n = nl s s.size + 1 := by omega
        subst e
        exact W.neg (by omega) (W.ret rfl)) 0 (by omega)
    exact key
  · rw [if_neg hv]
    refine W.step (fun k => spec_LinesOf.l0.eq_2 ..) (W.bind_eq (specLineMany s hs) ?_)
    rw [if_neg hv]
    exact W.neg (by omega) (W.ret rfl)
end Go.Proofs.YtheglgphknahdaaDoor.Ev
/- What the printed functions answer, part C: a line's colours. -/
namespace Go.Proofs.YtheglgphknahdaaDoor.Ev
open Go.RowKit Go.Proofs.YtheglgphknahdaaDoor.X Go.Proofs.YtheglgphknahdaaDoor.Wp Go.Proofs.YtheglgphknahdaaDoorW.PrintWords Go.Proofs.YtheglgphknahdaaDoor.ThL Go.Proofs.YtheglgphknahdaaDoor.ThC
set_option linter.unusedVariables false
set_option linter.unusedSimpArgs false

theorem kindC (c : Int) : W (fun k => spec_l8Kind.f k c) (· = cls c) := by
  unfold spec_l8Kind.f
  have yes : c = 32 ∨ c = 10 → W (fun k => spec_l8Kind.j0 k c true) (· = cls c) := fun h =>
    W.step (fun k => spec_l8Kind.j0.eq_2 ..) (W.pos rfl (W.ret (by unfold cls; rw [if_pos h])))
  refine W.ite (fun h => yes (.inl h)) (fun h => ?_)
  by_cases h10 : c = 10
  · rw [show (c == 10) = true from by simpa using h10]; exact yes (.inr h10)
  · rw [show (c == 10) = false from by simpa using h10]
    refine W.step (fun k => spec_l8Kind.j0.eq_2 ..) (W.neg (by decide) ?_)
    by_cases a : (48 ≤ c ∧ c ≤ 57) ∨ (97 ≤ c ∧ c ≤ 122) ∨ (65 ≤ c ∧ c ≤ 90)
    · rw [show cls c = 1 from by unfold cls; rw [if_neg (by omega), if_pos a]]
      repeat' (first | exact W.ret rfl | (exfalso; omega) | refine W.ite (fun _ => ?_) (fun _ => ?_))
    · rw [show cls c = 2 from by unfold cls; rw [if_neg (by omega), if_neg a]]
      repeat' (first | exact W.ret rfl | (exfalso; omega) | refine W.ite (fun _ => ?_) (fun _ => ?_))

/-- The colours of the first n bytes, as a text. -/
def colT (a : Int) (s : ByteArray) (n : Nat) : ByteArray := ⟨(crun a s n).2.2.toArray⟩
theorem colT_size (a : Int) (s : ByteArray) (n : Nat) : (colT a s n).size = n := by
  show (crun a s n).2.2.toArray.size = n
  rw [List.size_toArray, crun_len]
theorem arr_snoc (l : List UInt8) (o : UInt8) : (⟨l.toArray⟩ : ByteArray) ++ ⟨#[o]⟩ = ⟨(l ++ [o]).toArray⟩ := by
  apply str_ext
  · rw [ByteArray.size_append]
    show l.toArray.size + 1 = (l ++ [o]).toArray.size
    simp
  · intro i h0 h1
    rw [ByteArray.size_append] at h1
    have hz : (⟨l.toArray⟩ : ByteArray).size = l.length := by show l.toArray.size = _; simp
    have hz1 : (⟨#[o]⟩ : ByteArray).size = 1 := rfl
    have hz2 : (⟨(l ++ [o]).toArray⟩ : ByteArray).size = l.length + 1 := by show (l ++ [o]).toArray.size = _; simp
    rw [hz, hz1] at h1
    by_cases c : i < l.length
    · rw [bt_cat_left _ _ (by omega)]
      obtain ⟨p, e⟩ := bt_eq (⟨l.toArray⟩ : ByteArray) h0 (by omega)
      obtain ⟨p2, e2⟩ := bt_eq (⟨(l ++ [o]).toArray⟩ : ByteArray) h0 (by omega)
      rw [e, e2]
      show ((l.toArray[i.toNat]'p).toNat : Int) = ((l ++ [o]).toArray[i.toNat]'p2).toNat
      rw [List.getElem_toArray, List.getElem_toArray, List.getElem_append_left (by omega)]
    · rw [bt_cat_right _ _ (by omega)]
      have ei : i = l.length := by omega
      subst ei
      obtain ⟨p2, e2⟩ := bt_eq (⟨(l ++ [o]).toArray⟩ : ByteArray) (i := (l.length : Int)) (by omega) (by omega)
      rw [e2, hz, Int.sub_self]
      show (o.toNat : Int) = ((l ++ [o]).toArray[(l.length : Int).toNat]'p2).toNat
      rw [List.getElem_toArray]
      simp
theorem colT_succ (a : Int) (s : ByteArray) (n : Nat) : colT a s (n + 1) = colT a s n ++ ⟨#[(cstep (crun a s n).1 (crun a s n).2.1 (bt s n)).2.2]⟩ := by
  unfold colT
  rw [arr_snoc]; rfl

theorem specLine (a : Int) (s : ByteArray) (h0 : 0 ≤ a) (h9 : a ≤ 9) (hs : s.size ≤ 1000000) : W (fun k => spec_l17Line.f k a s) (fun r => r = ((crun a s s.size).1, colT a s s.size)) := by
  unfold spec_l17Line.f
  have key := W.loop (l := fun (n : Nat) k => spec_l17Line.l0 k (crun a s n).1 s (colT a s n) (crun a s n).2.1 n) (P := fun _ r => r = ((crun a s s.size).1, colT a s s.size)) (fun n : Nat => n ≤ s.size) (fun n => s.size - n) (by
    intro n hn ih
    refine W.step (fun k => spec_l17Line.l0.eq_2 ..) ?_
    obtain ⟨r0, r9⟩ := crun_range s h0 h9 n
    have hz := colT_size a s n
    by_cases hlt : n < s.size
    · have next := ih (n + 1) (by omega) (by omega)
      rw [colT_succ, show ((n + 1 : Nat) : Int) = (n : Int) + 1 from by omega] at next
      rw [show (crun a s (n + 1)).1 = (cstep (crun a s n).1 (crun a s n).2.1 (bt s n)).1 from rfl, show (crun a s (n + 1)).2.1 = (cstep (crun a s n).1 (crun a s n).2.1 (bt s n)).2.1 from rfl] at next
      rw [w64 (x := (n : Int) + 1) (by omega) (by omega)]
      obtain ⟨A, hA⟩ : ∃ A, A = (crun a s n).1 := ⟨_, rfl⟩
      obtain ⟨Q, hQ⟩ : ∃ Q, Q = (crun a s n).2.1 := ⟨_, rfl⟩
      obtain ⟨c, hc⟩ : ∃ c, c = bt s n := ⟨_, rfl⟩
      rw [← hA, ← hQ, ← hc] at next
      rw [← hA] at r0 r9
      rw [← hA, ← hQ, ← hc]
      refine W.pos (by omega) (W.pos (by omega) ?_)
      unfold cstep at next
      cases Q with
      | true =>
        rw [if_pos rfl] at next
        exact W.pos rfl (W.pos (by omega) next)
      | false =>
        rw [if_neg (show ¬ (false = true) by decide)] at next
        refine W.neg (show ¬ (false = true) by decide) ?_
        have j1 : ∀ b : Bool, b = decide (c = 123 ∧ A < 9) → W (fun k => spec_l17Line.j1 k A s (colT a s n) false n c (⟨#[48]⟩ : ByteArray) b) (fun r => r = ((crun a s s.size).1, colT a s s.size)) := by
          intro b hb
          refine W.step (fun k => spec_l17Line.j1.eq_2 ..) ?_
          rw [w64 (x := (n : Int) + 1) (by omega) (by omega), w64 (x := A + 1) (by omega) (by omega), w64 (x := A - 1) (by omega) (by omega)]
          by_cases h2 : c = 123 ∧ A < 9
          · rw [if_pos h2] at next
            exact W.pos (by rw [hb]; simpa using h2) (W.pos (by omega) next)
          · rw [if_neg h2] at next
            refine W.neg (by rw [hb]; simpa using h2) ?_
            by_cases h3 : A > 0
            · rw [if_pos h3] at next
              refine W.pos h3 ?_
              by_cases h4 : c = 125
              · rw [if_pos h4] at next
                exact W.pos h4 (W.pos (by omega) next)
              · rw [if_neg h4] at next
                exact W.neg h4 (W.pos (by omega) next)
            · rw [if_neg h3] at next
              refine W.neg h3 ?_
              by_cases h5 : c = 34
              · rw [if_pos h5] at next
                exact W.pos h5 (W.pos (by omega) next)
              · rw [if_neg h5] at next
                refine W.neg h5 ?_
                have j2 : ∀ b : Bool, b = decide (48 ≤ c ∧ c ≤ 57) → W (fun k => spec_l17Line.j2 k A s (colT a s n) false n c (⟨#[48]⟩ : ByteArray) b) (fun r => r = ((crun a s s.size).1, colT a s s.size)) := by
                  intro b hb
                  refine W.step (fun k => spec_l17Line.j2.eq_2 ..) ?_
                  rw [w64 (x := (n : Int) + 1) (by omega) (by omega)]
                  by_cases h6 : 48 ≤ c ∧ c ≤ 57
                  · rw [if_pos h6] at next
                    exact W.pos (by rw [hb]; simpa using h6) (W.pos (by omega) next)
                  · rw [if_neg h6] at next
                    refine W.neg (by rw [hb]; simpa using h6) (W.bind_eq (kindC c) ?_)
                    by_cases h7 : cls c = 1
                    · rw [if_pos h7] at next
                      exact W.pos h7 (W.pos (by omega) next)
                    · rw [if_neg h7] at next
                      exact W.neg h7 (W.pos (by rw [hz]; show n + 1 ≤ _; omega) next)
                refine W.ite (fun h => j2 _ ?_) (fun h => j2 _ ?_)
                · by_cases h8 : c ≤ 57 <;> simp [h8]; omega
                · rw [Eq.comm, decide_eq_false_iff_not]; omega
        refine W.ite (fun h => j1 _ ?_) (fun h => j1 _ ?_)
        · by_cases h8 : A < 9 <;> simp [h, h8]
        · rw [Eq.comm, decide_eq_false_iff_not]; exact fun h' => h h'.1
    · have e : n = s.size := by omega
      subst e
      exact W.neg (by omega) (W.ret rfl)) 0 (by omega)
  exact key

end Go.Proofs.YtheglgphknahdaaDoor.Ev
/- Lists of numbers: read, set, cut. No program in sight. -/
namespace Go.Proofs.YtheglgphknahdaaDoor.ThB
open Go.RowKit Go.Proofs.YtheglgphknahdaaDoorW.PrintWords
set_option linter.unusedVariables false
set_option linter.unusedSimpArgs false

theorem rd_left (xs ys : List Int) {i : Int} (h0 : 0 ≤ i) (h : i < xs.length) : rd (xs ++ ys) i = rd xs i := by
  unfold rd
  rw [List.getD_eq_getElem?_getD, List.getD_eq_getElem?_getD, List.getElem?_append_left (by omega)]
theorem rd_snoc (xs : List Int) (v : Int) {i : Int} (h : i = xs.length) : rd (xs ++ [v]) i = v := by
  subst h
  unfold rd
  rw [List.getD_eq_getElem?_getD, List.getElem?_append_right (by simp)]
  simp
theorem rd_set_self (xs : List Int) (v : Int) {i : Int} (h0 : 0 ≤ i) (h : i < xs.length) : rd (xs.set i.toNat v) i = v := by
  unfold rd
  rw [List.getD_eq_getElem?_getD, List.getElem?_set_self (by omega)]
  rfl
theorem rd_set_ne (xs : List Int) (v : Int) {i j : Int} (h0 : 0 ≤ i) (hj : 0 ≤ j) (h : i ≠ j) : rd (xs.set j.toNat v) i = rd xs i := by
  unfold rd
  rw [List.getD_eq_getElem?_getD, List.getD_eq_getElem?_getD, List.getElem?_set_ne (by omega)]
theorem rd_ext {xs ys : List Int} (hl : xs.length = ys.length) (h : ∀ i : Int, 0 ≤ i → i < xs.length → rd xs i = rd ys i) : xs = ys := by
  apply List.ext_getElem hl
  intro i h1 h2
  have := h i (by omega) (by omega)
  unfold rd at this
  simpa [List.getD_eq_getElem?_getD, h1, h2] using this
end Go.Proofs.YtheglgphknahdaaDoor.ThB
/- Lists as tables. No program in sight. -/
namespace Go.Proofs.YtheglgphknahdaaDoor.ThT
open Go.RowKit Go.Proofs.YtheglgphknahdaaDoorW.PrintWords Go.Proofs.YtheglgphknahdaaDoor.ThB
set_option linter.unusedVariables false
set_option linter.unusedSimpArgs false

def tab {α : Type} (f : Nat → α) : Nat → List α
  | 0 => []
  | n + 1 => tab f n ++ [f n]
theorem tab_succ {α : Type} (f : Nat → α) (n : Nat) : tab f (n + 1) = tab f n ++ [f n] := rfl
theorem tab_len {α : Type} (f : Nat → α) : ∀ n, (tab f n).length = n
  | 0 => rfl
  | n + 1 => by rw [tab_succ, List.length_append, tab_len f n]; rfl
theorem tab_get {α : Type} (f : Nat → α) : ∀ (n i : Nat), i < n → (tab f n)[i]? = some (f i)
  | 0, i, h => by omega
  | n + 1, i, h => by
    have hl := tab_len f n
    rw [tab_succ]
    by_cases e : i = n
    · subst e; rw [List.getElem?_append_right (by omega), hl, Nat.sub_self]; rfl
    · rw [List.getElem?_append_left (by omega)]; exact tab_get f n i (by omega)
theorem rd_tab (f : Nat → Int) (n : Nat) {i : Int} (h0 : 0 ≤ i) (h1 : i < n) : rd (tab f n) i = f i.toNat := by
  unfold rd
  rw [List.getD_eq_getElem?_getD, tab_get f n _ (by omega)]; rfl
theorem tab_congr {α : Type} {f g : Nat → α} : ∀ n, (∀ i, i < n → f i = g i) → tab f n = tab g n
  | 0, _ => rfl
  | n + 1, h => by rw [tab_succ, tab_succ, tab_congr n (fun i hi => h i (by omega)), h n (by omega)]
theorem tab_take {α : Type} (f : Nat → α) (n m : Nat) (h : m ≤ n) : (tab f n).take m = tab f m := by
  apply List.ext_getElem?
  intro i
  rw [List.getElem?_take]
  by_cases c : i < m
  · rw [if_pos c, tab_get f n i (by omega), tab_get f m i c]
  · rw [if_neg c, List.getElem?_eq_none (by rw [tab_len]; omega)]
/-- A table with n entries, of which the first i are laid. -/
theorem tab_set {α : Type} (d : α) (f : Nat → α) (n i : Nat) (h : i < n) : (tab f i ++ List.replicate (n - i) d).set i (f i) = tab f (i + 1) ++ List.replicate (n - (i + 1)) d := by
  have hl := tab_len f i
  have e : n - i = (n - (i + 1)) + 1 := by omega
  rw [List.set_append_right _ _ (by omega), hl, Nat.sub_self, e, List.replicate_succ, List.set_cons_zero, tab_succ, List.append_assoc]
  rfl
end Go.Proofs.YtheglgphknahdaaDoor.ThT
/- What the printed functions answer, part Sp: a text split at its line ends is its lines. -/
namespace Go.Proofs.YtheglgphknahdaaDoor.Ev
open Go.RowKit Go.Proofs.YtheglgphknahdaaDoor.X Go.Proofs.YtheglgphknahdaaDoor.Wp Go.Proofs.YtheglgphknahdaaDoorW.PrintWords Go.Proofs.YtheglgphknahdaaDoor.ThL Go.Proofs.YtheglgphknahdaaDoor.ThT
set_option linter.unusedVariables false
set_option linter.unusedSimpArgs false

theorem data_get (s : ByteArray) (n : Nat) (c : UInt8) : s.data.toList[n]? = some c ↔ n < s.size ∧ bt s n = c.toNat := by
  have hlen : s.data.toList.length = s.size := by rw [Array.length_toList]; rfl
  constructor
  · intro h
    have hn : n < s.data.toList.length := by
      rcases Nat.lt_or_ge n s.data.toList.length with h1 | h1
      · exact h1
      · rw [List.getElem?_eq_none h1] at h; cases h
    rw [List.getElem?_eq_getElem hn] at h
    injection h with h
    refine ⟨by omega, ?_⟩
    obtain ⟨p, e⟩ := bt_eq s (i := (n : Int)) (by omega) (by omega)
    rw [e]
    simp only [Int.toNat_natCast]
    have : s[n]'(by omega) = s.data.toList[n]'hn := rfl
    rw [this, h]
  · rintro ⟨h1, h2⟩
    obtain ⟨p, e⟩ := bt_eq s (i := (n : Int)) (by omega) (by omega)
    rw [e] at h2
    rw [List.getElem?_eq_getElem (by omega)]
    congr 1
    apply UInt8.toNat_inj.1
    simp only [Int.toNat_natCast] at h2
    exact_mod_cast h2
theorem ib_cases (s : ByteArray) (c : UInt8) : (Lib.indexByte s.data.toList c = -1 ∧ ∀ j : Int, 0 ≤ j → j < s.size → bt s j ≠ c.toNat) ∨ ∃ o : Nat, Lib.indexByte s.data.toList c = o ∧ o < s.size ∧ bt s o = c.toNat ∧ ∀ j : Int, 0 ≤ j → j < o → bt s j ≠ c.toNat := by
  have hge := Lib.indexByte_ge s.data.toList c
  by_cases h : Lib.indexByte s.data.toList c = -1
  · refine .inl ⟨h, fun j h0 h1 h2 => ?_⟩
    exact Lib.indexByte_none h j.toNat ((data_get s _ _).2 ⟨by omega, by rw [show ((j.toNat : Nat) : Int) = j from by omega]; exact h2⟩)
  · obtain ⟨o, ho⟩ : ∃ o : Nat, Lib.indexByte s.data.toList c = o := ⟨(Lib.indexByte s.data.toList c).toNat, by omega⟩
    obtain ⟨h1, h2⟩ := Lib.indexByte_some ho
    obtain ⟨h3, h4⟩ := (data_get s _ _).1 h1
    refine .inr ⟨o, ho, h3, h4, fun j h0 h5 h6 => ?_⟩
    exact h2 j.toNat (by omega) ((data_get s _ _).2 ⟨by omega, by rw [show ((j.toNat : Nat) : Int) = j from by omega]; exact h6⟩)
theorem count10 (s : ByteArray) : ∀ n, n ≤ s.size → (s.data.toList.take n).count 10 = nl s n
  | 0, _ => by rw [List.take_zero]; rfl
  | n + 1, h => by
    rw [List.take_add_one, List.count_append, count10 s n (by omega), nl_step]
    have hn : n < s.data.toList.length := by rw [Array.length_toList]; exact h
    rw [List.getElem?_eq_getElem hn]
    have hg : s.data.toList[n]? = some (s.data.toList[n]'hn) := List.getElem?_eq_getElem hn
    by_cases e : bt s n = 10
    · have := (data_get s n 10).2 ⟨by omega, e⟩
      rw [hg] at this
      injection this with this
      rw [this, if_pos e]; rfl
    · rw [if_neg e]
      have hne : s.data.toList[n]'hn ≠ 10 := fun h2 => by
        rw [h2] at hg
        exact e ((data_get s n 10).1 hg).2
      rw [Option.toList_some, List.count_singleton, if_neg (by simpa using hne)]
theorem countNl (s : ByteArray) : Lib.countByte s.data.toList 10 = nl s s.size := by
  rw [← count10 s s.size (Nat.le_refl _)]
  unfold Lib.countByte
  rw [List.take_of_length_le]
  rw [Array.length_toList]; exact Nat.le_refl _

/-- The text from line i's beginning on. -/
def rest (s : ByteArray) (i : Nat) : ByteArray := s.extract (st s i) s.size
theorem rest_size (s : ByteArray) {i : Nat} (h : i ≤ nl s s.size) : (rest s i).size = s.size - st s i := by
  unfold rest; rw [ByteArray.size_extract]; omega
theorem rest_bt (s : ByteArray) {i : Nat} (h : i ≤ nl s s.size) {j : Int} (h0 : 0 ≤ j) (h1 : j < (rest s i).size) : bt (rest s i) j = bt s (st s i + j) := by
  obtain ⟨a, _, _⟩ := st_spec s i h
  rw [rest_size s h] at h1
  have := bt_ext s (a := (st s i : Int)) (b := (s.size : Int)) (i := j) (by omega) h0 (by omega) (by omega)
  rw [Int.toNat_natCast, Int.toNat_natCast] at this
  exact this
theorem rest_last (s : ByteArray) : rest s (nl s s.size) = lineAt s (nl s s.size) := by unfold rest lineAt; rw [last_en]
theorem index10 (s : ByteArray) {i : Nat} (h : i < nl s s.size) : strings_Index.f (rest s i) (⟨#[10]⟩ : ByteArray) = some ((en s i - st s i : Nat) : Int) := by
  have h1 : strings_Index.f (rest s i) (⟨#[10]⟩ : ByteArray) = some (Lib.indexByte (rest s i).data.toList 10) := rfl
  rw [h1]
  congr 1
  obtain ⟨a, b, c, d, e⟩ := en_spec s (k := i) (by omega)
  have hlt : en s i < s.size := by
    have := (st_spec s (i + 1) (by omega)).1
    rw [st_succ] at this; omega
  have hz := rest_size s (i := i) (by omega)
  have hat : bt (rest s i) ((en s i - st s i : Nat) : Int) = 10 := by
    rw [rest_bt s (by omega) (by omega) (by omega), show (st s i : Int) + ((en s i - st s i : Nat) : Int) = (en s i : Nat) from by omega]
    exact d hlt
  rcases ib_cases (rest s i) 10 with ⟨_, h2⟩ | ⟨o, h2, h3, h4, h5⟩
  · exact absurd hat (h2 _ (by omega) (by omega))
  · rw [h2]
    have e1 : ¬ o < en s i - st s i := fun h6 => by
      rw [rest_bt s (by omega) (by omega) (by omega)] at h4
      exact c _ (by omega) (by omega) h4
    have e2 : ¬ en s i - st s i < o := fun h6 => h5 _ (by omega) (by omega) hat
    omega

theorem genSplit10 (s : ByteArray) (hs : s.size ≤ 1000000) : W (fun k => strings_genSplit.f k s (⟨#[10]⟩ : ByteArray) 0 (-1)) (fun r => r = lines s) := by
  unfold strings_genSplit.f
  have fin := nl_le s s.size
  refine W.neg (by omega) (W.neg (by rw [toList_data]; simp) (W.pos (by omega) (W.call (show strings_Count.f s (⟨#[10]⟩ : ByteArray) = some (nl s s.size : Int) from by rw [show strings_Count.f s (⟨#[10]⟩ : ByteArray) = some ((Lib.countByte s.data.toList 10 : Nat) : Int) from rfl, countNl]) ?_)))
  rw [w64 (x := (nl s s.size : Int) + 1) (by omega) (by omega)]
  refine W.step (fun k => strings_genSplit.j0.eq_2 ..) ?_
  rw [w64 (x := (s.size : Int) + 1) (by omega) (by omega), show mn ((nl s s.size : Int) + 1) ((s.size : Int) + 1) = ((nl s s.size + 1 : Nat) : Int) from by unfold mn; split <;> omega, Int.toNat_natCast, w64 (x := ((nl s s.size + 1 : Nat) : Int) - 1) (by omega) (by omega), show ((nl s s.size + 1 : Nat) : Int) - 1 = (nl s s.size : Nat) from by omega]
  refine W.pos (by omega) (W.pos (by omega) ?_)
  obtain ⟨m, hm⟩ : ∃ m, m = nl s s.size := ⟨_, rfl⟩
  rw [← hm]
  have hd : (⟨#[]⟩ : ByteArray) = ByteArray.empty := rfl
  have key := W.loop (l := fun (i : Nat) k => strings_genSplit.l0 k (rest s i) (⟨#[10]⟩ : ByteArray) 0 m (tab (lineAt s) i ++ List.replicate (m + 1 - i) (⟨#[]⟩ : ByteArray)) i) (P := fun _ r => r = lines s) (fun i : Nat => i ≤ m) (fun i => m - i) (by
    intro i hi ih
    refine W.step (fun k => strings_genSplit.l0.eq_2 ..) ?_
    have hlen : (tab (lineAt s) i ++ List.replicate (m + 1 - i) (⟨#[]⟩ : ByteArray)).length = m + 1 := by rw [List.length_append, tab_len, List.length_replicate]; omega
    by_cases hlt : i < m
    · have next := ih (i + 1) (by omega) (by omega)
      obtain ⟨a, b, c, d, e⟩ := en_spec s (k := i) (by omega)
      have hes : en s i < s.size := by
        have := (st_spec s (i + 1) (by omega)).1
        rw [st_succ] at this; omega
      have hz := rest_size s (i := i) (by omega)
      have e1 : (rest s i).extract 0 (en s i - st s i) = lineAt s i := by
        unfold rest lineAt
        rw [ByteArray.extract_extract]
        congr 1 <;> omega
      have e2 : (rest s i).extract (en s i - st s i + 1) (rest s i).size = rest s (i + 1) := by
        rw [hz]
        unfold rest
        rw [ByteArray.extract_extract, st_succ]
        congr 1 <;> omega
      rw [show ((i + 1 : Nat) : Int) = (i : Int) + 1 from by omega] at next
      refine W.pos (by omega) (W.call (index10 s (by omega)) (W.neg (by omega) ?_))
      have hone : ((⟨#[10]⟩ : ByteArray).size : Int) = 1 := rfl
      rw [hone, w64 (x := ((en s i - st s i : Nat) : Int) + 0) (by omega) (by omega), w64 (x := ((en s i - st s i : Nat) : Int) + 1) (by omega) (by omega), w64 (x := (i : Int) + 1) (by omega) (by omega), Int.add_zero, Int.toNat_natCast, Int.toNat_natCast, show (((en s i - st s i : Nat) : Int) + 1).toNat = en s i - st s i + 1 from by omega, e1, e2, tab_set _ _ (m + 1) i (by omega)]
      exact W.pos (by omega) (W.pos (by omega) (W.pos (by omega) (W.pos (by omega) (W.pos (by omega) (W.pos (by omega) next)))))
    · have e : i = m := by omega
      subst e
      refine W.neg (by omega) (W.pos (by omega) (W.pos (by omega) ?_))
      rw [w64 (x := (i : Int) + 1) (by omega) (by omega)]
      refine W.pos (by omega) (W.pos (by omega) (W.ret ?_))
      rw [Int.toNat_natCast, show ((i : Int) + 1).toNat = i + 1 from by omega]
      have hl : rest s i = lineAt s i := by rw [hm]; exact rest_last s
      rw [hl, tab_set _ _ (i + 1) i (by omega), Nat.sub_self, List.replicate_zero, List.append_nil, List.take_of_length_le (by rw [tab_len]; exact Nat.le_refl _)]
      unfold lines
      rw [← hm]
      clear hlt hlen hl ih hi
      induction (i + 1) with
      | zero => rfl
      | succ n ih => rw [tab_succ, lns_succ, ih]) 0 (by omega)
  have e0 : rest s 0 = s := by
    unfold rest
    rw [show st s 0 = 0 from rfl]
    exact ByteArray.extract_zero_size
  rw [e0] at key
  exact key
theorem linesOfW (s : ByteArray) (hs : s.size ≤ 1000000) : W (fun k => impl_linesOf.f k s) (fun r => r = lines s) := by
  unfold impl_linesOf.f strings_Split.f
  exact W.bind_eq (W.bind_eq (genSplit10 s hs) (W.ret rfl)) (W.ret rfl)
end Go.Proofs.YtheglgphknahdaaDoor.Ev
/- What the printed functions answer, part Cs: the states before a text's lines, the colours of its lines. -/
namespace Go.Proofs.YtheglgphknahdaaDoor.Ev
open Go.RowKit Go.Proofs.YtheglgphknahdaaDoor.X Go.Proofs.YtheglgphknahdaaDoor.Wp Go.Proofs.YtheglgphknahdaaDoorW.PrintWords Go.Proofs.YtheglgphknahdaaDoor.ThL Go.Proofs.YtheglgphknahdaaDoor.ThC Go.Proofs.YtheglgphknahdaaDoor.ThT
set_option linter.unusedVariables false
set_option linter.unusedSimpArgs false

/-- The state before line k. -/
def cst (s : ByteArray) : Nat → Int
  | 0 => 0
  | k + 1 => (crun (cst s k) (lineAt s k) (lineAt s k).size).1
theorem cst_range (s : ByteArray) : ∀ k, 0 ≤ cst s k ∧ cst s k ≤ 9
  | 0 => ⟨Int.le_refl 0, show (0 : Int) ≤ 9 by decide⟩
  | k + 1 => by
    have := cst_range s k
    exact crun_range _ this.1 this.2 _
/-- The colours of line k. -/
def ccol (s : ByteArray) (k : Nat) : ByteArray := colT (cst s k) (lineAt s k) (lineAt s k).size
theorem lineAt_le (s : ByteArray) (k : Nat) : (lineAt s k).size ≤ s.size := by
  unfold lineAt; rw [ByteArray.size_extract]; omega
theorem colourAt (s : ByteArray) (hs : s.size ≤ 1000000) (k : Nat) : impl_colour.f (cst s k) (lineAt s k) = some (cst s (k + 1), ccol s k) := by
  have := cst_range s k
  have := lineAt_le s k
  unfold impl_colour.f; rw [if_pos ⟨by omega, by omega, by omega⟩]; rfl
theorem implStates (s : ByteArray) (hs : s.size ≤ 140737488351232) : W (fun k => impl_ColourStates.f k s) (fun r => r = if VT s then tab (cst s) (nl s s.size + 2) else []) := by
  unfold impl_ColourStates.f
  refine W.bind (implTV s hs) (fun b hb => W.ite (fun h => ?_) (fun h => W.ret (by rw [if_neg (fun hv => h (hb.2 hv))])))
  have hv := hb.1 h
  have hsz := hv.1
  rw [if_pos hv]
  have fin := nl_le s s.size
  refine W.bind_eq (linesOfW s (by omega)) ?_
  have hl := lines_len s
  rw [hl]
  have key := W.loop (l := fun (i : Nat) k => impl_ColourStates.l0 k (tab (cst s) (i + 1)) (lines s) ((nl s s.size + 1 : Nat) : Int) i) (P := fun _ r => r = tab (cst s) (nl s s.size + 2)) (fun i : Nat => i ≤ nl s s.size + 1) (fun i => nl s s.size + 1 - i) (by
    intro i hi ih
    refine W.step (fun k => impl_ColourStates.l0.eq_2 ..) ?_
    have ht := tab_len (cst s) (i + 1)
    by_cases hlt : i < nl s s.size + 1
    · have next := ih (i + 1) (by omega) (by omega)
      rw [tab_succ, show ((i + 1 : Nat) : Int) = (i : Int) + 1 from by omega] at next
      rw [w64 (x := ((tab (cst s) (i + 1)).length : Int) - 1) (by omega) (by omega), w64 (x := (i : Int) + 1) (by omega) (by omega)]
      refine W.pos (by omega) (W.pos (by omega) (W.pos (by omega) (W.pos (by omega) (W.pos (by omega) ?_))))
      rw [show rd (tab (cst s) (i + 1)) (((tab (cst s) (i + 1)).length : Int) - 1) = cst s i from by rw [rd_tab _ _ (by omega) (by omega), show (((tab (cst s) (i + 1)).length : Int) - 1).toNat = i from by omega], lines_get s (by omega) (by omega), Int.toNat_natCast]
      exact W.call (colourAt s (by omega) i) (W.pos (by omega) next)
    · have e : i = nl s s.size + 1 := by omega
      subst e
      exact W.neg (by omega) (W.ret rfl)) 0 (by omega)
  exact key
theorem specStates (s : ByteArray) (hs : s.size ≤ 140737488351232) : W (fun k => spec_ColourStates.f k s) (fun r => r = if VT s then tab (cst s) (nl s s.size + 2) else []) := by
  unfold spec_ColourStates.f
  refine W.bind_eq (specLinesOf s hs) ?_
  by_cases hv : VT s
  · rw [if_pos hv, if_pos hv]
    have hsz := hv.1
    have fin := nl_le s s.size
    have hl := lines_len s
    have key := W.loop (l := fun (i : Nat) k => spec_ColourStates.l0 k (lines s) (tab (cst s) i) (cst s i) i) (P := fun _ r => r = tab (cst s) (nl s s.size + 2)) (fun i : Nat => i ≤ nl s s.size + 1) (fun i => nl s s.size + 1 - i) (by
      intro i hi ih
      refine W.step (fun k => spec_ColourStates.l0.eq_2 ..) ?_
      have ht := tab_len (cst s) i
      by_cases hlt : i < nl s s.size + 1
      · have next := ih (i + 1) (by omega) (by omega)
        have rg := cst_range s i
        have lz := lineAt_le s i
        rw [tab_succ, show ((i + 1 : Nat) : Int) = (i : Int) + 1 from by omega] at next
        rw [w64 (x := (i : Int) + 1) (by omega) (by omega), lines_get s (by omega) (by omega), Int.toNat_natCast]
        exact W.pos (by omega) (W.pos (by omega) (W.pos (by omega) (W.bind_eq (specLine _ _ rg.1 rg.2 (by omega)) next)))
      · have e : i = nl s s.size + 1 := by omega
        subst e
        refine W.neg (by omega) (W.pos (by omega) (W.pos (by omega) (W.ret rfl)))) 0 (by omega)
    exact key
  · rw [if_neg hv, if_neg hv]
    exact W.step (fun k => spec_ColourStates.l0.eq_2 ..) (W.neg (by simp) (W.neg (by simp) (W.ret rfl)))
end Go.Proofs.YtheglgphknahdaaDoor.Ev
/- What the printed functions answer, part Li: the program's lines. -/
namespace Go.Proofs.YtheglgphknahdaaDoor.Ev
open Go.RowKit Go.Proofs.YtheglgphknahdaaDoor.X Go.Proofs.YtheglgphknahdaaDoor.Wp Go.Proofs.YtheglgphknahdaaDoorW.PrintWords Go.Proofs.YtheglgphknahdaaDoor.ThL Go.Proofs.YtheglgphknahdaaDoor.ThT Go.Proofs.YtheglgphknahdaaDoor.ThB
set_option linter.unusedVariables false
set_option linter.unusedSimpArgs false

theorem implLineMany (s : ByteArray) (hs : s.size ≤ 140737488351232) : W (fun k => impl_LineMany.f k s) (fun r => r = if VT s then (nl s s.size : Int) + 1 else -1) := by
  unfold impl_LineMany.f
  refine W.bind (implTV s hs) (fun b hb => W.ite (fun h => ?_) (fun h => W.ret (by rw [if_neg (fun hv => h (hb.2 hv))])))
  rw [if_pos (hb.1 h)]
  have fin := nl_le s s.size
  refine W.call (show strings_Count.f s (⟨#[10]⟩ : ByteArray) = some (nl s s.size : Int) from by rw [show strings_Count.f s (⟨#[10]⟩ : ByteArray) = some ((Lib.countByte s.data.toList 10 : Nat) : Int) from rfl, countNl]) (W.ret ?_)
  rw [w64 (x := 1 + (nl s s.size : Int)) (by omega) (by omega)]; omega
theorem implIsLine (s : ByteArray) (line : Int) (hs : s.size ≤ 140737488351232) : W (fun k => impl_isLine.f k s line) (fun b => b = true ↔ VT s ∧ 0 ≤ line ∧ line ≤ nl s s.size) := by
  unfold impl_isLine.f
  refine W.bind (implTV s hs) (fun b hb => W.ite (fun h => ?_) (fun h => W.ret ⟨fun h2 => by simp at h2, fun hv => absurd (hb.2 hv.1) h⟩))
  have hv := hb.1 h
  have fin := nl_le s s.size
  refine W.bind_eq (implLineMany s hs) ?_
  rw [if_pos hv]
  refine W.call (in_eq ..) (W.ret ?_)
  rw [w64 (x := (nl s s.size : Int) + 1 - 1) (by omega) (by omega), decide_eq_true_eq]
  exact ⟨fun h2 => ⟨hv, by omega, by omega⟩, fun h2 => ⟨by omega, by omega⟩⟩
theorem st_after {s : ByteArray} {n : Nat} (hn : n < s.size) (h : bt s n = 10) : st s (nl s n + 1) = n + 1 := by
  have hle : nl s n + 1 ≤ nl s s.size := by
    have := nl_mono s (show n + 1 ≤ s.size from hn)
    rw [nl_step, if_pos h] at this; exact this
  obtain ⟨a, b, c⟩ := st_spec s _ hle
  symm
  refine start_uniq s (p := n + 1) (q := st s (nl s n + 1)) ?_ (.inr ?_) ?_
  · rw [b, nl_step, if_pos h]
  · rw [show (((n + 1 : Nat) : Int) - 1) = n from by omega]; exact h
  · rcases c with c | c
    · omega
    · exact .inr c
theorem implStarts (s : ByteArray) (hs : s.size ≤ 1000000) : W (fun k => impl_starts.f k s) (fun r => r = tab (fun i => (st s i : Int)) (nl s s.size + 1)) := by
  unfold impl_starts.f
  have key := W.loop (l := fun (n : Nat) k => impl_starts.l0 k s (tab (fun i => (st s i : Int)) (nl s n + 1)) s.size n) (P := fun _ r => r = tab (fun i => (st s i : Int)) (nl s s.size + 1)) (fun n : Nat => n ≤ s.size) (fun n => s.size - n) (by
    intro n hn ih
    refine W.step (fun k => impl_starts.l0.eq_2 ..) ?_
    have ht := tab_len (fun i => (st s i : Int)) (nl s n + 1)
    have hle := nl_le s n
    by_cases hlt : n < s.size
    · have next := ih (n + 1) (by omega) (by omega)
      rw [show ((n + 1 : Nat) : Int) = (n : Int) + 1 from by omega] at next
      rw [w64 (x := (n : Int) + 1) (by omega) (by omega)]
      refine W.pos (by omega) (W.pos (by omega) (W.pos (by omega) (W.ite (fun hc => W.pos (by omega) ?_) (fun hc => ?_))))
      · rw [nl_step, if_pos hc, tab_succ, st_after hlt hc, show ((n + 1 : Nat) : Int) = (n : Int) + 1 from by omega] at next
        exact next
      · rw [nl_step, if_neg hc] at next
        exact next
    · have e : n = s.size := by omega
      subst e
      exact W.neg (by omega) (W.ret rfl)) 0 (by omega)
  exact key
theorem implLineEnd (s : ByteArray) (line : Int) (hs : s.size ≤ 140737488351232) : W (fun k => impl_LineEnd.f k s line) (fun r => r = if VT s ∧ 0 ≤ line ∧ line ≤ nl s s.size then (en s line.toNat : Int) else -1) := by
  unfold impl_LineEnd.f
  refine W.bind (implIsLine s line hs) (fun b hb => W.ite (fun h => ?_) (fun h => W.ret (by rw [if_neg (fun hv => h (hb.2 hv))])))
  have hv := hb.1 h
  have hsz := hv.1.1
  rw [if_pos hv]
  refine W.bind_eq (implStarts s (by omega)) ?_
  have ht := tab_len (fun i => (st s i : Int)) (nl s s.size + 1)
  have hk : line.toNat ≤ nl s s.size := by omega
  obtain ⟨a, b, c, d, e⟩ := en_spec s hk
  refine W.pos hv.2.1 (W.pos (by omega) ?_)
  rw [rd_tab _ _ hv.2.1 (by omega)]
  refine W.pos (by omega) (W.pos (by omega) ?_)
  rw [Int.toNat_natCast]
  have hz : (s.extract (st s line.toNat) s.size).size = s.size - st s line.toNat := by rw [ByteArray.size_extract]; omega
  have hb2 : ∀ j : Int, 0 ≤ j → j < (s.extract (st s line.toNat) s.size).size → bt (s.extract (st s line.toNat) s.size) j = bt s (st s line.toNat + j) := by
    intro j h0 h1
    have := bt_ext s (a := (st s line.toNat : Int)) (b := (s.size : Int)) (i := j) (by omega) h0 (by omega) (by omega)
    rw [Int.toNat_natCast, Int.toNat_natCast] at this
    exact this
  refine W.call (show strings_IndexByte.f (s.extract (st s line.toNat) s.size) 10 = some (Lib.indexByte (s.extract (st s line.toNat) s.size).data.toList 10) from rfl) ?_
  rcases ib_cases (s.extract (st s line.toNat) s.size) 10 with ⟨h1, h2⟩ | ⟨o, h1, h2, h3, h4⟩
  · rw [h1]
    refine W.neg (by omega) (W.ret ?_)
    by_cases hlt : en s line.toNat < s.size
    · have := h2 ((en s line.toNat - st s line.toNat : Nat) : Int) (by omega) (by omega)
      rw [hb2 _ (by omega) (by omega), show (st s line.toNat : Int) + ((en s line.toNat - st s line.toNat : Nat) : Int) = (en s line.toNat : Nat) from by omega] at this
      exact absurd (d hlt) this
    · omega
  · rw [h1]
    refine W.pos (by omega) (W.ret ?_)
    rw [w64 (x := (st s line.toNat : Int) + o) (by omega) (by omega)]
    rw [hb2 _ (by omega) (by omega)] at h3
    have e1 : ¬ (st s line.toNat + o < en s line.toNat) := fun h5 => c _ (by omega) (by omega) h3
    have e2 : ¬ (en s line.toNat < st s line.toNat + o) := fun h5 => by
      have := h4 ((en s line.toNat - st s line.toNat : Nat) : Int) (by omega) (by omega)
      rw [hb2 _ (by omega) (by omega), show (st s line.toNat : Int) + ((en s line.toNat - st s line.toNat : Nat) : Int) = (en s line.toNat : Nat) from by omega] at this
      exact this (d (by omega))
    omega
end Go.Proofs.YtheglgphknahdaaDoor.Ev
/- What the printed functions answer, part Ac: changes applied. -/
namespace Go.Proofs.YtheglgphknahdaaDoor.Ev
open Go.RowKit Go.Proofs.YtheglgphknahdaaDoor.X Go.Proofs.YtheglgphknahdaaDoor.Wp Go.Proofs.YtheglgphknahdaaDoorW.PrintWords
set_option linter.unusedVariables false
set_option linter.unusedSimpArgs false

/-- A text with a part cut and another one put there. -/
def acT (s : ByteArray) (at_ cut : Int) (put : ByteArray) : ByteArray := s.extract 0 at_.toNat ++ put ++ s.extract (at_ + cut).toNat s.size
/-- The change is possible. -/
def fits (s : ByteArray) (at_ cut : Int) (put : ByteArray) : Prop := (0 ≤ at_ ∧ at_ ≤ s.size) ∧ (0 ≤ cut ∧ cut ≤ s.size - at_) ∧ (∀ j : Int, 0 ≤ j → j < put.size → okB (bt put j)) ∧ (s.size : Int) - cut + put.size ≤ 120
noncomputable instance (s : ByteArray) (at_ cut : Int) (put : ByteArray) : Decidable (fits s at_ cut put) := Classical.propDecidable _
theorem acT_size {s : ByteArray} {at_ cut : Int} (put : ByteArray) (h1 : 0 ≤ at_ ∧ at_ ≤ s.size) (h2 : 0 ≤ cut ∧ cut ≤ s.size - at_) : ((acT s at_ cut put).size : Int) = s.size - cut + put.size := by
  unfold acT
  rw [ByteArray.size_append, ByteArray.size_append, ByteArray.size_extract, ByteArray.size_extract]; omega
theorem acT_left {s : ByteArray} {at_ cut : Int} (put : ByteArray) (h1 : 0 ≤ at_ ∧ at_ ≤ s.size) {j : Int} (h0 : 0 ≤ j) (h : j < at_) : bt (acT s at_ cut put) j = bt s j := by
  unfold acT
  have hz : (s.extract 0 at_.toNat).size = at_.toNat := by rw [ByteArray.size_extract]; omega
  rw [bt_cat_left _ _ (by rw [ByteArray.size_append]; omega), bt_cat_left _ _ (by omega)]
  have := bt_ext s (a := 0) (b := at_) (i := j) (by omega) h0 (by omega) h1.2
  rw [Int.zero_add] at this
  exact this
theorem acT_mid {s : ByteArray} {at_ cut : Int} (put : ByteArray) (h1 : 0 ≤ at_ ∧ at_ ≤ s.size) {j : Int} (h0 : 0 ≤ j) (h : j < put.size) : bt (acT s at_ cut put) (at_ + j) = bt put j := by
  unfold acT
  have hz : (s.extract 0 at_.toNat).size = at_.toNat := by rw [ByteArray.size_extract]; omega
  rw [bt_cat_left _ _ (by rw [ByteArray.size_append]; omega), bt_cat_right _ _ (by omega), hz, show at_ + j - (at_.toNat : Int) = j from by omega]
theorem acT_right {s : ByteArray} {at_ cut : Int} (put : ByteArray) (h1 : 0 ≤ at_ ∧ at_ ≤ s.size) (h2 : 0 ≤ cut ∧ cut ≤ s.size - at_) {j : Int} (h0 : 0 ≤ j) (h : j < s.size - at_ - cut) : bt (acT s at_ cut put) (at_ + put.size + j) = bt s (at_ + cut + j) := by
  unfold acT
  have hz : (s.extract 0 at_.toNat).size = at_.toNat := by rw [ByteArray.size_extract]; omega
  have hz2 : (s.extract 0 at_.toNat ++ put).size = at_.toNat + put.size := by rw [ByteArray.size_append, hz]
  rw [bt_cat_right _ _ (by omega), hz2, show at_ + put.size + j - ((at_.toNat + put.size : Nat) : Int) = j from by omega]
  have := bt_ext s (a := at_ + cut) (b := (s.size : Int)) (i := j) (by omega) h0 (by omega) (Int.le_refl _)
  rw [Int.toNat_natCast] at this
  exact this
theorem acT_VT {s : ByteArray} {at_ cut : Int} {put : ByteArray} (hv : VT s) (h1 : 0 ≤ at_ ∧ at_ ≤ s.size) (h2 : 0 ≤ cut ∧ cut ≤ s.size - at_) : VT (acT s at_ cut put) ↔ (∀ j : Int, 0 ≤ j → j < put.size → okB (bt put j)) ∧ (s.size : Int) - cut + put.size ≤ 120 := by
  have hz := acT_size put h1 h2
  constructor
  · rintro ⟨a, b⟩
    refine ⟨fun j h0 h => ?_, by omega⟩
    have := b (at_ + j) (by omega) (by omega)
    rw [acT_mid put h1 h0 h] at this
    exact this
  · rintro ⟨a, b⟩
    refine ⟨by omega, fun j h0 h => ?_⟩
    by_cases c1 : j < at_
    · rw [acT_left put h1 h0 c1]; exact hv.2 j h0 (by omega)
    · by_cases c2 : j < at_ + put.size
      · have := acT_mid (cut := cut) put h1 (j := j - at_) (by omega) (by omega)
        rw [show at_ + (j - at_) = j from by omega] at this
        rw [this]; exact a _ (by omega) (by omega)
      · have := acT_right put h1 h2 (j := j - at_ - put.size) (by omega) (by omega)
        rw [show at_ + put.size + (j - at_ - put.size) = j from by omega] at this
        rw [this]; exact hv.2 _ (by omega) (by omega)

/-- What a change leads to. -/
noncomputable def acR (s : ByteArray) (at_ cut : Int) (put : ByteArray) : ByteArray × Bool := if VT s then (if fits s at_ cut put then (acT s at_ cut put, true) else (s, false)) else (⟨#[]⟩, false)
theorem specFits (s : ByteArray) (at_ cut : Int) (put : ByteArray) (hs : s.size ≤ 140737488351232) (hp : put.size ≤ 140737488351232) : W (fun k => spec_ChangeFits.f k s at_ cut put) (fun b => b = true ↔ VT s ∧ fits s at_ cut put) := by
  unfold spec_ChangeFits.f
  refine W.bind (specTV s hs) (fun b hb => W.ite (fun h => ?_) (fun h => W.ret ⟨fun h2 => by simp at h2, fun h2 => absurd (hb.2 h2.1) h⟩))
  have hv := hb.1 h
  have hsz := hv.1
  refine W.call (l1In_eq ..) (W.ite (fun h1 => ?_) (fun h1 => W.ret ⟨fun h2 => by simp at h2, fun h2 => absurd (by simpa using h2.2.1) h1⟩))
  rw [decide_eq_true_eq] at h1
  rw [w64 (x := (s.size : Int) - at_) (by omega) (by omega)]
  refine W.call (l1In_eq ..) (W.ite (fun h2 => ?_) (fun h2 => W.ret ⟨fun h3 => by simp at h3, fun h3 => absurd (by simpa using h3.2.2.1) h2⟩))
  rw [decide_eq_true_eq] at h2
  refine W.bind (specPlain put hp) (fun c hc => W.ite (fun h3 => W.ret ?_) (fun h3 => W.ret ⟨fun h4 => by simp at h4, fun h4 => absurd (hc.2 h4.2.2.2.1) h3⟩))
  rw [w64 (x := (s.size : Int) - cut) (by omega) (by omega), w64 (x := (s.size : Int) - cut + put.size) (by omega) (by omega), decide_eq_true_eq]
  exact ⟨fun h4 => ⟨hv, h1, h2, hc.1 h3, h4⟩, fun h4 => h4.2.2.2.2⟩
theorem specAC (s : ByteArray) (at_ cut : Int) (put : ByteArray) (hs : s.size ≤ 140737488351232) (hp : put.size ≤ 140737488351232) : W (fun k => spec_ApplyChange.f k s at_ cut put) (fun r => r = acR s at_ cut put) := by
  unfold spec_ApplyChange.f acR
  refine W.bind (specTV s hs) (fun b hb => W.ite (fun h => ?_) (fun h => W.ret (by rw [if_neg (fun hv => h (hb.2 hv))])))
  have hv := hb.1 h
  have hsz := hv.1
  rw [if_pos hv]
  refine W.bind (specFits s at_ cut put hs hp) (fun c hc => W.ite (fun h1 => ?_) (fun h1 => W.ret (by rw [if_neg (fun hf => h1 (hc.2 ⟨hv, hf⟩))])))
  have hf := (hc.1 h1).2
  rw [if_pos hf]
  obtain ⟨f1, f2, f3, f4⟩ := hf
  rw [w64 (x := at_ + cut) (by omega) (by omega)]
  have z1 : (s.extract 0 at_.toNat).size = at_.toNat := by rw [ByteArray.size_extract]; omega
  have z2 : (s.extract (at_ + cut).toNat s.size).size = s.size - (at_ + cut).toNat := by rw [ByteArray.size_extract]; omega
  have z3 : (s.extract 0 at_.toNat ++ put).size = at_.toNat + put.size := by rw [ByteArray.size_append, z1]
  exact W.pos f1.1 (W.pos f1.2 (W.pos (by omega) (W.pos (by omega) (W.pos (by omega) (W.pos (by omega) (W.ret rfl))))))
theorem implApply (s : ByteArray) (at_ cut : Int) (put : ByteArray) (hv : VT s) (hp : put.size ≤ 140737488000000) : W (fun k => impl_Change_apply.f k at_ cut put s) (fun r => (r.2 = true ↔ fits s at_ cut put) ∧ (fits s at_ cut put → r.1 = acT s at_ cut put)) := by
  unfold impl_Change_apply.f
  have hsz := hv.1
  refine W.bind (implPlace s at_ (by omega)) (fun b hb => W.ite (fun h => ?_) (fun h => W.ret ⟨⟨fun h2 => by simp at h2, fun h2 => absurd (hb.2 ⟨hv, h2.1⟩) h⟩, fun h2 => absurd (hb.2 ⟨hv, h2.1⟩) h⟩))
  have h1 := (hb.1 h).2
  rw [w64 (x := (s.size : Int) - at_) (by omega) (by omega)]
  refine W.call (in_eq ..) (W.ite (fun h2 => ?_) (fun h2 => W.ret ⟨⟨fun h3 => by simp at h3, fun h3 => absurd (by simpa using h3.2.1) h2⟩, fun h3 => absurd (by simpa using h3.2.1) h2⟩))
  rw [decide_eq_true_eq] at h2
  rw [w64 (x := at_ + cut) (by omega) (by omega)]
  have z1 : (s.extract 0 at_.toNat).size = at_.toNat := by rw [ByteArray.size_extract]; omega
  have z2 : (s.extract (at_ + cut).toNat s.size).size = s.size - (at_ + cut).toNat := by rw [ByteArray.size_extract]; omega
  have z3 : (s.extract 0 at_.toNat ++ put).size = at_.toNat + put.size := by rw [ByteArray.size_append, z1]
  have z4 := acT_size put h1 h2
  refine W.pos h1.1 (W.pos h1.2 (W.pos (by omega) (W.pos (by omega) (W.pos (by omega) (W.pos (by omega) (W.bind (implTV (acT s at_ cut put) (by omega)) (fun c hc => W.ret ⟨?_, fun _ => rfl⟩)))))))
  dsimp only
  rw [hc, acT_VT hv h1 h2]
  exact ⟨fun h3 => ⟨h1, h2, h3⟩, fun h3 => h3.2.2⟩
end Go.Proofs.YtheglgphknahdaaDoor.Ev
/- The plain law of a changed text's lines: what stands before the change and behind it is as it was. -/
namespace Go.Proofs.YtheglgphknahdaaDoor.ThA
open Go.RowKit Go.Proofs.YtheglgphknahdaaDoorW.PrintWords Go.Proofs.YtheglgphknahdaaDoor.Ev Go.Proofs.YtheglgphknahdaaDoor.ThL
set_option linter.unusedVariables false
set_option linter.unusedSimpArgs false

/-- x is s, in which the bytes from a to q became those from a to p. -/
structure Chg (s x : ByteArray) (a p q : Nat) : Prop where
  left : ∀ j : Int, 0 ≤ j → j < a → bt x j = bt s j
  right : ∀ j : Int, 0 ≤ j → j < s.size - q → bt x (p + j) = bt s (q + j)
  aq : a ≤ q
  qs : q ≤ s.size
  ap : a ≤ p
  size : x.size = p + (s.size - q)
section
variable {s x : ByteArray} {a p q : Nat}
theorem Chg.nl_left (h : Chg s x a p q) : ∀ {j : Nat}, j ≤ a → nl x j = nl s j
  | 0, _ => rfl
  | j + 1, hj => by rw [nl_step, nl_step, h.nl_left (by omega), h.left j (by omega) (by omega)]
theorem Chg.nl_right (h : Chg s x a p q) : ∀ {t : Nat}, t ≤ s.size - q → nl x (p + t) + nl s q = nl x p + nl s (q + t)
  | 0, _ => rfl
  | t + 1, ht => by
    have ih := h.nl_right (t := t) (by omega)
    have e := h.right t (by omega) (by omega)
    rw [show p + (t + 1) = (p + t) + 1 from rfl, show q + (t + 1) = (q + t) + 1 from rfl, nl_step, nl_step, show (((p + t : Nat) : Int)) = (p : Int) + t from by omega, show (((q + t : Nat) : Int)) = (q : Int) + t from by omega, e]
    omega
theorem Chg.nl_end (h : Chg s x a p q) : nl x x.size + nl s q = nl x p + nl s s.size := by
  have := h.nl_right (t := s.size - q) (Nat.le_refl _)
  have hq := h.qs
  rw [show q + (s.size - q) = s.size from by omega, ← h.size] at this
  exact this
/-- Lines that begin before the change. -/
theorem Chg.st_left (h : Chg s x a p q) {k : Nat} (hk : k ≤ nl s a) : st x k = st s k ∧ st s k ≤ a := by
  have hq := h.qs
  have haq := h.aq
  have hap := h.ap
  have hz := h.size
  have hm := nl_mono s (show a ≤ s.size by omega)
  obtain ⟨h1, h2, h3⟩ := st_spec s k (by omega)
  have hle : st s k ≤ a := by
    rcases h3 with h3 | h3
    · have : st s k = 0 := by rw [h3]; rfl
      omega
    · rcases Nat.lt_or_ge a (st s k) with hgt | hle
      · have h4 := nl_lt s (a := a) (b := st s k) (j := st s k - 1) (by omega) (by omega) (by rw [show ((st s k - 1 : Nat) : Int) = (st s k : Int) - 1 from by omega]; exact h3)
        omega
      · exact hle
  refine ⟨?_, hle⟩
  have hmx := nl_mono x (show a ≤ x.size by omega)
  rw [h.nl_left (Nat.le_refl _)] at hmx
  obtain ⟨g1, g2, g3⟩ := st_spec x k (by omega)
  refine start_uniq x ?_ ?_ ?_
  · rw [g2, h.nl_left hle, h2]
  · rcases g3 with g3 | g3
    · left; rw [g3]; rfl
    · exact .inr g3
  · rcases h3 with h3 | h3
    · left; rw [h3]; rfl
    · by_cases e : st s k = 0
      · exact .inl e
      · right; rw [h.left _ (by omega) (by omega)]; exact h3
theorem Chg.line_left (h : Chg s x a p q) {k : Nat} (hk : k < nl s a) : lineAt x k = lineAt s k := by
  obtain ⟨e1, l1⟩ := h.st_left (k := k) (by omega)
  obtain ⟨e2, l2⟩ := h.st_left (k := k + 1) (by omega)
  rw [st_succ, st_succ] at e2
  rw [st_succ] at l2
  have e3 : en x k = en s k := by omega
  have hq := h.qs
  have haq := h.aq
  have hap := h.ap
  have hz := h.size
  have hm := nl_mono s (show a ≤ s.size by omega)
  have hmx := nl_mono x (show a ≤ x.size by omega)
  rw [h.nl_left (Nat.le_refl _)] at hmx
  have z1 := lineAt_size x (k := k) (by omega)
  have z2 := lineAt_size s (k := k) (by omega)
  refine str_ext (by omega) (fun i h0 h1 => ?_)
  rw [lineAt_bt x (by omega) h0 h1, lineAt_bt s (by omega) h0 (by omega), e1, h.left _ (by omega) (by omega)]
/-- Lines that begin behind the change. -/
theorem Chg.st_right (h : Chg s x a p q) {m : Nat} (h1 : 1 ≤ m) (hm : nl s q + m ≤ nl s s.size) : ∃ t : Nat, 1 ≤ t ∧ t ≤ s.size - q ∧ st s (nl s q + m) = q + t ∧ st x (nl x p + m) = p + t := by
  have hq := h.qs
  obtain ⟨a1, a2, a3⟩ := st_spec s (nl s q + m) hm
  have hgt : q < st s (nl s q + m) := by
    rcases Nat.lt_or_ge q (st s (nl s q + m)) with hgt | hle
    · exact hgt
    · have := nl_mono s hle; omega
  have hz := h.size
  obtain ⟨t, ht⟩ : ∃ t, st s (nl s q + m) = q + t := ⟨st s (nl s q + m) - q, by omega⟩
  refine ⟨t, by omega, by omega, ht, ?_⟩
  have he := h.nl_end
  have h4 := h.nl_right (t := t) (by omega)
  rw [← ht, a2] at h4
  obtain ⟨g1, g2, g3⟩ := st_spec x (nl x p + m) (by omega)
  have h10 : bt x ((p + t : Nat) - 1 : Int) = 10 := by
    have e := h.right ((t : Int) - 1) (by omega) (by omega)
    rw [show (((p + t : Nat) : Int)) - 1 = (p : Int) + ((t : Int) - 1) from by omega, e]
    rcases a3 with a3 | a3
    · omega
    · rw [ht] at a3
      rw [show (q : Int) + ((t : Int) - 1) = ((q + t : Nat) : Int) - 1 from by omega]; exact a3
  refine start_uniq x ?_ ?_ (.inr h10)
  · rw [g2]; omega
  · rcases g3 with g3 | g3
    · omega
    · exact .inr g3
theorem Chg.line_right (h : Chg s x a p q) {m : Nat} (h1 : 1 ≤ m) (hm : nl s q + m ≤ nl s s.size) : lineAt x (nl x p + m) = lineAt s (nl s q + m) := by
  have he := h.nl_end
  have hz := h.size
  have hq := h.qs
  obtain ⟨t, t1, t2, e1, e2⟩ := h.st_right h1 hm
  have e3 : ∃ u : Nat, t ≤ u ∧ u ≤ s.size - q ∧ en s (nl s q + m) = q + u ∧ en x (nl x p + m) = p + u := by
    have b1 := en_spec s hm
    by_cases hl : nl s q + m = nl s s.size
    · refine ⟨s.size - q, t2, Nat.le_refl _, ?_, ?_⟩
      · rw [hl, last_en]; omega
      · rw [show nl x p + m = nl x x.size from by omega, last_en]; omega
    · obtain ⟨u, u1, u2, f1, f2⟩ := h.st_right (m := m + 1) (by omega) (by omega)
      rw [show nl s q + (m + 1) = (nl s q + m) + 1 from rfl, st_succ] at f1
      rw [show nl x p + (m + 1) = (nl x p + m) + 1 from rfl, st_succ] at f2
      refine ⟨u - 1, by omega, by omega, by omega, by omega⟩
  obtain ⟨u, u1, u2, f1, f2⟩ := e3
  have z1 := lineAt_size x (k := nl x p + m) (by omega)
  have z2 := lineAt_size s hm
  refine str_ext (by omega) (fun i h0 h1 => ?_)
  rw [lineAt_bt x (by omega) h0 h1, lineAt_bt s hm h0 (by omega), e1, e2]
  have := h.right ((t : Int) + i) (by omega) (by omega)
  rw [show (((p + t : Nat) : Int)) + i = (p : Int) + ((t : Int) + i) from by omega, this]
  congr 1; omega
end
/-- A line ends at a place or behind it, if it is the place's line or a later one. -/
theorem en_ge (x : ByteArray) {p i : Nat} (hp : p ≤ x.size) (hi : i ≤ nl x x.size) : p ≤ en x i ↔ nl x p ≤ i := by
  obtain ⟨a, b, c, d, e⟩ := en_spec x hi
  constructor
  · intro h
    have := nl_mono x h
    omega
  · intro h
    rcases Nat.lt_or_ge (en x i) p with hlt | hge
    · have h10 := d (by omega)
      have := nl_lt x (a := en x i) (b := p) (j := en x i) (Nat.le_refl _) hlt h10
      omega
    · exact hge
end Go.Proofs.YtheglgphknahdaaDoor.ThA
/- What the printed functions answer, part Cg: the states of a changed text. -/
namespace Go.Proofs.YtheglgphknahdaaDoor.Ev
open Go.RowKit Go.Proofs.YtheglgphknahdaaDoor.X Go.Proofs.YtheglgphknahdaaDoor.Wp Go.Proofs.YtheglgphknahdaaDoorW.PrintWords Go.Proofs.YtheglgphknahdaaDoor.ThL Go.Proofs.YtheglgphknahdaaDoor.ThC Go.Proofs.YtheglgphknahdaaDoor.ThT Go.Proofs.YtheglgphknahdaaDoor.ThA
set_option linter.unusedVariables false
set_option linter.unusedSimpArgs false

theorem chg_of {s : ByteArray} {at_ cut : Int} {put : ByteArray} (h1 : 0 ≤ at_ ∧ at_ ≤ s.size) (h2 : 0 ≤ cut ∧ cut ≤ s.size - at_) : Chg s (acT s at_ cut put) at_.toNat (at_.toNat + put.size) (at_.toNat + cut.toNat) := by
  have hz := acT_size (s := s) put h1 h2
  refine ⟨fun j h0 h => acT_left put h1 h0 (by omega), fun j h0 h => ?_, by omega, by omega, by omega, by omega⟩
  have := acT_right (s := s) put h1 h2 h0 (by omega)
  rw [show (((at_.toNat + put.size : Nat) : Int)) + j = at_ + put.size + j from by omega, show (((at_.toNat + cut.toNat : Nat) : Int)) + j = at_ + cut + j from by omega]
  exact this
section
variable {s x : ByteArray} {a p q : Nat}
theorem cst_left (h : Chg s x a p q) : ∀ k, k ≤ nl s a → cst x k = cst s k
  | 0, _ => rfl
  | k + 1, hk => by rw [cst, cst, cst_left h k (by omega), h.line_left (by omega)]
theorem cst_right (h : Chg s x a p q) {m : Nat} (h1 : 1 ≤ m) (e : cst x (nl x p + m) = cst s (nl s q + m)) : ∀ d, nl s q + m + d ≤ nl s s.size + 1 → cst x (nl x p + m + d) = cst s (nl s q + m + d)
  | 0, _ => e
  | d + 1, hd => by
    have ih := cst_right h h1 e d (by omega)
    have hl := h.line_right (m := m + d) (by omega) (by omega)
    rw [show nl x p + m + (d + 1) = (nl x p + m + d) + 1 from rfl, show nl s q + m + (d + 1) = (nl s q + m + d) + 1 from rfl, cst, cst, ih, show nl x p + m + d = nl x p + (m + d) from by omega, show nl s q + m + d = nl s q + (m + d) from by omega, hl]
/-- Up to where lines are looked at: from line i on. -/
def lk (s x : ByteArray) (l l' : Nat) : Nat → Nat → Nat
  | 0, i => i
  | d + 1, i => if l ≤ i ∧ cst x (i + 1) = cst s (i + 1 + l' - l) then i + 1 else lk s x l l' d (i + 1)
/-- The states behind a line that leads to the state that was there: all as they were. -/
theorem again_tail (h : Chg s x a p q) {i : Nat} (hi : nl x p ≤ i) (hi2 : i ≤ nl x x.size) (e : cst x (i + 1) = cst s (i + 1 + nl s q - nl x p)) : tab (cst x) (i + 2) ++ (tab (cst s) (nl s s.size + 2)).drop (i + 2 + nl s q - nl x p) = tab (cst x) (nl x x.size + 2) := by
  have he := h.nl_end
  have l1 := tab_len (cst x) (i + 2)
  have l2 := tab_len (cst s) (nl s s.size + 2)
  apply List.ext_getElem?
  intro j
  by_cases c : j < i + 2
  · rw [List.getElem?_append_left (by omega), tab_get _ _ _ c, tab_get _ _ _ (by omega)]
  · rw [List.getElem?_append_right (by omega), List.getElem?_drop, l1]
    by_cases c2 : j < nl x x.size + 2
    · rw [tab_get _ _ _ (by omega), tab_get _ _ _ c2]
      congr 1
      obtain ⟨m, hm⟩ : ∃ m, i + 1 = nl x p + m := ⟨i + 1 - nl x p, by omega⟩
      obtain ⟨d, hd⟩ : ∃ d, j = i + 1 + d := ⟨j - (i + 1), by omega⟩
      have e2 : cst x (nl x p + m) = cst s (nl s q + m) := by
        rw [← hm, e]; congr 1; omega
      have := cst_right h (m := m) (by omega) e2 d (by omega)
      rw [show i + 2 + nl s q - nl x p + (j - (i + 2)) = nl s q + m + d from by omega, show j = nl x p + m + d from by omega, this]
    · rw [List.getElem?_eq_none (by omega), List.getElem?_eq_none (by rw [tab_len]; omega)]
end

theorem implLineOf (s : ByteArray) (p : Int) (hs : s.size ≤ 140737488351232) : W (fun k => impl_LineOf.f k s p) (fun r => r = if VT s ∧ 0 ≤ p ∧ p ≤ s.size then (nl s p.toNat : Int) else -1) := by
  unfold impl_LineOf.f
  refine W.bind (implPlace s p hs) (fun b hb => W.ite (fun h => ?_) (fun h => W.ret (by rw [if_neg (fun hv => h (hb.2 hv))])))
  have hv := hb.1 h
  rw [if_pos hv]
  refine W.pos hv.2.1 (W.pos hv.2.2 (W.call (r := (nl s p.toNat : Int)) ?_ (W.ret rfl)))
  have hp : p.toNat ≤ s.size := by omega
  have hnl : nl (s.extract 0 p.toNat) (s.extract 0 p.toNat).size = nl s p.toNat := by
    have hz : (s.extract 0 p.toNat).size = p.toNat := by rw [ByteArray.size_extract]; omega
    rw [hz]
    have key : ∀ n, n ≤ p.toNat → nl (s.extract 0 p.toNat) n = nl s n := by
      intro n
      induction n with
      | zero => intro _; rfl
      | succ n ih =>
        intro hn
        have := bt_ext s (a := 0) (b := p) (i := n) (by omega) (by omega) (by omega) (by omega)
        rw [Int.zero_add, show (0 : Int).toNat = 0 from rfl] at this
        rw [nl_step, nl_step, ih (by omega), this]
    exact key _ (Nat.le_refl _)
  rw [show strings_Count.f (s.extract 0 p.toNat) (⟨#[10]⟩ : ByteArray) = some ((Lib.countByte (s.extract 0 p.toNat).data.toList 10 : Nat) : Int) from rfl, countNl, hnl]
theorem nl_take (s : ByteArray) {p : Nat} (hp : p ≤ s.size) : nl (s.extract 0 p) (s.extract 0 p).size = nl s p := by
  have hz : (s.extract 0 p).size = p := by rw [ByteArray.size_extract]; omega
  rw [hz]
  have key : ∀ n, n ≤ p → nl (s.extract 0 p) n = nl s n := by
    intro n
    induction n with
    | zero => intro _; rfl
    | succ n ih =>
      intro hn
      have := bt_ext s (a := 0) (b := p) (i := n) (by omega) (by omega) (by omega) (by omega)
      rw [Int.zero_add, show (0 : Int).toNat = 0 from rfl, Int.toNat_natCast] at this
      rw [nl_step, nl_step, ih (by omega), this]
  exact key _ (Nat.le_refl _)
theorem specLineOf (s : ByteArray) (p : Int) (hs : s.size ≤ 140737488351232) : W (fun k => spec_LineOf.f k s p) (fun r => r = if VT s ∧ 0 ≤ p ∧ p ≤ s.size then (nl s p.toNat : Int) else -1) := by
  unfold spec_LineOf.f
  refine W.bind (specTV s hs) (fun b hb => W.ite (fun h => ?_) (fun h => W.ret (by rw [if_neg (fun hv => h (hb.2 hv.1))])))
  have hv := hb.1 h
  refine W.call (l1In_eq ..) (W.ite (fun h2 => ?_) (fun h2 => W.ret (by rw [if_neg (fun hv => h2 (by simpa using hv.2))])))
  have hp : 0 ≤ p ∧ p ≤ s.size := by simpa using h2
  rw [if_pos ⟨hv, hp⟩]
  have hsz := hv.1
  have hz : (s.extract 0 p.toNat).size = p.toNat := by rw [ByteArray.size_extract]; omega
  have hvt : VT (s.extract 0 p.toNat) := by
    refine ⟨by omega, fun j h0 h1 => ?_⟩
    have := bt_ext s (a := 0) (b := p) (i := j) (by omega) (by omega) (by omega) (by omega)
    rw [Int.zero_add, show (0 : Int).toNat = 0 from rfl] at this
    rw [this]; exact hv.2 j h0 (by omega)
  refine W.pos hp.1 (W.pos hp.2 (W.bind_eq (specLineMany _ (by omega)) (W.ret ?_)))
  rw [if_pos hvt, nl_take s (by omega)]
  have := nl_le s p.toNat
  rw [w64 (x := (nl s p.toNat : Int) + 1 - 1) (by omega) (by omega)]; omega

/-- What ColourAgain answers. -/
noncomputable def agR (s : ByteArray) (at_ cut : Int) (put : ByteArray) : List Int × Int :=
  if VT s ∧ fits s at_ cut put then
    (tab (cst (acT s at_ cut put)) (nl (acT s at_ cut put) (acT s at_ cut put).size + 2),
      ((lk s (acT s at_ cut put) (nl (acT s at_ cut put) (at_.toNat + put.size)) (nl s (at_.toNat + cut.toNat)) (nl (acT s at_ cut put) (acT s at_ cut put).size + 1 - nl s at_.toNat) (nl s at_.toNat) : Nat) : Int) - nl s at_.toNat)
  else ([], -1)

theorem specAgain (s : ByteArray) (at_ cut : Int) (put : ByteArray) (hs : s.size ≤ 140737488351232) (hp : put.size ≤ 140737488351232) : W (fun k => spec_ColourAgain.f k s at_ cut put) (· = agR s at_ cut put) := by
  unfold spec_ColourAgain.f agR
  refine W.bind_eq (specAC s at_ cut put hs hp) ?_
  unfold acR
  by_cases hv : VT s
  case neg =>
    rw [if_neg hv, if_neg (fun h => hv h.1)]
    exact W.neg (by decide) (W.ret rfl)
  rw [if_pos hv]
  by_cases hf : fits s at_ cut put
  case neg =>
    rw [if_neg hf, if_neg (fun h => hf h.2)]
    exact W.neg (by simp) (W.ret rfl)
  rw [if_pos hf, if_pos ⟨hv, hf⟩]
  have hx := (acT_VT (put := put) hv hf.1 hf.2.1).2 hf.2.2
  have hc := chg_of (put := put) hf.1 hf.2.1
  have hsz := hv.1
  have hf1 := hf.1
  have hf2 := hf.2.1
  generalize acT s at_ cut put = x at hx hc ⊢
  have hxz := hx.1
  have he := hc.nl_end
  have hz := hc.size
  obtain ⟨a, ha⟩ : ∃ a : Nat, at_ = a := ⟨at_.toNat, by omega⟩
  obtain ⟨c, hcc⟩ : ∃ c : Nat, cut = c := ⟨cut.toNat, by omega⟩
  subst ha hcc
  simp only [Int.toNat_natCast] at hc he hz ⊢
  have n1 := nl_le s s.size
  have n2 := nl_le x x.size
  have ma := nl_mono s (show a ≤ s.size by omega)
  have mq := nl_mono s (show a + c ≤ s.size by omega)
  have mp := nl_mono x (show a + put.size ≤ x.size by omega)
  have maq := nl_mono s (show a ≤ a + c by omega)
  have map := nl_mono x (show a ≤ a + put.size by omega)
  rw [hc.nl_left (Nat.le_refl _)] at map
  have hlen := lines_len x
  have htl := tab_len (cst s) (nl s s.size + 2)
  refine W.pos trivial (W.bind_eq (specStates s hs) (W.bind_eq (specLinesOf x (by omega)) (W.bind_eq (specLineMany s hs) (W.bind_eq (specLineOf x a (by omega)) (W.bind_eq (specLineOf x _ (by omega)) (W.name ?_))))))
  rw [if_pos hv, if_pos hx, if_pos hv, w64 (x := (a : Int) + put.size) (by omega) (by omega), if_pos ⟨hx, by omega, by omega⟩, if_pos ⟨hx, by omega, by omega⟩]
  rw [Int.toNat_natCast, show ((a : Int) + put.size).toNat = a + put.size from by omega, hc.nl_left (Nat.le_refl _), hlen]
  rw [w64 (x := (nl s a : Int) + 1) (by omega) (by omega), show ((nl s a : Int) + 1).toNat = nl s a + 1 from by omega]
  rw [w64 (x := ((nl x x.size + 1 : Nat) : Int) - ((nl s s.size : Int) + 1)) (by omega) (by omega)]
  have ht0 : [] ++ (tab (cst s) (nl s s.size + 2)).take (nl s a + 1) = tab (cst x) (nl s a + 1) := by
    rw [List.nil_append, tab_take _ _ _ (by omega)]
    exact tab_congr _ (fun i hi => (cst_left hc i (by omega)).symm)
  have hlt0 : ((tab (cst s) (nl s s.size + 2)).take (nl s a + 1)).length = nl s a + 1 := by rw [List.length_take]; omega
  refine W.pos (by omega) (W.pos (by omega) (W.name (W.pos (by rw [hlt0]; simp only [List.length_nil]; omega) (W.pos (by omega) (W.pos (by omega) ?_)))))
  rw [ht0, rd_tab _ _ (by omega) (by omega), Int.toNat_natCast, ← cst_left hc _ (Nat.le_refl _)]
  generalize hsh : ((nl x x.size + 1 : Nat) : Int) - ((nl s s.size : Int) + 1) = sh
  have key := W.loop (l := fun (i : Nat) k => spec_ColourAgain.l0 k (tab (cst s) (nl s s.size + 2)) (lines x) sh (nl x (a + put.size)) (tab (cst x) (i + 1)) (cst x i) ((i : Int) - nl s a) i) (P := fun i r => r = (tab (cst x) (nl x x.size + 2), ((lk s x (nl x (a + put.size)) (nl s (a + c)) (nl x x.size + 1 - i) i : Nat) : Int) - nl s a)) (fun i => nl s a ≤ i ∧ i ≤ nl x x.size + 1) (fun i => nl x x.size + 1 - i) (by
    rintro i ⟨h0, h1⟩ ih
    refine W.step (fun k => spec_ColourAgain.l0.eq_2 ..) ?_
    have ti := tab_len (cst x) (i + 1)
    have ti2 := tab_len (cst x) (i + 1 + 1)
    by_cases hlt : i < nl x x.size + 1
    · have rg := cst_range x i
      have lz := lineAt_le x i
      have next := ih (i + 1) ⟨by omega, by omega⟩ (by omega)
      rw [show ((i + 1 : Nat) : Int) - (nl s a : Int) = (i : Int) - nl s a + 1 from by omega, show ((i + 1 : Nat) : Int) = (i : Int) + 1 from by omega] at next
      rw [w64 (x := (i : Int) - nl s a + 1) (by omega) (by omega), w64 (x := (i : Int) + 1) (by omega) (by omega), w64 (x := (i : Int) + 2) (by omega) (by omega), w64 (x := (i : Int) + 1 - sh) (by omega) (by omega), w64 (x := (i : Int) + 2 - sh) (by omega) (by omega)]
      rw [lines_get x (by omega) (by omega), Int.toNat_natCast]
      refine W.pos (by omega) (W.pos (by omega) (W.bind_eq (specLine _ _ rg.1 rg.2 (by omega)) (W.pos (by omega) (W.name ?_))))
      rw [show tab (cst x) (i + 1) ++ [(crun (cst x i) (lineAt x i) (lineAt x i).size).1] = tab (cst x) (i + 1 + 1) from rfl, show (crun (cst x i) (lineAt x i) (lineAt x i).size).1 = cst x (i + 1) from rfl]
      rw [show nl x x.size + 1 - i = (nl x x.size + 1 - (i + 1)) + 1 from by omega, lk]
      refine W.ite (fun hge => ?_) (fun hge => ?_)
      · refine W.pos (by omega) (W.pos (by omega) ?_)
        rw [rd_tab _ _ (by omega) (by omega), show ((i : Int) + 1 - sh).toNat = i + 1 + nl s (a + c) - nl x (a + put.size) from by omega]
        refine W.ite (fun heq => ?_) (fun heq => ?_)
        · rw [if_pos (show nl x (a + put.size) ≤ i ∧ cst x (i + 1) = cst s (i + 1 + nl s (a + c) - nl x (a + put.size)) from ⟨by omega, heq⟩)]
          refine W.pos (by omega) (W.pos (by omega) (W.name ?_))
          rw [show ((i : Int) + 2 - sh).toNat = i + 2 + nl s (a + c) - nl x (a + put.size) from by omega]
          have hdl : ((tab (cst s) (nl s s.size + 2)).drop (i + 2 + nl s (a + c) - nl x (a + put.size))).length ≤ nl s s.size + 2 := by rw [List.length_drop]; omega
          refine W.pos (by omega) (W.ret ?_)
          rw [show i + 1 + 1 = i + 2 from rfl, again_tail hc (by omega) (by omega) heq, show ((i + 1 : Nat) : Int) - (nl s a : Int) = (i : Int) - nl s a + 1 from by omega]
        · rw [if_neg (show ¬ (nl x (a + put.size) ≤ i ∧ cst x (i + 1) = cst s (i + 1 + nl s (a + c) - nl x (a + put.size))) from fun h => heq h.2)]
          exact next
      · rw [if_neg (show ¬ (nl x (a + put.size) ≤ i ∧ cst x (i + 1) = cst s (i + 1 + nl s (a + c) - nl x (a + put.size))) from fun h => hge (by omega))]
        exact next
    · have e : i = nl x x.size + 1 := by omega
      subst e
      refine W.neg (by omega) (W.ret ?_)
      rw [Nat.sub_self, lk]) (nl s a) ⟨Nat.le_refl _, by omega⟩
  rw [Int.sub_self] at key
  exact key
theorem implAgain (s : ByteArray) (at_ cut : Int) (put : ByteArray) (hs : s.size ≤ 2000000) (hp : put.size ≤ 140737488000000) : W (fun k => impl_ColourAgain.f k s at_ cut put) (· = agR s at_ cut put) := by
  unfold impl_ColourAgain.f agR
  have no : ∀ y, W (fun k => impl_ColourAgain.j0 k s y true at_ cut put) (· = ([], -1)) := fun y => W.step (fun k => impl_ColourAgain.j0.eq_2 ..) (W.pos rfl (W.ret rfl))
  by_cases hv : VT s
  case neg =>
    rw [if_neg (fun h => hv h.1)]
    -- an invalid text: what apply answers does not matter
    unfold impl_Change_apply.f
    refine W.bind (Q := fun _ => True) (W.bind (implPlace s at_ (by omega)) (fun b hb => W.neg (fun h => hv (hb.1 h).1) (W.ret trivial))) (fun r _ => ?_)
    exact W.bind (implTV s (by omega)) (fun b hb => W.neg (fun h => hv (hb.1 h)) (no _))
  have hsz := hv.1
  refine W.bind (implApply s at_ cut put hv hp) (fun r hr => W.bind_eq (tv_pos (implTV s (by omega)) hv) (W.pos rfl ?_))
  obtain ⟨y, b⟩ := r
  obtain ⟨h1, h2⟩ := hr
  dsimp only at h1 h2 ⊢
  by_cases hf : fits s at_ cut put
  case neg =>
    rw [if_neg (fun h => hf h.2)]
    have : b = false := by
      cases b
      · rfl
      · exact absurd (h1.1 rfl) hf
    subst this
    exact no _
  rw [if_pos ⟨hv, hf⟩]
  have e1 := h2 hf
  have e2 := h1.2 hf
  subst e1 e2
  have hx := (acT_VT (put := put) hv hf.1 hf.2.1).2 hf.2.2
  have hc := chg_of (put := put) hf.1 hf.2.1
  have hf1 := hf.1
  have hf2 := hf.2.1
  clear h1 h2
  generalize acT s at_ cut put = x at hx hc ⊢
  have hxz := hx.1
  have he := hc.nl_end
  have hz := hc.size
  obtain ⟨a, ha⟩ : ∃ a : Nat, at_ = a := ⟨at_.toNat, by omega⟩
  obtain ⟨c, hcc⟩ : ∃ c : Nat, cut = c := ⟨cut.toNat, by omega⟩
  subst ha hcc
  simp only [Int.toNat_natCast] at hc he hz ⊢
  have n1 := nl_le s s.size
  have n2 := nl_le x x.size
  have ma := nl_mono s (show a ≤ s.size by omega)
  have mq := nl_mono s (show a + c ≤ s.size by omega)
  have mp := nl_mono x (show a + put.size ≤ x.size by omega)
  have maq := nl_mono s (show a ≤ a + c by omega)
  have map := nl_mono x (show a ≤ a + put.size by omega)
  rw [hc.nl_left (Nat.le_refl _)] at map
  have hlen := lines_len x
  have htl := tab_len (cst s) (nl s s.size + 2)
  refine W.step (fun k => impl_ColourAgain.j0.eq_2 ..) (W.neg (by decide) (W.bind_eq (implStates s (by omega)) (W.bind_eq (linesOfW x (by omega)) (W.bind_eq (implLineOf x a (by omega)) ?_))))
  rw [if_pos hv, if_pos ⟨hx, by omega, by omega⟩, Int.toNat_natCast, hc.nl_left (Nat.le_refl _), hlen, htl]
  rw [w64 (x := (nl s a : Int) + 1) (by omega) (by omega), show ((nl s a : Int) + 1).toNat = nl s a + 1 from by omega]
  rw [w64 (x := ((nl x x.size + 1 : Nat) : Int) + 1) (by omega) (by omega), w64 (x := ((nl x x.size + 1 : Nat) : Int) + 1 - ((nl s s.size + 2 : Nat) : Int)) (by omega) (by omega)]
  have ht0 : [] ++ (tab (cst s) (nl s s.size + 2)).take (nl s a + 1) = tab (cst x) (nl s a + 1) := by
    rw [List.nil_append, tab_take _ _ _ (by omega)]
    exact tab_congr _ (fun i hi => (cst_left hc i (by omega)).symm)
  have hlt0 : ((tab (cst s) (nl s s.size + 2)).take (nl s a + 1)).length = nl s a + 1 := by rw [List.length_take]; omega
  refine W.pos (by omega) (W.pos (by omega) (W.name (W.pos (by rw [hlt0]; simp only [List.length_nil]; omega) ?_)))
  rw [ht0]
  generalize hsh : ((nl x x.size + 1 : Nat) : Int) + 1 - ((nl s s.size + 2 : Nat) : Int) = sh
  have key := W.loop (l := fun (i : Nat) k => impl_ColourAgain.l0 k x (tab (cst s) (nl s s.size + 2)) (lines x) (tab (cst x) (i + 1)) sh ((i : Int) - nl s a) i a c put) (P := fun i r => r = (tab (cst x) (nl x x.size + 2), ((lk s x (nl x (a + put.size)) (nl s (a + c)) (nl x x.size + 1 - i) i : Nat) : Int) - nl s a)) (fun i => nl s a ≤ i ∧ i ≤ nl x x.size + 1) (fun i => nl x x.size + 1 - i) (by
    rintro i ⟨h0, h1⟩ ih
    refine W.step (fun k => impl_ColourAgain.l0.eq_2 ..) ?_
    have ti := tab_len (cst x) (i + 1)
    have ti2 := tab_len (cst x) (i + 1 + 1)
    by_cases hlt : i < nl x x.size + 1
    · have rg := cst_range x i
      have lz := lineAt_le x i
      have next := ih (i + 1) ⟨by omega, by omega⟩ (by omega)
      rw [show ((i + 1 : Nat) : Int) - (nl s a : Int) = (i : Int) - nl s a + 1 from by omega, show ((i + 1 : Nat) : Int) = (i : Int) + 1 from by omega] at next
      rw [w64 (x := (i : Int) - nl s a + 1) (by omega) (by omega), w64 (x := (i : Int) + 1) (by omega) (by omega), w64 (x := (i : Int) + 2) (by omega) (by omega), w64 (x := (i : Int) + 1 - sh) (by omega) (by omega), w64 (x := (i : Int) + 2 - sh) (by omega) (by omega), w64 (x := (a : Int) + put.size) (by omega) (by omega)]
      rw [lines_get x (by omega) (by omega), Int.toNat_natCast, rd_tab _ _ (by omega) (by omega), Int.toNat_natCast]
      refine W.pos (by omega) (W.pos (by omega) (W.pos (by omega) (W.call (colourAt x (by omega) i) (W.pos (by omega) (W.name (W.bind_eq (implLineEnd x i (by omega)) ?_))))))
      rw [show tab (cst x) (i + 1) ++ [cst x (i + 1)] = tab (cst x) (i + 1 + 1) from rfl, if_pos ⟨hx, by omega, by omega⟩, Int.toNat_natCast]
      have hen := en_ge x (p := a + put.size) (i := i) (by omega) (by omega)
      rw [show nl x x.size + 1 - i = (nl x x.size + 1 - (i + 1)) + 1 from by omega, lk]
      refine W.ite (fun hge => ?_) (fun hge => ?_)
      · have hge2 := hen.1 (by omega)
        refine W.pos (by omega) (W.pos (by omega) ?_)
        rw [rd_tab _ _ (by omega) (by omega), show ((i : Int) + 1 - sh).toNat = i + 1 + nl s (a + c) - nl x (a + put.size) from by omega]
        refine W.ite (fun heq => ?_) (fun heq => ?_)
        · rw [if_pos (show nl x (a + put.size) ≤ i ∧ cst x (i + 1) = cst s (i + 1 + nl s (a + c) - nl x (a + put.size)) from ⟨by omega, heq⟩)]
          refine W.pos (by omega) (W.pos (by omega) (W.name ?_))
          rw [show ((i : Int) + 2 - sh).toNat = i + 2 + nl s (a + c) - nl x (a + put.size) from by omega]
          have hdl : ((tab (cst s) (nl s s.size + 2)).drop (i + 2 + nl s (a + c) - nl x (a + put.size))).length ≤ nl s s.size + 2 := by rw [List.length_drop]; omega
          refine W.pos (by omega) (W.ret ?_)
          rw [show i + 1 + 1 = i + 2 from rfl, again_tail hc (by omega) (by omega) heq, show ((i + 1 : Nat) : Int) - (nl s a : Int) = (i : Int) - nl s a + 1 from by omega]
        · rw [if_neg (show ¬ (nl x (a + put.size) ≤ i ∧ cst x (i + 1) = cst s (i + 1 + nl s (a + c) - nl x (a + put.size))) from fun h => heq h.2)]
          exact next
      · rw [if_neg (show ¬ (nl x (a + put.size) ≤ i ∧ cst x (i + 1) = cst s (i + 1 + nl s (a + c) - nl x (a + put.size))) from fun h => hge (by have := hen.2 h.1; omega))]
        exact next
    · have e : i = nl x x.size + 1 := by omega
      subst e
      refine W.neg (by omega) (W.ret ?_)
      rw [Nat.sub_self, lk]) (nl s a) ⟨Nat.le_refl _, by omega⟩
  rw [Int.sub_self] at key
  exact key
theorem agR_len (s : ByteArray) (at_ cut : Int) (put : ByteArray) : (agR s at_ cut put).1.length ≤ 200 := by
  unfold agR
  split
  · rename_i h
    have hx := (acT_VT (put := put) h.1 h.2.1 h.2.2.1).2 h.2.2.2
    have := hx.1
    have := nl_le (acT s at_ cut put) (acT s at_ cut put).size
    rw [tab_len]; omega
  · simp
end Go.Proofs.YtheglgphknahdaaDoor.Ev
/- What the printed functions answer, part M: lists of numbers compared, marked, held. -/
namespace Go.Proofs.YtheglgphknahdaaDoor.Ev
open Go.RowKit Go.Proofs.YtheglgphknahdaaDoor.X Go.Proofs.YtheglgphknahdaaDoor.Wp Go.Proofs.YtheglgphknahdaaDoorW.PrintWords Go.Proofs.YtheglgphknahdaaDoor.ThB
set_option linter.unusedVariables false
set_option linter.unusedSimpArgs false

theorem eqInts (a b : List Int) (ha : a.length ≤ 140737488351232) : W (fun k => laws_eqIntS.f k a b) (fun r => r = true ↔ a = b) := by
  unfold laws_eqIntS.f
  refine W.ite (fun hl => ?_) (fun hl => W.ret ⟨fun h => by simp at h, fun h => absurd (by rw [h]) hl⟩)
  refine W.loop (l := fun i k => laws_eqIntS.l0 k a b i) (P := fun _ r => r = true ↔ a = b) (fun i : Int => 0 ≤ i ∧ i ≤ a.length ∧ ∀ j, 0 ≤ j → j < i → rd a j = rd b j) (fun i => (a.length - i).toNat) ?_ 0 ⟨by omega, by omega, fun j h0 h1 => by omega⟩
  intro i ⟨h0, h1, h2⟩ ih
  refine W.step (fun k => laws_eqIntS.l0.eq_2 ..) ?_
  by_cases hlt : i < a.length
  · rw [w64 (x := i + 1) (by omega) (by omega)]
    refine W.pos hlt (W.pos h0 (W.pos (by omega) (W.ite (fun he => ih (i + 1) ⟨by omega, by omega, fun j h3 h4 => ?_⟩ (by omega)) (fun he => W.ret ⟨fun h => by simp at h, fun h => absurd (by rw [h]) he⟩))))
    by_cases e : j = i
    · subst e; exact he
    · exact h2 j h3 (by omega)
  · refine W.neg hlt (W.ret ⟨fun _ => rd_ext (by omega) (fun j h3 h4 => h2 j h3 (by omega)), fun _ => rfl⟩)

theorem eqInts_true {a b : List Int} (h : a = b) (ha : a.length ≤ 140737488351232) : W (fun k => laws_eqIntS.f k a b) (· = true) := (eqInts a b ha).mono fun r hr => hr.2 h

/-- The numbers from k on. -/
def upTo (k : Int) : Nat → List Int
  | 0 => []
  | n + 1 => upTo k n ++ [k + n]
theorem upTo_len (k : Int) : ∀ n, (upTo k n).length = n
  | 0 => rfl
  | n + 1 => by simp [upTo, upTo_len k n]
theorem upTo_rd (k : Int) : ∀ (n : Nat) (i : Int), 0 ≤ i → i < n → rd (upTo k n) i = k + i
  | 0 => fun i h0 h1 => by omega
  | n + 1 => fun i h0 h1 => by
    unfold upTo
    by_cases e : i = n
    · subst e; rw [rd_snoc _ _ (by rw [upTo_len])]
    · rw [rd_left _ _ h0 (by rw [upTo_len]; omega)]
      exact upTo_rd k n i h0 (by omega)

theorem markInts (a : List Int) (k : Int) (h0 : 0 ≤ k) (h1 : k ≤ 1000) (ha : a.length ≤ 140737488351232) : W (fun f => laws_markIntS.f f a k) (fun r => r = (k + a.length, upTo k a.length)) := by
  unfold laws_markIntS.f
  have key := W.loop (l := fun (s : Int × List Int) f => laws_markIntS.l0 f s.2 (k + s.1) s.1) (P := fun _ r => r = (k + a.length, upTo k a.length)) (fun s => 0 ≤ s.1 ∧ s.1 ≤ a.length ∧ s.2.length = a.length ∧ ∀ j, 0 ≤ j → j < s.1 → rd s.2 j = k + j) (fun s => (a.length - s.1).toNat) (by
    rintro ⟨i, x⟩ ⟨h2, h3, h4, h5⟩ ih
    dsimp only at h2 h3 h4 h5 ⊢
    refine W.step (fun f => laws_markIntS.l0.eq_2 ..) ?_
    by_cases hlt : i < a.length
    · rw [w64 (x := i + 1) (by omega) (by omega), w64 (x := k + i + 1) (by omega) (by omega)]
      have next := ih (i + 1, x.set i.toNat (k + i)) ⟨by dsimp only; omega, by dsimp only; omega, by dsimp only; rw [List.length_set]; exact h4, fun j h6 h7 => by
        dsimp only at h7 ⊢
        by_cases e : j = i
        · subst e; exact rd_set_self _ _ h6 (by omega)
        · rw [rd_set_ne _ _ h6 h2 e]; exact h5 j h6 (by omega)⟩ (by dsimp only; omega)
      dsimp only at next
      rw [show k + (i + 1) = k + i + 1 from by omega] at next
      exact W.pos (by omega) (W.pos h2 next)
    · refine W.neg (by omega) (W.ret ?_)
      have e : i = a.length := by omega
      subst e
      exact Prod.ext rfl (rd_ext (by rw [upTo_len]; exact h4) (fun j h6 h7 => by
        dsimp only at h7
        show rd x j = _
        rw [h5 j h6 (by omega), upTo_rd _ _ _ h6 (by omega)]))) (0, a) ⟨by simp, by simp, rfl, fun j h6 h7 => by dsimp only at h7; omega⟩
  simpa using key

theorem heldInts (k : Int) (n : Nat) (h0 : 0 ≤ k) (h1 : k ≤ 1000) (hn : n ≤ 140737488351232) : W (fun f => laws_heldIntS.f f (upTo k n) k) (fun r => r = k + n) := by
  unfold laws_heldIntS.f
  have hl := upTo_len k n
  have key := W.loop (l := fun (i : Int) f => laws_heldIntS.l0 f (upTo k n) (k + i) i) (P := fun _ r => r = k + n) (fun i => 0 ≤ i ∧ i ≤ n) (fun i => (n - i).toNat) (by
    rintro i ⟨h2, h3⟩ ih
    refine W.step (fun f => laws_heldIntS.l0.eq_2 ..) ?_
    by_cases hlt : i < n
    · rw [w64 (x := i + 1) (by omega) (by omega), w64 (x := k + i + 1) (by omega) (by omega)]
      have next := ih (i + 1) ⟨by omega, by omega⟩ (by omega)
      rw [show k + (i + 1) = k + i + 1 from by omega] at next
      exact W.pos (by omega) (W.pos h2 (W.pos (upTo_rd k n i h2 hlt) next))
    · exact W.neg (by omega) (W.ret (by omega))) 0 ⟨by omega, by omega⟩
  simpa using key
end Go.Proofs.YtheglgphknahdaaDoor.Ev
namespace Go.Proofs.YtheglgphknahdaaDoor.Pure
open Go.RowKit Go.Proofs.YtheglgphknahdaaDoor.X Go.Proofs.YtheglgphknahdaaDoor.Wp Go.Proofs.YtheglgphknahdaaDoor.Ev Go.Proofs.YtheglgphknahdaaDoorW.PrintWords
set_option linter.unusedVariables false
set_option linter.unusedSimpArgs false

theorem FnExactColourAgain (s : ByteArray) (a c : Int) (put : ByteArray) (hs : s.size ≤ 140737488351232) (hp : put.size ≤ maxLen) : ∃ k, laws_FnExactColourAgain.f k s a c put = some true := by
  refine W.rounds (r := true) ?_
  have hm : maxLen = 9223372036854775807 := rfl
  unfold laws_FnExactColourAgain.f
  refine W.ite (fun _ => W.ret rfl) (fun hbig => ?_)
  unfold laws_szChange.f laws_toChange.f
  rw [w64 (x := 1048576 - (put.size : Int)) (by omega) (by omega)]
  by_cases hb : 1048576 - (put.size : Int) < 0
  · rw [if_pos hb]
    exact W.name (W.pos (by decide) (W.ret rfl))
  rw [if_neg hb]
  refine W.name (W.neg hb (W.name (W.bind_eq (specAgain s a c put hs (by omega)) (W.name (W.bind_eq (implAgain s a c put (by omega) (by omega)) ?_)))))
  have hl := agR_len s a c put
  have hi := implAgain s a c put (by omega) (by omega)
  generalize agR s a c put = R at hl hi ⊢
  obtain ⟨M, n⟩ := R
  dsimp only at hl hi ⊢
  refine W.bind_eq (eqInts_true (a := M) rfl (by omega)) (W.pos rfl ?_)
  rw [show (n != n) = false from by simp]
  refine W.step (fun k => laws_FnExactColourAgain.j0.eq_2 ..) (W.neg (by decide) (W.bind_eq (markInts M 1 (by omega) (by omega) (by omega)) (W.bind_eq (heldInts 1 M.length (by omega) (by omega) (by omega)) (W.neg (by omega) (W.pos rfl (W.name (W.bind_eq hi (W.bind_eq (eqInts_true (a := M) rfl (by omega)) (W.pos rfl ?_)))))))))
  dsimp only
  rw [show (n != n) = false from by simp]
  exact W.step (fun k => laws_FnExactColourAgain.j1.eq_2 ..) (W.neg (by decide) (W.bind_eq (heldInts 1 M.length (by omega) (by omega) (by omega)) (W.neg (by omega) (W.pos rfl (W.ret rfl)))))
end Go.Proofs.YtheglgphknahdaaDoor.Pure
