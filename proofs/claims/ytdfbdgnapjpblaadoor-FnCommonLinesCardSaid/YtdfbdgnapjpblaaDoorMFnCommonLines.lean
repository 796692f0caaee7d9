/- For every code, the law on CommonLines answers true: the order does not matter; a text has all its lines in common with itself; there are at most as many as in the shorter text. Conditions: none. -/
import Derived.Test.YtdfbdgnapjpblaaDoorWMore
import Derived.Test.YtdfbdgnapjpblaaDoorX2
import Derived.Test.YtdfbdgnapjpblaaDoorX4
import Derived.Laws.Strings
import Derived.Test.YtdfbdgnapjpblaaDoorX6
import Derived.Lib.IndexLaws
import Derived.Test.YtdfbdgnapjpblaaDoorX0
import Derived.Test.YtdfbdgnapjpblaaDoorX3
import Derived.Test.YtdfbdgnapjpblaaDoorX5
import Derived.Test.YtdfbdgnapjpblaaDoorX10
import Derived.Test.YtdfbdgnapjpblaaDoorX8
import Derived.Test.YtdfbdgnapjpblaaDoorX9
/- Running the printed functions: 'W g P': from some number of rounds on g answers, and the answer meets P. -/
namespace Go.Proofs.YtdfbdgnapjpblaaDoor.Wp
open Go.RowKit Go.Proofs.YtdfbdgnapjpblaaDoorW.PrintWords
set_option linter.unusedVariables false
set_option linter.unusedSimpArgs false

def W {α : Type} (g : Nat → Option α) (P : α → Prop) : Prop := ∃ r, P r ∧ ∃ K, ∀ k, K ≤ k → g k = some r

theorem W.ret {α : Type} {r : α} {P : α → Prop} (h : P r) : W (fun _ => some r) P := ⟨r, h, 0, fun _ _ => rfl⟩

theorem W.mono {α : Type} {g : Nat → Option α} {P Q : α → Prop} (h : W g Q) (hk : ∀ a, Q a → P a) : W g P := by
  obtain ⟨r, hr, K, h⟩ := h
  exact ⟨r, hk r hr, K, h⟩

theorem W.bind {α β : Type} {g : Nat → Option α} {f : Nat → α → Option β} {P : β → Prop} {Q : α → Prop} (h : W g Q) (hk : ∀ a, Q a → W (fun k => f k a) P) : W (fun k => (g k).bind (f k)) P := by
  obtain ⟨a, ha, K, h⟩ := h
  obtain ⟨r, hr, K', h'⟩ := hk a ha
  refine ⟨r, hr, max K K', fun k hle => ?_⟩
  have h1 := h k (by omega)
  have h2 := h' k (by omega)
  simp only [h1, Option.bind_some]
  exact h2

theorem W.bind_eq {α β : Type} {g : Nat → Option α} {f : Nat → α → Option β} {P : β → Prop} {a : α} (h : W g (· = a)) (hk : W (fun k => f k a) P) : W (fun k => (g k).bind (f k)) P :=
  W.bind h (fun b hb => by subst hb; exact hk)

theorem W.step {α : Type} {g f : Nat → Option α} {P : α → Prop} (h : ∀ k, g (k + 1) = f k) (w : W f P) : W g P := by
  obtain ⟨r, hr, K, w⟩ := w
  refine ⟨r, hr, K + 1, fun k hk => ?_⟩
  obtain ⟨m, rfl⟩ : ∃ m, k = m + 1 := ⟨k - 1, by omega⟩
  rw [h]
  exact w m (by omega)

theorem W.congr {α : Type} {g f : Nat → Option α} {P : α → Prop} (h : ∀ k, g k = f k) (w : W f P) : W g P := by
  obtain ⟨r, hr, K, w⟩ := w
  exact ⟨r, hr, K, fun k hk => (h k).trans (w k hk)⟩

theorem W.ite {α : Type} {c : Prop} [Decidable c] {a b : Nat → Option α} {P : α → Prop} (h1 : c → W a P) (h2 : ¬c → W b P) : W (fun k => if c then a k else b k) P := by
  by_cases h : c
  · simp only [if_pos h]; exact h1 h
  · simp only [if_neg h]; exact h2 h

theorem W.pos {α : Type} {c : Prop} [Decidable c] {a b : Nat → Option α} {P : α → Prop} (h : c) (w : W a P) : W (fun k => if c then a k else b k) P := W.ite (fun _ => w) (fun h' => absurd h h')
theorem W.neg {α : Type} {c : Prop} [Decidable c] {a b : Nat → Option α} {P : α → Prop} (h : ¬ c) (w : W b P) : W (fun k => if c then a k else b k) P := W.ite (fun h' => absurd h' h) (fun _ => w)
theorem W.call {α β : Type} {x : Option α} {r : α} {f : Nat → α → Option β} {P : β → Prop} (h : x = some r) (w : W (fun k => f k r) P) : W (fun k => x.bind (f k)) P := by
  subst h; exact w
theorem W.name {α β : Type} {r : α} {f : Nat → α → Option β} {P : β → Prop} (w : W (fun k => f k r) P) : W (fun k => (some r).bind (f k)) P := w

theorem W.rounds {α : Type} {g : Nat → Option α} {r : α} (h : W g (· = r)) : ∃ k, g k = some r := by
  obtain ⟨a, rfl, K, h⟩ := h
  exact ⟨K, h K (Nat.le_refl _)⟩

/-- A loop: a measure, an invariant. -/
theorem W.loop {α σ : Type} {l : σ → Nat → Option α} {P : σ → α → Prop} (I : σ → Prop) (m : σ → Nat) (h : ∀ s, I s → (∀ s', I s' → m s' < m s → W (l s') (P s')) → W (l s) (P s)) : ∀ s, I s → W (l s) (P s) := by
  have key : ∀ n s, m s < n → I s → W (l s) (P s) := by
    intro n
    induction n with
    | zero => intro s hs; omega
    | succ n ih => intro s hs hi; exact h s hi (fun s' hi' hm => ih s' (by omega) hi')
  intro s hi
  exact key (m s + 1) s (by omega) hi

theorem w64 {x : Int} (h : -9223372036854775808 ≤ x) (h' : x ≤ 9223372036854775807) : wrap64 x = x := by
  unfold wrap64; omega

end Go.Proofs.YtdfbdgnapjpblaaDoor.Wp
/- What the printed functions answer, part A: valid texts, places, ranges. -/
namespace Go.Proofs.YtdfbdgnapjpblaaDoor.Ev
open Go.RowKit Go.Proofs.YtdfbdgnapjpblaaDoor.X Go.Proofs.YtdfbdgnapjpblaaDoor.Wp Go.Proofs.YtdfbdgnapjpblaaDoorW.PrintWords
set_option linter.unusedVariables false
set_option linter.unusedSimpArgs false

def okB (c : Int) : Prop := c = 10 ∨ (32 ≤ c ∧ c ≤ 126)
instance (c : Int) : Decidable (okB c) := by unfold okB; infer_instance
/-- A valid text. -/
def VT (s : ByteArray) : Prop := s.size ≤ 120 ∧ ∀ j : Int, 0 ≤ j → j < s.size → okB (bt s j)

noncomputable instance (s : ByteArray) : Decidable (VT s) := Classical.propDecidable _

theorem isByte_eq (c : Int) : impl_isByte.f c = some (decide (okB c)) := by
  unfold impl_isByte.f okB
  by_cases h1 : c = 10
  · simp [h1]
  · by_cases h2 : c ≥ 32
    · simp [h1, h2]
    · have : ¬ 32 ≤ c := h2
      simp [h1, this]
theorem l1In_eq (a b c : Int) : spec_l1In.f a b c = some (decide (b ≤ a ∧ a ≤ c)) := by
  unfold spec_l1In.f
  by_cases h : b ≤ a
  · simp [h]
  · have : ¬ a ≥ b := h
    simp [h]
theorem implTV (s : ByteArray) (hs : s.size ≤ 140737488351232) : W (fun k => impl_TextValid.f k s) (fun b => b = true ↔ VT s) := by
  unfold impl_TextValid.f
  refine W.loop (l := fun i k => impl_TextValid.l0 k s s.size i) (P := fun _ b => b = true ↔ VT s) (fun i => 0 ≤ i ∧ i ≤ s.size ∧ ∀ j, 0 ≤ j → j < i → okB (bt s j)) (fun i => (s.size - i).toNat) ?_ 0 ⟨by omega, by omega, fun j h0 h1 => by omega⟩
  intro i ⟨h0, h1, h2⟩ ih
  refine W.step (fun k => impl_TextValid.l0.eq_2 ..) ?_
  by_cases hlt : i < s.size
  · simp (disch := omega) only [if_pos, w64, isByte_eq, Option.bind_some]
    by_cases hb : okB (bt s i)
    · simp only [hb, decide_true, if_true]
      exact ih (i + 1) ⟨by omega, by omega, fun j h3 h4 => by
        by_cases e : j = i
        · subst e; exact hb
        · exact h2 j h3 (by omega)⟩ (by omega)
    · simp only [hb, decide_false]
      exact W.ret ⟨fun h => by simp at h, fun h => absurd (h.2 i h0 hlt) hb⟩
  · simp (disch := omega) only [if_neg]
    refine W.ret ?_
    simp only [decide_eq_true_eq]
    exact ⟨fun h => ⟨by omega, fun j h3 h4 => h2 j h3 (by omega)⟩, fun h => by have := h.1; omega⟩

theorem specPlain (s : ByteArray) (hs : s.size ≤ 140737488351232) : W (fun k => spec_l1Plain.f k s) (fun b => b = true ↔ ∀ j : Int, 0 ≤ j → j < s.size → okB (bt s j)) := by
  unfold spec_l1Plain.f
  refine W.loop (l := fun i k => spec_l1Plain.l0 k s i) (P := fun _ b => b = true ↔ ∀ j : Int, 0 ≤ j → j < s.size → okB (bt s j)) (fun i => 0 ≤ i ∧ i ≤ s.size ∧ ∀ j, 0 ≤ j → j < i → okB (bt s j)) (fun i => (s.size - i).toNat) ?_ 0 ⟨by omega, by omega, fun j h0 h1 => by omega⟩
  intro i ⟨h0, h1, h2⟩ ih
  refine W.step (fun k => spec_l1Plain.l0.eq_2 ..) ?_
  have hr := bt_range s i
  by_cases hlt : i < s.size
  · simp (disch := omega) only [if_pos, w64, l1In_eq, Option.bind_some]
    have next : okB (bt s i) → ∀ j, 0 ≤ j → j < i + 1 → okB (bt s j) := fun hb j h3 h4 => by
      by_cases e : j = i
      · subst e; exact hb
      · exact h2 j h3 (by omega)
    refine W.ite (fun hc => ih (i + 1) ⟨by omega, by omega, next (.inl hc)⟩ (by omega)) (fun hc => ?_)
    refine W.ite (fun hd => ih (i + 1) ⟨by omega, by omega, next (.inr (by simpa using hd))⟩ (by omega)) (fun hd => ?_)
    refine W.ret ⟨fun h => by simp at h, fun h => ?_⟩
    rcases h i h0 hlt with h | h
    · exact absurd h hc
    · exact absurd (by simpa using h) hd
  · simp (disch := omega) only [if_neg]
    exact W.ret ⟨fun _ j h3 h4 => h2 j h3 (by omega), fun _ => rfl⟩

theorem specTV (s : ByteArray) (hs : s.size ≤ 140737488351232) : W (fun k => spec_TextValid.f k s) (fun b => b = true ↔ VT s) := by
  unfold spec_TextValid.f
  refine W.ite (fun h => ?_) (fun h => ?_)
  · refine W.bind (specPlain s hs) (fun b hb => W.ret ?_)
    rw [hb]
    exact ⟨fun h' => ⟨by omega, h'⟩, fun h' => h'.2⟩
  · exact W.ret ⟨fun h' => by simp at h', fun h' => by have := h'.1; omega⟩

theorem tv_pos {g : Nat → Option Bool} {s : ByteArray} (h : W g (fun b => b = true ↔ VT s)) (hv : VT s) : W g (· = true) := h.mono fun b hb => hb.2 hv
end Go.Proofs.YtdfbdgnapjpblaaDoor.Ev
/- Texts as bytes: parts, sums, equality. -/
namespace Go.Proofs.YtdfbdgnapjpblaaDoor.Ev
open Go.RowKit Go.Proofs.YtdfbdgnapjpblaaDoorW.PrintWords
set_option linter.unusedVariables false
set_option linter.unusedSimpArgs false

theorem bt_eq (s : ByteArray) {i : Int} (h0 : 0 ≤ i) (h : i < s.size) : ∃ h' : i.toNat < s.size, bt s i = (s[i.toNat]'h').toNat := by
  have h' : i.toNat < s.size := by omega
  exact ⟨h', by unfold bt; rw [dif_pos h']⟩
theorem toList_data (a : ByteArray) : a.toList = a.data.toList := ByteArray.toList_eq a
theorem toList_inj {a b : ByteArray} : a.toList = b.toList ↔ a = b := by
  rw [toList_data, toList_data]
  constructor
  · intro h
    obtain ⟨⟨x⟩⟩ := a
    obtain ⟨⟨y⟩⟩ := b
    simp only at h
    subst h; rfl
  · intro h; rw [h]
theorem bt_cat_left (a b : ByteArray) {i : Int} (h : i.toNat < a.size) : bt (a ++ b) i = bt a i := by
  unfold bt
  rw [dif_pos (by rw [ByteArray.size_append]; omega), dif_pos h, ByteArray.getElem_append_left h]
theorem bt_cat_right (a b : ByteArray) {i : Int} (h : a.size ≤ i) : bt (a ++ b) i = bt b (i - a.size) := by
  unfold bt
  by_cases hb : (i - a.size).toNat < b.size
  · rw [dif_pos (by rw [ByteArray.size_append]; omega), dif_pos hb]
    rw [ByteArray.getElem_append_right (by omega)]
    congr 2
    congr 1
    omega
  · rw [dif_neg (by rw [ByteArray.size_append]; omega), dif_neg hb]
theorem ext_size (s : ByteArray) {a b : Int} (h0 : 0 ≤ a) (h1 : a ≤ b) (h2 : b ≤ s.size) : ((s.extract a.toNat b.toNat).size : Int) = b - a := by
  rw [ByteArray.size_extract]; omega
theorem bt_ext (s : ByteArray) {a b i : Int} (h0 : 0 ≤ a) (h1 : 0 ≤ i) (h2 : i < b - a) (h3 : b ≤ s.size) : bt (s.extract a.toNat b.toNat) i = bt s (a + i) := by
  unfold bt
  rw [dif_pos (by rw [ByteArray.size_extract]; omega), dif_pos (by omega), ByteArray.getElem_extract]
  congr 2
  congr 1
  omega
theorem bt_out (s : ByteArray) {i : Int} (h : s.size ≤ i) : bt s i = 0 := by
  unfold bt
  rw [dif_neg (by omega)]
end Go.Proofs.YtdfbdgnapjpblaaDoor.Ev
/- The plain law of lines: line ends counted, where lines begin and end. No program in sight. -/
namespace Go.Proofs.YtdfbdgnapjpblaaDoor.ThL
open Go.RowKit Go.Proofs.YtdfbdgnapjpblaaDoorW.PrintWords Go.Proofs.YtdfbdgnapjpblaaDoor.Ev
set_option linter.unusedVariables false
set_option linter.unusedSimpArgs false

/-- How many line ends stand before place p. -/
def nl (s : ByteArray) : Nat → Nat
  | 0 => 0
  | n + 1 => nl s n + if bt s n = 10 then 1 else 0
theorem nl_step (s : ByteArray) (n : Nat) : nl s (n + 1) = nl s n + if bt s n = 10 then 1 else 0 := rfl
theorem nl_mono (s : ByteArray) {a b : Nat} (h : a ≤ b) : nl s a ≤ nl s b := by
  induction b with
  | zero => have : a = 0 := by omega
            subst this; exact Nat.le_refl _
  | succ b ih =>
    by_cases e : a = b + 1
    · subst e; exact Nat.le_refl _
    · have := ih (by omega)
      rw [nl_step]; omega
theorem nl_le (s : ByteArray) : ∀ n, nl s n ≤ n
  | 0 => Nat.le_refl _
  | n + 1 => by have := nl_le s n; rw [nl_step]; split <;> omega
theorem nl_same (s : ByteArray) {a b : Nat} (h : a ≤ b) (hn : ∀ j : Int, a ≤ j → j < b → bt s j ≠ 10) : nl s b = nl s a := by
  induction b with
  | zero => have : a = 0 := by omega
            subst this; rfl
  | succ b ih =>
    by_cases e : a = b + 1
    · subst e; rfl
    · rw [nl_step, ih (by omega) (fun j h0 h1 => hn j h0 (by omega)), if_neg (hn b (by omega) (by omega))]; omega
theorem nl_lt (s : ByteArray) {a b : Nat} {j : Nat} (h : a ≤ j) (h2 : j < b) (hn : bt s j = 10) : nl s a < nl s b := by
  have h1 := nl_mono s h
  have h3 := nl_mono s (show j + 1 ≤ b from h2)
  rw [nl_step, if_pos hn] at h3
  omega

/-- The first line end from place p on, or the end of the text. -/
def fnlA (s : ByteArray) : Nat → Nat → Nat
  | 0, p => p
  | d + 1, p => if bt s p = 10 then p else fnlA s d (p + 1)
def fnl (s : ByteArray) (p : Nat) : Nat := fnlA s (s.size - p) p
theorem fnlA_spec (s : ByteArray) : ∀ d p, p + d = s.size → p ≤ fnlA s d p ∧ fnlA s d p ≤ s.size ∧ (∀ j : Int, p ≤ j → j < fnlA s d p → bt s j ≠ 10) ∧ (fnlA s d p < s.size → bt s (fnlA s d p) = 10)
  | 0, p, h => ⟨Nat.le_refl _, by simp [fnlA]; omega, fun j h0 h1 => by simp [fnlA] at h1; omega, fun h1 => by simp [fnlA] at h1; omega⟩
  | d + 1, p, h => by
    unfold fnlA
    by_cases c : bt s p = 10
    · rw [if_pos c]; exact ⟨Nat.le_refl _, by omega, fun j h0 h1 => by omega, fun _ => c⟩
    · rw [if_neg c]
      obtain ⟨h1, h2, h3, h4⟩ := fnlA_spec s d (p + 1) (by omega)
      refine ⟨by omega, h2, fun j h5 h6 => ?_, h4⟩
      by_cases e : j = p
      · subst e; exact c
      · exact h3 j (by omega) h6
theorem fnl_spec (s : ByteArray) {p : Nat} (h : p ≤ s.size) : p ≤ fnl s p ∧ fnl s p ≤ s.size ∧ (∀ j : Int, p ≤ j → j < fnl s p → bt s j ≠ 10) ∧ (fnl s p < s.size → bt s (fnl s p) = 10) := fnlA_spec s _ p (by omega)
/-- Where line k begins, where it ends. -/
def st (s : ByteArray) : Nat → Nat
  | 0 => 0
  | k + 1 => fnl s (st s k) + 1
def en (s : ByteArray) (k : Nat) : Nat := fnl s (st s k)
theorem st_succ (s : ByteArray) (k : Nat) : st s (k + 1) = en s k + 1 := rfl
theorem st_spec (s : ByteArray) : ∀ k, k ≤ nl s s.size → st s k ≤ s.size ∧ nl s (st s k) = k ∧ (k = 0 ∨ bt s ((st s k : Int) - 1) = 10)
  | 0 => fun _ => ⟨Nat.zero_le _, rfl, .inl rfl⟩
  | k + 1 => fun h => by
    obtain ⟨h1, h2, _⟩ := st_spec s k (by omega)
    obtain ⟨a, b, c, d⟩ := fnl_spec s h1
    have hs := nl_same s a c
    have hlt : en s k < s.size := by
      show fnl s (st s k) < s.size
      by_cases e : fnl s (st s k) = s.size
      · rw [e] at hs; omega
      · omega
    have hd := d hlt
    rw [st_succ]
    refine ⟨hlt, ?_, .inr ?_⟩
    · rw [nl_step]
      show nl s (fnl s (st s k)) + (if bt s (fnl s (st s k) : Nat) = 10 then 1 else 0) = _
      rw [hs, h2, if_pos hd]
    · rw [show (((en s k + 1 : Nat) : Int) - 1) = (en s k : Nat) from by omega]; exact hd
theorem en_spec (s : ByteArray) {k : Nat} (h : k ≤ nl s s.size) : st s k ≤ en s k ∧ en s k ≤ s.size ∧ (∀ j : Int, st s k ≤ j → j < en s k → bt s j ≠ 10) ∧ (en s k < s.size → bt s (en s k) = 10) ∧ nl s (en s k) = k := by
  obtain ⟨h1, h2, _⟩ := st_spec s k h
  obtain ⟨a, b, c, d⟩ := fnl_spec s h1
  exact ⟨a, b, c, d, by rw [show nl s (en s k) = nl s (fnl s (st s k)) from rfl, nl_same s a c, h2]⟩
/-- Two places at which lines begin, with as many line ends before them, are one. -/
theorem start_uniq (s : ByteArray) {p q : Nat} (hn : nl s p = nl s q) (hp : p = 0 ∨ bt s ((p : Int) - 1) = 10) (hq : q = 0 ∨ bt s ((q : Int) - 1) = 10) : p = q := by
  by_cases h : p < q
  · rcases hq with rfl | hq
    · omega
    · have := nl_lt s (a := p) (b := q) (j := q - 1) (by omega) (by omega) (by rw [show (((q - 1 : Nat)) : Int) = (q : Int) - 1 from by omega]; exact hq)
      omega
  · by_cases h2 : q < p
    · rcases hp with rfl | hp
      · omega
      · have := nl_lt s (a := q) (b := p) (j := p - 1) (by omega) (by omega) (by rw [show (((p - 1 : Nat)) : Int) = (p : Int) - 1 from by omega]; exact hp)
        omega
    · omega
theorem last_en (s : ByteArray) : en s (nl s s.size) = s.size := by
  obtain ⟨a, b, c, d, e⟩ := en_spec s (Nat.le_refl _)
  by_cases h : en s (nl s s.size) = s.size
  · exact h
  · have := nl_lt s (a := en s (nl s s.size)) (b := s.size) (j := en s (nl s s.size)) (Nat.le_refl _) (by omega) (d (by omega))
    omega
/-- Line k. -/
def lineAt (s : ByteArray) (k : Nat) : ByteArray := s.extract (st s k) (en s k)
/-- The first n lines. -/
def lns (s : ByteArray) : Nat → List ByteArray
  | 0 => []
  | n + 1 => lns s n ++ [lineAt s n]
theorem lns_succ (s : ByteArray) (n : Nat) : lns s (n + 1) = lns s n ++ [lineAt s n] := rfl
theorem lns_len (s : ByteArray) : ∀ n, (lns s n).length = n
  | 0 => rfl
  | n + 1 => by rw [lns_succ, List.length_append, lns_len s n]; rfl
/-- All lines. -/
def lines (s : ByteArray) : List ByteArray := lns s (nl s s.size + 1)
theorem lines_len (s : ByteArray) : (lines s).length = nl s s.size + 1 := lns_len s _
end Go.Proofs.YtdfbdgnapjpblaaDoor.ThL
/- Lists of numbers: read, set, cut. No program in sight. -/
namespace Go.Proofs.YtdfbdgnapjpblaaDoor.ThB
open Go.RowKit Go.Proofs.YtdfbdgnapjpblaaDoorW.PrintWords
set_option linter.unusedVariables false
set_option linter.unusedSimpArgs false
theorem rd_set_self (xs : List Int) (v : Int) {i : Int} (h0 : 0 ≤ i) (h : i < xs.length) : rd (xs.set i.toNat v) i = v := by
  unfold rd
  rw [List.getD_eq_getElem?_getD, List.getElem?_set_self (by omega)]
  rfl
theorem rd_set_ne (xs : List Int) (v : Int) {i j : Int} (h0 : 0 ≤ i) (hj : 0 ≤ j) (h : i ≠ j) : rd (xs.set j.toNat v) i = rd xs i := by
  unfold rd
  rw [List.getD_eq_getElem?_getD, List.getD_eq_getElem?_getD, List.getElem?_set_ne (by omega)]
theorem rd_ext {xs ys : List Int} (hl : xs.length = ys.length) (h : ∀ i : Int, 0 ≤ i → i < xs.length → rd xs i = rd ys i) : xs = ys := by
  apply List.ext_getElem hl
  intro i h1 h2
  have := h i (by omega) (by omega)
  unfold rd at this
  simpa [List.getD_eq_getElem?_getD, h1, h2] using this
end Go.Proofs.YtdfbdgnapjpblaaDoor.ThB
/- Lists as tables. No program in sight. -/
namespace Go.Proofs.YtdfbdgnapjpblaaDoor.ThT
open Go.RowKit Go.Proofs.YtdfbdgnapjpblaaDoorW.PrintWords Go.Proofs.YtdfbdgnapjpblaaDoor.ThB
set_option linter.unusedVariables false
set_option linter.unusedSimpArgs false

def tab {α : Type} (f : Nat → α) : Nat → List α
  | 0 => []
  | n + 1 => tab f n ++ [f n]
theorem tab_succ {α : Type} (f : Nat → α) (n : Nat) : tab f (n + 1) = tab f n ++ [f n] := rfl
theorem tab_len {α : Type} (f : Nat → α) : ∀ n, (tab f n).length = n
  | 0 => rfl
  | n + 1 => by rw [tab_succ, List.length_append, tab_len f n]; rfl
theorem tab_get {α : Type} (f : Nat → α) : ∀ (n i : Nat), i < n → (tab f n)[i]? = some (f i)
  | 0, i, h => by omega
  | n + 1, i, h => by
    have hl := tab_len f n
    rw [tab_succ]
    by_cases e : i = n
    · subst e; rw [List.getElem?_append_right (by omega), hl, Nat.sub_self]; rfl
    · rw [List.getElem?_append_left (by omega)]; exact tab_get f n i (by omega)
theorem rd_tab (f : Nat → Int) (n : Nat) {i : Int} (h0 : 0 ≤ i) (h1 : i < n) : rd (tab f n) i = f i.toNat := by
  unfold rd
  rw [List.getD_eq_getElem?_getD, tab_get f n _ (by omega)]; rfl
/-- A table with n entries, of which the first i are laid. -/
theorem tab_set {α : Type} (d : α) (f : Nat → α) (n i : Nat) (h : i < n) : (tab f i ++ List.replicate (n - i) d).set i (f i) = tab f (i + 1) ++ List.replicate (n - (i + 1)) d := by
  have hl := tab_len f i
  have e : n - i = (n - (i + 1)) + 1 := by omega
  rw [List.set_append_right _ _ (by omega), hl, Nat.sub_self, e, List.replicate_succ, List.set_cons_zero, tab_succ, List.append_assoc]
  rfl
theorem rdOf_set_self {α : Type} (d : α) (xs : List α) (v : α) {i : Int} (h0 : 0 ≤ i) (h : i < xs.length) : rdOf d (xs.set i.toNat v) i = v := by
  unfold rdOf
  rw [List.getD_eq_getElem?_getD, List.getElem?_set_self (by omega)]
  rfl
theorem rdOf_set_ne {α : Type} (d : α) (xs : List α) (v : α) {i j : Int} (h0 : 0 ≤ i) (hj : 0 ≤ j) (h : i ≠ j) : rdOf d (xs.set j.toNat v) i = rdOf d xs i := by
  unfold rdOf
  rw [List.getD_eq_getElem?_getD, List.getD_eq_getElem?_getD, List.getElem?_set_ne (by omega)]
end Go.Proofs.YtdfbdgnapjpblaaDoor.ThT
/- What the printed functions answer, part Sp: a text split at its line ends is its lines. -/
namespace Go.Proofs.YtdfbdgnapjpblaaDoor.Ev
open Go.RowKit Go.Proofs.YtdfbdgnapjpblaaDoor.X Go.Proofs.YtdfbdgnapjpblaaDoor.Wp Go.Proofs.YtdfbdgnapjpblaaDoorW.PrintWords Go.Proofs.YtdfbdgnapjpblaaDoor.ThL Go.Proofs.YtdfbdgnapjpblaaDoor.ThT
set_option linter.unusedVariables false
set_option linter.unusedSimpArgs false

theorem data_get (s : ByteArray) (n : Nat) (c : UInt8) : s.data.toList[n]? = some c ↔ n < s.size ∧ bt s n = c.toNat := by
  have hlen : s.data.toList.length = s.size := by rw [Array.length_toList]; rfl
  constructor
  · intro h
    have hn : n < s.data.toList.length := by
      rcases Nat.lt_or_ge n s.data.toList.length with h1 | h1
      · exact h1
      · rw [List.getElem?_eq_none h1] at h; cases h
    rw [List.getElem?_eq_getElem hn] at h
    injection h with h
    refine ⟨by omega, ?_⟩
    obtain ⟨p, e⟩ := bt_eq s (i := (n : Int)) (by omega) (by omega)
    rw [e]
    simp only [Int.toNat_natCast]
    have : s[n]'(by omega) = s.data.toList[n]'hn := rfl
    rw [this, h]
  · rintro ⟨h1, h2⟩
    obtain ⟨p, e⟩ := bt_eq s (i := (n : Int)) (by omega) (by omega)
    rw [e] at h2
    rw [List.getElem?_eq_getElem (by omega)]
    congr 1
    apply UInt8.toNat_inj.1
    simp only [Int.toNat_natCast] at h2
    exact_mod_cast h2
theorem ib_cases (s : ByteArray) (c : UInt8) : (Lib.indexByte s.data.toList c = -1 ∧ ∀ j : Int, 0 ≤ j → j < s.size → bt s j ≠ c.toNat) ∨ ∃ o : Nat, Lib.indexByte s.data.toList c = o ∧ o < s.size ∧ bt s o = c.toNat ∧ ∀ j : Int, 0 ≤ j → j < o → bt s j ≠ c.toNat := by
  have hge := Lib.indexByte_ge s.data.toList c
  by_cases h : Lib.indexByte s.data.toList c = -1
  · refine .inl ⟨h, fun j h0 h1 h2 => ?_⟩
    exact Lib.indexByte_none h j.toNat ((data_get s _ _).2 ⟨by omega, by rw [show ((j.toNat : Nat) : Int) = j from by omega]; exact h2⟩)
  · obtain ⟨o, ho⟩ : ∃ o : Nat, Lib.indexByte s.data.toList c = o := ⟨(Lib.indexByte s.data.toList c).toNat, by omega⟩
    obtain ⟨h1, h2⟩ := Lib.indexByte_some ho
    obtain ⟨h3, h4⟩ := (data_get s _ _).1 h1
    refine .inr ⟨o, ho, h3, h4, fun j h0 h5 h6 => ?_⟩
    exact h2 j.toNat (by omega) ((data_get s _ _).2 ⟨by omega, by rw [show ((j.toNat : Nat) : Int) = j from by omega]; exact h6⟩)
theorem count10 (s : ByteArray) : ∀ n, n ≤ s.size → (s.data.toList.take n).count 10 = nl s n
  | 0, _ => by rw [List.take_zero]; rfl
  | n + 1, h => by
    rw [List.take_add_one, List.count_append, count10 s n (by omega), nl_step]
    have hn : n < s.data.toList.length := by rw [Array.length_toList]; exact h
    rw [List.getElem?_eq_getElem hn]
    have hg : s.data.toList[n]? = some (s.data.toList[n]'hn) := List.getElem?_eq_getElem hn
    by_cases e : bt s n = 10
    · have := (data_get s n 10).2 ⟨by omega, e⟩
      rw [hg] at this
      injection this with this
      rw [this, if_pos e]; rfl
    · rw [if_neg e]
      have hne : s.data.toList[n]'hn ≠ 10 := fun h2 => by
        rw [h2] at hg
        exact e ((data_get s n 10).1 hg).2
      rw [Option.toList_some, List.count_singleton, if_neg (by simpa using hne)]
theorem countNl (s : ByteArray) : Lib.countByte s.data.toList 10 = nl s s.size := by
  rw [← count10 s s.size (Nat.le_refl _)]
  unfold Lib.countByte
  rw [List.take_of_length_le]
  rw [Array.length_toList]; exact Nat.le_refl _

/-- The text from line i's beginning on. -/
def rest (s : ByteArray) (i : Nat) : ByteArray := s.extract (st s i) s.size
theorem rest_size (s : ByteArray) {i : Nat} (h : i ≤ nl s s.size) : (rest s i).size = s.size - st s i := by
  unfold rest; rw [ByteArray.size_extract]; omega
theorem rest_bt (s : ByteArray) {i : Nat} (h : i ≤ nl s s.size) {j : Int} (h0 : 0 ≤ j) (h1 : j < (rest s i).size) : bt (rest s i) j = bt s (st s i + j) := by
  obtain ⟨a, _, _⟩ := st_spec s i h
  rw [rest_size s h] at h1
  have := bt_ext s (a := (st s i : Int)) (b := (s.size : Int)) (i := j) (by omega) h0 (by omega) (by omega)
  rw [Int.toNat_natCast, Int.toNat_natCast] at this
  exact this
theorem rest_last (s : ByteArray) : rest s (nl s s.size) = lineAt s (nl s s.size) := by unfold rest lineAt; rw [last_en]
theorem index10 (s : ByteArray) {i : Nat} (h : i < nl s s.size) : strings_Index.f (rest s i) (⟨#[10]⟩ : ByteArray) = some ((en s i - st s i : Nat) : Int) := by
  have h1 : strings_Index.f (rest s i) (⟨#[10]⟩ : ByteArray) = some (Lib.indexByte (rest s i).data.toList 10) := rfl
  rw [h1]
  congr 1
  obtain ⟨a, b, c, d, e⟩ := en_spec s (k := i) (by omega)
  have hlt : en s i < s.size := by
    have := (st_spec s (i + 1) (by omega)).1
    rw [st_succ] at this; omega
  have hz := rest_size s (i := i) (by omega)
  have hat : bt (rest s i) ((en s i - st s i : Nat) : Int) = 10 := by
    rw [rest_bt s (by omega) (by omega) (by omega), show (st s i : Int) + ((en s i - st s i : Nat) : Int) = (en s i : Nat) from by omega]
    exact d hlt
  rcases ib_cases (rest s i) 10 with ⟨_, h2⟩ | ⟨o, h2, h3, h4, h5⟩
  · exact absurd hat (h2 _ (by omega) (by omega))
  · rw [h2]
    have e1 : ¬ o < en s i - st s i := fun h6 => by
      rw [rest_bt s (by omega) (by omega) (by omega)] at h4
      exact c _ (by omega) (by omega) h4
    have e2 : ¬ en s i - st s i < o := fun h6 => h5 _ (by omega) (by omega) hat
    omega

theorem genSplit10 (s : ByteArray) (hs : s.size ≤ 1000000) : W (fun k => strings_genSplit.f k s (⟨#[10]⟩ : ByteArray) 0 (-1)) (fun r => r = lines s) := by
  unfold strings_genSplit.f
  have fin := nl_le s s.size
  refine W.neg (by omega) (W.neg (by rw [toList_data]; simp) (W.pos (by omega) (W.call (show strings_Count.f s (⟨#[10]⟩ : ByteArray) = some (nl s s.size : Int) from by rw [show strings_Count.f s (⟨#[10]⟩ : ByteArray) = some ((Lib.countByte s.data.toList 10 : Nat) : Int) from rfl, countNl]) ?_)))
  rw [w64 (x := (nl s s.size : Int) + 1) (by omega) (by omega)]
  refine W.step (fun k => strings_genSplit.j0.eq_2 ..) ?_
  rw [w64 (x := (s.size : Int) + 1) (by omega) (by omega), show mn ((nl s s.size : Int) + 1) ((s.size : Int) + 1) = ((nl s s.size + 1 : Nat) : Int) from by unfold mn; split <;> omega, Int.toNat_natCast, w64 (x := ((nl s s.size + 1 : Nat) : Int) - 1) (by omega) (by omega), show ((nl s s.size + 1 : Nat) : Int) - 1 = (nl s s.size : Nat) from by omega]
  refine W.pos (by omega) (W.pos (by omega) ?_)
  obtain ⟨m, hm⟩ : ∃ m, m = nl s s.size := ⟨_, rfl⟩
  rw [← hm]
  have hd : (⟨#[]⟩ : ByteArray) = ByteArray.empty := rfl
  have key := W.loop (l := fun (i : Nat) k => strings_genSplit.l0 k (rest s i) (⟨#[10]⟩ : ByteArray) 0 m (tab (lineAt s) i ++ List.replicate (m + 1 - i) (⟨#[]⟩ : ByteArray)) i) (P := fun _ r => r = lines s) (fun i : Nat => i ≤ m) (fun i => m - i) (by
    intro i hi ih
    refine W.step (fun k => strings_genSplit.l0.eq_2 ..) ?_
    have hlen : (tab (lineAt s) i ++ List.replicate (m + 1 - i) (⟨#[]⟩ : ByteArray)).length = m + 1 := by rw [List.length_append, tab_len, List.length_replicate]; omega
    by_cases hlt : i < m
    · have next := ih (i + 1) (by omega) (by omega)
      obtain ⟨a, b, c, d, e⟩ := en_spec s (k := i) (by omega)
      have hes : en s i < s.size := by
        have := (st_spec s (i + 1) (by omega)).1
        rw [st_succ] at this; omega
      have hz := rest_size s (i := i) (by omega)
      have e1 : (rest s i).extract 0 (en s i - st s i) = lineAt s i := by
        unfold rest lineAt
        rw [ByteArray.extract_extract]
        congr 1 <;> omega
      have e2 : (rest s i).extract (en s i - st s i + 1) (rest s i).size = rest s (i + 1) := by
        rw [hz]
        unfold rest
        rw [ByteArray.extract_extract, st_succ]
        congr 1 <;> omega
      rw [show ((i + 1 : Nat) : Int) = (i : Int) + 1 from by omega] at next
      refine W.pos (by omega) (W.call (index10 s (by omega)) (W.neg (by omega) ?_))
      have hone : ((⟨#[10]⟩ : ByteArray).size : Int) = 1 := rfl
      rw [hone, w64 (x := ((en s i - st s i : Nat) : Int) + 0) (by omega) (by omega), w64 (x := ((en s i - st s i : Nat) : Int) + 1) (by omega) (by omega), w64 (x := (i : Int) + 1) (by omega) (by omega), Int.add_zero, Int.toNat_natCast, Int.toNat_natCast, show (((en s i - st s i : Nat) : Int) + 1).toNat = en s i - st s i + 1 from by omega, e1, e2, tab_set _ _ (m + 1) i (by omega)]
      exact W.pos (by omega) (W.pos (by omega) (W.pos (by omega) (W.pos (by omega) (W.pos (by omega) (W.pos (by omega) next)))))
    · have e : i = m := by omega
      subst e
      refine W.neg (by omega) (W.pos (by omega) (W.pos (by omega) ?_))
      rw [w64 (x := (i : Int) + 1) (by omega) (by omega)]
      refine W.pos (by omega) (W.pos (by omega) (W.ret ?_))
      rw [Int.toNat_natCast, show ((i : Int) + 1).toNat = i + 1 from by omega]
      have hl : rest s i = lineAt s i := by rw [hm]; exact rest_last s
      rw [hl, tab_set _ _ (i + 1) i (by omega), Nat.sub_self, List.replicate_zero, List.append_nil, List.take_of_length_le (by rw [tab_len]; exact Nat.le_refl _)]
      unfold lines
      rw [← hm]
      clear hlt hlen hl ih hi
      induction (i + 1) with
      | zero => rfl
      | succ n ih => rw [tab_succ, lns_succ, ih]) 0 (by omega)
  have e0 : rest s 0 = s := by
    unfold rest
    rw [show st s 0 = 0 from rfl]
    exact ByteArray.extract_zero_size
  rw [e0] at key
  exact key
theorem linesOfW (s : ByteArray) (hs : s.size ≤ 1000000) : W (fun k => impl_linesOf.f k s) (fun r => r = lines s) := by
  unfold impl_linesOf.f strings_Split.f
  exact W.bind_eq (W.bind_eq (genSplit10 s hs) (W.ret rfl)) (W.ret rfl)
end Go.Proofs.YtdfbdgnapjpblaaDoor.Ev
/- What the printed functions answer, part Ln: the reference's lines. -/
namespace Go.Proofs.YtdfbdgnapjpblaaDoor.Ev
open Go.RowKit Go.Proofs.YtdfbdgnapjpblaaDoor.X Go.Proofs.YtdfbdgnapjpblaaDoor.Wp Go.Proofs.YtdfbdgnapjpblaaDoorW.PrintWords Go.Proofs.YtdfbdgnapjpblaaDoor.ThL
set_option linter.unusedVariables false
set_option linter.unusedSimpArgs false

theorem specLineMany (s : ByteArray) (hs : s.size ≤ 140737488351232) : W (fun k => spec_LineMany.f k s) (fun r => r = if VT s then (nl s s.size : Int) + 1 else -1) := by
  unfold spec_LineMany.f
  refine W.bind (specTV s hs) (fun b hb => W.ite (fun h => ?_) (fun h => ?_))
  · rw [if_pos (hb.1 h)]
    have key := W.loop (l := fun (n : Nat) k => spec_LineMany.l0 k s ((nl s n : Int) + 1) n) (P := fun _ r => r = (nl s s.size : Int) + 1) (fun n : Nat => n ≤ s.size) (fun n => s.size - n) (by
      intro n hn ih
      refine W.step (fun k => spec_LineMany.l0.eq_2 ..) ?_
      have hle := nl_le s n
      by_cases hlt : n < s.size
      · have next := ih (n + 1) (by omega) (by omega)
        rw [nl_step, show ((n + 1 : Nat) : Int) = (n : Int) + 1 from by omega] at next
        rw [w64 (x := (n : Int) + 1) (by omega) (by omega), w64 (x := (nl s n : Int) + 1 + 1) (by omega) (by omega)]
        refine W.pos (by omega) (W.pos (by omega) (W.ite (fun hc => ?_) (fun hc => ?_)))
        · rw [if_pos hc] at next; exact next
        · rw [if_neg hc] at next; exact next
      · have e : n = s.size := by omega
        subst e
        exact W.neg (by omega) (W.ret rfl)) 0 (by omega)
    exact key
  · rw [if_neg (fun hv => h (hb.2 hv))]
    exact W.ret rfl

theorem specLineStart (s : ByteArray) (line : Int) (hs : s.size ≤ 140737488351232) : W (fun k => spec_LineStart.f k s line) (fun r => r = if VT s ∧ 0 ≤ line ∧ line ≤ nl s s.size then (st s line.toNat : Int) else -1) := by
  unfold spec_LineStart.f
  have out : ¬ (VT s ∧ 0 ≤ line ∧ line ≤ nl s s.size) → W (fun k => spec_LineStart.j0 k s line true) (fun r => r = if VT s ∧ 0 ≤ line ∧ line ≤ nl s s.size then (st s line.toNat : Int) else -1) := fun hv => by
    rw [if_neg hv]
    exact W.step (fun k => spec_LineStart.j0.eq_2 ..) (W.pos rfl (W.ret rfl))
  refine W.bind (specTV s hs) (fun b hb => W.ite (fun h => ?_) (fun h => out (fun hv => h (hb.2 hv.1))))
  have hv := hb.1 h
  have hsz := hv.1
  by_cases hl : line < 0
  · rw [decide_eq_true hl]; exact out (fun h => by omega)
  · rw [decide_eq_false hl]
    refine W.step (fun k => spec_LineStart.j0.eq_2 ..) (W.neg (by decide) ?_)
    have fin := nl_le s s.size
    have key := W.loop (l := fun (n : Nat) k => spec_LineStart.l0 k s line (nl s n) n) (P := fun _ r => r = if VT s ∧ 0 ≤ line ∧ line ≤ nl s s.size then (st s line.toNat : Int) else -1) (fun n : Nat => n ≤ s.size + 1 ∧ (line ≤ nl s s.size → n ≤ st s line.toNat)) (fun n => s.size + 1 - n) (by
      intro n ⟨hn, hst⟩ ih
      refine W.step (fun k => spec_LineStart.l0.eq_2 ..) ?_
      have hle := nl_le s n
      by_cases hlt : n ≤ s.size
      · have hmono := nl_mono s hlt
        -- going on
        have go : ¬ (nl s n = line ∧ (n = 0 ∨ bt s ((n : Int) - 1) = 10)) → W (fun k => spec_LineStart.j2 k s line (nl s n) n false) (fun r => r = if VT s ∧ 0 ≤ line ∧ line ≤ nl s s.size then (st s line.toNat : Int) else -1) := by
          intro hno
          have next := ih (n + 1) ⟨by omega, fun hle2 => by
            have h1 := hst hle2
            obtain ⟨a, b, c⟩ := st_spec s line.toNat (by omega)
            by_cases e : n = st s line.toNat
            · exfalso; apply hno
              rw [e]
              refine ⟨by omega, ?_⟩
              rcases c with c | c
              · left; rw [c]; rfl
              · right; exact c
            · omega⟩ (by omega)
          refine W.step (fun k => spec_LineStart.j2.eq_2 ..) (W.neg (by decide) ?_)
          rw [show ((n + 1 : Nat) : Int) = (n : Int) + 1 from by omega] at next
          rw [w64 (x := (n : Int) + 1) (by omega) (by omega)]
          by_cases hlt2 : n < s.size
          · rw [nl_step] at next
            rw [w64 (x := (nl s n : Int) + 1) (by omega) (by omega)]
            refine W.pos (by omega) (W.pos (by omega) (W.ite (fun hc => ?_) (fun hc => ?_)))
            · rw [if_pos hc] at next; exact next
            · rw [if_neg hc] at next; exact next
          · refine W.neg (by omega) ?_
            have e : n = s.size := by omega
            rw [show nl s (n + 1) = nl s n from by rw [nl_step, bt_out s (by omega), if_neg (by omega)]; rfl] at next
            exact next
        have found : (nl s n : Int) = line → (n = 0 ∨ bt s ((n : Int) - 1) = 10) → W (fun k => spec_LineStart.j2 k s line (nl s n) n true) (fun r => r = if VT s ∧ 0 ≤ line ∧ line ≤ nl s s.size then (st s line.toNat : Int) else -1) := by
          intro h1 h2
          refine W.step (fun k => spec_LineStart.j2.eq_2 ..) (W.pos rfl (W.ret ?_))
          rw [if_pos ⟨hv, by omega, by omega⟩]
          obtain ⟨a, b, c⟩ := st_spec s line.toNat (by omega)
          have c' : st s line.toNat = 0 ∨ bt s ((st s line.toNat : Int) - 1) = 10 := by
            rcases c with c | c
            · left; rw [c]; rfl
            · right; exact c
          rw [start_uniq s (p := n) (q := st s line.toNat) (by omega) h2 c']
        refine W.pos (by omega) (W.ite (fun h1 => W.ite (fun h2 => found h1 (.inl (by omega))) (fun h2 => ?_)) (fun h1 => go (fun h => h1 (by omega))))
        rw [w64 (x := (n : Int) - 1) (by omega) (by omega)]
        refine W.pos (by omega) (W.pos (by omega) ?_)
        by_cases h3 : bt s ((n : Int) - 1) = 10
        · rw [show (bt s ((n : Int) - 1) == 10) = true from by simpa using h3]
          exact found h1 (.inr h3)
        · rw [show (bt s ((n : Int) - 1) == 10) = false from by simpa using h3]
          exact go (fun h => by
            rcases h.2 with h | h
            · omega
            · exact h3 h)
      · refine W.neg (by omega) (W.ret ?_)
        rw [if_neg]
        intro h
        have := hst h.2.2
        have := (st_spec s line.toNat (by omega)).1
        omega) 0 ⟨by omega, fun _ => by omega⟩
    exact key

theorem specLineEnd (s : ByteArray) (line : Int) (hs : s.size ≤ 140737488351232) : W (fun k => spec_LineEnd.f k s line) (fun r => r = if VT s ∧ 0 ≤ line ∧ line ≤ nl s s.size then (en s line.toNat : Int) else -1) := by
  unfold spec_LineEnd.f
  refine W.bind_eq (specLineStart s line hs) ?_
  by_cases hv : VT s ∧ 0 ≤ line ∧ line ≤ nl s s.size
  · rw [if_pos hv, if_pos hv]
    obtain ⟨a, b, c, d, e⟩ := en_spec s (k := line.toNat) (by omega)
    have hsz := hv.1.1
    refine W.loop (l := fun (i : Int) k => spec_LineEnd.l0 k s i) (P := fun _ r => r = (en s line.toNat : Int)) (fun i => (st s line.toNat : Int) ≤ i ∧ i ≤ en s line.toNat) (fun i => (en s line.toNat - i).toNat) ?_ (st s line.toNat : Int) ⟨by omega, by omega⟩
    intro i ⟨h0, h1⟩ ih
    refine W.step (fun k => spec_LineEnd.l0.eq_2 ..) (W.pos (by omega) ?_)
    refine W.ite (fun hlt => W.pos (by omega) (W.ite (fun hc => W.ret ?_) (fun hc => ?_))) (fun hge => W.ret (by omega))
    · by_cases h2 : i < en s line.toNat
      · exact absurd hc (c i h0 h2)
      · omega
    · rw [w64 (x := i + 1) (by omega) (by omega)]
      have hne : i ≠ en s line.toNat := fun e2 => hc (by rw [e2]; exact d (by omega))
      exact ih (i + 1) ⟨by omega, by omega⟩ (by omega)
  · rw [if_neg hv, if_neg hv]
    exact W.step (fun k => spec_LineEnd.l0.eq_2 ..) (W.neg (by omega) (W.ret rfl))
theorem specLinesOf (s : ByteArray) (hs : s.size ≤ 140737488351232) : W (fun k => spec_LinesOf.f k s) (fun r => r = if VT s then lines s else []) := by
  unfold spec_LinesOf.f
  by_cases hv : VT s
  · rw [if_pos hv]
    have hsz := hv.1
    have fin := nl_le s s.size
    have key := W.loop (l := fun (n : Nat) k => spec_LinesOf.l0 k s (lns s n) n) (P := fun _ r => r = lines s) (fun n : Nat => n ≤ nl s s.size + 1) (fun n => nl s s.size + 1 - n) (by
      intro n hn ih
      refine W.step (fun k => spec_LinesOf.l0.eq_2 ..) (W.bind_eq (specLineMany s hs) ?_)
      rw [if_pos hv]
      have hlen := lns_len s n
      by_cases hlt : n < nl s s.size + 1
      · have next := ih (n + 1) (by omega) (by omega)
        rw [lns_succ, show ((n + 1 : Nat) : Int) = (n : Int) + 1 from by omega] at next
        refine W.pos (by omega) (W.bind_eq (specLineStart s n hs) (W.bind_eq (specLineEnd s n hs) ?_))
        rw [if_pos ⟨hv, by omega, by omega⟩, if_pos ⟨hv, by omega, by omega⟩, w64 (x := (n : Int) + 1) (by omega) (by omega), Int.toNat_natCast]
        obtain ⟨a, b, _⟩ := en_spec s (k := n) (by omega)
        refine W.pos (by omega) (W.pos (by omega) (W.pos (by omega) (W.pos (by omega) ?_)))
        rw [Int.toNat_natCast, Int.toNat_natCast]
        exact next
      · have e : n = nl s s.size + 1 := by omega
        subst e
        exact W.neg (by omega) (W.ret rfl)) 0 (by omega)
    exact key
  · rw [if_neg hv]
    refine W.step (fun k => spec_LinesOf.l0.eq_2 ..) (W.bind_eq (specLineMany s hs) ?_)
    rw [if_neg hv]
    exact W.neg (by omega) (W.ret rfl)
end Go.Proofs.YtdfbdgnapjpblaaDoor.Ev
/- The plain law of common lines: the longest list that two lists have in common. No program in sight. -/
namespace Go.Proofs.YtdfbdgnapjpblaaDoor.ThD
open Go.RowKit Go.Proofs.YtdfbdgnapjpblaaDoorW.PrintWords Go.Proofs.YtdfbdgnapjpblaaDoor.ThT Go.Proofs.YtdfbdgnapjpblaaDoor.ThB
set_option linter.unusedVariables false
set_option linter.unusedSimpArgs false

/-- How many elements two lists have in common, in the same order, at most. -/
def lcs : List ByteArray → List ByteArray → Nat
  | [], _ => 0
  | _ :: _, [] => 0
  | x :: xs, y :: ys => if x = y then 1 + lcs xs ys else max (lcs xs (y :: ys)) (lcs (x :: xs) ys)
termination_by a b => a.length + b.length
theorem lcs_nil_left (b : List ByteArray) : lcs [] b = 0 := by rw [lcs]
theorem lcs_nil_right (a : List ByteArray) : lcs a [] = 0 := by
  cases a with
  | nil => rw [lcs]
  | cons x xs => rw [lcs]
theorem lcs_cons (x y : ByteArray) (xs ys : List ByteArray) : lcs (x :: xs) (y :: ys) = if x = y then 1 + lcs xs ys else max (lcs xs (y :: ys)) (lcs (x :: xs) ys) := by rw [lcs]
theorem lcs_comm : ∀ (n : Nat) (a b : List ByteArray), a.length + b.length ≤ n → lcs a b = lcs b a
  | 0, a, b, h => by
    cases a with
    | nil => rw [lcs_nil_left, lcs_nil_right]
    | cons x xs => simp at h
  | n + 1, a, b, h => by
    cases a with
    | nil => rw [lcs_nil_left, lcs_nil_right]
    | cons x xs =>
      cases b with
      | nil => rw [lcs_nil_left, lcs_nil_right]
      | cons y ys =>
        simp only [List.length_cons] at h
        rw [lcs_cons, lcs_cons, lcs_comm n xs ys (by omega), lcs_comm n xs (y :: ys) (by simp only [List.length_cons]; omega), lcs_comm n (x :: xs) ys (by simp only [List.length_cons]; omega)]
        by_cases e : x = y
        · rw [if_pos e, if_pos e.symm]
        · rw [if_neg e, if_neg (fun h => e h.symm), Nat.max_comm]
theorem lcs_le : ∀ (n : Nat) (a b : List ByteArray), a.length + b.length ≤ n → lcs a b ≤ a.length
  | 0, a, b, h => by
    cases a with
    | nil => rw [lcs_nil_left]; exact Nat.zero_le _
    | cons x xs => simp at h
  | n + 1, a, b, h => by
    cases a with
    | nil => rw [lcs_nil_left]; exact Nat.zero_le _
    | cons x xs =>
      cases b with
      | nil => rw [lcs_nil_right]; exact Nat.zero_le _
      | cons y ys =>
        simp only [List.length_cons] at h ⊢
        rw [lcs_cons]
        have h1 := lcs_le n xs ys (by omega)
        have h2 := lcs_le n xs (y :: ys) (by simp only [List.length_cons]; omega)
        have h3 := lcs_le n (x :: xs) ys (by simp only [List.length_cons]; omega)
        simp only [List.length_cons] at h3
        split
        · omega
        · exact Nat.max_le.2 ⟨by omega, h3⟩
theorem lcs_self : ∀ a : List ByteArray, lcs a a = a.length
  | [] => by rw [lcs_nil_left]; rfl
  | x :: xs => by rw [lcs_cons, if_pos rfl, lcs_self xs, List.length_cons]; omega
/-- What is left of two lists from i, from k on. -/
def cm (a b : List ByteArray) (i k : Nat) : Nat := lcs (a.drop i) (b.drop k)
theorem cm_end_left (a b : List ByteArray) {i k : Nat} (h : a.length ≤ i) : cm a b i k = 0 := by
  unfold cm; rw [List.drop_eq_nil_of_le h, lcs_nil_left]
theorem cm_end_right (a b : List ByteArray) {i k : Nat} (h : b.length ≤ k) : cm a b i k = 0 := by
  unfold cm; rw [List.drop_eq_nil_of_le h, lcs_nil_right]
theorem rd_get (a : List ByteArray) {i : Nat} (h : i < a.length) : rdOf ByteArray.empty a i = a[i] := by
  unfold rdOf
  rw [List.getD_eq_getElem?_getD, Int.toNat_natCast, List.getElem?_eq_getElem h]; rfl
theorem cm_step (a b : List ByteArray) {i k : Nat} (h1 : i < a.length) (h2 : k < b.length) : cm a b i k = if rdOf ByteArray.empty a i = rdOf ByteArray.empty b k then 1 + cm a b (i + 1) (k + 1) else max (cm a b (i + 1) k) (cm a b i (k + 1)) := by
  rw [rd_get a h1, rd_get b h2]
  unfold cm
  rw [List.drop_eq_getElem_cons h1, List.drop_eq_getElem_cons h2, lcs_cons]
theorem cm_le (a b : List ByteArray) (i k : Nat) : cm a b i k ≤ a.length := by
  have h := lcs_le _ (a.drop i) (b.drop k) (Nat.le_refl _)
  rw [List.length_drop] at h
  unfold cm; omega
/-- A row of the table. -/
def cmRow (a b : List ByteArray) (i : Nat) : List Int := tab (fun k => (cm a b i k : Int)) (b.length + 1)
theorem cmRow_len (a b : List ByteArray) (i : Nat) : (cmRow a b i).length = b.length + 1 := tab_len _ _
theorem cmRow_rd (a b : List ByteArray) (i : Nat) {k : Int} (h0 : 0 ≤ k) (h : k ≤ b.length) : rd (cmRow a b i) k = cm a b i k.toNat := rd_tab _ _ h0 (by omega)
end Go.Proofs.YtdfbdgnapjpblaaDoor.ThD
/- What the printed functions answer, part Cm: the tables of common lines. -/
namespace Go.Proofs.YtdfbdgnapjpblaaDoor.Ev
open Go.RowKit Go.Proofs.YtdfbdgnapjpblaaDoor.X Go.Proofs.YtdfbdgnapjpblaaDoor.Wp Go.Proofs.YtdfbdgnapjpblaaDoorW.PrintWords Go.Proofs.YtdfbdgnapjpblaaDoor.ThL Go.Proofs.YtdfbdgnapjpblaaDoor.ThT Go.Proofs.YtdfbdgnapjpblaaDoor.ThB Go.Proofs.YtdfbdgnapjpblaaDoor.ThD
set_option linter.unusedVariables false
set_option linter.unusedSimpArgs false

theorem rdL_set_self (xs : List (List Int)) (v : List Int) {i : Int} (h0 : 0 ≤ i) (h : i < xs.length) : rd_L1 (xs.set i.toNat v) i = v := rdOf_set_self _ _ _ h0 h
theorem rdL_set_ne (xs : List (List Int)) (v : List Int) {i j : Int} (h0 : 0 ≤ i) (hj : 0 ≤ j) (h : i ≠ j) : rd_L1 (xs.set j.toNat v) i = rd_L1 xs i := rdOf_set_ne _ _ _ h0 hj h
theorem rd_zeros (n : Nat) (k : Int) : rd (List.replicate n 0) k = 0 := by
  unfold rd
  rw [List.getD_eq_getElem?_getD]
  by_cases h : k.toNat < n
  · rw [List.getElem?_replicate, if_pos h]; rfl
  · rw [List.getElem?_replicate, if_neg h]; rfl
theorem mx_max (x y : Nat) : mx (x : Int) (y : Int) = (max x y : Nat) := by unfold mx; split <;> omega
/-- The table of two lists. -/
def isTab (a b : List ByteArray) (t : List (List Int)) : Prop := t.length = a.length + 1 ∧ ∀ i : Nat, i ≤ a.length → rd_L1 t i = cmRow a b i

theorem implCommon (a b : List ByteArray) (ha : a.length ≤ 1000000) (hb : b.length ≤ 1000000) : W (fun k => impl_common.f k a b) (fun r => isTab a b r) := by
  unfold impl_common.f
  rw [w64 (x := (a.length : Int) + 1) (by omega) (by omega)]
  refine W.pos (by omega) (W.pos (by omega) ?_)
  rw [show ((a.length : Int) + 1).toNat = a.length + 1 from by omega]
  have outer := W.loop (l := fun (z : List (List Int) × Int) k => impl_common.l0 k a b z.1 z.2) (P := fun _ r => isTab a b r) (fun z => -1 ≤ z.2 ∧ z.2 ≤ a.length ∧ z.1.length = a.length + 1 ∧ ∀ i : Nat, z.2 < i → i ≤ a.length → rd_L1 z.1 i = cmRow a b i) (fun z => (z.2 + 1).toNat) (by
    rintro ⟨t, i⟩ ⟨i0, i1, tl, hrows⟩ ih
    dsimp only at i0 i1 tl hrows ⊢
    refine W.step (fun k => impl_common.l0.eq_2 ..) ?_
    by_cases hge : i ≥ 0
    · refine W.pos hge ?_
      rw [w64 (x := (b.length : Int) + 1) (by omega) (by omega), w64 (x := i - 1) (by omega) (by omega), w64 (x := (b.length : Int) - 1) (by omega) (by omega), show ((b.length : Int) + 1).toNat = b.length + 1 from by omega]
      refine W.pos (by omega) (W.pos (by omega) (W.pos hge (W.pos (by omega) (W.name ?_))))
      have next : ∀ t2 : List (List Int), t2.length = a.length + 1 → (∀ j : Nat, i - 1 < j → j ≤ a.length → rd_L1 t2 j = cmRow a b j) → W (fun k => impl_common.l0 k a b t2 (i - 1)) (fun r => isTab a b r) := fun t2 h1 h2 => ih (t2, i - 1) ⟨by dsimp only; omega, by dsimp only; omega, h1, h2⟩ (by dsimp only; omega)
      have others : ∀ (v : List Int) (j : Nat), i < j → j ≤ a.length → rd_L1 (t.set i.toNat v) j = cmRow a b j := fun v j h1 h2 => by
        rw [rdL_set_ne _ _ (by omega) hge (by omega)]; exact hrows j h1 h2
      refine W.ite (fun he => next _ (by rw [List.length_set]; exact tl) (fun j h1 h2 => ?_)) (fun hne => ?_)
      · have ej : (j : Int) = i := by omega
        rw [show ((j : Nat) : Int) = i from ej, rdL_set_self _ _ hge (by omega)]
        refine rd_ext (by rw [cmRow_len, List.length_replicate]) (fun k k0 k1 => ?_)
        rw [List.length_replicate] at k1
        rw [rd_zeros, cmRow_rd a b j k0 (by omega), cm_end_left a b (by omega)]; rfl
      · obtain ⟨n, hn⟩ : ∃ n, n = i.toNat := ⟨_, rfl⟩
        have hi : i = n := by omega
        subst hi
        have inner := W.loop (l := fun (z : List (List Int) × Int) k => impl_common.l1 k a b z.1 n z.2) (P := fun _ r => isTab a b r) (fun z => -1 ≤ z.2 ∧ z.2 ≤ (b.length : Int) - 1 ∧ z.1.length = a.length + 1 ∧ (∀ j : Nat, n < j → j ≤ a.length → rd_L1 z.1 j = cmRow a b j) ∧ (rd_L1 z.1 n).length = b.length + 1 ∧ ∀ j : Int, z.2 < j → j ≤ b.length → rd (rd_L1 z.1 n) j = cm a b n j.toNat) (fun z => (z.2 + 1).toNat) (by
          rintro ⟨u, k⟩ ⟨k0, k1, ul, hr2, rl, hcells⟩ ih2
          dsimp only at k0 k1 ul hr2 rl hcells ⊢
          refine W.step (fun k => impl_common.l1.eq_2 ..) ?_
          by_cases hk : k ≥ 0
          · rw [w64 (x := k + 1) (by omega) (by omega), w64 (x := k - 1) (by omega) (by omega), w64 (x := (n : Int) + 1) (by omega) (by omega)]
            obtain ⟨m, hm⟩ : ∃ m, m = k.toNat := ⟨_, rfl⟩
            have hkm : k = m := by omega
            subst hkm
            have e1 : rd_L1 u ((n : Int) + 1) = cmRow a b (n + 1) := by
              have := hr2 (n + 1) (by omega) (by omega)
              rw [show ((n + 1 : Nat) : Int) = (n : Int) + 1 from by omega] at this
              exact this
            have hstep := cm_step a b (i := n) (k := m) (by omega) (by omega)
            have c1 := cm_le a b (n + 1) (m + 1)
            have c2 := cm_le a b (n + 1) m
            have c3 := cm_le a b n (m + 1)
            have go : ∀ v : Int, v = cm a b n m → W (fun k => impl_common.l1 k a b (u.set (n : Int).toNat ((rd_L1 u n).set (m : Int).toNat v)) n ((m : Int) - 1)) (fun r => isTab a b r) := by
              intro v hv
              refine ih2 (_, (m : Int) - 1) ⟨by dsimp only; omega, by dsimp only; omega, by dsimp only; rw [List.length_set]; exact ul, fun j h1 h2 => ?_, ?_, fun j h1 h2 => ?_⟩ (by dsimp only; omega)
              · dsimp only
                rw [rdL_set_ne _ _ (by omega) (by omega) (by omega)]; exact hr2 j h1 h2
              · dsimp only
                rw [rdL_set_self _ _ (by omega) (by omega), List.length_set]; exact rl
              · dsimp only at h1 ⊢
                rw [rdL_set_self _ _ (by omega) (by omega)]
                by_cases e : j = m
                · subst e
                  rw [rd_set_self _ _ (by omega) (by omega), hv, Int.toNat_natCast]
                · rw [rd_set_ne _ _ (by omega) (by omega) e]; exact hcells j (by omega) h2
            have cell := hcells ((m : Int) + 1) (by omega) (by omega)
            rw [show ((m : Int) + 1).toNat = m + 1 from by omega] at cell
            rw [e1, cmRow_rd a b (n + 1) (k := (m : Int) + 1) (by omega) (by omega), cmRow_rd a b (n + 1) (k := (m : Int)) (by omega) (by omega), cmRow_len, cell, show ((m : Int) + 1).toNat = m + 1 from by omega, Int.toNat_natCast, w64 (x := 1 + (cm a b (n + 1) (m + 1) : Int)) (by omega) (by omega)]
            refine W.pos hk (W.pos (by omega) (W.pos (by omega) (W.pos hk (W.pos (by omega) (W.ite (fun heq => ?_) (fun hneq => ?_))))))
            · have he2 := toList_inj.1 heq
              rw [if_pos he2] at hstep
              refine W.pos (by omega) (W.pos (by omega) (W.pos (by omega) (W.pos (by omega) (W.pos (by omega) (W.pos (by omega) ?_)))))
              have := go (1 + (cm a b (n + 1) (m + 1) : Int)) (by omega)
              rw [Int.toNat_natCast, Int.toNat_natCast] at this
              exact this
            · have he2 : ¬ rdOf ByteArray.empty a n = rdOf ByteArray.empty b m := fun h => hneq (by rw [h])
              rw [if_neg he2] at hstep
              refine W.pos (by omega) (W.pos (by omega) (W.pos (by omega) (W.pos (by omega) (W.pos (by omega) (W.pos (by omega) (W.pos (by omega) ?_))))))
              have := go (mx (cm a b (n + 1) m : Int) (cm a b n (m + 1) : Int)) (by rw [mx_max, hstep])
              rw [Int.toNat_natCast, Int.toNat_natCast] at this
              exact this
          · refine W.neg hk ?_
            rw [w64 (x := (n : Int) - 1) (by omega) (by omega)]
            refine next u ul (fun j h1 h2 => ?_)
            by_cases e : j = n
            · subst e
              refine rd_ext (by rw [rl, cmRow_len]) (fun q q0 q1 => ?_)
              rw [rl] at q1
              rw [hcells q (by omega) (by omega), cmRow_rd a b j q0 (by omega)]
            · exact hr2 j (by omega) h2) (t.set (n : Int).toNat (List.replicate (b.length + 1) 0), (b.length : Int) - 1) ⟨by dsimp only; omega, by dsimp only; omega, by dsimp only; rw [List.length_set]; exact tl, fun j h1 h2 => others _ j (by omega) h2, by
            dsimp only
            rw [rdL_set_self _ _ (by omega) (by omega), List.length_replicate], fun j h1 h2 => by
            dsimp only at h1 ⊢
            rw [rdL_set_self _ _ (by omega) (by omega), rd_zeros, cm_end_right a b (by omega)]; rfl⟩
        exact inner
    · exact W.neg hge (W.ret ⟨tl, fun i h => hrows i (by omega) h⟩)) (List.replicate (a.length + 1) [], (a.length : Int)) ⟨by dsimp only; omega, by dsimp only; omega, by simp, fun i h1 h2 => by dsimp only at h1; omega⟩
  exact outer
theorem specCommon (a b : List ByteArray) (ha : a.length ≤ 1000000) (hb : b.length ≤ 1000000) : W (fun k => spec_l21Common.f k a b) (fun r => isTab a b r) := by
  unfold spec_l21Common.f
  -- row after row, from behind
  have rows := W.loop (l := fun (z : List (List Int) × Int) k => spec_l21Common.l1 k a b z.1 z.2) (P := fun _ r => isTab a b r) (fun z => -1 ≤ z.2 ∧ z.2 ≤ (a.length : Int) - 1 ∧ z.1.length = a.length + 1 ∧ (∀ i : Nat, z.2 < i → i ≤ a.length → rd_L1 z.1 i = cmRow a b i) ∧ ∀ i : Nat, (i : Int) ≤ z.2 → rd_L1 z.1 i = List.replicate (b.length + 1) 0) (fun z => (z.2 + 1).toNat) (by
    rintro ⟨t, i⟩ ⟨i0, i1, tl, hrows, hzero⟩ ih
    dsimp only at i0 i1 tl hrows hzero ⊢
    refine W.step (fun k => spec_l21Common.l1.eq_2 ..) ?_
    by_cases hge : i ≥ 0
    · refine W.pos hge ?_
      rw [w64 (x := (b.length : Int) - 1) (by omega) (by omega)]
      obtain ⟨n, hn⟩ : ∃ n, n = i.toNat := ⟨_, rfl⟩
      have hi : i = n := by omega
      subst hi
      have e0 := hzero n (Int.le_refl _)
      have inner := W.loop (l := fun (z : List (List Int) × Int) k => spec_l21Common.l2 k a b z.1 n z.2) (P := fun _ r => isTab a b r) (fun z => -1 ≤ z.2 ∧ z.2 ≤ (b.length : Int) - 1 ∧ z.1.length = a.length + 1 ∧ (∀ j : Nat, n < j → j ≤ a.length → rd_L1 z.1 j = cmRow a b j) ∧ (∀ j : Nat, j < n → rd_L1 z.1 j = List.replicate (b.length + 1) 0) ∧ (rd_L1 z.1 n).length = b.length + 1 ∧ ∀ j : Int, z.2 < j → j ≤ b.length → rd (rd_L1 z.1 n) j = cm a b n j.toNat) (fun z => (z.2 + 1).toNat) (by
        rintro ⟨u, k⟩ ⟨k0, k1, ul, hr2, hz2, rl, hcells⟩ ih2
        dsimp only at k0 k1 ul hr2 hz2 rl hcells ⊢
        refine W.step (fun k => spec_l21Common.l2.eq_2 ..) ?_
        by_cases hk : k ≥ 0
        · rw [w64 (x := k + 1) (by omega) (by omega), w64 (x := k - 1) (by omega) (by omega), w64 (x := (n : Int) + 1) (by omega) (by omega)]
          obtain ⟨m, hm⟩ : ∃ m, m = k.toNat := ⟨_, rfl⟩
          have hkm : k = m := by omega
          subst hkm
          have e1 : rd_L1 u ((n : Int) + 1) = cmRow a b (n + 1) := by
            have := hr2 (n + 1) (by omega) (by omega)
            rw [show ((n + 1 : Nat) : Int) = (n : Int) + 1 from by omega] at this
            exact this
          have hstep := cm_step a b (i := n) (k := m) (by omega) (by omega)
          have c1 := cm_le a b (n + 1) (m + 1)
          have c2 := cm_le a b (n + 1) m
          have c3 := cm_le a b n (m + 1)
          have go : ∀ u2 : List (List Int), u2.length = a.length + 1 → (∀ j : Nat, j ≠ n → rd_L1 u2 j = rd_L1 u j) → (rd_L1 u2 n).length = b.length + 1 → (∀ j : Int, 0 ≤ j → j ≠ m → rd (rd_L1 u2 n) j = rd (rd_L1 u n) j) → rd (rd_L1 u2 n) m = cm a b n m → W (fun k => spec_l21Common.l2 k a b u2 n ((m : Int) - 1)) (fun r => isTab a b r) := by
            intro u2 g1 g2 g3 g4 g5
            refine ih2 (u2, (m : Int) - 1) ⟨by dsimp only; omega, by dsimp only; omega, g1, fun j h1 h2 => by dsimp only; rw [g2 j (by omega)]; exact hr2 j h1 h2, fun j h1 => by dsimp only; rw [g2 j (by omega)]; exact hz2 j h1, g3, fun j h1 h2 => ?_⟩ (by dsimp only; omega)
            dsimp only at h1 ⊢
            by_cases e : j = m
            · subst e; rw [g5, Int.toNat_natCast]
            · rw [g4 j (by omega) e]; exact hcells j (by omega) h2
          have cell := hcells ((m : Int) + 1) (by omega) (by omega)
          rw [show ((m : Int) + 1).toNat = m + 1 from by omega] at cell
          obtain ⟨v, hv⟩ : ∃ v, v = mx (rd (rd_L1 u ((n : Int) + 1)) m) (rd (rd_L1 u n) ((m : Int) + 1)) := ⟨_, rfl⟩
          have hvv : v = (max (cm a b (n + 1) m) (cm a b n (m + 1)) : Nat) := by
            rw [hv, e1, cmRow_rd a b (n + 1) (k := (m : Int)) (by omega) (by omega), cell, Int.toNat_natCast, mx_max]
          rw [← hv]
          obtain ⟨y, hy⟩ : ∃ y, y = u.set (n : Int).toNat ((rd_L1 u n).set (m : Int).toNat v) := ⟨_, rfl⟩
          have yl : y.length = a.length + 1 := by rw [hy, List.length_set]; exact ul
          have yn : rd_L1 y n = (rd_L1 u n).set (m : Int).toNat v := by rw [hy]; exact rdL_set_self _ _ (by omega) (by omega)
          have yo : ∀ j : Nat, j ≠ n → rd_L1 y j = rd_L1 u j := fun j hj => by rw [hy]; exact rdL_set_ne _ _ (by omega) (by omega) (by omega)
          have ynl : (rd_L1 y n).length = b.length + 1 := by rw [yn, List.length_set]; exact rl
          have y1 : rd_L1 y ((n : Int) + 1) = cmRow a b (n + 1) := by
            have := yo (n + 1) (by omega)
            rw [show ((n + 1 : Nat) : Int) = (n : Int) + 1 from by omega] at this
            rw [this, e1]
          have l1 := cmRow_len a b (n + 1)
          rw [← e1] at l1
          have l2 := cmRow_len a b (n + 1)
          rw [← y1] at l2
          rw [← hy]
          refine W.pos hk (W.pos (by omega) (W.pos (by omega) (W.pos (by omega) (W.pos (by omega) (W.pos hk (W.pos (by omega) (W.pos (by omega) (W.pos (by omega) (W.pos (by omega) (W.name (W.pos (by omega) (W.pos (by omega) (W.ite (fun heq => ?_) (fun hneq => ?_))))))))))))))
          · have he2 := toList_inj.1 heq
            rw [if_pos he2] at hstep
            refine W.pos (by omega) (W.pos (by omega) ?_)
            rw [y1, cmRow_rd a b (n + 1) (k := (m : Int) + 1) (by omega) (by omega), show ((m : Int) + 1).toNat = m + 1 from by omega, w64 (x := (cm a b (n + 1) (m + 1) : Int) + 1) (by omega) (by omega)]
            have z1 : rd_L1 (y.set (n : Int).toNat ((rd_L1 y n).set (m : Int).toNat ((cm a b (n + 1) (m + 1) : Int) + 1))) n = (rd_L1 y n).set (m : Int).toNat ((cm a b (n + 1) (m + 1) : Int) + 1) := rdL_set_self _ _ (by omega) (by omega)
            refine go _ (by rw [List.length_set]; exact yl) (fun j hj => by rw [rdL_set_ne _ _ (by omega) (by omega) (by omega)]; exact yo j hj) (by rw [z1, List.length_set]; exact ynl) (fun j j0 hj => by rw [z1, rd_set_ne _ _ j0 (by omega) hj, yn, rd_set_ne _ _ j0 (by omega) hj]) ?_
            rw [z1, rd_set_self _ _ (by omega) (by omega)]; omega
          · have he2 : ¬ rdOf ByteArray.empty a n = rdOf ByteArray.empty b m := fun h => hneq (by rw [h])
            rw [if_neg he2] at hstep
            refine go y yl yo ynl (fun j j0 hj => by rw [yn, rd_set_ne _ _ j0 (by omega) hj]) ?_
            rw [yn, rd_set_self _ _ (by omega) (by omega), hvv, hstep]
        · refine W.neg hk ?_
          rw [w64 (x := (n : Int) - 1) (by omega) (by omega)]
          refine ih (u, (n : Int) - 1) ⟨by dsimp only; omega, by dsimp only; omega, ul, fun j h1 h2 => ?_, fun j h1 => hz2 j (by dsimp only at h1; omega)⟩ (by dsimp only; omega)
          dsimp only at h1 ⊢
          by_cases e : j = n
          · subst e
            refine rd_ext (by rw [rl, cmRow_len]) (fun q q0 q1 => ?_)
            rw [rl] at q1
            rw [hcells q (by omega) (by omega), cmRow_rd a b j q0 (by omega)]
          · exact hr2 j (by omega) h2) (t, (b.length : Int) - 1) ⟨by dsimp only; omega, by dsimp only; omega, tl, fun j h1 h2 => hrows j (by omega) h2, fun j h1 => hzero j (by omega), by dsimp only; rw [e0, List.length_replicate], fun j h1 h2 => by
        dsimp only at h1 ⊢
        rw [e0, rd_zeros, cm_end_right a b (by omega)]; rfl⟩
      exact inner
    · exact W.neg hge (W.ret ⟨tl, fun i h => hrows i (by omega) h⟩))
  have first := W.loop (l := fun (n : Nat) k => spec_l21Common.l0 k a b (List.replicate n (List.replicate (b.length + 1) 0)) n) (P := fun _ r => isTab a b r) (fun n => n ≤ a.length + 1) (fun n => a.length + 1 - n) (by
    intro n hn ih
    refine W.step (fun k => spec_l21Common.l0.eq_2 ..) ?_
    by_cases hlt : n ≤ a.length
    · have next := ih (n + 1) (by omega) (by omega)
      rw [show ((n + 1 : Nat) : Int) = (n : Int) + 1 from by omega, List.replicate_succ'] at next
      rw [w64 (x := (b.length : Int) + 1) (by omega) (by omega), w64 (x := (n : Int) + 1) (by omega) (by omega), show ((b.length : Int) + 1).toNat = b.length + 1 from by omega]
      exact W.pos (by omega) (W.pos (by omega) (W.pos (by omega) (W.pos (by rw [List.length_replicate]; omega) next)))
    · have en : n = a.length + 1 := by omega
      subst en
      refine W.neg (by omega) ?_
      rw [w64 (x := (a.length : Int) - 1) (by omega) (by omega)]
      have zero : ∀ i : Nat, i < a.length + 1 → rd_L1 (List.replicate (a.length + 1) (List.replicate (b.length + 1) (0 : Int))) i = List.replicate (b.length + 1) 0 := fun i hi => by
        show (List.replicate (a.length + 1) (List.replicate (b.length + 1) (0 : Int))).getD (i : Int).toNat [] = _
        rw [List.getD_eq_getElem?_getD, Int.toNat_natCast, List.getElem?_replicate, if_pos hi]; rfl
      refine rows (List.replicate (a.length + 1) (List.replicate (b.length + 1) (0 : Int)), (a.length : Int) - 1) ⟨by dsimp only; omega, by dsimp only; omega, by simp, fun i h1 h2 => ?_, fun i h1 => zero i (by dsimp only at h1; omega)⟩
      dsimp only at h1
      show rd_L1 (List.replicate (a.length + 1) (List.replicate (b.length + 1) (0 : Int))) (i : Int) = cmRow a b i
      rw [zero i (by omega)]
      refine rd_ext (by rw [cmRow_len, List.length_replicate]) (fun k k0 k1 => ?_)
      rw [List.length_replicate] at k1
      rw [rd_zeros, cmRow_rd a b i k0 (by omega), cm_end_left a b (by omega)]; rfl) 0 (by omega)
  exact first

/-- How many lines two texts have in common. -/
noncomputable def cmL (s t : ByteArray) : Int := if VT s ∧ VT t then (lcs (lines s) (lines t) : Int) else -1
theorem lines_le {s : ByteArray} (h : VT s) : (lines s).length ≤ 121 := by
  have := lines_len s
  have := nl_le s s.size
  have := h.1
  omega
theorem tab_first {a b : List ByteArray} {t : List (List Int)} (h : isTab a b t) : 0 < t.length ∧ 0 < (rd_L1 t 0).length ∧ rd (rd_L1 t 0) 0 = lcs a b := by
  have h0 := h.2 0 (Nat.zero_le _)
  rw [show ((0 : Nat) : Int) = 0 from rfl] at h0
  refine ⟨by rw [h.1]; omega, by rw [h0, cmRow_len]; omega, ?_⟩
  rw [h0, cmRow_rd a b 0 (by omega) (by omega)]
  rfl
theorem specCommonLines (s t : ByteArray) (hs : s.size ≤ 140737488351232) (ht : t.size ≤ 140737488351232) : W (fun k => spec_CommonLines.f k s t) (fun r => r = cmL s t) := by
  unfold spec_CommonLines.f cmL
  have out : ¬ (VT s ∧ VT t) → W (fun k => spec_CommonLines.j0 k s t true) (fun r => r = if VT s ∧ VT t then (lcs (lines s) (lines t) : Int) else -1) := fun h => W.step (fun k => spec_CommonLines.j0.eq_2 ..) (W.pos rfl (W.ret (by rw [if_neg h])))
  refine W.bind (specTV s hs) (fun b hb => W.ite (fun h => W.bind (specTV t ht) (fun c hc => ?_)) (fun h => out (fun hv => h (hb.2 hv.1))))
  cases c with
  | false => exact out (fun hv => by simpa using hc.2 hv.2)
  | true =>
    have hv : VT s ∧ VT t := ⟨hb.1 h, hc.1 rfl⟩
    have l1 := lines_le hv.1
    have l2 := lines_le hv.2
    refine W.step (fun k => spec_CommonLines.j0.eq_2 ..) (W.neg (by decide) (W.bind_eq (specLinesOf s hs) (W.bind_eq (specLinesOf t ht) ?_)))
    rw [if_pos hv.1, if_pos hv.2, if_pos hv]
    refine W.bind (specCommon _ _ (by omega) (by omega)) (fun r hr => ?_)
    obtain ⟨h1, h2, h3⟩ := tab_first hr
    exact W.pos (by omega) (W.pos (by omega) (W.ret h3))
theorem implCommonLines (s t : ByteArray) (hs : s.size ≤ 140737488351232) (ht : t.size ≤ 140737488351232) : W (fun k => impl_CommonLines.f k s t) (fun r => r = cmL s t) := by
  unfold impl_CommonLines.f cmL
  have out : ¬ (VT s ∧ VT t) → W (fun k => impl_CommonLines.j0 k s t true) (fun r => r = if VT s ∧ VT t then (lcs (lines s) (lines t) : Int) else -1) := fun h => W.step (fun k => impl_CommonLines.j0.eq_2 ..) (W.pos rfl (W.ret (by rw [if_neg h])))
  refine W.bind (implTV s hs) (fun b hb => W.ite (fun h => W.bind (implTV t ht) (fun c hc => ?_)) (fun h => out (fun hv => h (hb.2 hv.1))))
  cases c with
  | false => exact out (fun hv => by simpa using hc.2 hv.2)
  | true =>
    have hv : VT s ∧ VT t := ⟨hb.1 h, hc.1 rfl⟩
    have l1 := lines_le hv.1
    have l2 := lines_le hv.2
    refine W.step (fun k => impl_CommonLines.j0.eq_2 ..) (W.neg (by decide) (W.bind_eq (linesOfW s (by have := hv.1.1; omega)) (W.bind_eq (linesOfW t (by have := hv.2.1; omega)) ?_)))
    rw [if_pos hv]
    refine W.bind (implCommon _ _ (by omega) (by omega)) (fun r hr => ?_)
    obtain ⟨h1, h2, h3⟩ := tab_first hr
    exact W.pos (by omega) (W.pos (by omega) (W.ret h3))
end Go.Proofs.YtdfbdgnapjpblaaDoor.Ev
/- What the printed functions answer, part Li: the program's lines. -/
namespace Go.Proofs.YtdfbdgnapjpblaaDoor.Ev
open Go.RowKit Go.Proofs.YtdfbdgnapjpblaaDoor.X Go.Proofs.YtdfbdgnapjpblaaDoor.Wp Go.Proofs.YtdfbdgnapjpblaaDoorW.PrintWords Go.Proofs.YtdfbdgnapjpblaaDoor.ThL Go.Proofs.YtdfbdgnapjpblaaDoor.ThT Go.Proofs.YtdfbdgnapjpblaaDoor.ThB
set_option linter.unusedVariables false
set_option linter.unusedSimpArgs false

theorem implLineMany (s : ByteArray) (hs : s.size ≤ 140737488351232) : W (fun k => impl_LineMany.f k s) (fun r => r = if VT s then (nl s s.size : Int) + 1 else -1) := by
  unfold impl_LineMany.f
  refine W.bind (implTV s hs) (fun b hb => W.ite (fun h => ?_) (fun h => W.ret (by rw [if_neg (fun hv => h (hb.2 hv))])))
  rw [if_pos (hb.1 h)]
  have fin := nl_le s s.size
  refine W.call (show strings_Count.f s (⟨#[10]⟩ : ByteArray) = some (nl s s.size : Int) from by rw [show strings_Count.f s (⟨#[10]⟩ : ByteArray) = some ((Lib.countByte s.data.toList 10 : Nat) : Int) from rfl, countNl]) (W.ret ?_)
  rw [w64 (x := 1 + (nl s s.size : Int)) (by omega) (by omega)]; omega
end Go.Proofs.YtdfbdgnapjpblaaDoor.Ev
/- What the printed functions answer, part L: 'alive'. -/
namespace Go.Proofs.YtdfbdgnapjpblaaDoor.Ev
open Go.RowKit Go.Proofs.YtdfbdgnapjpblaaDoor.X Go.Proofs.YtdfbdgnapjpblaaDoor.Wp Go.Proofs.YtdfbdgnapjpblaaDoorW.PrintWords
set_option linter.unusedVariables false
set_option linter.unusedSimpArgs false

theorem aliveW : W (fun k => laws_alive.f k) (· = true) := by
  have hv : VT (⟨#[97, 10, 98]⟩ : ByteArray) := by
    refine ⟨by decide, fun j h0 h1 => ?_⟩
    have h3 : ((⟨#[97, 10, 98]⟩ : ByteArray).size : Int) = 3 := rfl
    have : j = 0 ∨ j = 1 ∨ j = 2 := by omega
    rcases this with rfl | rfl | rfl
    · right; decide
    · left; rfl
    · right; decide
  unfold laws_alive.f impl_LineMany.f
  refine W.bind_eq (a := 2) (W.bind_eq (tv_pos (implTV _ (by decide)) hv) (W.pos rfl (W.call (r := 1) rfl (W.ret ?_)))) (W.ret rfl)
  exact w64 (by omega) (by omega)
theorem alive_then : W (fun k => (laws_alive.f k).bind fun t => some t) (· = true) := W.bind_eq aliveW (W.ret rfl)
end Go.Proofs.YtdfbdgnapjpblaaDoor.Ev
/- Reading lists. -/
namespace Go.Proofs.YtdfbdgnapjpblaaDoor.Ev
open Go.RowKit Go.Proofs.YtdfbdgnapjpblaaDoorW.PrintWords
theorem rd_take' (xs : List Int) (n : Nat) {i : Int} (h0 : 0 ≤ i) (h : i < n) : rd (xs.take n) i = rd xs i := by
  unfold rd
  rw [List.getD_eq_getElem?_getD, List.getD_eq_getElem?_getD, List.getElem?_take, if_pos (by omega)]
end Go.Proofs.YtdfbdgnapjpblaaDoor.Ev
/- What the printed functions answer, part D: drawn texts. They end, and what they draw is short. -/
namespace Go.Proofs.YtdfbdgnapjpblaaDoor.Ev
open Go.RowKit Go.Proofs.YtdfbdgnapjpblaaDoor.X Go.Proofs.YtdfbdgnapjpblaaDoor.Wp Go.Proofs.YtdfbdgnapjpblaaDoorW.PrintWords
set_option linter.unusedVariables false
set_option linter.unusedSimpArgs false

/-- A reader's bytes. -/
def RB (b : List Int) : Prop := ∀ j : Int, 0 ≤ j → j < b.length → 0 ≤ rd b j ∧ rd b j ≤ 255
theorem RB_of {l : List Int} (h : ∀ x ∈ l, (Lit.int .u8 x).wf = true) : RB l := by
  intro j h0 h1
  have hm : rd l j ∈ l := by
    unfold rd
    rw [List.getD_eq_getElem?_getD, List.getElem?_eq_getElem (by omega)]
    exact List.getElem_mem _
  have := h _ hm
  simp [Lit.wf, IntKind.min, IntKind.max, IntKind.signed, IntKind.bits] at this
  omega
theorem RB_take {l : List Int} (h : RB l) (n : Nat) : RB (l.take n) := by
  intro j h0 h1
  rw [List.length_take] at h1
  rw [rd_take' l n h0 (by omega)]
  exact h j h0 (by omega)

theorem xor_nonneg {a b : Int} (a0 : 0 ≤ a) (a1 : a < 4611686018427387904) (b0 : 0 ≤ b) (b1 : b < 4611686018427387904) : 0 ≤ Go.bits .xor .i64 a b := by
  obtain ⟨x, rfl⟩ := Int.eq_ofNat_of_zero_le a0
  obtain ⟨y, rfl⟩ := Int.eq_ofNat_of_zero_le b0
  have hx : x < 2 ^ 62 := by omega
  have hy : y < 2 ^ 62 := by omega
  have h := Nat.xor_lt_two_pow hx hy
  simp only [Go.bits, BitVec.ofInt_natCast, BitVec.toNat_xor, BitVec.toNat_ofNat]
  rw [Nat.mod_eq_of_lt (show x < 2 ^ IntKind.i64.bits from Nat.lt_of_lt_of_le hx (by decide)), Nat.mod_eq_of_lt (show y < 2 ^ IntKind.i64.bits from Nat.lt_of_lt_of_le hy (by decide))]
  show 0 ≤ IntKind.i64.wrap ((x ^^^ y : Nat) : Int)
  rw [IntKind.wrap_i64]
  omega

theorem tmod_in {a n : Int} (h0 : 0 ≤ a) (h1 : 0 < n) : 0 ≤ Int.tmod a n ∧ Int.tmod a n < n := by
  rw [Int.tmod_eq_emod_of_nonneg h0]
  exact ⟨Int.emod_nonneg _ (by omega), Int.emod_lt_of_pos _ h1⟩

theorem pickW {b : List Int} {p n : Int} (hb : RB b) (hp : 0 ≤ p) (hp2 : p ≤ 1000000000) (hn : n ≤ 1000000000) : W (fun k => spec_l20Rd_pick.f k b p n) (fun r => 0 ≤ r.1 ∧ (r.1 < n ∨ r.1 = 0) ∧ r.2 = p + 1) := by
  unfold spec_l20Rd_pick.f
  rw [w64 (x := p + 1) (by omega) (by omega)]
  have zero : W (fun k => spec_l20Rd_pick.j0 k n true b (p + 1)) (fun r => 0 ≤ r.1 ∧ (r.1 < n ∨ r.1 = 0) ∧ r.2 = p + 1) :=
    W.step (fun k => spec_l20Rd_pick.j0.eq_2 ..) (W.pos rfl (W.ret ⟨by simp, .inr rfl, rfl⟩))
  refine W.ite (fun _ => zero) (fun hn1 => ?_)
  by_cases hl : (b.length : Int) = 0
  · rw [show ((b.length : Int) == 0) = true from by simpa using hl]
    exact zero
  · rw [show ((b.length : Int) == 0) = false from by simpa using hl]
    refine W.step (fun k => spec_l20Rd_pick.j0.eq_2 ..) (W.neg (by decide) ?_)
    rw [w64 (x := p + 1 - 1) (by omega) (by omega), show p + 1 - 1 = p from by omega]
    refine W.ite (fun hlt => W.pos hp (W.neg (by omega) ?_)) (fun hge => W.neg hl ?_)
    · have h := hb p hp hlt
      rw [w64 (x := rd b p) (by omega) (by omega)]
      have := tmod_in (a := rd b p) (n := n) h.1 (by omega)
      exact W.ret ⟨this.1, .inl this.2, rfl⟩
    · rw [w64 (x := p * 7) (by omega) (by omega), w64 (x := p * 7 + 3) (by omega) (by omega), w64 (x := p * 29) (by omega) (by omega)]
      have i1 := tmod_in (a := p) (n := (b.length : Int)) hp (by omega)
      have i2 := tmod_in (a := p * 7 + 3) (n := (b.length : Int)) (by omega) (by omega)
      have h1 := hb _ i1.1 i1.2
      have h2 := hb _ i2.1 i2.2
      have q1 : 0 ≤ Int.tdiv p (b.length : Int) ∧ Int.tdiv p (b.length : Int) ≤ p := by
        rw [Int.tdiv_eq_ediv_of_nonneg hp]
        exact ⟨Int.ediv_nonneg hp (by omega), Int.ediv_le_self _ hp⟩
      refine W.pos i1.1 (W.pos i1.2 (W.pos i2.1 (W.pos i2.2 (W.neg (by omega) ?_))))
      obtain ⟨u, hu⟩ : ∃ u, u = rd b (Int.tmod p (b.length : Int)) := ⟨_, rfl⟩
      obtain ⟨v, hv⟩ : ∃ v, v = rd b (Int.tmod (p * 7 + 3) (b.length : Int)) := ⟨_, rfl⟩
      obtain ⟨q, hq⟩ : ∃ q, q = Int.tdiv p (b.length : Int) := ⟨_, rfl⟩
      rw [← hu] at h1
      rw [← hv] at h2
      rw [← hq] at q1
      rw [← hu, ← hv, ← hq]
      rw [w64 (x := u) (by omega) (by omega), w64 (x := v) (by omega) (by omega), w64 (x := q) (by omega) (by omega), w64 (x := u * 131) (by omega) (by omega), w64 (x := v * 1117) (by omega) (by omega), w64 (x := q * 53) (by omega) (by omega),
        w64 (x := u * 131 + v * 1117) (by omega) (by omega), w64 (x := u * 131 + v * 1117 + p * 29) (by omega) (by omega), w64 (x := u * 131 + v * 1117 + p * 29 + q * 53) (by omega) (by omega)]
      obtain ⟨x, hx⟩ : ∃ x, x = u * 131 + v * 1117 + p * 29 + q * 53 := ⟨_, rfl⟩
      have x0 : 0 ≤ x ∧ x ≤ 1000000000000 := by omega
      rw [← hx]
      have x1 : 0 ≤ Int.tdiv x 64 ∧ Int.tdiv x 64 ≤ x := by
        rw [Int.tdiv_eq_ediv_of_nonneg x0.1]
        omega
      rw [w64 (x := Int.tdiv x 64) (by omega) (by omega)]
      have := tmod_in (n := n) (xor_nonneg (a := x) (b := Int.tdiv x 64) (by omega) (by omega) (by omega) (by omega)) (by omega)
      exact W.ret ⟨this.1, .inl this.2, rfl⟩

theorem oddW {b : List Int} {p n : Int} (hb : RB b) (hp : 0 ≤ p) (hp2 : p ≤ 1000000000) (hn : n ≤ 1000000000) : W (fun k => spec_l20Rd_odd.f k b p n) (fun r => p ≤ r.2 ∧ r.2 ≤ p + 1) := by
  unfold spec_l20Rd_odd.f
  refine W.ite (fun _ => W.bind (pickW hb hp hp2 hn) (fun a ha => W.ret ?_)) (fun _ => W.ret (by dsimp only; omega))
  dsimp only; omega

theorem rdOf_size {parts : List ByteArray} {m : Nat} (h : ∀ x ∈ parts, x.size ≤ m) (i : Int) : (rdOf ByteArray.empty parts i).size ≤ m := by
  unfold rdOf
  rw [List.getD_eq_getElem?_getD]
  cases hx : parts[i.toNat]? with
  | none => simp
  | some y => exact h y (List.mem_of_getElem? hx)

theorem textW {b : List Int} {p n : Int} (hb : RB b) (hp : 0 ≤ p) (hp2 : p ≤ 1000000) (hn : n ≤ 1000000000) : W (fun k => spec_l20Text.f k b p n) (fun r => r.1.size ≤ 125 ∧ p ≤ r.2 ∧ r.2 ≤ p + 30) := by
  unfold spec_l20Text.f
  refine W.bind (pickW hb hp (by omega) (by omega)) (fun a ha => ?_)
  obtain ⟨a1, a2⟩ := a
  dsimp only at ha ⊢
  obtain ⟨parts, hparts, hlen, hsz⟩ : ∃ parts : List ByteArray, parts = [(⟨#[97]⟩ : ByteArray), (⟨#[98]⟩ : ByteArray), (⟨#[97, 98]⟩ : ByteArray), (⟨#[119, 111, 114, 100]⟩ : ByteArray), (⟨#[120, 49]⟩ : ByteArray), (⟨#[32]⟩ : ByteArray), (⟨#[32]⟩ : ByteArray), (⟨#[32, 32]⟩ : ByteArray), (⟨#[10]⟩ : ByteArray), (⟨#[10]⟩ : ByteArray), (⟨#[10, 32, 32]⟩ : ByteArray), (⟨#[40]⟩ : ByteArray), (⟨#[41]⟩ : ByteArray), (⟨#[91, 97, 93]⟩ : ByteArray), (⟨#[123, 99, 125]⟩ : ByteArray), (⟨#[123]⟩ : ByteArray), (⟨#[125]⟩ : ByteArray), (⟨#[46]⟩ : ByteArray), (⟨#[34]⟩ : ByteArray), (⟨#[34, 115, 34]⟩ : ByteArray), (⟨#[55]⟩ : ByteArray), (⟨#[102, 111, 111, 32, 98, 97, 114]⟩ : ByteArray), (⟨#[92]⟩ : ByteArray), (⟨#[97, 97]⟩ : ByteArray)] ∧ parts.length = 24 ∧ ∀ x ∈ parts, x.size ≤ 7 := ⟨_, rfl, rfl, by
    intro x hx
    simp only [List.mem_cons, List.mem_nil_iff, or_false] at hx
    rcases hx with rfl | rfl | rfl | rfl | rfl | rfl | rfl | rfl | rfl | rfl | rfl | rfl | rfl | rfl | rfl | rfl | rfl | rfl | rfl | rfl | rfl | rfl | rfl | rfl <;> decide⟩
  rw [← hparts]
  have last : ∀ (s : ByteArray) (q : Int), s.size ≤ 125 → p ≤ q → q ≤ p + 30 → W (fun k => spec_l20Text.l1 k s b q) (fun r => r.1.size ≤ 125 ∧ p ≤ r.2 ∧ r.2 ≤ p + 30) := by
    intro s q hs h0 h1
    refine W.loop (l := fun s k => spec_l20Text.l1 k s b q) (P := fun _ r => r.1.size ≤ 125 ∧ p ≤ r.2 ∧ r.2 ≤ p + 30) (fun s : ByteArray => s.size ≤ 125) (fun s => 121 - s.size) ?_ s hs
    intro s hs ih
    refine W.step (fun k => spec_l20Text.l1.eq_2 ..) (W.ite (fun h => W.pos (by omega) (ih _ ?_ ?_)) (fun h => W.ret ⟨hs, h0, h1⟩))
    · rw [ByteArray.size_append]; show s.size + 5 ≤ 125; omega
    · rw [ByteArray.size_append]; show 121 - (s.size + 5) < 121 - s.size; omega
  refine W.loop (l := fun (z : ByteArray × Int × Int) k => spec_l20Text.l0 k n z.1 parts z.2.1 b z.2.2) (P := fun _ r => r.1.size ≤ 125 ∧ p ≤ r.2 ∧ r.2 ≤ p + 30) (fun z => z.1.size + 7 * z.2.1 ≤ 161 ∧ z.2.1 ≤ 23 ∧ -1 ≤ z.2.1 ∧ p ≤ z.2.2 ∧ z.2.2 + z.2.1 ≤ p + 24) (fun z => z.2.1.toNat) ?_ (⟨#[]⟩, a1, a2) ⟨by show 0 + 7 * a1 ≤ 161; omega, by dsimp only; omega, by dsimp only; omega, by dsimp only; omega, by dsimp only; omega⟩
  rintro ⟨s, c, q⟩ ⟨h1, h2, h3, h4, h5⟩ ih
  dsimp only at h1 h2 h3 h4 h5 ⊢
  refine W.step (fun k => spec_l20Text.l0.eq_2 ..) (W.ite (fun hc => ?_) (fun hc => ?_))
  · refine W.bind (pickW hb (by omega) (by omega) (by omega)) (fun d hd => ?_)
    have hr := rdOf_size hsz d.1
    rw [w64 (x := c - 1) (by omega) (by omega)]
    refine W.pos hd.1 (W.pos (by omega) (W.pos (by omega) (ih (_, c - 1, d.2) ⟨?_, ?_, ?_, ?_, ?_⟩ ?_)))
    · dsimp only; rw [ByteArray.size_append]; omega
    all_goals (dsimp only; omega)
  · have hmn : mn (s.size : Int) 120 ≤ s.size ∧ 0 ≤ mn (s.size : Int) 120 ∧ mn (s.size : Int) 120 ≤ 120 := by unfold mn; split <;> omega
    have hsz2 : (s.extract 0 (mn (s.size : Int) 120).toNat).size ≤ 120 := by rw [ByteArray.size_extract]; omega
    refine W.pos hmn.2.1 (W.pos hmn.1 (W.bind (oddW hb (by omega) (by omega) hn) (fun o ho => W.ite (fun _ => ?_) (fun _ => W.ret ⟨by dsimp only; omega, by dsimp only; omega, by dsimp only; omega⟩))))
    refine W.bind (pickW hb (by omega) (by omega) (by omega)) (fun d hd => W.ite (fun _ => W.pos (by omega) (W.ret ⟨?_, by dsimp only; omega, by dsimp only; omega⟩)) (fun _ => W.ite (fun _ => W.pos (by omega) (W.ret ⟨?_, by dsimp only; omega, by dsimp only; omega⟩)) (fun _ => last _ _ (by omega) (by omega) (by omega))))
    · dsimp only; rw [ByteArray.size_append]; show _ + 1 ≤ 125; omega
    · dsimp only; rw [ByteArray.size_append]; show _ + 1 ≤ 125; omega

theorem openW {l : List Int} (h : RB l) : ∃ b, spec_l20Open.f l = some (b, 0) ∧ RB b := by
  unfold spec_l20Open.f
  by_cases hl : (l.length : Int) > 2000
  · exact ⟨l.take 2000, by rw [if_pos hl, if_pos (by omega)], RB_take h _⟩
  · exact ⟨l, by rw [if_neg hl], h⟩
end Go.Proofs.YtdfbdgnapjpblaaDoor.Ev
/- What the printed functions answer, part D0: a drawn text that is never invalid. -/
namespace Go.Proofs.YtdfbdgnapjpblaaDoor.Ev
open Go.RowKit Go.Proofs.YtdfbdgnapjpblaaDoor.X Go.Proofs.YtdfbdgnapjpblaaDoor.Wp Go.Proofs.YtdfbdgnapjpblaaDoorW.PrintWords
set_option linter.unusedVariables false
set_option linter.unusedSimpArgs false

/-- All bytes may stand in a text. -/
def OKS (s : ByteArray) : Prop := ∀ j : Int, 0 ≤ j → j < s.size → okB (bt s j)
theorem OKS_of {s : ByteArray} (h : s.data.toList.all (fun c => c.toNat == 10 || (decide (32 ≤ c.toNat) && decide (c.toNat ≤ 126))) = true) : OKS s := by
  intro j h0 h1
  obtain ⟨h2, e⟩ := bt_eq s h0 h1
  rw [e]
  have hm : s[j.toNat]'h2 ∈ s.data.toList := by
    rw [Array.mem_toList_iff]
    exact Array.getElem_mem h2
  have := List.all_eq_true.1 h _ hm
  simp only [Bool.or_eq_true, beq_iff_eq, Bool.and_eq_true, decide_eq_true_eq] at this
  unfold okB
  omega
theorem OKS_cat {a b : ByteArray} (ha : OKS a) (hb : OKS b) : OKS (a ++ b) := by
  intro j h0 h1
  rw [ByteArray.size_append] at h1
  by_cases c : j < a.size
  · rw [bt_cat_left _ _ (by omega)]; exact ha j h0 c
  · rw [bt_cat_right _ _ (by omega)]; exact hb _ (by omega) (by omega)
theorem OKS_ext {s : ByteArray} (h : OKS s) {a b : Int} (h0 : 0 ≤ a) (h1 : a ≤ b) (h2 : b ≤ s.size) : OKS (s.extract a.toNat b.toNat) := by
  intro j j0 j1
  rw [ext_size s h0 h1 h2] at j1
  rw [bt_ext s h0 j0 j1 h2]
  exact h _ (by omega) (by omega)
theorem rdOf_all {parts : List ByteArray} {P : ByteArray → Prop} (h : ∀ x ∈ parts, P x) (he : P ByteArray.empty) (i : Int) : P (rdOf ByteArray.empty parts i) := by
  unfold rdOf
  rw [List.getD_eq_getElem?_getD]
  cases hx : parts[i.toNat]? with
  | none => exact he
  | some y => exact h y (List.mem_of_getElem? hx)
theorem OKS_empty : OKS ByteArray.empty := OKS_of rfl

theorem oddW0 {b : List Int} {p n : Int} (hn : n ≤ 0) : W (fun k => spec_l20Rd_odd.f k b p n) (fun r => r = (false, p)) := by
  unfold spec_l20Rd_odd.f
  exact W.neg (by omega) (W.ret rfl)

theorem textW0 {b : List Int} {p n : Int} (hb : RB b) (hp : 0 ≤ p) (hp2 : p ≤ 1000000) (hn : n ≤ 0) : W (fun k => spec_l20Text.f k b p n) (fun r => VT r.1 ∧ p ≤ r.2 ∧ r.2 ≤ p + 30) := by
  unfold spec_l20Text.f
  refine W.bind (pickW hb hp (by omega) (by omega)) (fun a ha => ?_)
  obtain ⟨a1, a2⟩ := a
  dsimp only at ha ⊢
  obtain ⟨parts, hparts, hlen, hsz, hok⟩ : ∃ parts : List ByteArray, parts = [(⟨#[97]⟩ : ByteArray), (⟨#[98]⟩ : ByteArray), (⟨#[97, 98]⟩ : ByteArray), (⟨#[119, 111, 114, 100]⟩ : ByteArray), (⟨#[120, 49]⟩ : ByteArray), (⟨#[32]⟩ : ByteArray), (⟨#[32]⟩ : ByteArray), (⟨#[32, 32]⟩ : ByteArray), (⟨#[10]⟩ : ByteArray), (⟨#[10]⟩ : ByteArray), (⟨#[10, 32, 32]⟩ : ByteArray), (⟨#[40]⟩ : ByteArray), (⟨#[41]⟩ : ByteArray), (⟨#[91, 97, 93]⟩ : ByteArray), (⟨#[123, 99, 125]⟩ : ByteArray), (⟨#[123]⟩ : ByteArray), (⟨#[125]⟩ : ByteArray), (⟨#[46]⟩ : ByteArray), (⟨#[34]⟩ : ByteArray), (⟨#[34, 115, 34]⟩ : ByteArray), (⟨#[55]⟩ : ByteArray), (⟨#[102, 111, 111, 32, 98, 97, 114]⟩ : ByteArray), (⟨#[92]⟩ : ByteArray), (⟨#[97, 97]⟩ : ByteArray)] ∧ parts.length = 24 ∧ (∀ x ∈ parts, x.size ≤ 7) ∧ ∀ x ∈ parts, OKS x := ⟨_, rfl, rfl, by
    intro x hx
    simp only [List.mem_cons, List.mem_nil_iff, or_false] at hx
    rcases hx with rfl | rfl | rfl | rfl | rfl | rfl | rfl | rfl | rfl | rfl | rfl | rfl | rfl | rfl | rfl | rfl | rfl | rfl | rfl | rfl | rfl | rfl | rfl | rfl <;> decide, by
    intro x hx
    simp only [List.mem_cons, List.mem_nil_iff, or_false] at hx
    rcases hx with rfl | rfl | rfl | rfl | rfl | rfl | rfl | rfl | rfl | rfl | rfl | rfl | rfl | rfl | rfl | rfl | rfl | rfl | rfl | rfl | rfl | rfl | rfl | rfl <;> exact OKS_of rfl⟩
  rw [← hparts]
  refine W.loop (l := fun (z : ByteArray × Int × Int) k => spec_l20Text.l0 k n z.1 parts z.2.1 b z.2.2) (P := fun _ r => VT r.1 ∧ p ≤ r.2 ∧ r.2 ≤ p + 30) (fun z => (z.1.size + 7 * z.2.1 ≤ 161 ∧ z.2.1 ≤ 23 ∧ -1 ≤ z.2.1 ∧ p ≤ z.2.2 ∧ z.2.2 + z.2.1 ≤ p + 24) ∧ OKS z.1) (fun z => z.2.1.toNat) ?_ (⟨#[]⟩, a1, a2) ⟨⟨by show 0 + 7 * a1 ≤ 161; omega, by dsimp only; omega, by dsimp only; omega, by dsimp only; omega, by dsimp only; omega⟩, OKS_empty⟩
  rintro ⟨s, c, q⟩ ⟨⟨h1, h2, h3, h4, h5⟩, h6⟩ ih
  dsimp only at h1 h2 h3 h4 h5 h6 ⊢
  refine W.step (fun k => spec_l20Text.l0.eq_2 ..) (W.ite (fun hc => ?_) (fun hc => ?_))
  · refine W.bind (pickW hb (by omega) (by omega) (by omega)) (fun d hd => ?_)
    have hr := rdOf_size hsz d.1
    have ho := rdOf_all hok OKS_empty d.1
    rw [w64 (x := c - 1) (by omega) (by omega)]
    refine W.pos hd.1 (W.pos (by omega) (W.pos (by omega) (ih (_, c - 1, d.2) ⟨⟨?_, ?_, ?_, ?_, ?_⟩, OKS_cat h6 ho⟩ ?_)))
    · dsimp only; rw [ByteArray.size_append]; omega
    all_goals (dsimp only; omega)
  · have hmn : mn (s.size : Int) 120 ≤ s.size ∧ 0 ≤ mn (s.size : Int) 120 ∧ mn (s.size : Int) 120 ≤ 120 := by unfold mn; split <;> omega
    have hsz2 : (s.extract 0 (mn (s.size : Int) 120).toNat).size ≤ 120 := by rw [ByteArray.size_extract]; omega
    have hok2 := OKS_ext h6 (a := 0) (b := mn (s.size : Int) 120) (by omega) (by omega) hmn.1
    exact W.pos hmn.2.1 (W.pos hmn.1 (W.bind_eq (oddW0 hn) (W.neg (by simp) (W.ret ⟨⟨hsz2, hok2⟩, by dsimp only; omega, by dsimp only; omega⟩))))
end Go.Proofs.YtdfbdgnapjpblaaDoor.Ev
/- What the printed functions answer, part Ac: changes applied. -/
namespace Go.Proofs.YtdfbdgnapjpblaaDoor.Ev
open Go.RowKit Go.Proofs.YtdfbdgnapjpblaaDoor.X Go.Proofs.YtdfbdgnapjpblaaDoor.Wp Go.Proofs.YtdfbdgnapjpblaaDoorW.PrintWords
set_option linter.unusedVariables false
set_option linter.unusedSimpArgs false

/-- A text with a part cut and another one put there. -/
def acT (s : ByteArray) (at_ cut : Int) (put : ByteArray) : ByteArray := s.extract 0 at_.toNat ++ put ++ s.extract (at_ + cut).toNat s.size
/-- The change is possible. -/
def fits (s : ByteArray) (at_ cut : Int) (put : ByteArray) : Prop := (0 ≤ at_ ∧ at_ ≤ s.size) ∧ (0 ≤ cut ∧ cut ≤ s.size - at_) ∧ (∀ j : Int, 0 ≤ j → j < put.size → okB (bt put j)) ∧ (s.size : Int) - cut + put.size ≤ 120
noncomputable instance (s : ByteArray) (at_ cut : Int) (put : ByteArray) : Decidable (fits s at_ cut put) := Classical.propDecidable _
theorem acT_size {s : ByteArray} {at_ cut : Int} (put : ByteArray) (h1 : 0 ≤ at_ ∧ at_ ≤ s.size) (h2 : 0 ≤ cut ∧ cut ≤ s.size - at_) : ((acT s at_ cut put).size : Int) = s.size - cut + put.size := by
  unfold acT
  rw [ByteArray.size_append, ByteArray.size_append, ByteArray.size_extract, ByteArray.size_extract]; omega
/-- What a change leads to. -/
noncomputable def acR (s : ByteArray) (at_ cut : Int) (put : ByteArray) : ByteArray × Bool := if VT s then (if fits s at_ cut put then (acT s at_ cut put, true) else (s, false)) else (⟨#[]⟩, false)
theorem specFits (s : ByteArray) (at_ cut : Int) (put : ByteArray) (hs : s.size ≤ 140737488351232) (hp : put.size ≤ 140737488351232) : W (fun k => spec_ChangeFits.f k s at_ cut put) (fun b => b = true ↔ VT s ∧ fits s at_ cut put) := by
  unfold spec_ChangeFits.f
  refine W.bind (specTV s hs) (fun b hb => W.ite (fun h => ?_) (fun h => W.ret ⟨fun h2 => by simp at h2, fun h2 => absurd (hb.2 h2.1) h⟩))
  have hv := hb.1 h
  have hsz := hv.1
  refine W.call (l1In_eq ..) (W.ite (fun h1 => ?_) (fun h1 => W.ret ⟨fun h2 => by simp at h2, fun h2 => absurd (by simpa using h2.2.1) h1⟩))
  rw [decide_eq_true_eq] at h1
  rw [w64 (x := (s.size : Int) - at_) (by omega) (by omega)]
  refine W.call (l1In_eq ..) (W.ite (fun h2 => ?_) (fun h2 => W.ret ⟨fun h3 => by simp at h3, fun h3 => absurd (by simpa using h3.2.2.1) h2⟩))
  rw [decide_eq_true_eq] at h2
  refine W.bind (specPlain put hp) (fun c hc => W.ite (fun h3 => W.ret ?_) (fun h3 => W.ret ⟨fun h4 => by simp at h4, fun h4 => absurd (hc.2 h4.2.2.2.1) h3⟩))
  rw [w64 (x := (s.size : Int) - cut) (by omega) (by omega), w64 (x := (s.size : Int) - cut + put.size) (by omega) (by omega), decide_eq_true_eq]
  exact ⟨fun h4 => ⟨hv, h1, h2, hc.1 h3, h4⟩, fun h4 => h4.2.2.2.2⟩
theorem specAC (s : ByteArray) (at_ cut : Int) (put : ByteArray) (hs : s.size ≤ 140737488351232) (hp : put.size ≤ 140737488351232) : W (fun k => spec_ApplyChange.f k s at_ cut put) (fun r => r = acR s at_ cut put) := by
  unfold spec_ApplyChange.f acR
  refine W.bind (specTV s hs) (fun b hb => W.ite (fun h => ?_) (fun h => W.ret (by rw [if_neg (fun hv => h (hb.2 hv))])))
  have hv := hb.1 h
  have hsz := hv.1
  rw [if_pos hv]
  refine W.bind (specFits s at_ cut put hs hp) (fun c hc => W.ite (fun h1 => ?_) (fun h1 => W.ret (by rw [if_neg (fun hf => h1 (hc.2 ⟨hv, hf⟩))])))
  have hf := (hc.1 h1).2
  rw [if_pos hf]
  obtain ⟨f1, f2, f3, f4⟩ := hf
  rw [w64 (x := at_ + cut) (by omega) (by omega)]
  have z1 : (s.extract 0 at_.toNat).size = at_.toNat := by rw [ByteArray.size_extract]; omega
  have z2 : (s.extract (at_ + cut).toNat s.size).size = s.size - (at_ + cut).toNat := by rw [ByteArray.size_extract]; omega
  have z3 : (s.extract 0 at_.toNat ++ put).size = at_.toNat + put.size := by rw [ByteArray.size_append, z1]
  exact W.pos f1.1 (W.pos f1.2 (W.pos (by omega) (W.pos (by omega) (W.pos (by omega) (W.pos (by omega) (W.ret rfl))))))
end Go.Proofs.YtdfbdgnapjpblaaDoor.Ev
/- What the printed functions answer, part DF: drawn texts with indented lines; lists handed over. -/
namespace Go.Proofs.YtdfbdgnapjpblaaDoor.Ev
open Go.RowKit Go.Proofs.YtdfbdgnapjpblaaDoor.X Go.Proofs.YtdfbdgnapjpblaaDoor.Wp Go.Proofs.YtdfbdgnapjpblaaDoorW.PrintWords Go.Proofs.YtdfbdgnapjpblaaDoor.ThL Go.Proofs.YtdfbdgnapjpblaaDoor.ThT Go.Proofs.YtdfbdgnapjpblaaDoor.ThB
set_option linter.unusedVariables false
set_option linter.unusedSimpArgs false

theorem deepW {b : List Int} {p n : Int} (hb : RB b) (hp : 0 ≤ p) (hp2 : p ≤ 100000) (hn : n ≤ 1000000000) : W (fun k => spec_l20Deep.f k b p n) (fun r => r.1.size ≤ 125 ∧ p ≤ r.2 ∧ r.2 ≤ p + 60) := by
  unfold spec_l20Deep.f
  refine W.bind (oddW hb hp (by omega) hn) (fun o ho => W.ite (fun _ => W.bind (textW hb (by omega) (by omega) (by omega)) (fun r hr => W.ret ⟨hr.1, by dsimp only; omega, by dsimp only; omega⟩)) (fun _ => ?_))
  refine W.bind (pickW hb (by omega) (by omega) (by omega)) (fun c hc => ?_)
  obtain ⟨c1, c2⟩ := c
  obtain ⟨hc0, hc1, hc2⟩ := hc
  dsimp only at hc0 hc1 hc2 ⊢
  refine W.loop (l := fun (z : ByteArray × Int × Int) k => spec_l20Deep.l0 k z.1 z.2.1 b z.2.2) (P := fun _ r => r.1.size ≤ 125 ∧ p ≤ r.2 ∧ r.2 ≤ p + 60) (fun z => z.1.size + 6 * z.2.1 ≤ 66 ∧ 0 ≤ z.2.1 ∧ z.2.1 ≤ 11 ∧ p ≤ z.2.2 ∧ z.2.2 + 2 * z.2.1 ≤ p + 26) (fun z => z.2.1.toNat) ?_ (⟨#[]⟩, c1, c2) ⟨by show ((0 : Nat) : Int) + 6 * c1 ≤ 66; omega, by dsimp only; omega, by dsimp only; omega, by dsimp only; omega, by dsimp only; omega⟩
  rintro ⟨s, x, q⟩ ⟨h1, h2, h3, h4, h5⟩ ih
  dsimp only at h1 h2 h3 h4 h5 ⊢
  refine W.step (fun k => spec_l20Deep.l0.eq_2 ..) (W.ite (fun hx => W.name ?_) (fun hx => W.ret ⟨by dsimp only; omega, by dsimp only; omega, by dsimp only; omega⟩))
  refine W.bind (pickW hb (by omega) (by omega) (by omega)) (fun d hd => W.pos hd.1 (W.pos (by show d.1 < 4; omega) ?_))
  have s1 := rdOf_size (parts := [(⟨#[]⟩ : ByteArray), (⟨#[32]⟩ : ByteArray), (⟨#[32, 32]⟩ : ByteArray), (⟨#[32, 32, 32]⟩ : ByteArray)]) (m := 3) (by
    intro y hy
    simp only [List.mem_cons, List.mem_nil_iff, or_false] at hy
    rcases hy with rfl | rfl | rfl | rfl <;> decide) d.1
  refine W.pos (by omega) (W.name (W.bind (pickW hb (by omega) (by omega) (by omega)) (fun e he => W.pos he.1 (W.pos (by show e.1 < 4; omega) ?_))))
  have s2 := rdOf_size (parts := [(⟨#[97]⟩ : ByteArray), (⟨#[98]⟩ : ByteArray), (⟨#[]⟩ : ByteArray), (⟨#[99, 99]⟩ : ByteArray)]) (m := 2) (by
    intro y hy
    simp only [List.mem_cons, List.mem_nil_iff, or_false] at hy
    rcases hy with rfl | rfl | rfl | rfl <;> decide) e.1
  obtain ⟨A, hA⟩ : ∃ A, A = rdOf ByteArray.empty [(⟨#[]⟩ : ByteArray), (⟨#[32]⟩ : ByteArray), (⟨#[32, 32]⟩ : ByteArray), (⟨#[32, 32, 32]⟩ : ByteArray)] d.1 := ⟨_, rfl⟩
  obtain ⟨B, hB⟩ : ∃ B, B = rdOf ByteArray.empty [(⟨#[97]⟩ : ByteArray), (⟨#[98]⟩ : ByteArray), (⟨#[]⟩ : ByteArray), (⟨#[99, 99]⟩ : ByteArray)] e.1 := ⟨_, rfl⟩
  rw [← hA] at s1 ⊢
  rw [← hB] at s2 ⊢
  have z1 : (s ++ A).size = s.size + A.size := ByteArray.size_append
  have z2 : (s ++ A ++ B).size = (s ++ A).size + B.size := ByteArray.size_append
  have z3 : (s ++ A ++ B ++ (⟨#[10]⟩ : ByteArray)).size = (s ++ A ++ B).size + 1 := ByteArray.size_append
  rw [w64 (x := x - 1) (by omega) (by omega)]
  exact W.pos (by omega) (W.pos (by omega) (ih (_, x - 1, e.2) ⟨by dsimp only; omega, by dsimp only; omega, by dsimp only; omega, by dsimp only; omega, by dsimp only; omega⟩ (by dsimp only; omega)))

end Go.Proofs.YtdfbdgnapjpblaaDoor.Ev
/- What the printed functions answer, part Dc: drawn changes, drawn pairs of texts. -/
namespace Go.Proofs.YtdfbdgnapjpblaaDoor.Ev
open Go.RowKit Go.Proofs.YtdfbdgnapjpblaaDoor.X Go.Proofs.YtdfbdgnapjpblaaDoor.Wp Go.Proofs.YtdfbdgnapjpblaaDoorW.PrintWords
set_option linter.unusedVariables false
set_option linter.unusedSimpArgs false

theorem three (x y z : Int) : ∀ i : Int, 0 ≤ i → i < 3 → rd ([x, y, z] : List Int) i = x ∨ rd ([x, y, z] : List Int) i = y ∨ rd ([x, y, z] : List Int) i = z := by
  intro i h0 h1
  rcases (by omega : i = 0 ∨ i = 1 ∨ i = 2) with rfl | rfl | rfl
  · exact .inl rfl
  · exact .inr (.inl rfl)
  · exact .inr (.inr rfl)
theorem changeW {b : List Int} {p n : Int} {s : ByteArray} (hb : RB b) (hp : 0 ≤ p) (hp2 : p ≤ 100000) (hn : n ≤ 1000000000) (hs : s.size ≤ 1000) : W (fun k => spec_l20Change.f k b p s n) (fun r => r.2.2.1.size ≤ 130 ∧ p ≤ r.2.2.2 ∧ r.2.2.2 ≤ p + 100) := by
  unfold spec_l20Change.f
  rw [w64 (x := (s.size : Int) + 1) (by omega) (by omega)]
  have hmn : mn 256 ((s.size : Int) + 1) ≤ 256 := by unfold mn; split <;> omega
  refine W.bind (pickW hb hp (by omega) (by omega)) (fun c1 h1 => W.bind (pickW hb (by omega) (by omega) (by omega)) (fun c2 h2 => W.bind (pickW hb (by omega) (by omega) (by omega)) (fun c3 h3 => W.name (W.bind (pickW hb (by omega) (by omega) (by omega)) (fun c4 h4 => W.pos h4.1 (W.pos (by show c4.1 < 3; omega) ?_))))))
  refine W.bind (textW0 hb (by omega) (by omega) (by omega)) (fun t ht => ?_)
  obtain ⟨t, q⟩ := t
  obtain ⟨hv, q0, q1⟩ := ht
  dsimp only at hv q0 q1 ⊢
  have hvz := hv.1
  refine W.bind (pickW hb (by omega) (by omega) (by omega)) (fun c5 h5 => W.bind (pickW hb (by omega) (by omega) (by omega)) (fun c6 h6 => W.name (W.bind (pickW hb (by omega) (by omega) (by omega)) (fun c7 h7 => W.pos h7.1 (W.pos (by show c7.1 < 3; omega) ?_)))))
  have h73 : c7.1 < 3 := by omega
  have hr := three 0 c5.1 c6.1 c7.1 h7.1 h73
  obtain ⟨m, hm⟩ : ∃ m, m = mn (t.size : Int) (rd ([0, c5.1, c6.1] : List Int) c7.1) := ⟨_, rfl⟩
  have hm0 : 0 ≤ m ∧ m ≤ t.size := by
    rw [hm]
    unfold mn
    split <;> omega
  rw [← hm]
  have hz : (t.extract 0 m.toNat).size ≤ 120 := by rw [ByteArray.size_extract]; omega
  obtain ⟨P, hP⟩ : ∃ P, P = t.extract 0 m.toNat := ⟨_, rfl⟩
  rw [← hP] at hz ⊢
  refine W.pos hm0.1 (W.pos hm0.2 (W.bind (oddW hb (by omega) (by omega) hn) (fun o ho => W.ite (fun _ => ?_) (fun _ => W.ret ⟨by dsimp only; omega, by dsimp only; omega, by dsimp only; omega⟩))))
  refine W.bind (pickW hb (by omega) (by omega) (by omega)) (fun c8 h8 => W.ite (fun _ => W.name ?_) (fun _ => W.ite (fun _ => W.name ?_) (fun _ => W.ite (fun _ => W.pos (by omega) (W.ret ⟨?_, by dsimp only; omega, by dsimp only; omega⟩)) (fun _ => ?_))))
  · exact W.bind (pickW hb (by omega) (by omega) (by omega)) (fun c9 h9 => W.pos h9.1 (W.pos (by show c9.1 < 3; omega) (W.ret ⟨by dsimp only; omega, by dsimp only; omega, by dsimp only; omega⟩)))
  · exact W.bind (pickW hb (by omega) (by omega) (by omega)) (fun c9 h9 => W.pos h9.1 (W.pos (by show c9.1 < 3; omega) (W.ret ⟨by dsimp only; omega, by dsimp only; omega, by dsimp only; omega⟩)))
  · dsimp only
    rw [ByteArray.size_append]
    show P.size + 1 ≤ 130; omega
  · refine W.loop (l := fun (x : ByteArray) k => spec_l20Change.l0 k b c8.2 c1.1 _ x) (P := fun _ r => r.2.2.1.size ≤ 130 ∧ p ≤ r.2.2.2 ∧ r.2.2.2 ≤ p + 100) (fun x => x.size ≤ 126) (fun x => 126 - x.size) ?_ P (by omega)
    intro x hx ih
    refine W.step (fun k => spec_l20Change.l0.eq_2 ..) (W.ite (fun h => W.pos (by omega) (ih _ ?_ ?_)) (fun h => W.ret ⟨by dsimp only; omega, by dsimp only; omega, by dsimp only; omega⟩))
    · rw [ByteArray.size_append]; show x.size + 5 ≤ 126; omega
    · rw [ByteArray.size_append]; show 126 - (x.size + 5) < 126 - x.size; omega
theorem acR_size (s : ByteArray) (at_ cut : Int) (put : ByteArray) {m : Nat} (hm : 120 ≤ m) (hs : s.size ≤ m) : (acR s at_ cut put).1.size ≤ m := by
  unfold acR
  split
  · split
    · rename_i hf
      have := acT_size put hf.1 hf.2.1
      have := hf.2.2.2
      dsimp only; omega
    · exact hs
  · show 0 ≤ m; omega
theorem textsW {b : List Int} {p : Int} (hb : RB b) (hp : 0 ≤ p) (hp2 : p ≤ 1000) : W (fun k => spec_l20Texts.f k b p) (fun r => r.1.size ≤ 120 ∧ r.2.1.size ≤ 121 ∧ 0 ≤ r.2.2 ∧ r.2.2 ≤ 3000) := by
  unfold spec_l20Texts.f
  refine W.bind (deepW hb hp (by omega) (by omega)) (fun r hr => ?_)
  obtain ⟨t, q⟩ := r
  obtain ⟨hs, q0, q1⟩ := hr
  dsimp only at hs q0 q1 ⊢
  have hmn : 0 ≤ mn (t.size : Int) 120 ∧ mn (t.size : Int) 120 ≤ t.size ∧ mn (t.size : Int) 120 ≤ 120 := by unfold mn; split <;> omega
  obtain ⟨s, hS⟩ : ∃ s, s = t.extract 0 (mn (t.size : Int) 120).toNat := ⟨_, rfl⟩
  have hz : s.size ≤ 120 := by rw [hS, ByteArray.size_extract]; omega
  rw [← hS]
  refine W.pos hmn.1 (W.pos hmn.2.1 (W.bind (pickW hb (by omega) (by omega) (by omega)) (fun c hc => ?_)))
  obtain ⟨c1, c2⟩ := c
  obtain ⟨hc0, hc1, hc2⟩ := hc
  dsimp only at hc0 hc1 hc2 ⊢
  refine W.loop (l := fun (z : ByteArray × Int × Int) k => spec_l20Texts.l0 k s z.1 z.2.1 b z.2.2) (P := fun _ r => r.1.size ≤ 120 ∧ r.2.1.size ≤ 121 ∧ 0 ≤ r.2.2 ∧ r.2.2 ≤ 3000) (fun z => z.1.size ≤ 120 ∧ 0 ≤ z.2.1 ∧ z.2.1 ≤ 3 ∧ 0 ≤ z.2.2 ∧ z.2.2 + 100 * z.2.1 ≤ 2000) (fun z => z.2.1.toNat) ?_ (s, c1, c2) ⟨hz, by dsimp only; omega, by dsimp only; omega, by dsimp only; omega, by dsimp only; omega⟩
  rintro ⟨x, i, q2⟩ ⟨h1, h2, h3, h4, h5⟩ ih
  dsimp only at h1 h2 h3 h4 h5 ⊢
  refine W.step (fun k => spec_l20Texts.l0.eq_2 ..) (W.ite (fun hi => ?_) (fun hi => ?_))
  · refine W.bind (changeW hb (by omega) (by omega) (by omega) (by omega)) (fun d hd => ?_)
    obtain ⟨d1, d2, d3, d4⟩ := d
    dsimp only at hd ⊢
    refine W.bind_eq (specAC x d1 d2 d3 (by omega) (by omega)) ?_
    rw [w64 (x := i - 1) (by omega) (by omega)]
    exact ih (_, i - 1, d4) ⟨acR_size x d1 d2 d3 (Nat.le_refl _) h1, by dsimp only; omega, by dsimp only; omega, by dsimp only; omega, by dsimp only; omega⟩ (by dsimp only; omega)
  · refine W.bind (oddW hb (by omega) (by omega) (by omega)) (fun o ho => W.ite (fun _ => W.pos (by omega) (W.ret ⟨hz, ?_, by dsimp only; omega, by dsimp only; omega⟩)) (fun _ => W.ret ⟨hz, by dsimp only; omega, by dsimp only; omega, by dsimp only; omega⟩))
    dsimp only
    rw [ByteArray.size_append]
    show x.size + 1 ≤ 121; omega
theorem drawCm {l : List Int} (hw : ∀ x ∈ l, (Lit.int .u8 x).wf = true) : W (fun k => spec_DrawCommonLines.f k l) (fun r => r.1.size ≤ 120 ∧ r.2.size ≤ 121) := by
  obtain ⟨b, he, hb⟩ := openW (RB_of hw)
  unfold spec_DrawCommonLines.f
  exact W.call he (W.bind (textsW hb (Int.le_refl 0) (show (0 : Int) ≤ 1000 by decide)) (fun r hr => W.ret ⟨hr.1, hr.2.1⟩))
end Go.Proofs.YtdfbdgnapjpblaaDoor.Ev
namespace Go.Proofs.YtdfbdgnapjpblaaDoor.Pure
open Go.RowKit Go.Proofs.YtdfbdgnapjpblaaDoor.X Go.Proofs.YtdfbdgnapjpblaaDoor.Wp Go.Proofs.YtdfbdgnapjpblaaDoor.Ev Go.Proofs.YtdfbdgnapjpblaaDoor.ThL Go.Proofs.YtdfbdgnapjpblaaDoor.ThD Go.Proofs.YtdfbdgnapjpblaaDoorW.PrintWords
set_option linter.unusedVariables false
set_option linter.unusedSimpArgs false

theorem FnCommonLines : laws_FnCommonLines.Pure := by
  intro l _ _ hw
  refine W.rounds (r := true) ?_
  unfold laws_FnCommonLines.f
  refine W.ite (fun _ => W.ret rfl) (fun _ => W.bind (drawCm hw) (fun r hr => ?_))
  obtain ⟨s, t⟩ := r
  obtain ⟨hs, ht⟩ := hr
  dsimp only at hs ht ⊢
  have comm : cmL s t = cmL t s := by
    unfold cmL
    by_cases h : VT s ∧ VT t
    · rw [if_pos h, if_pos ⟨h.2, h.1⟩, lcs_comm _ _ _ (Nat.le_refl _)]
    · rw [if_neg h, if_neg (fun h2 => h ⟨h2.2, h2.1⟩)]
  refine W.bind_eq (implCommonLines s t (by omega) (by omega)) (W.bind_eq (specCommonLines s t (by omega) (by omega)) (W.pos rfl (W.bind_eq (implCommonLines t s (by omega) (by omega)) ?_)))
  rw [show (cmL s t != cmL t s) = false from by rw [comm]; simp]
  refine W.step (fun k => laws_FnCommonLines.j0.eq_2 ..) (W.neg (by decide) ?_)
  by_cases h : VT s ∧ VT t
  · have e : cmL s t = lcs (lines s) (lines t) := by unfold cmL; rw [if_pos h]
    rw [e]
    have ls := lines_len s
    have lt := lines_len t
    have b1 := lcs_le _ (lines s) (lines t) (Nat.le_refl _)
    have b2 := lcs_le _ (lines t) (lines s) (Nat.le_refl _)
    rw [lcs_comm _ (lines t) (lines s) (Nat.le_refl _)] at b2
    refine W.neg (by omega) (W.bind_eq (implLineMany s (by omega)) (W.bind_eq (implLineMany t (by omega)) ?_))
    rw [if_pos h.1, if_pos h.2]
    refine W.pos (by unfold mn; split <;> omega) (W.bind_eq (implCommonLines s s (by omega) (by omega)) (W.bind_eq (implLineMany s (by omega)) (W.ret ?_)))
    rw [if_pos h.1, show cmL s s = lcs (lines s) (lines s) from by unfold cmL; rw [if_pos ⟨h.1, h.1⟩], lcs_self, ls, beq_iff_eq]
    omega
  · have e : cmL s t = -1 := by unfold cmL; rw [if_neg h]
    rw [e]
    exact W.pos (by omega) (W.pos rfl alive_then)
end Go.Proofs.YtdfbdgnapjpblaaDoor.Pure
