/- For every code, the law on all folds closed answers true: a line is seen exactly if it is in the fold of no line before it. Conditions: none. -/
import Derived.Test.YtdpnfdoplahfgaaDoorWMore
import Derived.Test.YtdpnfdoplahfgaaDoorX2
import Derived.Laws.Strings
import Derived.Test.YtdpnfdoplahfgaaDoorX3
import Derived.Lib.IndexLaws
import Derived.Test.YtdpnfdoplahfgaaDoorX4
import Derived.Test.YtdpnfdoplahfgaaDoorX11
import Derived.Test.YtdpnfdoplahfgaaDoorX5
import Derived.Test.YtdpnfdoplahfgaaDoorX7
import Derived.Lib.TrimByte
import Derived.Test.YtdpnfdoplahfgaaDoorX6
import Derived.Test.YtdpnfdoplahfgaaDoorX12
import Derived.Test.YtdpnfdoplahfgaaDoorX14
import Derived.Test.YtdpnfdoplahfgaaDoorX8
import Derived.Test.YtdpnfdoplahfgaaDoorX21
/- Running the printed functions: 'W g P': from some number of rounds on g answers, and the answer meets P. -/
namespace Go.Proofs.YtdpnfdoplahfgaaDoor.Wp
open Go.RowKit Go.Proofs.YtdpnfdoplahfgaaDoorW.PrintWords
set_option linter.unusedVariables false
set_option linter.unusedSimpArgs false

def W {α : Type} (g : Nat → Option α) (P : α → Prop) : Prop := ∃ r, P r ∧ ∃ K, ∀ k, K ≤ k → g k = some r

theorem W.ret {α : Type} {r : α} {P : α → Prop} (h : P r) : W (fun _ => some r) P := ⟨r, h, 0, fun _ _ => rfl⟩

theorem W.mono {α : Type} {g : Nat → Option α} {P Q : α → Prop} (h : W g Q) (hk : ∀ a, Q a → P a) : W g P := by
  obtain ⟨r, hr, K, h⟩ := h
  exact ⟨r, hk r hr, K, h⟩

theorem W.bind {α β : Type} {g : Nat → Option α} {f : Nat → α → Option β} {P : β → Prop} {Q : α → Prop} (h : W g Q) (hk : ∀ a, Q a → W (fun k => f k a) P) : W (fun k => (g k).bind (f k)) P := by
  obtain ⟨a, ha, K, h⟩ := h
  obtain ⟨r, hr, K', h'⟩ := hk a ha
  refine ⟨r, hr, max K K', fun k hle => ?_⟩
  have h1 := h k (by omega)
  have h2 := h' k (by omega)
  simp only [h1, Option.bind_some]
  exact h2

theorem W.bind_eq {α β : Type} {g : Nat → Option α} {f : Nat → α → Option β} {P : β → Prop} {a : α} (h : W g (· = a)) (hk : W (fun k => f k a) P) : W (fun k => (g k).bind (f k)) P :=
  W.bind h (fun b hb => by subst hb; exact hk)

theorem W.step {α : Type} {g f : Nat → Option α} {P : α → Prop} (h : ∀ k, g (k + 1) = f k) (w : W f P) : W g P := by
  obtain ⟨r, hr, K, w⟩ := w
  refine ⟨r, hr, K + 1, fun k hk => ?_⟩
  obtain ⟨m, rfl⟩ : ∃ m, k = m + 1 := ⟨k - 1, by omega⟩
  rw [h]
  exact w m (by omega)

theorem W.congr {α : Type} {g f : Nat → Option α} {P : α → Prop} (h : ∀ k, g k = f k) (w : W f P) : W g P := by
  obtain ⟨r, hr, K, w⟩ := w
  exact ⟨r, hr, K, fun k hk => (h k).trans (w k hk)⟩

theorem W.ite {α : Type} {c : Prop} [Decidable c] {a b : Nat → Option α} {P : α → Prop} (h1 : c → W a P) (h2 : ¬c → W b P) : W (fun k => if c then a k else b k) P := by
  by_cases h : c
  · simp only [if_pos h]; exact h1 h
  · simp only [if_neg h]; exact h2 h

theorem W.pos {α : Type} {c : Prop} [Decidable c] {a b : Nat → Option α} {P : α → Prop} (h : c) (w : W a P) : W (fun k => if c then a k else b k) P := W.ite (fun _ => w) (fun h' => absurd h h')
theorem W.neg {α : Type} {c : Prop} [Decidable c] {a b : Nat → Option α} {P : α → Prop} (h : ¬ c) (w : W b P) : W (fun k => if c then a k else b k) P := W.ite (fun h' => absurd h' h) (fun _ => w)
theorem W.call {α β : Type} {x : Option α} {r : α} {f : Nat → α → Option β} {P : β → Prop} (h : x = some r) (w : W (fun k => f k r) P) : W (fun k => x.bind (f k)) P := by
  subst h; exact w
theorem W.name {α β : Type} {r : α} {f : Nat → α → Option β} {P : β → Prop} (w : W (fun k => f k r) P) : W (fun k => (some r).bind (f k)) P := w

theorem W.rounds {α : Type} {g : Nat → Option α} {r : α} (h : W g (· = r)) : ∃ k, g k = some r := by
  obtain ⟨a, rfl, K, h⟩ := h
  exact ⟨K, h K (Nat.le_refl _)⟩

/-- A loop: a measure, an invariant. -/
theorem W.loop {α σ : Type} {l : σ → Nat → Option α} {P : σ → α → Prop} (I : σ → Prop) (m : σ → Nat) (h : ∀ s, I s → (∀ s', I s' → m s' < m s → W (l s') (P s')) → W (l s) (P s)) : ∀ s, I s → W (l s) (P s) := by
  have key : ∀ n s, m s < n → I s → W (l s) (P s) := by
    intro n
    induction n with
    | zero => intro s hs; omega
    | succ n ih => intro s hs hi; exact h s hi (fun s' hi' hm => ih s' (by omega) hi')
  intro s hi
  exact key (m s + 1) s (by omega) hi

theorem w64 {x : Int} (h : -9223372036854775808 ≤ x) (h' : x ≤ 9223372036854775807) : wrap64 x = x := by
  unfold wrap64; omega

end Go.Proofs.YtdpnfdoplahfgaaDoor.Wp
/- What the printed functions answer, part A: valid texts, places, ranges. -/
namespace Go.Proofs.YtdpnfdoplahfgaaDoor.Ev
open Go.RowKit Go.Proofs.YtdpnfdoplahfgaaDoor.X Go.Proofs.YtdpnfdoplahfgaaDoor.Wp Go.Proofs.YtdpnfdoplahfgaaDoorW.PrintWords
set_option linter.unusedVariables false
set_option linter.unusedSimpArgs false

def okB (c : Int) : Prop := c = 10 ∨ (32 ≤ c ∧ c ≤ 126)
instance (c : Int) : Decidable (okB c) := by unfold okB; infer_instance
/-- A valid text. -/
def VT (s : ByteArray) : Prop := s.size ≤ 120 ∧ ∀ j : Int, 0 ≤ j → j < s.size → okB (bt s j)

noncomputable instance (s : ByteArray) : Decidable (VT s) := Classical.propDecidable _

theorem isByte_eq (c : Int) : impl_isByte.f c = some (decide (okB c)) := by
  unfold impl_isByte.f okB
  by_cases h1 : c = 10
  · simp [h1]
  · by_cases h2 : c ≥ 32
    · simp [h1, h2]
    · have : ¬ 32 ≤ c := h2
      simp [h1, this]
theorem in_eq (a b c : Int) : impl_in.f a b c = some (decide (b ≤ a ∧ a ≤ c)) := by
  unfold impl_in.f
  by_cases h : b ≤ a <;> simp [h]
theorem l1In_eq (a b c : Int) : spec_l1In.f a b c = some (decide (b ≤ a ∧ a ≤ c)) := by
  unfold spec_l1In.f
  by_cases h : b ≤ a
  · simp [h]
  · have : ¬ a ≥ b := h
    simp [h]

theorem implTV (s : ByteArray) (hs : s.size ≤ 140737488351232) : W (fun k => impl_TextValid.f k s) (fun b => b = true ↔ VT s) := by
  unfold impl_TextValid.f
  refine W.loop (l := fun i k => impl_TextValid.l0 k s s.size i) (P := fun _ b => b = true ↔ VT s) (fun i => 0 ≤ i ∧ i ≤ s.size ∧ ∀ j, 0 ≤ j → j < i → okB (bt s j)) (fun i => (s.size - i).toNat) ?_ 0 ⟨by omega, by omega, fun j h0 h1 => by omega⟩
  intro i ⟨h0, h1, h2⟩ ih
  refine W.step (fun k => impl_TextValid.l0.eq_2 ..) ?_
  by_cases hlt : i < s.size
  · simp (disch := omega) only [if_pos, w64, isByte_eq, Option.bind_some]
    by_cases hb : okB (bt s i)
    · simp only [hb, decide_true, if_true]
      exact ih (i + 1) ⟨by omega, by omega, fun j h3 h4 => by
        by_cases e : j = i
        · subst e; exact hb
        · exact h2 j h3 (by omega)⟩ (by omega)
    · simp only [hb, decide_false]
      exact W.ret ⟨fun h => by simp at h, fun h => absurd (h.2 i h0 hlt) hb⟩
  · simp (disch := omega) only [if_neg]
    refine W.ret ?_
    simp only [decide_eq_true_eq]
    exact ⟨fun h => ⟨by omega, fun j h3 h4 => h2 j h3 (by omega)⟩, fun h => by have := h.1; omega⟩

theorem specPlain (s : ByteArray) (hs : s.size ≤ 140737488351232) : W (fun k => spec_l1Plain.f k s) (fun b => b = true ↔ ∀ j : Int, 0 ≤ j → j < s.size → okB (bt s j)) := by
  unfold spec_l1Plain.f
  refine W.loop (l := fun i k => spec_l1Plain.l0 k s i) (P := fun _ b => b = true ↔ ∀ j : Int, 0 ≤ j → j < s.size → okB (bt s j)) (fun i => 0 ≤ i ∧ i ≤ s.size ∧ ∀ j, 0 ≤ j → j < i → okB (bt s j)) (fun i => (s.size - i).toNat) ?_ 0 ⟨by omega, by omega, fun j h0 h1 => by omega⟩
  intro i ⟨h0, h1, h2⟩ ih
  refine W.step (fun k => spec_l1Plain.l0.eq_2 ..) ?_
  have hr := bt_range s i
  by_cases hlt : i < s.size
  · simp (disch := omega) only [if_pos, w64, l1In_eq, Option.bind_some]
    have next : okB (bt s i) → ∀ j, 0 ≤ j → j < i + 1 → okB (bt s j) := fun hb j h3 h4 => by
      by_cases e : j = i
      · subst e; exact hb
      · exact h2 j h3 (by omega)
    refine W.ite (fun hc => ih (i + 1) ⟨by omega, by omega, next (.inl hc)⟩ (by omega)) (fun hc => ?_)
    refine W.ite (fun hd => ih (i + 1) ⟨by omega, by omega, next (.inr (by simpa using hd))⟩ (by omega)) (fun hd => ?_)
    refine W.ret ⟨fun h => by simp at h, fun h => ?_⟩
    rcases h i h0 hlt with h | h
    · exact absurd h hc
    · exact absurd (by simpa using h) hd
  · simp (disch := omega) only [if_neg]
    exact W.ret ⟨fun _ j h3 h4 => h2 j h3 (by omega), fun _ => rfl⟩

theorem specTV (s : ByteArray) (hs : s.size ≤ 140737488351232) : W (fun k => spec_TextValid.f k s) (fun b => b = true ↔ VT s) := by
  unfold spec_TextValid.f
  refine W.ite (fun h => ?_) (fun h => ?_)
  · refine W.bind (specPlain s hs) (fun b hb => W.ret ?_)
    rw [hb]
    exact ⟨fun h' => ⟨by omega, h'⟩, fun h' => h'.2⟩
  · exact W.ret ⟨fun h' => by simp at h', fun h' => by have := h'.1; omega⟩

theorem tv_pos {g : Nat → Option Bool} {s : ByteArray} (h : W g (fun b => b = true ↔ VT s)) (hv : VT s) : W g (· = true) := h.mono fun b hb => hb.2 hv
end Go.Proofs.YtdpnfdoplahfgaaDoor.Ev
/- Texts as bytes: parts, sums, equality. -/
namespace Go.Proofs.YtdpnfdoplahfgaaDoor.Ev
open Go.RowKit Go.Proofs.YtdpnfdoplahfgaaDoorW.PrintWords
set_option linter.unusedVariables false
set_option linter.unusedSimpArgs false

theorem bt_eq (s : ByteArray) {i : Int} (h0 : 0 ≤ i) (h : i < s.size) : ∃ h' : i.toNat < s.size, bt s i = (s[i.toNat]'h').toNat := by
  have h' : i.toNat < s.size := by omega
  exact ⟨h', by unfold bt; rw [dif_pos h']⟩
theorem toList_data (a : ByteArray) : a.toList = a.data.toList := ByteArray.toList_eq a
theorem bt_ext (s : ByteArray) {a b i : Int} (h0 : 0 ≤ a) (h1 : 0 ≤ i) (h2 : i < b - a) (h3 : b ≤ s.size) : bt (s.extract a.toNat b.toNat) i = bt s (a + i) := by
  unfold bt
  rw [dif_pos (by rw [ByteArray.size_extract]; omega), dif_pos (by omega), ByteArray.getElem_extract]
  congr 2
  congr 1
  omega
theorem bt_out (s : ByteArray) {i : Int} (h : s.size ≤ i) : bt s i = 0 := by
  unfold bt
  rw [dif_neg (by omega)]
end Go.Proofs.YtdpnfdoplahfgaaDoor.Ev
/- The plain law of lines: line ends counted, where lines begin and end. No program in sight. -/
namespace Go.Proofs.YtdpnfdoplahfgaaDoor.ThL
open Go.RowKit Go.Proofs.YtdpnfdoplahfgaaDoorW.PrintWords Go.Proofs.YtdpnfdoplahfgaaDoor.Ev
set_option linter.unusedVariables false
set_option linter.unusedSimpArgs false

/-- How many line ends stand before place p. -/
def nl (s : ByteArray) : Nat → Nat
  | 0 => 0
  | n + 1 => nl s n + if bt s n = 10 then 1 else 0
theorem nl_step (s : ByteArray) (n : Nat) : nl s (n + 1) = nl s n + if bt s n = 10 then 1 else 0 := rfl
theorem nl_mono (s : ByteArray) {a b : Nat} (h : a ≤ b) : nl s a ≤ nl s b := by
  induction b with
  | zero => have : a = 0 := by omega
            subst this; exact Nat.le_refl _
  | succ b ih =>
    by_cases e : a = b + 1
    · subst e; exact Nat.le_refl _
    · have := ih (by omega)
      rw [nl_step]; omega
theorem nl_le (s : ByteArray) : ∀ n, nl s n ≤ n
  | 0 => Nat.le_refl _
  | n + 1 => by have := nl_le s n; rw [nl_step]; split <;> omega
theorem nl_same (s : ByteArray) {a b : Nat} (h : a ≤ b) (hn : ∀ j : Int, a ≤ j → j < b → bt s j ≠ 10) : nl s b = nl s a := by
  induction b with
  | zero => have : a = 0 := by omega
            subst this; rfl
  | succ b ih =>
    by_cases e : a = b + 1
    · subst e; rfl
    · rw [nl_step, ih (by omega) (fun j h0 h1 => hn j h0 (by omega)), if_neg (hn b (by omega) (by omega))]; omega
theorem nl_lt (s : ByteArray) {a b : Nat} {j : Nat} (h : a ≤ j) (h2 : j < b) (hn : bt s j = 10) : nl s a < nl s b := by
  have h1 := nl_mono s h
  have h3 := nl_mono s (show j + 1 ≤ b from h2)
  rw [nl_step, if_pos hn] at h3
  omega

/-- The first line end from place p on, or the end of the text. -/
def fnlA (s : ByteArray) : Nat → Nat → Nat
  | 0, p => p
  | d + 1, p => if bt s p = 10 then p else fnlA s d (p + 1)
def fnl (s : ByteArray) (p : Nat) : Nat := fnlA s (s.size - p) p
theorem fnlA_spec (s : ByteArray) : ∀ d p, p + d = s.size → p ≤ fnlA s d p ∧ fnlA s d p ≤ s.size ∧ (∀ j : Int, p ≤ j → j < fnlA s d p → bt s j ≠ 10) ∧ (fnlA s d p < s.size → bt s (fnlA s d p) = 10)
  | 0, p, h => ⟨Nat.le_refl _, by simp [fnlA]; omega, fun j h0 h1 => by simp [fnlA] at h1; omega, fun h1 => by simp [fnlA] at h1; omega⟩
  | d + 1, p, h => by
    unfold fnlA
    by_cases c : bt s p = 10
    · rw [if_pos c]; exact ⟨Nat.le_refl _, by omega, fun j h0 h1 => by omega, fun _ => c⟩
    · rw [if_neg c]
      obtain ⟨h1, h2, h3, h4⟩ := fnlA_spec s d (p + 1) (by omega)
      refine ⟨by omega, h2, fun j h5 h6 => ?_, h4⟩
      by_cases e : j = p
      · subst e; exact c
      · exact h3 j (by omega) h6
theorem fnl_spec (s : ByteArray) {p : Nat} (h : p ≤ s.size) : p ≤ fnl s p ∧ fnl s p ≤ s.size ∧ (∀ j : Int, p ≤ j → j < fnl s p → bt s j ≠ 10) ∧ (fnl s p < s.size → bt s (fnl s p) = 10) := fnlA_spec s _ p (by omega)
/-- Where line k begins, where it ends. -/
def st (s : ByteArray) : Nat → Nat
  | 0 => 0
  | k + 1 => fnl s (st s k) + 1
def en (s : ByteArray) (k : Nat) : Nat := fnl s (st s k)
theorem st_succ (s : ByteArray) (k : Nat) : st s (k + 1) = en s k + 1 := rfl
theorem st_spec (s : ByteArray) : ∀ k, k ≤ nl s s.size → st s k ≤ s.size ∧ nl s (st s k) = k ∧ (k = 0 ∨ bt s ((st s k : Int) - 1) = 10)
  | 0 => fun _ => ⟨Nat.zero_le _, rfl, .inl rfl⟩
  | k + 1 => fun h => by
    obtain ⟨h1, h2, _⟩ := st_spec s k (by omega)
    obtain ⟨a, b, c, d⟩ := fnl_spec s h1
    have hs := nl_same s a c
    have hlt : en s k < s.size := by
      show fnl s (st s k) < s.size
      by_cases e : fnl s (st s k) = s.size
      · rw [e] at hs; omega
      · omega
    have hd := d hlt
    rw [st_succ]
    refine ⟨hlt, ?_, .inr ?_⟩
    · rw [nl_step]
      show nl s (fnl s (st s k)) + (if bt s (fnl s (st s k) : Nat) = 10 then 1 else 0) = _
      rw [hs, h2, if_pos hd]
    · rw [show (((en s k + 1 : Nat) : Int) - 1) = (en s k : Nat) from by omega]; exact hd
theorem en_spec (s : ByteArray) {k : Nat} (h : k ≤ nl s s.size) : st s k ≤ en s k ∧ en s k ≤ s.size ∧ (∀ j : Int, st s k ≤ j → j < en s k → bt s j ≠ 10) ∧ (en s k < s.size → bt s (en s k) = 10) ∧ nl s (en s k) = k := by
  obtain ⟨h1, h2, _⟩ := st_spec s k h
  obtain ⟨a, b, c, d⟩ := fnl_spec s h1
  exact ⟨a, b, c, d, by rw [show nl s (en s k) = nl s (fnl s (st s k)) from rfl, nl_same s a c, h2]⟩
/-- Two places at which lines begin, with as many line ends before them, are one. -/
theorem start_uniq (s : ByteArray) {p q : Nat} (hn : nl s p = nl s q) (hp : p = 0 ∨ bt s ((p : Int) - 1) = 10) (hq : q = 0 ∨ bt s ((q : Int) - 1) = 10) : p = q := by
  by_cases h : p < q
  · rcases hq with rfl | hq
    · omega
    · have := nl_lt s (a := p) (b := q) (j := q - 1) (by omega) (by omega) (by rw [show (((q - 1 : Nat)) : Int) = (q : Int) - 1 from by omega]; exact hq)
      omega
  · by_cases h2 : q < p
    · rcases hp with rfl | hp
      · omega
      · have := nl_lt s (a := q) (b := p) (j := p - 1) (by omega) (by omega) (by rw [show (((p - 1 : Nat)) : Int) = (p : Int) - 1 from by omega]; exact hp)
        omega
    · omega
theorem last_en (s : ByteArray) : en s (nl s s.size) = s.size := by
  obtain ⟨a, b, c, d, e⟩ := en_spec s (Nat.le_refl _)
  by_cases h : en s (nl s s.size) = s.size
  · exact h
  · have := nl_lt s (a := en s (nl s s.size)) (b := s.size) (j := en s (nl s s.size)) (Nat.le_refl _) (by omega) (d (by omega))
    omega
/-- Line k. -/
def lineAt (s : ByteArray) (k : Nat) : ByteArray := s.extract (st s k) (en s k)
/-- The first n lines. -/
def lns (s : ByteArray) : Nat → List ByteArray
  | 0 => []
  | n + 1 => lns s n ++ [lineAt s n]
theorem lns_succ (s : ByteArray) (n : Nat) : lns s (n + 1) = lns s n ++ [lineAt s n] := rfl
theorem lns_len (s : ByteArray) : ∀ n, (lns s n).length = n
  | 0 => rfl
  | n + 1 => by rw [lns_succ, List.length_append, lns_len s n]; rfl
/-- All lines. -/
def lines (s : ByteArray) : List ByteArray := lns s (nl s s.size + 1)
theorem lines_len (s : ByteArray) : (lines s).length = nl s s.size + 1 := lns_len s _
theorem lns_get (s : ByteArray) : ∀ (n : Nat) (i : Int), 0 ≤ i → i < n → rdOf ByteArray.empty (lns s n) i = lineAt s i.toNat
  | 0 => fun i h0 h1 => by omega
  | n + 1 => fun i h0 h1 => by
    have hl := lns_len s n
    have ih := lns_get s n i h0
    unfold rdOf at ih ⊢
    rw [lns_succ]
    by_cases e : i = n
    · subst e
      rw [List.getD_eq_getElem?_getD, List.getElem?_append_right (by omega), hl]
      simp
    · rw [List.getD_eq_getElem?_getD, List.getElem?_append_left (by omega), ← List.getD_eq_getElem?_getD]
      exact ih (by omega)
theorem lines_get (s : ByteArray) {i : Int} (h0 : 0 ≤ i) (h1 : i ≤ nl s s.size) : rdOf ByteArray.empty (lines s) i = lineAt s i.toNat := lns_get s _ i h0 (by omega)
theorem lineAt_size (s : ByteArray) {k : Nat} (h : k ≤ nl s s.size) : (lineAt s k).size = en s k - st s k := by
  obtain ⟨a, b, _⟩ := en_spec s h
  unfold lineAt
  rw [ByteArray.size_extract]; omega
theorem lineAt_bt (s : ByteArray) {k : Nat} (h : k ≤ nl s s.size) {i : Int} (h0 : 0 ≤ i) (h1 : i < (lineAt s k).size) : bt (lineAt s k) i = bt s (st s k + i) := by
  obtain ⟨a, b, _⟩ := en_spec s h
  rw [lineAt_size s h] at h1
  have := bt_ext s (a := (st s k : Int)) (b := (en s k : Int)) (i := i) (by omega) h0 (by omega) (by omega)
  rw [Int.toNat_natCast, Int.toNat_natCast] at this
  exact this
end Go.Proofs.YtdpnfdoplahfgaaDoor.ThL
/- Lists of numbers: read, set, cut. No program in sight. -/
namespace Go.Proofs.YtdpnfdoplahfgaaDoor.ThB
open Go.RowKit Go.Proofs.YtdpnfdoplahfgaaDoorW.PrintWords
set_option linter.unusedVariables false
set_option linter.unusedSimpArgs false

theorem rd_left (xs ys : List Int) {i : Int} (h0 : 0 ≤ i) (h : i < xs.length) : rd (xs ++ ys) i = rd xs i := by
  unfold rd
  rw [List.getD_eq_getElem?_getD, List.getD_eq_getElem?_getD, List.getElem?_append_left (by omega)]
theorem rd_snoc (xs : List Int) (v : Int) {i : Int} (h : i = xs.length) : rd (xs ++ [v]) i = v := by
  subst h
  unfold rd
  rw [List.getD_eq_getElem?_getD, List.getElem?_append_right (by simp)]
  simp
end Go.Proofs.YtdpnfdoplahfgaaDoor.ThB
/- Lists as tables. No program in sight. -/
namespace Go.Proofs.YtdpnfdoplahfgaaDoor.ThT
open Go.RowKit Go.Proofs.YtdpnfdoplahfgaaDoorW.PrintWords Go.Proofs.YtdpnfdoplahfgaaDoor.ThB
set_option linter.unusedVariables false
set_option linter.unusedSimpArgs false

def tab {α : Type} (f : Nat → α) : Nat → List α
  | 0 => []
  | n + 1 => tab f n ++ [f n]
theorem tab_succ {α : Type} (f : Nat → α) (n : Nat) : tab f (n + 1) = tab f n ++ [f n] := rfl
theorem tab_len {α : Type} (f : Nat → α) : ∀ n, (tab f n).length = n
  | 0 => rfl
  | n + 1 => by rw [tab_succ, List.length_append, tab_len f n]; rfl
theorem tab_get {α : Type} (f : Nat → α) : ∀ (n i : Nat), i < n → (tab f n)[i]? = some (f i)
  | 0, i, h => by omega
  | n + 1, i, h => by
    have hl := tab_len f n
    rw [tab_succ]
    by_cases e : i = n
    · subst e; rw [List.getElem?_append_right (by omega), hl, Nat.sub_self]; rfl
    · rw [List.getElem?_append_left (by omega)]; exact tab_get f n i (by omega)
theorem rd_tab (f : Nat → Int) (n : Nat) {i : Int} (h0 : 0 ≤ i) (h1 : i < n) : rd (tab f n) i = f i.toNat := by
  unfold rd
  rw [List.getD_eq_getElem?_getD, tab_get f n _ (by omega)]; rfl
/-- A table with n entries, of which the first i are laid. -/
theorem tab_set {α : Type} (d : α) (f : Nat → α) (n i : Nat) (h : i < n) : (tab f i ++ List.replicate (n - i) d).set i (f i) = tab f (i + 1) ++ List.replicate (n - (i + 1)) d := by
  have hl := tab_len f i
  have e : n - i = (n - (i + 1)) + 1 := by omega
  rw [List.set_append_right _ _ (by omega), hl, Nat.sub_self, e, List.replicate_succ, List.set_cons_zero, tab_succ, List.append_assoc]
  rfl
theorem rdOf_set_self {α : Type} (d : α) (xs : List α) (v : α) {i : Int} (h0 : 0 ≤ i) (h : i < xs.length) : rdOf d (xs.set i.toNat v) i = v := by
  unfold rdOf
  rw [List.getD_eq_getElem?_getD, List.getElem?_set_self (by omega)]
  rfl
theorem rdOf_set_ne {α : Type} (d : α) (xs : List α) (v : α) {i j : Int} (h0 : 0 ≤ i) (hj : 0 ≤ j) (h : i ≠ j) : rdOf d (xs.set j.toNat v) i = rdOf d xs i := by
  unfold rdOf
  rw [List.getD_eq_getElem?_getD, List.getD_eq_getElem?_getD, List.getElem?_set_ne (by omega)]
end Go.Proofs.YtdpnfdoplahfgaaDoor.ThT
/- What the printed functions answer, part Sp: a text split at its line ends is its lines. -/
namespace Go.Proofs.YtdpnfdoplahfgaaDoor.Ev
open Go.RowKit Go.Proofs.YtdpnfdoplahfgaaDoor.X Go.Proofs.YtdpnfdoplahfgaaDoor.Wp Go.Proofs.YtdpnfdoplahfgaaDoorW.PrintWords Go.Proofs.YtdpnfdoplahfgaaDoor.ThL Go.Proofs.YtdpnfdoplahfgaaDoor.ThT
set_option linter.unusedVariables false
set_option linter.unusedSimpArgs false

theorem data_get (s : ByteArray) (n : Nat) (c : UInt8) : s.data.toList[n]? = some c ↔ n < s.size ∧ bt s n = c.toNat := by
  have hlen : s.data.toList.length = s.size := by rw [Array.length_toList]; rfl
  constructor
  · intro h
    have hn : n < s.data.toList.length := by
      rcases Nat.lt_or_ge n s.data.toList.length with h1 | h1
      · exact h1
      · rw [List.getElem?_eq_none h1] at h; cases h
    rw [List.getElem?_eq_getElem hn] at h
    injection h with h
    refine ⟨by omega, ?_⟩
    obtain ⟨p, e⟩ := bt_eq s (i := (n : Int)) (by omega) (by omega)
    rw [e]
    simp only [Int.toNat_natCast]
    have : s[n]'(by omega) = s.data.toList[n]'hn := rfl
    rw [this, h]
  · rintro ⟨h1, h2⟩
    obtain ⟨p, e⟩ := bt_eq s (i := (n : Int)) (by omega) (by omega)
    rw [e] at h2
    rw [List.getElem?_eq_getElem (by omega)]
    congr 1
    apply UInt8.toNat_inj.1
    simp only [Int.toNat_natCast] at h2
    exact_mod_cast h2
theorem ib_cases (s : ByteArray) (c : UInt8) : (Lib.indexByte s.data.toList c = -1 ∧ ∀ j : Int, 0 ≤ j → j < s.size → bt s j ≠ c.toNat) ∨ ∃ o : Nat, Lib.indexByte s.data.toList c = o ∧ o < s.size ∧ bt s o = c.toNat ∧ ∀ j : Int, 0 ≤ j → j < o → bt s j ≠ c.toNat := by
  have hge := Lib.indexByte_ge s.data.toList c
  by_cases h : Lib.indexByte s.data.toList c = -1
  · refine .inl ⟨h, fun j h0 h1 h2 => ?_⟩
    exact Lib.indexByte_none h j.toNat ((data_get s _ _).2 ⟨by omega, by rw [show ((j.toNat : Nat) : Int) = j from by omega]; exact h2⟩)
  · obtain ⟨o, ho⟩ : ∃ o : Nat, Lib.indexByte s.data.toList c = o := ⟨(Lib.indexByte s.data.toList c).toNat, by omega⟩
    obtain ⟨h1, h2⟩ := Lib.indexByte_some ho
    obtain ⟨h3, h4⟩ := (data_get s _ _).1 h1
    refine .inr ⟨o, ho, h3, h4, fun j h0 h5 h6 => ?_⟩
    exact h2 j.toNat (by omega) ((data_get s _ _).2 ⟨by omega, by rw [show ((j.toNat : Nat) : Int) = j from by omega]; exact h6⟩)
theorem count10 (s : ByteArray) : ∀ n, n ≤ s.size → (s.data.toList.take n).count 10 = nl s n
  | 0, _ => by rw [List.take_zero]; rfl
  | n + 1, h => by
    rw [List.take_add_one, List.count_append, count10 s n (by omega), nl_step]
    have hn : n < s.data.toList.length := by rw [Array.length_toList]; exact h
    rw [List.getElem?_eq_getElem hn]
    have hg : s.data.toList[n]? = some (s.data.toList[n]'hn) := List.getElem?_eq_getElem hn
    by_cases e : bt s n = 10
    · have := (data_get s n 10).2 ⟨by omega, e⟩
      rw [hg] at this
      injection this with this
      rw [this, if_pos e]; rfl
    · rw [if_neg e]
      have hne : s.data.toList[n]'hn ≠ 10 := fun h2 => by
        rw [h2] at hg
        exact e ((data_get s n 10).1 hg).2
      rw [Option.toList_some, List.count_singleton, if_neg (by simpa using hne)]
theorem countNl (s : ByteArray) : Lib.countByte s.data.toList 10 = nl s s.size := by
  rw [← count10 s s.size (Nat.le_refl _)]
  unfold Lib.countByte
  rw [List.take_of_length_le]
  rw [Array.length_toList]; exact Nat.le_refl _

/-- The text from line i's beginning on. -/
def rest (s : ByteArray) (i : Nat) : ByteArray := s.extract (st s i) s.size
theorem rest_size (s : ByteArray) {i : Nat} (h : i ≤ nl s s.size) : (rest s i).size = s.size - st s i := by
  unfold rest; rw [ByteArray.size_extract]; omega
theorem rest_bt (s : ByteArray) {i : Nat} (h : i ≤ nl s s.size) {j : Int} (h0 : 0 ≤ j) (h1 : j < (rest s i).size) : bt (rest s i) j = bt s (st s i + j) := by
  obtain ⟨a, _, _⟩ := st_spec s i h
  rw [rest_size s h] at h1
  have := bt_ext s (a := (st s i : Int)) (b := (s.size : Int)) (i := j) (by omega) h0 (by omega) (by omega)
  rw [Int.toNat_natCast, Int.toNat_natCast] at this
  exact this
theorem rest_last (s : ByteArray) : rest s (nl s s.size) = lineAt s (nl s s.size) := by unfold rest lineAt; rw [last_en]
theorem index10 (s : ByteArray) {i : Nat} (h : i < nl s s.size) : strings_Index.f (rest s i) (⟨#[10]⟩ : ByteArray) = some ((en s i - st s i : Nat) : Int) := by
  have h1 : strings_Index.f (rest s i) (⟨#[10]⟩ : ByteArray) = some (Lib.indexByte (rest s i).data.toList 10) := rfl
  rw [h1]
  congr 1
  obtain ⟨a, b, c, d, e⟩ := en_spec s (k := i) (by omega)
  have hlt : en s i < s.size := by
    have := (st_spec s (i + 1) (by omega)).1
    rw [st_succ] at this; omega
  have hz := rest_size s (i := i) (by omega)
  have hat : bt (rest s i) ((en s i - st s i : Nat) : Int) = 10 := by
    rw [rest_bt s (by omega) (by omega) (by omega), show (st s i : Int) + ((en s i - st s i : Nat) : Int) = (en s i : Nat) from by omega]
    exact d hlt
  rcases ib_cases (rest s i) 10 with ⟨_, h2⟩ | ⟨o, h2, h3, h4, h5⟩
  · exact absurd hat (h2 _ (by omega) (by omega))
  · rw [h2]
    have e1 : ¬ o < en s i - st s i := fun h6 => by
      rw [rest_bt s (by omega) (by omega) (by omega)] at h4
      exact c _ (by omega) (by omega) h4
    have e2 : ¬ en s i - st s i < o := fun h6 => h5 _ (by omega) (by omega) hat
    omega

theorem genSplit10 (s : ByteArray) (hs : s.size ≤ 1000000) : W (fun k => strings_genSplit.f k s (⟨#[10]⟩ : ByteArray) 0 (-1)) (fun r => r = lines s) := by
  unfold strings_genSplit.f
  have fin := nl_le s s.size
  refine W.neg (by omega) (W.neg (by rw [toList_data]; simp) (W.pos (by omega) (W.call (show strings_Count.f s (⟨#[10]⟩ : ByteArray) = some (nl s s.size : Int) from by rw [show strings_Count.f s (⟨#[10]⟩ : ByteArray) = some ((Lib.countByte s.data.toList 10 : Nat) : Int) from rfl, countNl]) ?_)))
  rw [w64 (x := (nl s s.size : Int) + 1) (by omega) (by omega)]
  refine W.step (fun k => strings_genSplit.j0.eq_2 ..) ?_
  rw [w64 (x := (s.size : Int) + 1) (by omega) (by omega), show mn ((nl s s.size : Int) + 1) ((s.size : Int) + 1) = ((nl s s.size + 1 : Nat) : Int) from by unfold mn; split <;> omega, Int.toNat_natCast, w64 (x := ((nl s s.size + 1 : Nat) : Int) - 1) (by omega) (by omega), show ((nl s s.size + 1 : Nat) : Int) - 1 = (nl s s.size : Nat) from by omega]
  refine W.pos (by omega) (W.pos (by omega) ?_)
  obtain ⟨m, hm⟩ : ∃ m, m = nl s s.size := ⟨_, rfl⟩
  rw [← hm]
  have hd : (⟨#[]⟩ : ByteArray) = ByteArray.empty := rfl
  have key := W.loop (l := fun (i : Nat) k => strings_genSplit.l0 k (rest s i) (⟨#[10]⟩ : ByteArray) 0 m (tab (lineAt s) i ++ List.replicate (m + 1 - i) (⟨#[]⟩ : ByteArray)) i) (P := fun _ r => r = lines s) (fun i : Nat => i ≤ m) (fun i => m - i) (by
    intro i hi ih
    refine W.step (fun k => strings_genSplit.l0.eq_2 ..) ?_
    have hlen : (tab (lineAt s) i ++ List.replicate (m + 1 - i) (⟨#[]⟩ : ByteArray)).length = m + 1 := by rw [List.length_append, tab_len, List.length_replicate]; omega
    by_cases hlt : i < m
    · have next := ih (i + 1) (by omega) (by omega)
      obtain ⟨a, b, c, d, e⟩ := en_spec s (k := i) (by omega)
      have hes : en s i < s.size := by
        have := (st_spec s (i + 1) (by omega)).1
        rw [st_succ] at this; omega
      have hz := rest_size s (i := i) (by omega)
      have e1 : (rest s i).extract 0 (en s i - st s i) = lineAt s i := by
        unfold rest lineAt
        rw [ByteArray.extract_extract]
        congr 1 <;> omega
      have e2 : (rest s i).extract (en s i - st s i + 1) (rest s i).size = rest s (i + 1) := by
        rw [hz]
        unfold rest
        rw [ByteArray.extract_extract, st_succ]
        congr 1 <;> omega
      rw [show ((i + 1 : Nat) : Int) = (i : Int) + 1 from by omega] at next
      refine W.pos (by omega) (W.call (index10 s (by omega)) (W.neg (by omega) ?_))
      have hone : ((⟨#[10]⟩ : ByteArray).size : Int) = 1 := rfl
      rw [hone, w64 (x := ((en s i - st s i : Nat) : Int) + 0) (by omega) (by omega), w64 (x := ((en s i - st s i : Nat) : Int) + 1) (by omega) (by omega), w64 (x := (i : Int) + 1) (by omega) (by omega), Int.add_zero, Int.toNat_natCast, Int.toNat_natCast, show (((en s i - st s i : Nat) : Int) + 1).toNat = en s i - st s i + 1 from by omega, e1, e2, tab_set _ _ (m + 1) i (by omega)]
      exact W.pos (by omega) (W.pos (by omega) (W.pos (by omega) (W.pos (by omega) (W.pos (by omega) (W.pos (by omega) next)))))
    · have e : i = m := by omega
      subst e
      refine W.neg (by omega) (W.pos (by omega) (W.pos (by omega) ?_))
      rw [w64 (x := (i : Int) + 1) (by omega) (by omega)]
      refine W.pos (by omega) (W.pos (by omega) (W.ret ?_))
      rw [Int.toNat_natCast, show ((i : Int) + 1).toNat = i + 1 from by omega]
      have hl : rest s i = lineAt s i := by rw [hm]; exact rest_last s
      rw [hl, tab_set _ _ (i + 1) i (by omega), Nat.sub_self, List.replicate_zero, List.append_nil, List.take_of_length_le (by rw [tab_len]; exact Nat.le_refl _)]
      unfold lines
      rw [← hm]
      clear hlt hlen hl ih hi
      induction (i + 1) with
      | zero => rfl
      | succ n ih => rw [tab_succ, lns_succ, ih]) 0 (by omega)
  have e0 : rest s 0 = s := by
    unfold rest
    rw [show st s 0 = 0 from rfl]
    exact ByteArray.extract_zero_size
  rw [e0] at key
  exact key
theorem linesOfW (s : ByteArray) (hs : s.size ≤ 1000000) : W (fun k => impl_linesOf.f k s) (fun r => r = lines s) := by
  unfold impl_linesOf.f strings_Split.f
  exact W.bind_eq (W.bind_eq (genSplit10 s hs) (W.ret rfl)) (W.ret rfl)
end Go.Proofs.YtdpnfdoplahfgaaDoor.Ev
/- What the printed functions answer, part Li: the program's lines. -/
namespace Go.Proofs.YtdpnfdoplahfgaaDoor.Ev
open Go.RowKit Go.Proofs.YtdpnfdoplahfgaaDoor.X Go.Proofs.YtdpnfdoplahfgaaDoor.Wp Go.Proofs.YtdpnfdoplahfgaaDoorW.PrintWords Go.Proofs.YtdpnfdoplahfgaaDoor.ThL Go.Proofs.YtdpnfdoplahfgaaDoor.ThT Go.Proofs.YtdpnfdoplahfgaaDoor.ThB
set_option linter.unusedVariables false
set_option linter.unusedSimpArgs false

theorem implLineMany (s : ByteArray) (hs : s.size ≤ 140737488351232) : W (fun k => impl_LineMany.f k s) (fun r => r = if VT s then (nl s s.size : Int) + 1 else -1) := by
  unfold impl_LineMany.f
  refine W.bind (implTV s hs) (fun b hb => W.ite (fun h => ?_) (fun h => W.ret (by rw [if_neg (fun hv => h (hb.2 hv))])))
  rw [if_pos (hb.1 h)]
  have fin := nl_le s s.size
  refine W.call (show strings_Count.f s (⟨#[10]⟩ : ByteArray) = some (nl s s.size : Int) from by rw [show strings_Count.f s (⟨#[10]⟩ : ByteArray) = some ((Lib.countByte s.data.toList 10 : Nat) : Int) from rfl, countNl]) (W.ret ?_)
  rw [w64 (x := 1 + (nl s s.size : Int)) (by omega) (by omega)]; omega
theorem implIsLine (s : ByteArray) (line : Int) (hs : s.size ≤ 140737488351232) : W (fun k => impl_isLine.f k s line) (fun b => b = true ↔ VT s ∧ 0 ≤ line ∧ line ≤ nl s s.size) := by
  unfold impl_isLine.f
  refine W.bind (implTV s hs) (fun b hb => W.ite (fun h => ?_) (fun h => W.ret ⟨fun h2 => by simp at h2, fun hv => absurd (hb.2 hv.1) h⟩))
  have hv := hb.1 h
  have fin := nl_le s s.size
  refine W.bind_eq (implLineMany s hs) ?_
  rw [if_pos hv]
  refine W.call (in_eq ..) (W.ret ?_)
  rw [w64 (x := (nl s s.size : Int) + 1 - 1) (by omega) (by omega), decide_eq_true_eq]
  exact ⟨fun h2 => ⟨hv, by omega, by omega⟩, fun h2 => ⟨by omega, by omega⟩⟩
end Go.Proofs.YtdpnfdoplahfgaaDoor.Ev
/- What the printed functions answer, part Ln: the reference's lines. -/
namespace Go.Proofs.YtdpnfdoplahfgaaDoor.Ev
open Go.RowKit Go.Proofs.YtdpnfdoplahfgaaDoor.X Go.Proofs.YtdpnfdoplahfgaaDoor.Wp Go.Proofs.YtdpnfdoplahfgaaDoorW.PrintWords Go.Proofs.YtdpnfdoplahfgaaDoor.ThL
set_option linter.unusedVariables false
set_option linter.unusedSimpArgs false

theorem specLineMany (s : ByteArray) (hs : s.size ≤ 140737488351232) : W (fun k => spec_LineMany.f k s) (fun r => r = if VT s then (nl s s.size : Int) + 1 else -1) := by
  unfold spec_LineMany.f
  refine W.bind (specTV s hs) (fun b hb => W.ite (fun h => ?_) (fun h => ?_))
  · rw [if_pos (hb.1 h)]
    have key := W.loop (l := fun (n : Nat) k => spec_LineMany.l0 k s ((nl s n : Int) + 1) n) (P := fun _ r => r = (nl s s.size : Int) + 1) (fun n : Nat => n ≤ s.size) (fun n => s.size - n) (by
      intro n hn ih
      refine W.step (fun k => spec_LineMany.l0.eq_2 ..) ?_
      have hle := nl_le s n
      by_cases hlt : n < s.size
      · have next := ih (n + 1) (by omega) (by omega)
        rw [nl_step, show ((n + 1 : Nat) : Int) = (n : Int) + 1 from by omega] at next
        rw [w64 (x := (n : Int) + 1) (by omega) (by omega), w64 (x := (nl s n : Int) + 1 + 1) (by omega) (by omega)]
        refine W.pos (by omega) (W.pos (by omega) (W.ite (fun hc => ?_) (fun hc => ?_)))
        · rw [if_pos hc] at next; exact next
        · rw [if_neg hc] at next; exact next
      · have e : n = s.size := by omega
        subst e
        exact W.neg (by omega) (W.ret rfl)) 0 (by omega)
    exact key
  · rw [if_neg (fun hv => h (hb.2 hv))]
    exact W.ret rfl

theorem specLineStart (s : ByteArray) (line : Int) (hs : s.size ≤ 140737488351232) : W (fun k => spec_LineStart.f k s line) (fun r => r = if VT s ∧ 0 ≤ line ∧ line ≤ nl s s.size then (st s line.toNat : Int) else -1) := by
  unfold spec_LineStart.f
  have out : ¬ (VT s ∧ 0 ≤ line ∧ line ≤ nl s s.size) → W (fun k => spec_LineStart.j0 k s line true) (fun r => r = if VT s ∧ 0 ≤ line ∧ line ≤ nl s s.size then (st s line.toNat : Int) else -1) := fun hv => by
    rw [if_neg hv]
    exact W.step (fun k => spec_LineStart.j0.eq_2 ..) (W.pos rfl (W.ret rfl))
  refine W.bind (specTV s hs) (fun b hb => W.ite (fun h => ?_) (fun h => out (fun hv => h (hb.2 hv.1))))
  have hv := hb.1 h
  have hsz := hv.1
  by_cases hl : line < 0
  · rw [decide_eq_true hl]; exact out (fun h => by omega)
  · rw [decide_eq_false hl]
    refine W.step (fun k => spec_LineStart.j0.eq_2 ..) (W.neg (by decide) ?_)
    have fin := nl_le s s.size
    have key := W.loop (l := fun (n : Nat) k => spec_LineStart.l0 k s line (nl s n) n) (P := fun _ r => r = if VT s ∧ 0 ≤ line ∧ line ≤ nl s s.size then (st s line.toNat : Int) else -1) (fun n : Nat => n ≤ s.size + 1 ∧ (line ≤ nl s s.size → n ≤ st s line.toNat)) (fun n => s.size + 1 - n) (by
      intro n ⟨hn, hst⟩ ih
      refine W.step (fun k => spec_LineStart.l0.eq_2 ..) ?_
      have hle := nl_le s n
      by_cases hlt : n ≤ s.size
      · have hmono := nl_mono s hlt
        -- going on
        have go : ¬ (nl s n = line ∧ (n = 0 ∨ bt s ((n : Int) - 1) = 10)) → W (fun k => spec_LineStart.j2 k s line (nl s n) n false) (fun r => r = if VT s ∧ 0 ≤ line ∧ line ≤ nl s s.size then (st s line.toNat : Int) else -1) := by
          intro hno
          have next := ih (n + 1) ⟨by omega, fun hle2 => by
            have h1 := hst hle2
            obtain ⟨a, b, c⟩ := st_spec s line.toNat (by omega)
            by_cases e : n = st s line.toNat
            · exfalso; apply hno
              rw [e]
              refine ⟨by omega, ?_⟩
              rcases c with c | c
              · left; rw [c]; rfl
              · right; exact c
            · omega⟩ (by omega)
          refine W.step (fun k => spec_LineStart.j2.eq_2 ..) (W.neg (by decide) ?_)
          rw [show ((n + 1 : Nat) : Int) = (n : Int) + 1 from by omega] at next
          rw [w64 (x := (n : Int) + 1) (by omega) (by omega)]
          by_cases hlt2 : n < s.size
          · rw [nl_step] at next
            rw [w64 (x := (nl s n : Int) + 1) (by omega) (by omega)]
            refine W.pos (by omega) (W.pos (by omega) (W.ite (fun hc => ?_) (fun hc => ?_)))
            · rw [if_pos hc] at next; exact next
            · rw [if_neg hc] at next; exact next
          · refine W.neg (by omega) ?_
            have e : n = s.size := by omega
            rw [show nl s (n + 1) = nl s n from by rw [nl_step, bt_out s (by omega), if_neg (by omega)]; rfl] at next
            exact next
        have found : (nl s n : Int) = line → (n = 0 ∨ bt s ((n : Int) - 1) = 10) → W (fun k => spec_LineStart.j2 k s line (nl s n) n true) (fun r => r = if VT s ∧ 0 ≤ line ∧ line ≤ nl s s.size then (st s line.toNat : Int) else -1) := by
          intro h1 h2
          refine W.step (fun k => spec_LineStart.j2.eq_2 ..) (W.pos rfl (W.ret ?_))
          rw [if_pos ⟨hv, by omega, by omega⟩]
          obtain ⟨a, b, c⟩ := st_spec s line.toNat (by omega)
          have c' : st s line.toNat = 0 ∨ bt s ((st s line.toNat : Int) - 1) = 10 := by
            rcases c with c | c
            · left; rw [c]; rfl
            · right; exact c
          rw [start_uniq s (p := n) (q := st s line.toNat) (by omega) h2 c']
        refine W.pos (by omega) (W.ite (fun h1 => W.ite (fun h2 => found h1 (.inl (by omega))) (fun h2 => ?_)) (fun h1 => go (fun h => h1 (by omega))))
        rw [w64 (x := (n : Int) - 1) (by omega) (by omega)]
        refine W.pos (by omega) (W.pos (by omega) ?_)
        by_cases h3 : bt s ((n : Int) - 1) = 10
        · rw [show (bt s ((n : Int) - 1) == 10) = true from by simpa using h3]
          exact found h1 (.inr h3)
        · rw [show (bt s ((n : Int) - 1) == 10) = false from by simpa using h3]
          exact go (fun h => by
            rcases h.2 with h | h
            · omega
            · exact h3 h)
      · refine W.neg (by omega) (W.ret ?_)
        rw [if_neg]
        intro h
        have := hst h.2.2
        have := (st_spec s line.toNat (by omega)).1
        omega) 0 ⟨by omega, fun _ => by omega⟩
    exact key

theorem specLineEnd (s : ByteArray) (line : Int) (hs : s.size ≤ 140737488351232) : W (fun k => spec_LineEnd.f k s line) (fun r => r = if VT s ∧ 0 ≤ line ∧ line ≤ nl s s.size then (en s line.toNat : Int) else -1) := by
  unfold spec_LineEnd.f
  refine W.bind_eq (specLineStart s line hs) ?_
  by_cases hv : VT s ∧ 0 ≤ line ∧ line ≤ nl s s.size
  · rw [if_pos hv, if_pos hv]
    obtain ⟨a, b, c, d, e⟩ := en_spec s (k := line.toNat) (by omega)
    have hsz := hv.1.1
    refine W.loop (l := fun (i : Int) k => spec_LineEnd.l0 k s i) (P := fun _ r => r = (en s line.toNat : Int)) (fun i => (st s line.toNat : Int) ≤ i ∧ i ≤ en s line.toNat) (fun i => (en s line.toNat - i).toNat) ?_ (st s line.toNat : Int) ⟨by omega, by omega⟩
    intro i ⟨h0, h1⟩ ih
    refine W.step (fun k => spec_LineEnd.l0.eq_2 ..) (W.pos (by omega) ?_)
    refine W.ite (fun hlt => W.pos (by omega) (W.ite (fun hc => W.ret ?_) (fun hc => ?_))) (fun hge => W.ret (by omega))
    · by_cases h2 : i < en s line.toNat
      · exact absurd hc (c i h0 h2)
      · omega
    · rw [w64 (x := i + 1) (by omega) (by omega)]
      have hne : i ≠ en s line.toNat := fun e2 => hc (by rw [e2]; exact d (by omega))
      exact ih (i + 1) ⟨by omega, by omega⟩ (by omega)
  · rw [if_neg hv, if_neg hv]
    exact W.step (fun k => spec_LineEnd.l0.eq_2 ..) (W.neg (by omega) (W.ret rfl))
end Go.Proofs.YtdpnfdoplahfgaaDoor.Ev
/- The plain law of folds: how deep lines stand, where folds end, which lines are hidden. No program in sight. -/
namespace Go.Proofs.YtdpnfdoplahfgaaDoor.ThF
open Go.RowKit Go.Proofs.YtdpnfdoplahfgaaDoorW.PrintWords Go.Proofs.YtdpnfdoplahfgaaDoor.Ev Go.Proofs.YtdpnfdoplahfgaaDoor.ThL Go.Proofs.YtdpnfdoplahfgaaDoor.ThT Go.Proofs.YtdpnfdoplahfgaaDoor.ThB
set_option linter.unusedVariables false
set_option linter.unusedSimpArgs false

/-- How many spaces a text begins with. -/
def leadA (s : ByteArray) : Nat → Nat → Nat
  | 0, p => p
  | d + 1, p => if bt s p = 32 then leadA s d (p + 1) else p
def lead (s : ByteArray) : Nat := leadA s s.size 0
theorem leadA_spec (s : ByteArray) : ∀ d p, p + d = s.size → p ≤ leadA s d p ∧ leadA s d p ≤ s.size ∧ (∀ j : Int, p ≤ j → j < leadA s d p → bt s j = 32) ∧ (leadA s d p < s.size → bt s (leadA s d p) ≠ 32)
  | 0, p, h => ⟨Nat.le_refl _, by simp [leadA]; omega, fun j h0 h1 => by simp [leadA] at h1; omega, fun h1 => by simp [leadA] at h1; omega⟩
  | d + 1, p, h => by
    unfold leadA
    by_cases c : bt s p = 32
    · rw [if_pos c]
      obtain ⟨h1, h2, h3, h4⟩ := leadA_spec s d (p + 1) (by omega)
      refine ⟨by omega, h2, fun j h5 h6 => ?_, h4⟩
      by_cases e : j = p
      · subst e; exact c
      · exact h3 j (by omega) h6
    · rw [if_neg c]; exact ⟨Nat.le_refl _, by omega, fun j h0 h1 => by omega, fun _ => c⟩
theorem lead_spec (s : ByteArray) : lead s ≤ s.size ∧ (∀ j : Int, 0 ≤ j → j < lead s → bt s j = 32) ∧ (lead s < s.size → bt s (lead s) ≠ 32) := by
  obtain ⟨_, b, c, d⟩ := leadA_spec s s.size 0 (by omega)
  exact ⟨b, fun j h0 h1 => c j (by omega) h1, d⟩
theorem lead_uniq (s : ByteArray) {n : Nat} (h : n ≤ s.size) (h1 : ∀ j : Int, 0 ≤ j → j < n → bt s j = 32) (h2 : n < s.size → bt s n ≠ 32) : n = lead s := by
  obtain ⟨a, b, c⟩ := lead_spec s
  by_cases hlt : n < lead s
  · exact absurd (b n (by omega) (by omega)) (h2 (by omega))
  · by_cases hgt : lead s < n
    · exact absurd (h1 (lead s) (by omega) (by omega)) (c (by omega))
    · omega
/-- The indentation of a line; -1 for one of spaces only. -/
def indT (t : ByteArray) : Int := if lead t = t.size then -1 else lead t
def ind (s : ByteArray) (k : Nat) : Int := indT (lineAt s k)
theorem indT_ge (t : ByteArray) : -1 ≤ indT t := by unfold indT; split <;> omega
/-- Line after line: the last line of a fold so far. -/
def fgo (f : Nat → Int) (d : Int) : Nat → Nat → Nat → Nat
  | 0, out, _ => out
  | t + 1, out, j => if 0 ≤ f j ∧ f j ≤ d then out else if 0 ≤ f j then fgo f d t j (j + 1) else fgo f d t out (j + 1)
theorem fgo_spec (f : Nat → Int) (d : Int) : ∀ t out j, out < j → out ≤ fgo f d t out j ∧ (fgo f d t out j = out ∨ (j ≤ fgo f d t out j ∧ fgo f d t out j < j + t ∧ f (fgo f d t out j) > d ∧ 0 ≤ f (fgo f d t out j))) ∧ ∀ i, j ≤ i → i ≤ fgo f d t out j → ¬ (0 ≤ f i ∧ f i ≤ d)
  | 0, out, j, h => ⟨Nat.le_refl _, .inl rfl, fun i h1 h2 => by simp only [fgo] at h2; omega⟩
  | t + 1, out, j, h => by
    unfold fgo
    by_cases c : 0 ≤ f j ∧ f j ≤ d
    · rw [if_pos c]; exact ⟨Nat.le_refl _, .inl rfl, fun i h1 h2 => by omega⟩
    · rw [if_neg c]
      by_cases c2 : 0 ≤ f j
      · rw [if_pos c2]
        obtain ⟨a, b, e⟩ := fgo_spec f d t j (j + 1) (by omega)
        refine ⟨by omega, .inr ?_, fun i h1 h2 => ?_⟩
        · rcases b with b | ⟨b1, b2, b3, b4⟩
          · rw [b]; exact ⟨Nat.le_refl _, by omega, by omega, c2⟩
          · exact ⟨by omega, by omega, b3, b4⟩
        · by_cases e2 : i = j
          · subst e2; exact c
          · exact e i (by omega) h2
      · rw [if_neg c2]
        obtain ⟨a, b, e⟩ := fgo_spec f d t out (j + 1) (by omega)
        refine ⟨a, ?_, fun i h1 h2 => ?_⟩
        · rcases b with b | ⟨b1, b2, b3, b4⟩
          · exact .inl b
          · exact .inr ⟨by omega, by omega, b3, b4⟩
        · by_cases e2 : i = j
          · subst e2; exact c
          · exact e i (by omega) h2
/-- The last line of the fold of line k, of n lines. -/
def fend (f : Nat → Int) (n k : Nat) : Nat := if 0 ≤ f k then fgo f (f k) (n - (k + 1)) k (k + 1) else k
theorem fend_spec (f : Nat → Int) {n k : Nat} (h : k < n) : k ≤ fend f n k ∧ fend f n k < n ∧ (fend f n k = k ∨ (f (fend f n k) > f k ∧ 0 ≤ f k)) ∧ ∀ i, k < i → i ≤ fend f n k → ¬ (0 ≤ f i ∧ f i ≤ f k) := by
  unfold fend
  by_cases c : 0 ≤ f k
  · rw [if_pos c]
    obtain ⟨a, b, e⟩ := fgo_spec f (f k) (n - (k + 1)) k (k + 1) (by omega)
    refine ⟨a, by omega, ?_, fun i h1 h2 => e i (by omega) h2⟩
    rcases b with b | ⟨b1, b2, b3, b4⟩
    · exact .inl b
    · exact .inr ⟨b3, c⟩
  · rw [if_neg c]; exact ⟨Nat.le_refl _, h, .inl rfl, fun i h1 h2 => by omega⟩

/-- The lines that are not hidden, of the first n. -/
noncomputable def visL (h : Nat → Prop) : Nat → List Int
  | 0 => []
  | n + 1 => open Classical in if h n then visL h n else visL h n ++ [(n : Int)]
theorem visL_hid {h : Nat → Prop} {n : Nat} (c : h n) : visL h (n + 1) = visL h n := by unfold visL; rw [if_pos c]; cases n <;> rfl
theorem visL_see {h : Nat → Prop} {n : Nat} (c : ¬ h n) : visL h (n + 1) = visL h n ++ [(n : Int)] := by
  show (open Classical in if h n then visL h n else visL h n ++ [(n : Int)]) = _
  rw [if_neg c]
theorem visL_len_le (h : Nat → Prop) : ∀ n, (visL h n).length ≤ n
  | 0 => Nat.le_refl _
  | n + 1 => by
    have := visL_len_le h n
    by_cases c : h n
    · rw [visL_hid c]; omega
    · rw [visL_see c, List.length_append]; show _ + 1 ≤ _; omega
/-- Line k is in the fold of one of the first m of some lines. -/
def hidP (f : Nat → Int) (n : Nat) (closed : List Int) (m : Int) (k : Nat) : Prop := ∃ j : Int, 0 ≤ j ∧ j < m ∧ 0 ≤ rd closed j ∧ rd closed j < k ∧ rd closed j < n ∧ k ≤ fend f n (rd closed j).toNat
theorem hidP_zero (f : Nat → Int) (n : Nat) (closed : List Int) (k : Nat) : ¬ hidP f n closed 0 k := fun ⟨j, h0, h1, _⟩ => by omega
theorem hidP_succ (f : Nat → Int) (n : Nat) (closed : List Int) {m : Int} (hm : 0 ≤ m) (k : Nat) : hidP f n closed (m + 1) k ↔ hidP f n closed m k ∨ (0 ≤ rd closed m ∧ rd closed m < k ∧ rd closed m < n ∧ k ≤ fend f n (rd closed m).toNat) := by
  constructor
  · rintro ⟨j, h0, h1, h2⟩
    by_cases e : j = m
    · subst e; exact .inr h2
    · exact .inl ⟨j, h0, by omega, h2⟩
  · rintro (⟨j, h0, h1, h2⟩ | h)
    · exact ⟨j, h0, by omega, h2⟩
    · exact ⟨m, hm, by omega, h⟩
end Go.Proofs.YtdpnfdoplahfgaaDoor.ThF
/- What the printed functions answer, part F: indentation, folds, visible lines. -/
namespace Go.Proofs.YtdpnfdoplahfgaaDoor.Ev
open Go.RowKit Go.Proofs.YtdpnfdoplahfgaaDoor.X Go.Proofs.YtdpnfdoplahfgaaDoor.Wp Go.Proofs.YtdpnfdoplahfgaaDoorW.PrintWords Go.Proofs.YtdpnfdoplahfgaaDoor.ThL Go.Proofs.YtdpnfdoplahfgaaDoor.ThT Go.Proofs.YtdpnfdoplahfgaaDoor.ThB Go.Proofs.YtdpnfdoplahfgaaDoor.ThF
set_option linter.unusedVariables false
set_option linter.unusedSimpArgs false

/-- A line of a text. -/
def isLn (s : ByteArray) (line : Int) : Prop := VT s ∧ 0 ≤ line ∧ line ≤ nl s s.size
noncomputable instance (s : ByteArray) (line : Int) : Decidable (isLn s line) := by unfold isLn; exact Classical.propDecidable _

theorem at_len {l a xs : List UInt8} {x : UInt8} (h : l = a ++ x :: xs) : l[a.length]? = some x := by subst h; simp
theorem drop_len (l : List UInt8) : (l.dropWhile (· == 32)).length + (l.takeWhile (· == 32)).length = l.length := by
  have := congrArg List.length (List.takeWhile_append_dropWhile (p := (· == (32 : UInt8))) (l := l))
  rw [List.length_append] at this; omega
theorem lead_take (t : ByteArray) : (t.data.toList.takeWhile (· == 32)).length = lead t := by
  have hlen : t.data.toList.length = t.size := by rw [Array.length_toList]; rfl
  have hd := drop_len t.data.toList
  apply lead_uniq
  · omega
  · intro j h0 h1
    have hj : j.toNat < (t.data.toList.takeWhile (· == 32)).length := by omega
    have hm := List.all_takeWhile (p := (· == (32 : UInt8))) (l := t.data.toList)
    have hx : (t.data.toList.takeWhile (· == 32))[j.toNat]'hj = 32 := by
      have := List.all_eq_true.1 hm _ (List.getElem_mem hj)
      simpa using this
    have hp := List.takeWhile_prefix (p := (· == (32 : UInt8))) (l := t.data.toList)
    have := hp.getElem hj
    have hg : t.data.toList[j.toNat]? = some 32 := by
      rw [List.getElem?_eq_getElem (by omega), ← this, hx]
    have := ((data_get t j.toNat 32).1 hg).2
    rw [show ((j.toNat : Nat) : Int) = j from by omega] at this
    exact this
  · intro hlt h32
    have hg := (data_get t _ 32).2 ⟨hlt, h32⟩
    have hsplit := List.takeWhile_append_dropWhile (p := (· == (32 : UInt8))) (l := t.data.toList)
    cases hc : t.data.toList.dropWhile (· == 32) with
    | nil => rw [hc] at hd; simp at hd; omega
    | cons x xs =>
      have hne := List.head?_dropWhile_not (· == (32 : UInt8)) t.data.toList
      rw [hc] at hne hsplit
      have := at_len hsplit.symm
      rw [hg] at this
      injection this with this
      subst this
      simp at hne
theorem indentW (t : ByteArray) (ht : t.size ≤ 1000000) : impl_indent.f t = some (indT t) := by
  obtain ⟨R, hR, hRl⟩ : ∃ R : ByteArray, strings_TrimLeft.f t (⟨#[32]⟩ : ByteArray) = some R ∧ R.data.toList = Lib.trimLeftB t.data.toList 32 := by
    refine ⟨⟨(Lib.trimLeftB t.data.toList 32).toArray⟩, ?_, rfl⟩
    unfold strings_TrimLeft.f
    rw [if_pos ⟨rfl, by decide⟩]; rfl
  unfold impl_indent.f
  rw [hR, Option.bind_some]
  have hd := drop_len t.data.toList
  rw [lead_take] at hd
  have hlen : t.data.toList.length = t.size := by rw [Array.length_toList]; rfl
  have hz : R.size = t.size - lead t := by
    have h1 : R.data.toList.length = R.size := by rw [Array.length_toList]; rfl
    rw [← h1, hRl]
    unfold Lib.trimLeftB
    omega
  have hl := (lead_spec t).1
  have hempty : R.toList = [] ↔ R.size = 0 := by
    rw [toList_data]
    have h1 : R.data.toList.length = R.size := by rw [Array.length_toList]; rfl
    rw [← h1]
    exact ⟨fun h => by rw [h]; rfl, fun h => List.eq_nil_of_length_eq_zero h⟩
  unfold indT
  by_cases c : lead t = t.size
  · rw [if_pos c, if_pos (hempty.2 (by omega))]
  · rw [if_neg c, if_neg (fun h => by have := hempty.1 h; omega), w64 (x := (t.size : Int) - (R.size : Int)) (by omega) (by omega)]
    exact congrArg some (by omega)

theorem specIndentOf (s : ByteArray) (line : Int) (hs : s.size ≤ 140737488351232) : W (fun k => spec_IndentOf.f k s line) (fun r => r = if isLn s line then ind s line.toNat else -1) := by
  unfold spec_IndentOf.f
  refine W.bind_eq (specLineStart s line hs) ?_
  by_cases hv : isLn s line
  · rw [if_pos (show VT s ∧ 0 ≤ line ∧ line ≤ nl s s.size from hv), if_pos hv]
    have hsz := hv.1.1
    have hk : line.toNat ≤ nl s s.size := by have := hv.2; omega
    obtain ⟨a, b, c, d, e⟩ := en_spec s hk
    have hz := lineAt_size s hk
    obtain ⟨l1, l2, l3⟩ := lead_spec (lineAt s line.toNat)
    have hle : W (fun k => spec_LineEnd.f k s line) (· = (en s line.toNat : Int)) := (specLineEnd s line hs).mono fun r hr => by rw [hr, if_pos (show VT s ∧ 0 ≤ line ∧ line ≤ nl s s.size from hv)]
    have key := W.loop (l := fun (n : Nat) k => spec_IndentOf.l0 k s line (st s line.toNat) n) (P := fun _ r => r = ind s line.toNat) (fun n : Nat => n ≤ lead (lineAt s line.toNat)) (fun n => lead (lineAt s line.toNat) - n) (by
      intro n hn ih
      refine W.step (fun k => spec_IndentOf.l0.eq_2 ..) (W.pos (by omega) (W.bind_eq hle ?_))
      rw [w64 (x := (st s line.toNat : Int) + n) (by omega) (by omega), w64 (x := (n : Int) + 1) (by omega) (by omega)]
      by_cases hlt : n < lead (lineAt s line.toNat)
      · have next := ih (n + 1) (by omega) (by omega)
        rw [show ((n + 1 : Nat) : Int) = (n : Int) + 1 from by omega] at next
        have hb := l2 n (by omega) (by omega)
        rw [lineAt_bt s hk (by omega) (by omega)] at hb
        exact W.pos (by omega) (W.pos (by omega) (W.pos (by omega) (W.pos hb next)))
      · have e : n = lead (lineAt s line.toNat) := by omega
        have fin : W (fun k => (spec_LineEnd.f k s line).bind fun t107 => if (st s line.toNat : Int) + n = t107 then some (-1) else some (n : Int)) (fun r => r = ind s line.toNat) := by
          refine W.bind_eq hle (W.ite (fun h1 => W.ret ?_) (fun h1 => W.ret ?_))
          · unfold ind indT; rw [if_pos (by omega)]
          · unfold ind indT; rw [if_neg (by omega), e]
        by_cases hend : n < (lineAt s line.toNat).size
        · have hb := l3 (by omega)
          rw [← e, lineAt_bt s hk (by omega) (by omega)] at hb
          exact W.pos (by omega) (W.pos (by omega) (W.pos (by omega) (W.neg hb (W.neg (by omega) fin))))
        · exact W.neg (by omega) (W.neg (by omega) fin)) 0 (by omega)
    exact key
  · rw [if_neg (show ¬ (VT s ∧ 0 ≤ line ∧ line ≤ nl s s.size) from hv), if_neg hv]
    exact W.step (fun k => spec_IndentOf.l0.eq_2 ..) (W.neg (by omega) (W.pos (by omega) (W.ret rfl)))

/-- How many lines there are; the last line of a line's fold. -/
def lnN (s : ByteArray) : Nat := nl s s.size + 1
def fe (s : ByteArray) (k : Nat) : Nat := fend (ind s) (lnN s) k
theorem ind_ge (s : ByteArray) (k : Nat) : -1 ≤ ind s k := indT_ge _

theorem specFoldEnd (s : ByteArray) (line : Int) (hs : s.size ≤ 140737488351232) : W (fun k => spec_FoldEnd.f k s line) (fun r => r = if isLn s line then (fe s line.toNat : Int) else -1) := by
  unfold spec_FoldEnd.f
  refine W.bind_eq (specLineStart s line hs) ?_
  by_cases hv : isLn s line
  · rw [if_pos (show VT s ∧ 0 ≤ line ∧ line ≤ nl s s.size from hv), if_pos hv]
    have hsz := hv.1.1
    have h01 := hv.2
    have fin := nl_le s s.size
    refine W.neg (by omega) (W.bind_eq (specIndentOf s line hs) ?_)
    rw [if_pos hv, w64 (x := line + 1) (by omega) (by omega)]
    obtain ⟨i, hi⟩ : ∃ i, i = line.toNat := ⟨_, rfl⟩
    have hi2 : line = i := by omega
    subst hi2
    rw [Int.toNat_natCast]
    have hge := ind_ge s i
    have stop : ∀ (out j : Nat), W (fun k => spec_FoldEnd.j1 k s (ind s i) out j false) (fun r => r = (out : Int)) := fun out j => W.step (fun k => spec_FoldEnd.j1.eq_2 ..) (W.neg (by decide) (W.ret rfl))
    by_cases hneg : ind s i < 0
    · refine W.step (fun k => spec_FoldEnd.l0.eq_2 ..) (W.neg (by omega) ?_)
      unfold fe fend
      rw [if_neg (by omega)]
      exact stop i (i + 1)
    · have e1 : fe s i = fgo (ind s) (ind s i) (lnN s - (i + 1)) i (i + 1) := by unfold fe fend; rw [if_pos (by omega)]
      have key := W.loop (l := fun (z : Nat × Nat) k => spec_FoldEnd.l0 k s (ind s i) (z.1 : Int) (z.2 : Int)) (P := fun z r => r = (fgo (ind s) (ind s i) (lnN s - z.2) z.1 z.2 : Int)) (fun z => z.2 ≤ lnN s) (fun z => lnN s - z.2) (by
        rintro ⟨out, j⟩ hj ih
        dsimp only at hj ⊢
        have hN : lnN s = nl s s.size + 1 := rfl
        refine W.step (fun k => spec_FoldEnd.l0.eq_2 ..) (W.pos (by omega) (W.bind_eq (specLineMany s hs) ?_))
        rw [if_pos hv.1]
        by_cases hlt : j < lnN s
        · rw [decide_eq_true (show (j : Int) < (nl s s.size : Int) + 1 by omega)]
          refine W.step (fun k => spec_FoldEnd.j1.eq_2 ..) (W.pos rfl (W.bind_eq (specIndentOf s j hs) ?_))
          rw [if_pos (show isLn s j from ⟨hv.1, by omega, by omega⟩), Int.toNat_natCast]
          have e2 : lnN s - j = (lnN s - (j + 1)) + 1 := by omega
          rw [e2]
          unfold fgo
          have n1 := ih (j, j + 1) (by dsimp only; omega) (by dsimp only; omega)
          have n2 := ih (out, j + 1) (by dsimp only; omega) (by dsimp only; omega)
          dsimp only at n1 n2
          rw [show ((j + 1 : Nat) : Int) = (j : Int) + 1 from by omega] at n1 n2
          by_cases h0 : 0 ≤ ind s j
          · refine W.pos (by omega) ?_
            by_cases hd : ind s j ≤ ind s i
            · rw [decide_eq_true hd, if_pos ⟨h0, hd⟩]
              exact W.step (fun k => spec_FoldEnd.j2.eq_2 ..) (W.pos rfl (W.ret rfl))
            · rw [decide_eq_false hd, if_neg (fun h => hd h.2), if_pos h0]
              refine W.step (fun k => spec_FoldEnd.j2.eq_2 ..) (W.neg (by decide) (W.pos (by omega) ?_))
              rw [w64 (x := (j : Int) + 1) (by omega) (by omega)]
              exact n1
          · refine W.neg (by omega) ?_
            rw [if_neg (fun h => h0 h.1), if_neg h0]
            refine W.step (fun k => spec_FoldEnd.j2.eq_2 ..) (W.neg (by decide) (W.neg (by omega) ?_))
            rw [w64 (x := (j : Int) + 1) (by omega) (by omega)]
            exact n2
        · rw [decide_eq_false (show ¬ (j : Int) < (nl s s.size : Int) + 1 by omega), show lnN s - j = 0 from by omega]
          exact stop out j) (i, i + 1) (by dsimp only [lnN]; omega)
      rw [e1]
      exact key
  · rw [if_neg (show ¬ (VT s ∧ 0 ≤ line ∧ line ≤ nl s s.size) from hv), if_neg hv]
    exact W.pos (by omega) (W.ret rfl)

/-- The ends of all folds, of the first i lines; zeroes behind. -/
theorem foldEndsW (s : ByteArray) (hs : s.size ≤ 1000000) : W (fun k => impl_foldEnds.f k s) (fun r => r = tab (fun i => (fe s i : Int)) (lnN s)) := by
  unfold impl_foldEnds.f
  have fin := nl_le s s.size
  have hN : lnN s = nl s s.size + 1 := rfl
  refine W.bind_eq (linesOfW s hs) ?_
  have hl := lines_len s
  rw [hl, Int.toNat_natCast]
  refine W.pos (by omega) (W.pos (by omega) ?_)
  rw [← hN]
  have hz : ∀ k, (lineAt s k).size ≤ 1000000 := fun k => by unfold lineAt; rw [ByteArray.size_extract]; omega
  have key := W.loop (l := fun (i : Nat) k => impl_foldEnds.l0 k (lines s) (tab (fun i => (fe s i : Int)) i ++ List.replicate (lnN s - i) 0) (lines s) (lnN s) i) (P := fun _ r => r = tab (fun i => (fe s i : Int)) (lnN s)) (fun i : Nat => i ≤ lnN s) (fun i => lnN s - i) (by
    intro i hi ih
    refine W.step (fun k => impl_foldEnds.l0.eq_2 ..) ?_
    have hlen : (tab (fun i => (fe s i : Int)) i ++ List.replicate (lnN s - i) (0 : Int)).length = lnN s := by rw [List.length_append, tab_len, List.length_replicate]; omega
    by_cases hlt : i < lnN s
    · have next := ih (i + 1) (by omega) (by omega)
      rw [show ((i + 1 : Nat) : Int) = (i : Int) + 1 from by omega] at next
      refine W.pos (by omega) (W.pos (by omega) (W.pos (by omega) (W.pos (by omega) (W.name ?_))))
      rw [lines_get s (by omega) (by omega), Int.toNat_natCast, w64 (x := (i : Int) + 1) (by omega) (by omega)]
      refine W.call (indentW _ (hz i)) ?_
      -- what stands there when line i's last line so far is o
      have lay : ∀ o : Nat, ((tab (fun i => (fe s i : Int)) i ++ List.replicate (lnN s - i) (0 : Int)).set i (o : Int)) = tab (fun i => (fe s i : Int)) i ++ (o : Int) :: List.replicate (lnN s - (i + 1)) (0 : Int) := by
        intro o
        have ht := tab_len (fun i => (fe s i : Int)) i
        rw [List.set_append_right _ _ (by omega), ht, Nat.sub_self, show lnN s - i = (lnN s - (i + 1)) + 1 from by omega, List.replicate_succ, List.set_cons_zero]
      have lay2 : ∀ (o p : Nat), (tab (fun i => (fe s i : Int)) i ++ (o : Int) :: List.replicate (lnN s - (i + 1)) (0 : Int)).set i (p : Int) = tab (fun i => (fe s i : Int)) i ++ (p : Int) :: List.replicate (lnN s - (i + 1)) (0 : Int) := by
        intro o p
        have ht := tab_len (fun i => (fe s i : Int)) i
        rw [List.set_append_right _ _ (by omega), ht, Nat.sub_self, List.set_cons_zero]
      have done : ∀ o : Nat, fe s i = o → tab (fun i => (fe s i : Int)) i ++ (o : Int) :: List.replicate (lnN s - (i + 1)) (0 : Int) = tab (fun i => (fe s i : Int)) (i + 1) ++ List.replicate (lnN s - (i + 1)) (0 : Int) := by
        intro o ho
        rw [tab_succ, ho, List.append_assoc]; rfl
      rw [lay i]
      have hge := ind_ge s i
      have hdef : indT (lineAt s i) = ind s i := rfl
      rw [hdef]
      by_cases hneg : ind s i < 0
      · refine W.pos hneg ?_
        rw [done i (by unfold fe fend; rw [if_neg (by omega)])]
        exact next
      · refine W.neg hneg ?_
        have e1 : fe s i = fgo (ind s) (ind s i) (lnN s - (i + 1)) i (i + 1) := by unfold fe fend; rw [if_pos (by omega)]
        have fin2 : ∀ o : Nat, fe s i = o → W (fun k => impl_foldEnds.l0 k (lines s) (tab (fun i => (fe s i : Int)) i ++ (o : Int) :: List.replicate (lnN s - (i + 1)) (0 : Int)) (lines s) (lnN s) ((i : Int) + 1)) (fun r => r = tab (fun i => (fe s i : Int)) (lnN s)) := fun o ho => by rw [done o ho]; exact next
        have inner := W.loop (l := fun (z : Nat × Nat) k => impl_foldEnds.l1 k (lines s) (tab (fun i => (fe s i : Int)) i ++ (z.1 : Int) :: List.replicate (lnN s - (i + 1)) (0 : Int)) i (ind s i) z.2 (lines s) (lnN s) i) (P := fun _ r => r = tab (fun i => (fe s i : Int)) (lnN s)) (fun z => z.2 ≤ lnN s ∧ fe s i = fgo (ind s) (ind s i) (lnN s - z.2) z.1 z.2) (fun z => lnN s - z.2) (by
          rintro ⟨o, j⟩ ⟨hj, hf⟩ ih2
          dsimp only at hj hf ⊢
          refine W.step (fun k => impl_foldEnds.l1.eq_2 ..) ?_
          rw [w64 (x := (i : Int) + 1) (by omega) (by omega)]
          by_cases hjl : j < lnN s
          · rw [show lnN s - j = (lnN s - (j + 1)) + 1 from by omega] at hf
            unfold fgo at hf
            refine W.pos (by omega) (W.pos (by omega) ?_)
            rw [lines_get s (by omega) (by omega), Int.toNat_natCast]
            refine W.call (indentW _ (hz j)) ?_
            rw [show indT (lineAt s j) = ind s j from rfl]
            by_cases h0 : 0 ≤ ind s j
            · refine W.pos (by omega) ?_
              by_cases hd : ind s j ≤ ind s i
              · rw [decide_eq_true hd]
                rw [if_pos ⟨h0, hd⟩] at hf
                refine W.step (fun k => impl_foldEnds.j2.eq_2 ..) (W.pos rfl ?_)
                rw [w64 (x := (i : Int) + 1) (by omega) (by omega)]
                exact fin2 o hf
              · rw [decide_eq_false hd]
                rw [if_neg (fun h => hd h.2), if_pos h0] at hf
                refine W.step (fun k => impl_foldEnds.j2.eq_2 ..) (W.neg (by decide) (W.pos (by omega) (W.pos (by omega) (W.pos ?_ ?_))))
                · have ht := tab_len (fun i => (fe s i : Int)) i
                  rw [List.length_append, ht, List.length_cons]; omega
                · rw [w64 (x := (j : Int) + 1) (by omega) (by omega), Int.toNat_natCast, lay2 o j]
                  have := ih2 (j, j + 1) ⟨by dsimp only; omega, by dsimp only; exact hf⟩ (by dsimp only; omega)
                  dsimp only at this
                  rw [show ((j + 1 : Nat) : Int) = (j : Int) + 1 from by omega] at this
                  exact this
            · refine W.neg (by omega) ?_
              rw [if_neg (fun h => h0 h.1), if_neg h0] at hf
              refine W.step (fun k => impl_foldEnds.j2.eq_2 ..) (W.neg (by decide) (W.neg (by omega) ?_))
              rw [w64 (x := (j : Int) + 1) (by omega) (by omega)]
              have := ih2 (o, j + 1) ⟨by dsimp only; omega, by dsimp only; exact hf⟩ (by dsimp only; omega)
              dsimp only at this
              rw [show ((j + 1 : Nat) : Int) = (j : Int) + 1 from by omega] at this
              exact this
          · rw [show lnN s - j = 0 from by omega] at hf
            exact W.neg (by omega) (fin2 o hf)) (i, i + 1) ⟨by dsimp only; omega, by dsimp only; exact e1⟩
        dsimp only at inner
        rw [show ((i + 1 : Nat) : Int) = (i : Int) + 1 from by omega] at inner
        exact inner
    · have e : i = lnN s := by omega
      subst e
      refine W.neg (by omega) (W.ret ?_)
      rw [Nat.sub_self, List.replicate_zero, List.append_nil]) 0 (by omega)
  exact key
end Go.Proofs.YtdpnfdoplahfgaaDoor.Ev
/- What the printed functions answer, part F2: in whose fold a line is; the lines that are seen. -/
namespace Go.Proofs.YtdpnfdoplahfgaaDoor.Ev
open Go.RowKit Go.Proofs.YtdpnfdoplahfgaaDoor.X Go.Proofs.YtdpnfdoplahfgaaDoor.Wp Go.Proofs.YtdpnfdoplahfgaaDoorW.PrintWords Go.Proofs.YtdpnfdoplahfgaaDoor.ThL Go.Proofs.YtdpnfdoplahfgaaDoor.ThT Go.Proofs.YtdpnfdoplahfgaaDoor.ThB Go.Proofs.YtdpnfdoplahfgaaDoor.ThF
set_option linter.unusedVariables false
set_option linter.unusedSimpArgs false

/-- The last line before k whose fold has 'line'. -/
def faN (s : ByteArray) (line : Nat) : Nat → Int
  | 0 => -1
  | k + 1 => if line ≤ fe s k then (k : Int) else faN s line k
def fa (s : ByteArray) (line : Nat) : Int := faN s line line
theorem faN_spec (s : ByteArray) (line : Nat) : ∀ k, (faN s line k = -1 ∧ ∀ c, c < k → ¬ line ≤ fe s c) ∨ ∃ c : Nat, faN s line k = c ∧ c < k ∧ line ≤ fe s c
  | 0 => .inl ⟨rfl, fun c h => by omega⟩
  | k + 1 => by
    unfold faN
    by_cases h : line ≤ fe s k
    · rw [if_pos h]; exact .inr ⟨k, rfl, by omega, h⟩
    · rw [if_neg h]
      rcases faN_spec s line k with ⟨a, b⟩ | ⟨c, a, b, d⟩
      · refine .inl ⟨a, fun c hc => ?_⟩
        by_cases e : c = k
        · subst e; exact h
        · exact b c (by omega)
      · exact .inr ⟨c, a, by omega, d⟩

theorem specFoldAround (s : ByteArray) (line : Int) (hs : s.size ≤ 140737488351232) : W (fun k => spec_FoldAround.f k s line) (fun r => r = if isLn s line then fa s line.toNat else -1) := by
  unfold spec_FoldAround.f
  by_cases hv : isLn s line
  · rw [if_pos hv]
    have h01 := hv.2
    have hsz := hv.1.1
    have fin := nl_le s s.size
    obtain ⟨i, hi⟩ : ∃ i, i = line.toNat := ⟨_, rfl⟩
    have hi2 : line = i := by omega
    subst hi2
    rw [Int.toNat_natCast, w64 (x := (i : Int) - 1) (by omega) (by omega)]
    have key := W.loop (l := fun (n : Nat) k => spec_FoldAround.l0 k s i ((n : Int) - 1)) (P := fun n r => r = faN s i n) (fun n => n ≤ i) (fun n => n) (by
      intro n hn ih
      refine W.step (fun k => spec_FoldAround.l0.eq_2 ..) ?_
      cases n with
      | zero => exact W.neg (by omega) (W.step (fun k => spec_FoldAround.j1.eq_2 ..) (W.neg (by decide) (W.ret rfl)))
      | succ n =>
        have next := ih n (by omega) (by omega)
        refine W.pos (by omega) (W.bind_eq (specLineStart s i hs) ?_)
        rw [if_pos (show VT s ∧ 0 ≤ (i : Int) ∧ (i : Int) ≤ nl s s.size from hv), decide_eq_true (show (st s (i : Int).toNat : Int) ≥ 0 by omega)]
        refine W.step (fun k => spec_FoldAround.j1.eq_2 ..) (W.pos rfl (W.bind_eq (specFoldEnd s _ hs) ?_))
        rw [show ((n + 1 : Nat) : Int) - 1 = n from by omega, if_pos (show isLn s n from ⟨hv.1, by omega, by omega⟩), Int.toNat_natCast, w64 (x := (n : Int) - 1) (by omega) (by omega)]
        unfold faN
        by_cases h : i ≤ fe s n
        · rw [if_pos h]; exact W.pos (by omega) (W.ret rfl)
        · rw [if_neg h]; exact W.neg (by omega) next) i (Nat.le_refl _)
    exact key
  · rw [if_neg hv]
    have stop : ∀ x, W (fun k => spec_FoldAround.j1 k s line x false) (fun r => r = -1) := fun x => W.step (fun k => spec_FoldAround.j1.eq_2 ..) (W.neg (by decide) (W.ret rfl))
    refine W.step (fun k => spec_FoldAround.l0.eq_2 ..) (W.ite (fun _ => W.bind_eq (specLineStart s line hs) ?_) (fun _ => stop _))
    rw [if_neg (show ¬ (VT s ∧ 0 ≤ line ∧ line ≤ nl s s.size) from hv)]
    exact stop _
theorem implFoldAround (s : ByteArray) (line : Int) (hs : s.size ≤ 140737488351232) : W (fun k => impl_FoldAround.f k s line) (fun r => r = if isLn s line then fa s line.toNat else -1) := by
  unfold impl_FoldAround.f
  refine W.bind (implIsLine s line hs) (fun b hb => W.ite (fun h => ?_) (fun h => W.ret (by rw [if_neg (show ¬ isLn s line from fun hv => h (hb.2 hv))])))
  have hv : isLn s line := hb.1 h
  have h01 := hv.2
  have hsz := hv.1.1
  have fin := nl_le s s.size
  have hN : lnN s = nl s s.size + 1 := rfl
  rw [if_pos hv]
  have ht := tab_len (fun i => (fe s i : Int)) (lnN s)
  refine W.bind_eq (foldEndsW s (by omega)) ?_
  obtain ⟨i, hi⟩ : ∃ i, i = line.toNat := ⟨_, rfl⟩
  have hi2 : line = i := by omega
  subst hi2
  rw [Int.toNat_natCast, w64 (x := (i : Int) - 1) (by omega) (by omega)]
  have key := W.loop (l := fun (n : Nat) k => impl_FoldAround.l0 k i (tab (fun i => (fe s i : Int)) (lnN s)) ((n : Int) - 1)) (P := fun n r => r = faN s i n) (fun n => n ≤ i) (fun n => n) (by
    intro n hn ih
    refine W.step (fun k => impl_FoldAround.l0.eq_2 ..) ?_
    cases n with
    | zero => exact W.neg (by omega) (W.ret rfl)
    | succ n =>
      have next := ih n (by omega) (by omega)
      rw [show ((n + 1 : Nat) : Int) - 1 = n from by omega, w64 (x := (n : Int) - 1) (by omega) (by omega)]
      refine W.pos (by omega) (W.pos (by omega) (W.pos (by omega) ?_))
      rw [rd_tab _ _ (by omega) (by omega), Int.toNat_natCast]
      unfold faN
      by_cases h : i ≤ fe s n
      · rw [if_pos h]; exact W.pos (by omega) (W.ret rfl)
      · rw [if_neg h]; exact W.neg (by omega) next) i (Nat.le_refl _)
  exact key

/-- The lines that are seen. -/
def hid (s : ByteArray) (closed : List Int) (k : Nat) : Prop := hidP (ind s) (lnN s) closed closed.length k
noncomputable def vis (s : ByteArray) (closed : List Int) : List Int := open Classical in if VT s ∧ closed.length ≤ 120 then visL (hid s closed) (lnN s) else []
theorem fold_hid (s : ByteArray) (closed : List Int) {m : Int} {k : Nat} (hm : 0 ≤ m) (hk : k < lnN s) (hv : VT s) (b : Prop) (hb : b ↔ rd closed m < k ∧ (k : Int) ≤ (if isLn s (rd closed m) then (fe s (rd closed m).toNat : Int) else -1)) : (hidP (ind s) (lnN s) closed m k ∨ b) ↔ hidP (ind s) (lnN s) closed (m + 1) k := by
  rw [hidP_succ _ _ _ hm, hb]
  have hN : lnN s = nl s s.size + 1 := rfl
  by_cases hl : isLn s (rd closed m)
  · rw [if_pos hl]
    have := hl.2
    constructor
    · rintro (h | ⟨h1, h2⟩)
      · exact .inl h
      · exact .inr ⟨by omega, h1, by omega, by show k ≤ fe s _; omega⟩
    · rintro (h | ⟨h0, h1, h3, h2⟩)
      · exact .inl h
      · exact .inr ⟨h1, by have : k ≤ fe s (rd closed m).toNat := h2; omega⟩
  · rw [if_neg hl]
    constructor
    · rintro (h | ⟨h1, h2⟩)
      · exact .inl h
      · omega
    · rintro (h | ⟨h0, h1, h3, h2⟩)
      · exact .inl h
      · exact absurd ⟨hv, h0, by omega⟩ hl

theorem implVisible (s : ByteArray) (closed : List Int) (hs : s.size ≤ 140737488351232) (hc : closed.length ≤ 140737488351232) : W (fun k => impl_VisibleLines.f k s closed) (fun r => r = vis s closed) := by
  unfold impl_VisibleLines.f
  have none : ¬ (VT s ∧ closed.length ≤ 120) → W (fun k => impl_VisibleLines.j0 k s closed true) (fun r => r = vis s closed) := fun hg => W.step (fun k => impl_VisibleLines.j0.eq_2 ..) (W.pos rfl (W.ret (by unfold vis; rw [if_neg hg])))
  refine W.bind (implTV s hs) (fun b hb => W.ite (fun h => ?_) (fun h => none (fun hg => h (hb.2 hg.1))))
  have hv := hb.1 h
  by_cases hlong : (closed.length : Int) > 120
  · rw [decide_eq_true hlong]; exact none (fun hg => by have := hg.2; omega)
  rw [decide_eq_false hlong]
  have hg : VT s ∧ closed.length ≤ 120 := ⟨hv, by omega⟩
  have e : vis s closed = visL (hid s closed) (lnN s) := by unfold vis; rw [if_pos hg]
  rw [e]
  have hsz := hv.1
  have fin := nl_le s s.size
  have hN : lnN s = nl s s.size + 1 := rfl
  have ht := tab_len (fun i => (fe s i : Int)) (lnN s)
  refine W.step (fun k => impl_VisibleLines.j0.eq_2 ..) (W.neg (by decide) (W.bind_eq (foldEndsW s (by omega)) ?_))
  rw [ht, Int.toNat_natCast]
  refine W.pos (by omega) (W.pos (by omega) ?_)
  -- the last loop
  have last : ∀ H : List Bool, H.length = lnN s → (∀ k : Nat, k < lnN s → (rdOf false H k = true ↔ hid s closed k)) → W (fun k => impl_VisibleLines.l2 k [] H H.length 0) (fun r => r = visL (hid s closed) (lnN s)) := by
    intro H hl hH
    have key := W.loop (l := fun (n : Nat) k => impl_VisibleLines.l2 k (visL (hid s closed) n) H H.length n) (P := fun _ r => r = visL (hid s closed) (lnN s)) (fun n => n ≤ lnN s) (fun n => lnN s - n) (by
      intro n hn ih
      refine W.step (fun k => impl_VisibleLines.l2.eq_2 ..) ?_
      have hvl := visL_len_le (hid s closed) n
      by_cases hlt : n < lnN s
      · have next := ih (n + 1) (by omega) (by omega)
        rw [show ((n + 1 : Nat) : Int) = (n : Int) + 1 from by omega] at next
        rw [w64 (x := (n : Int) + 1) (by omega) (by omega)]
        refine W.pos (by omega) (W.pos (by omega) (W.pos (by omega) (W.ite (fun h1 => ?_) (fun h1 => W.pos (by omega) ?_))))
        · rw [visL_hid ((hH n hlt).1 h1)] at next; exact next
        · rw [visL_see (fun h2 => h1 ((hH n hlt).2 h2))] at next; exact next
      · have en : n = lnN s := by omega
        subst en
        exact W.neg (by omega) (W.ret rfl)) 0 (by omega)
    exact key
  have outer := W.loop (l := fun (z : List Bool × Int) k => impl_VisibleLines.l0 k s (tab (fun i => (fe s i : Int)) (lnN s)) z.1 closed closed.length z.2) (P := fun _ r => r = visL (hid s closed) (lnN s)) (fun z => 0 ≤ z.2 ∧ z.2 ≤ closed.length ∧ z.1.length = lnN s ∧ ∀ k : Nat, k < lnN s → (rdOf false z.1 k = true ↔ hidP (ind s) (lnN s) closed z.2 k)) (fun z => (closed.length - z.2).toNat) (by
    rintro ⟨H, m⟩ ⟨m0, m1, hl, hH⟩ ih
    dsimp only at m0 m1 hl hH ⊢
    refine W.step (fun k => impl_VisibleLines.l0.eq_2 ..) ?_
    by_cases hlt : m < closed.length
    · rw [w64 (x := m + 1) (by omega) (by omega)]
      have go : ∀ H' : List Bool, H'.length = lnN s → (∀ k : Nat, k < lnN s → (rdOf false H' k = true ↔ hidP (ind s) (lnN s) closed (m + 1) k)) → W (fun k => impl_VisibleLines.l0 k s (tab (fun i => (fe s i : Int)) (lnN s)) H' closed closed.length (m + 1)) (fun r => r = visL (hid s closed) (lnN s)) := fun H' h1 h2 => ih (H', m + 1) ⟨by dsimp only; omega, by dsimp only; omega, h1, h2⟩ (by dsimp only; omega)
      refine W.pos hlt (W.pos m0 (W.pos hlt (W.bind (implIsLine s _ hs) (fun c hc2 => W.ite (fun h1 => ?_) (fun h1 => go H hl ?_)))))
      · have hln : isLn s (rd closed m) := hc2.1 h1
        have h01 := hln.2
        obtain ⟨c, hcc⟩ : ∃ c, c = (rd closed m).toNat := ⟨_, rfl⟩
        have hce : rd closed m = c := by omega
        have fs := fend_spec (ind s) (n := lnN s) (k := c) (by omega)
        have hfe : fend (ind s) (lnN s) c = fe s c := rfl
        rw [hfe] at fs
        have inner := W.loop (l := fun (z : List Bool × Int) k => impl_VisibleLines.l1 k s (tab (fun i => (fe s i : Int)) (lnN s)) z.1 (rd closed m) z.2 closed closed.length m) (P := fun _ r => r = visL (hid s closed) (lnN s)) (fun z => c + 1 ≤ z.2 ∧ z.2 ≤ fe s c + 1 ∧ z.1.length = lnN s ∧ ∀ k : Nat, k < lnN s → (rdOf false z.1 k = true ↔ (hidP (ind s) (lnN s) closed m k ∨ ((c : Int) < k ∧ (k : Int) < z.2)))) (fun z => (fe s c + 1 - z.2).toNat) (by
          rintro ⟨G, x⟩ ⟨x0, x1, gl, hG⟩ ih2
          dsimp only at x0 x1 gl hG ⊢
          refine W.step (fun k => impl_VisibleLines.l1.eq_2 ..) ?_
          rw [hce]
          refine W.pos (by omega) (W.pos (by omega) ?_)
          rw [rd_tab _ _ (by omega) (by omega), Int.toNat_natCast]
          by_cases hx : x ≤ fe s c
          · rw [w64 (x := x + 1) (by omega) (by omega)]
            have nx := ih2 (G.set x.toNat true, x + 1) ⟨by dsimp only; omega, by dsimp only; omega, by dsimp only; rw [List.length_set]; exact gl, fun k hk => by
              dsimp only
              by_cases ek : (k : Int) = x
              · rw [show (k : Int) = x from ek, rdOf_set_self _ _ _ (by omega) (by omega)]
                simp; right; omega
              · rw [rdOf_set_ne _ _ _ (by omega) (by omega) ek, hG k hk]
                constructor
                · rintro (h | ⟨h2, h3⟩)
                  · exact .inl h
                  · exact .inr ⟨h2, by omega⟩
                · rintro (h | ⟨h2, h3⟩)
                  · exact .inl h
                  · exact .inr ⟨h2, by omega⟩⟩ (by dsimp only; omega)
            dsimp only at nx
            rw [hce] at nx
            exact W.pos hx (W.pos (by omega) (W.pos (by omega) nx))
          · refine W.neg hx ?_
            rw [w64 (x := m + 1) (by omega) (by omega)]
            refine go G gl (fun k hk => ?_)
            rw [hG k hk, ← fold_hid s closed m0 hk hv _ Iff.rfl, if_pos hln, hce, Int.toNat_natCast]
            constructor
            · rintro (h | ⟨h2, h3⟩)
              · exact .inl h
              · exact .inr ⟨h2, by omega⟩
            · rintro (h | ⟨h2, h3⟩)
              · exact .inl h
              · exact .inr ⟨h2, by omega⟩) (H, (c : Int) + 1) ⟨by dsimp only; omega, by dsimp only; omega, hl, fun k hk => by
            dsimp only
            rw [hH k hk]
            exact ⟨.inl, fun h => h.elim id (fun h2 => by omega)⟩⟩
        dsimp only at inner
        rw [w64 (x := rd closed m + 1) (by omega) (by omega), show rd closed m + 1 = (c : Int) + 1 from by omega]
        exact inner
      · intro k hk
        have hnl : ¬ isLn s (rd closed m) := fun h2 => h1 (hc2.2 h2)
        rw [hH k hk, ← fold_hid s closed m0 hk hv _ Iff.rfl, if_neg hnl]
        exact ⟨.inl, fun h => h.elim id (fun h2 => by omega)⟩
    · have em : m = closed.length := by omega
      subst em
      exact W.neg (by omega) (last H hl hH)) (List.replicate (lnN s) false, 0) ⟨by simp, by simp, by simp, fun k hk => by
        dsimp only
        have : rdOf false (List.replicate (lnN s) false) k = false := by
          unfold rdOf
          rw [List.getD_eq_getElem?_getD]
          by_cases hk2 : (k : Int).toNat < lnN s
          · rw [List.getElem?_replicate, if_pos hk2]; rfl
          · rw [List.getElem?_replicate, if_neg hk2]; rfl
        rw [this]
        exact ⟨fun h => by simp at h, fun h => absurd h (hidP_zero _ _ _ _)⟩⟩
  exact outer
end Go.Proofs.YtdpnfdoplahfgaaDoor.Ev
/- What the printed functions answer, part L: 'alive'. -/
namespace Go.Proofs.YtdpnfdoplahfgaaDoor.Ev
open Go.RowKit Go.Proofs.YtdpnfdoplahfgaaDoor.X Go.Proofs.YtdpnfdoplahfgaaDoor.Wp Go.Proofs.YtdpnfdoplahfgaaDoorW.PrintWords
set_option linter.unusedVariables false
set_option linter.unusedSimpArgs false

theorem aliveW : W (fun k => laws_alive.f k) (· = true) := by
  have hv : VT (⟨#[97, 10, 98]⟩ : ByteArray) := by
    refine ⟨by decide, fun j h0 h1 => ?_⟩
    have h3 : ((⟨#[97, 10, 98]⟩ : ByteArray).size : Int) = 3 := rfl
    have : j = 0 ∨ j = 1 ∨ j = 2 := by omega
    rcases this with rfl | rfl | rfl
    · right; decide
    · left; rfl
    · right; decide
  unfold laws_alive.f impl_LineMany.f
  refine W.bind_eq (a := 2) (W.bind_eq (tv_pos (implTV _ (by decide)) hv) (W.pos rfl (W.call (r := 1) rfl (W.ret ?_)))) (W.ret rfl)
  exact w64 (by omega) (by omega)
theorem alive_then : W (fun k => (laws_alive.f k).bind fun t => some t) (· = true) := W.bind_eq aliveW (W.ret rfl)
end Go.Proofs.YtdpnfdoplahfgaaDoor.Ev
/- Reading lists. -/
namespace Go.Proofs.YtdpnfdoplahfgaaDoor.Ev
open Go.RowKit Go.Proofs.YtdpnfdoplahfgaaDoorW.PrintWords
theorem rd_take' (xs : List Int) (n : Nat) {i : Int} (h0 : 0 ≤ i) (h : i < n) : rd (xs.take n) i = rd xs i := by
  unfold rd
  rw [List.getD_eq_getElem?_getD, List.getD_eq_getElem?_getD, List.getElem?_take, if_pos (by omega)]
end Go.Proofs.YtdpnfdoplahfgaaDoor.Ev
/- What the printed functions answer, part D: drawn texts. They end, and what they draw is short. -/
namespace Go.Proofs.YtdpnfdoplahfgaaDoor.Ev
open Go.RowKit Go.Proofs.YtdpnfdoplahfgaaDoor.X Go.Proofs.YtdpnfdoplahfgaaDoor.Wp Go.Proofs.YtdpnfdoplahfgaaDoorW.PrintWords
set_option linter.unusedVariables false
set_option linter.unusedSimpArgs false

/-- A reader's bytes. -/
def RB (b : List Int) : Prop := ∀ j : Int, 0 ≤ j → j < b.length → 0 ≤ rd b j ∧ rd b j ≤ 255
theorem RB_of {l : List Int} (h : ∀ x ∈ l, (Lit.int .u8 x).wf = true) : RB l := by
  intro j h0 h1
  have hm : rd l j ∈ l := by
    unfold rd
    rw [List.getD_eq_getElem?_getD, List.getElem?_eq_getElem (by omega)]
    exact List.getElem_mem _
  have := h _ hm
  simp [Lit.wf, IntKind.min, IntKind.max, IntKind.signed, IntKind.bits] at this
  omega
theorem RB_take {l : List Int} (h : RB l) (n : Nat) : RB (l.take n) := by
  intro j h0 h1
  rw [List.length_take] at h1
  rw [rd_take' l n h0 (by omega)]
  exact h j h0 (by omega)

theorem xor_nonneg {a b : Int} (a0 : 0 ≤ a) (a1 : a < 4611686018427387904) (b0 : 0 ≤ b) (b1 : b < 4611686018427387904) : 0 ≤ Go.bits .xor .i64 a b := by
  obtain ⟨x, rfl⟩ := Int.eq_ofNat_of_zero_le a0
  obtain ⟨y, rfl⟩ := Int.eq_ofNat_of_zero_le b0
  have hx : x < 2 ^ 62 := by omega
  have hy : y < 2 ^ 62 := by omega
  have h := Nat.xor_lt_two_pow hx hy
  simp only [Go.bits, BitVec.ofInt_natCast, BitVec.toNat_xor, BitVec.toNat_ofNat]
  rw [Nat.mod_eq_of_lt (show x < 2 ^ IntKind.i64.bits from Nat.lt_of_lt_of_le hx (by decide)), Nat.mod_eq_of_lt (show y < 2 ^ IntKind.i64.bits from Nat.lt_of_lt_of_le hy (by decide))]
  show 0 ≤ IntKind.i64.wrap ((x ^^^ y : Nat) : Int)
  rw [IntKind.wrap_i64]
  omega

theorem tmod_in {a n : Int} (h0 : 0 ≤ a) (h1 : 0 < n) : 0 ≤ Int.tmod a n ∧ Int.tmod a n < n := by
  rw [Int.tmod_eq_emod_of_nonneg h0]
  exact ⟨Int.emod_nonneg _ (by omega), Int.emod_lt_of_pos _ h1⟩

theorem pickW {b : List Int} {p n : Int} (hb : RB b) (hp : 0 ≤ p) (hp2 : p ≤ 1000000000) (hn : n ≤ 1000000000) : W (fun k => spec_l20Rd_pick.f k b p n) (fun r => 0 ≤ r.1 ∧ (r.1 < n ∨ r.1 = 0) ∧ r.2 = p + 1) := by
  unfold spec_l20Rd_pick.f
  rw [w64 (x := p + 1) (by omega) (by omega)]
  have zero : W (fun k => spec_l20Rd_pick.j0 k n true b (p + 1)) (fun r => 0 ≤ r.1 ∧ (r.1 < n ∨ r.1 = 0) ∧ r.2 = p + 1) :=
    W.step (fun k => spec_l20Rd_pick.j0.eq_2 ..) (W.pos rfl (W.ret ⟨by simp, .inr rfl, rfl⟩))
  refine W.ite (fun _ => zero) (fun hn1 => ?_)
  by_cases hl : (b.length : Int) = 0
  · rw [show ((b.length : Int) == 0) = true from by simpa using hl]
    exact zero
  · rw [show ((b.length : Int) == 0) = false from by simpa using hl]
    refine W.step (fun k => spec_l20Rd_pick.j0.eq_2 ..) (W.neg (by decide) ?_)
    rw [w64 (x := p + 1 - 1) (by omega) (by omega), show p + 1 - 1 = p from by omega]
    refine W.ite (fun hlt => W.pos hp (W.neg (by omega) ?_)) (fun hge => W.neg hl ?_)
    · have h := hb p hp hlt
      rw [w64 (x := rd b p) (by omega) (by omega)]
      have := tmod_in (a := rd b p) (n := n) h.1 (by omega)
      exact W.ret ⟨this.1, .inl this.2, rfl⟩
    · rw [w64 (x := p * 7) (by omega) (by omega), w64 (x := p * 7 + 3) (by omega) (by omega), w64 (x := p * 29) (by omega) (by omega)]
      have i1 := tmod_in (a := p) (n := (b.length : Int)) hp (by omega)
      have i2 := tmod_in (a := p * 7 + 3) (n := (b.length : Int)) (by omega) (by omega)
      have h1 := hb _ i1.1 i1.2
      have h2 := hb _ i2.1 i2.2
      have q1 : 0 ≤ Int.tdiv p (b.length : Int) ∧ Int.tdiv p (b.length : Int) ≤ p := by
        rw [Int.tdiv_eq_ediv_of_nonneg hp]
        exact ⟨Int.ediv_nonneg hp (by omega), Int.ediv_le_self _ hp⟩
      refine W.pos i1.1 (W.pos i1.2 (W.pos i2.1 (W.pos i2.2 (W.neg (by omega) ?_))))
      obtain ⟨u, hu⟩ : ∃ u, u = rd b (Int.tmod p (b.length : Int)) := ⟨_, rfl⟩
      obtain ⟨v, hv⟩ : ∃ v, v = rd b (Int.tmod (p * 7 + 3) (b.length : Int)) := ⟨_, rfl⟩
      obtain ⟨q, hq⟩ : ∃ q, q = Int.tdiv p (b.length : Int) := ⟨_, rfl⟩
      rw [← hu] at h1
      rw [← hv] at h2
      rw [← hq] at q1
      rw [← hu, ← hv, ← hq]
      rw [w64 (x := u) (by omega) (by omega), w64 (x := v) (by omega) (by omega), w64 (x := q) (by omega) (by omega), w64 (x := u * 131) (by omega) (by omega), w64 (x := v * 1117) (by omega) (by omega), w64 (x := q * 53) (by omega) (by omega),
        w64 (x := u * 131 + v * 1117) (by omega) (by omega), w64 (x := u * 131 + v * 1117 + p * 29) (by omega) (by omega), w64 (x := u * 131 + v * 1117 + p * 29 + q * 53) (by omega) (by omega)]
      obtain ⟨x, hx⟩ : ∃ x, x = u * 131 + v * 1117 + p * 29 + q * 53 := ⟨_, rfl⟩
      have x0 : 0 ≤ x ∧ x ≤ 1000000000000 := by omega
      rw [← hx]
      have x1 : 0 ≤ Int.tdiv x 64 ∧ Int.tdiv x 64 ≤ x := by
        rw [Int.tdiv_eq_ediv_of_nonneg x0.1]
        omega
      rw [w64 (x := Int.tdiv x 64) (by omega) (by omega)]
      have := tmod_in (n := n) (xor_nonneg (a := x) (b := Int.tdiv x 64) (by omega) (by omega) (by omega) (by omega)) (by omega)
      exact W.ret ⟨this.1, .inl this.2, rfl⟩

theorem oddW {b : List Int} {p n : Int} (hb : RB b) (hp : 0 ≤ p) (hp2 : p ≤ 1000000000) (hn : n ≤ 1000000000) : W (fun k => spec_l20Rd_odd.f k b p n) (fun r => p ≤ r.2 ∧ r.2 ≤ p + 1) := by
  unfold spec_l20Rd_odd.f
  refine W.ite (fun _ => W.bind (pickW hb hp hp2 hn) (fun a ha => W.ret ?_)) (fun _ => W.ret (by dsimp only; omega))
  dsimp only; omega

theorem rdOf_size {parts : List ByteArray} {m : Nat} (h : ∀ x ∈ parts, x.size ≤ m) (i : Int) : (rdOf ByteArray.empty parts i).size ≤ m := by
  unfold rdOf
  rw [List.getD_eq_getElem?_getD]
  cases hx : parts[i.toNat]? with
  | none => simp
  | some y => exact h y (List.mem_of_getElem? hx)

theorem textW {b : List Int} {p n : Int} (hb : RB b) (hp : 0 ≤ p) (hp2 : p ≤ 1000000) (hn : n ≤ 1000000000) : W (fun k => spec_l20Text.f k b p n) (fun r => r.1.size ≤ 125 ∧ p ≤ r.2 ∧ r.2 ≤ p + 30) := by
  unfold spec_l20Text.f
  refine W.bind (pickW hb hp (by omega) (by omega)) (fun a ha => ?_)
  obtain ⟨a1, a2⟩ := a
  dsimp only at ha ⊢
  obtain ⟨parts, hparts, hlen, hsz⟩ : ∃ parts : List ByteArray, parts = [(⟨#[97]⟩ : ByteArray), (⟨#[98]⟩ : ByteArray), (⟨#[97, 98]⟩ : ByteArray), (⟨#[119, 111, 114, 100]⟩ : ByteArray), (⟨#[120, 49]⟩ : ByteArray), (⟨#[32]⟩ : ByteArray), (⟨#[32]⟩ : ByteArray), (⟨#[32, 32]⟩ : ByteArray), (⟨#[10]⟩ : ByteArray), (⟨#[10]⟩ : ByteArray), (⟨#[10, 32, 32]⟩ : ByteArray), (⟨#[40]⟩ : ByteArray), (⟨#[41]⟩ : ByteArray), (⟨#[91, 97, 93]⟩ : ByteArray), (⟨#[123, 99, 125]⟩ : ByteArray), (⟨#[123]⟩ : ByteArray), (⟨#[125]⟩ : ByteArray), (⟨#[46]⟩ : ByteArray), (⟨#[34]⟩ : ByteArray), (⟨#[34, 115, 34]⟩ : ByteArray), (⟨#[55]⟩ : ByteArray), (⟨#[102, 111, 111, 32, 98, 97, 114]⟩ : ByteArray), (⟨#[92]⟩ : ByteArray), (⟨#[97, 97]⟩ : ByteArray)] ∧ parts.length = 24 ∧ ∀ x ∈ parts, x.size ≤ 7 := ⟨_, rfl, rfl, by
    intro x hx
    simp only [List.mem_cons, List.mem_nil_iff, or_false] at hx
    rcases hx with rfl | rfl | rfl | rfl | rfl | rfl | rfl | rfl | rfl | rfl | rfl | rfl | rfl | rfl | rfl | rfl | rfl | rfl | rfl | rfl | rfl | rfl | rfl | rfl <;> decide⟩
  rw [← hparts]
  have last : ∀ (s : ByteArray) (q : Int), s.size ≤ 125 → p ≤ q → q ≤ p + 30 → W (fun k => spec_l20Text.l1 k s b q) (fun r => r.1.size ≤ 125 ∧ p ≤ r.2 ∧ r.2 ≤ p + 30) := by
    intro s q hs h0 h1
    refine W.loop (l := fun s k => spec_l20Text.l1 k s b q) (P := fun _ r => r.1.size ≤ 125 ∧ p ≤ r.2 ∧ r.2 ≤ p + 30) (fun s : ByteArray => s.size ≤ 125) (fun s => 121 - s.size) ?_ s hs
    intro s hs ih
    refine W.step (fun k => spec_l20Text.l1.eq_2 ..) (W.ite (fun h => W.pos (by omega) (ih _ ?_ ?_)) (fun h => W.ret ⟨hs, h0, h1⟩))
    · rw [ByteArray.size_append]; show s.size + 5 ≤ 125; omega
    · rw [ByteArray.size_append]; show 121 - (s.size + 5) < 121 - s.size; omega
  refine W.loop (l := fun (z : ByteArray × Int × Int) k => spec_l20Text.l0 k n z.1 parts z.2.1 b z.2.2) (P := fun _ r => r.1.size ≤ 125 ∧ p ≤ r.2 ∧ r.2 ≤ p + 30) (fun z => z.1.size + 7 * z.2.1 ≤ 161 ∧ z.2.1 ≤ 23 ∧ -1 ≤ z.2.1 ∧ p ≤ z.2.2 ∧ z.2.2 + z.2.1 ≤ p + 24) (fun z => z.2.1.toNat) ?_ (⟨#[]⟩, a1, a2) ⟨by show 0 + 7 * a1 ≤ 161; omega, by dsimp only; omega, by dsimp only; omega, by dsimp only; omega, by dsimp only; omega⟩
  rintro ⟨s, c, q⟩ ⟨h1, h2, h3, h4, h5⟩ ih
  dsimp only at h1 h2 h3 h4 h5 ⊢
  refine W.step (fun k => spec_l20Text.l0.eq_2 ..) (W.ite (fun hc => ?_) (fun hc => ?_))
  · refine W.bind (pickW hb (by omega) (by omega) (by omega)) (fun d hd => ?_)
    have hr := rdOf_size hsz d.1
    rw [w64 (x := c - 1) (by omega) (by omega)]
    refine W.pos hd.1 (W.pos (by omega) (W.pos (by omega) (ih (_, c - 1, d.2) ⟨?_, ?_, ?_, ?_, ?_⟩ ?_)))
    · dsimp only; rw [ByteArray.size_append]; omega
    all_goals (dsimp only; omega)
  · have hmn : mn (s.size : Int) 120 ≤ s.size ∧ 0 ≤ mn (s.size : Int) 120 ∧ mn (s.size : Int) 120 ≤ 120 := by unfold mn; split <;> omega
    have hsz2 : (s.extract 0 (mn (s.size : Int) 120).toNat).size ≤ 120 := by rw [ByteArray.size_extract]; omega
    refine W.pos hmn.2.1 (W.pos hmn.1 (W.bind (oddW hb (by omega) (by omega) hn) (fun o ho => W.ite (fun _ => ?_) (fun _ => W.ret ⟨by dsimp only; omega, by dsimp only; omega, by dsimp only; omega⟩))))
    refine W.bind (pickW hb (by omega) (by omega) (by omega)) (fun d hd => W.ite (fun _ => W.pos (by omega) (W.ret ⟨?_, by dsimp only; omega, by dsimp only; omega⟩)) (fun _ => W.ite (fun _ => W.pos (by omega) (W.ret ⟨?_, by dsimp only; omega, by dsimp only; omega⟩)) (fun _ => last _ _ (by omega) (by omega) (by omega))))
    · dsimp only; rw [ByteArray.size_append]; show _ + 1 ≤ 125; omega
    · dsimp only; rw [ByteArray.size_append]; show _ + 1 ≤ 125; omega

theorem openW {l : List Int} (h : RB l) : ∃ b, spec_l20Open.f l = some (b, 0) ∧ RB b := by
  unfold spec_l20Open.f
  by_cases hl : (l.length : Int) > 2000
  · exact ⟨l.take 2000, by rw [if_pos hl, if_pos (by omega)], RB_take h _⟩
  · exact ⟨l, by rw [if_neg hl], h⟩
end Go.Proofs.YtdpnfdoplahfgaaDoor.Ev
/- What the printed functions answer, part DF: drawn texts with indented lines; lists handed over. -/
namespace Go.Proofs.YtdpnfdoplahfgaaDoor.Ev
open Go.RowKit Go.Proofs.YtdpnfdoplahfgaaDoor.X Go.Proofs.YtdpnfdoplahfgaaDoor.Wp Go.Proofs.YtdpnfdoplahfgaaDoorW.PrintWords Go.Proofs.YtdpnfdoplahfgaaDoor.ThL Go.Proofs.YtdpnfdoplahfgaaDoor.ThT Go.Proofs.YtdpnfdoplahfgaaDoor.ThB
set_option linter.unusedVariables false
set_option linter.unusedSimpArgs false

theorem deepW {b : List Int} {p n : Int} (hb : RB b) (hp : 0 ≤ p) (hp2 : p ≤ 100000) (hn : n ≤ 1000000000) : W (fun k => spec_l20Deep.f k b p n) (fun r => r.1.size ≤ 125 ∧ p ≤ r.2 ∧ r.2 ≤ p + 60) := by
  unfold spec_l20Deep.f
  refine W.bind (oddW hb hp (by omega) hn) (fun o ho => W.ite (fun _ => W.bind (textW hb (by omega) (by omega) (by omega)) (fun r hr => W.ret ⟨hr.1, by dsimp only; omega, by dsimp only; omega⟩)) (fun _ => ?_))
  refine W.bind (pickW hb (by omega) (by omega) (by omega)) (fun c hc => ?_)
  obtain ⟨c1, c2⟩ := c
  obtain ⟨hc0, hc1, hc2⟩ := hc
  dsimp only at hc0 hc1 hc2 ⊢
  refine W.loop (l := fun (z : ByteArray × Int × Int) k => spec_l20Deep.l0 k z.1 z.2.1 b z.2.2) (P := fun _ r => r.1.size ≤ 125 ∧ p ≤ r.2 ∧ r.2 ≤ p + 60) (fun z => z.1.size + 6 * z.2.1 ≤ 66 ∧ 0 ≤ z.2.1 ∧ z.2.1 ≤ 11 ∧ p ≤ z.2.2 ∧ z.2.2 + 2 * z.2.1 ≤ p + 26) (fun z => z.2.1.toNat) ?_ (⟨#[]⟩, c1, c2) ⟨by show ((0 : Nat) : Int) + 6 * c1 ≤ 66; omega, by dsimp only; omega, by dsimp only; omega, by dsimp only; omega, by dsimp only; omega⟩
  rintro ⟨s, x, q⟩ ⟨h1, h2, h3, h4, h5⟩ ih
  dsimp only at h1 h2 h3 h4 h5 ⊢
  refine W.step (fun k => spec_l20Deep.l0.eq_2 ..) (W.ite (fun hx => W.name ?_) (fun hx => W.ret ⟨by dsimp only; omega, by dsimp only; omega, by dsimp only; omega⟩))
  refine W.bind (pickW hb (by omega) (by omega) (by omega)) (fun d hd => W.pos hd.1 (W.pos (by show d.1 < 4; omega) ?_))
  have s1 := rdOf_size (parts := [(⟨#[]⟩ : ByteArray), (⟨#[32]⟩ : ByteArray), (⟨#[32, 32]⟩ : ByteArray), (⟨#[32, 32, 32]⟩ : ByteArray)]) (m := 3) (by
    intro y hy
    simp only [List.mem_cons, List.mem_nil_iff, or_false] at hy
    rcases hy with rfl | rfl | rfl | rfl <;> decide) d.1
  refine W.pos (by omega) (W.name (W.bind (pickW hb (by omega) (by omega) (by omega)) (fun e he => W.pos he.1 (W.pos (by show e.1 < 4; omega) ?_))))
  have s2 := rdOf_size (parts := [(⟨#[97]⟩ : ByteArray), (⟨#[98]⟩ : ByteArray), (⟨#[]⟩ : ByteArray), (⟨#[99, 99]⟩ : ByteArray)]) (m := 2) (by
    intro y hy
    simp only [List.mem_cons, List.mem_nil_iff, or_false] at hy
    rcases hy with rfl | rfl | rfl | rfl <;> decide) e.1
  obtain ⟨A, hA⟩ : ∃ A, A = rdOf ByteArray.empty [(⟨#[]⟩ : ByteArray), (⟨#[32]⟩ : ByteArray), (⟨#[32, 32]⟩ : ByteArray), (⟨#[32, 32, 32]⟩ : ByteArray)] d.1 := ⟨_, rfl⟩
  obtain ⟨B, hB⟩ : ∃ B, B = rdOf ByteArray.empty [(⟨#[97]⟩ : ByteArray), (⟨#[98]⟩ : ByteArray), (⟨#[]⟩ : ByteArray), (⟨#[99, 99]⟩ : ByteArray)] e.1 := ⟨_, rfl⟩
  rw [← hA] at s1 ⊢
  rw [← hB] at s2 ⊢
  have z1 : (s ++ A).size = s.size + A.size := ByteArray.size_append
  have z2 : (s ++ A ++ B).size = (s ++ A).size + B.size := ByteArray.size_append
  have z3 : (s ++ A ++ B ++ (⟨#[10]⟩ : ByteArray)).size = (s ++ A ++ B).size + 1 := ByteArray.size_append
  rw [w64 (x := x - 1) (by omega) (by omega)]
  exact W.pos (by omega) (W.pos (by omega) (ih (_, x - 1, e.2) ⟨by dsimp only; omega, by dsimp only; omega, by dsimp only; omega, by dsimp only; omega, by dsimp only; omega⟩ (by dsimp only; omega)))

theorem drawFE {l : List Int} (hw : ∀ x ∈ l, (Lit.int .u8 x).wf = true) : W (fun k => spec_DrawFoldEnd.f k l) (fun r => r.1.size ≤ 125 ∧ -1 ≤ r.2 ∧ r.2 ≤ 200) := by
  obtain ⟨b, he, hb⟩ := openW (RB_of hw)
  unfold spec_DrawFoldEnd.f
  refine W.call he (W.bind (deepW hb (Int.le_refl 0) (show (0 : Int) ≤ 100000 by decide) (by omega)) (fun r hr => ?_))
  obtain ⟨s, q⟩ := r
  obtain ⟨hs, q0, q1⟩ := hr
  dsimp only at hs q0 q1 ⊢
  have fin := nl_le s s.size
  refine W.bind (Q := fun t => -1 ≤ t ∧ t ≤ 126) ((specLineMany s (by omega)).mono fun t ht => by rw [ht]; split <;> omega) (fun t ht => ?_)
  have hm : 1 ≤ mx 1 t ∧ mx 1 t ≤ 126 := by unfold mx; split <;> omega
  rw [w64 (x := mx 1 t + 2) (by omega) (by omega)]
  refine W.bind (pickW hb (by omega) (by omega) (by omega)) (fun c hc => W.ret ⟨hs, ?_, ?_⟩)
  all_goals (dsimp only; rw [w64 (x := c.1 - 1) (by omega) (by omega)]; omega)
theorem drawFA {l : List Int} (hw : ∀ x ∈ l, (Lit.int .u8 x).wf = true) : W (fun k => spec_DrawFoldAround.f k l) (fun r => r.1.size ≤ 125 ∧ -1 ≤ r.2 ∧ r.2 ≤ 200) := by
  unfold spec_DrawFoldAround.f
  exact W.bind (drawFE hw) (fun r hr => W.ret hr)
end Go.Proofs.YtdpnfdoplahfgaaDoor.Ev
namespace Go.Proofs.YtdpnfdoplahfgaaDoor.Pure
open Go.RowKit Go.Proofs.YtdpnfdoplahfgaaDoor.X Go.Proofs.YtdpnfdoplahfgaaDoor.Wp Go.Proofs.YtdpnfdoplahfgaaDoor.Ev Go.Proofs.YtdpnfdoplahfgaaDoor.ThF Go.Proofs.YtdpnfdoplahfgaaDoor.ThL Go.Proofs.YtdpnfdoplahfgaaDoor.ThT Go.Proofs.YtdpnfdoplahfgaaDoorW.PrintWords
set_option linter.unusedVariables false
set_option linter.unusedSimpArgs false

theorem visL_at {h : Nat → Prop} {k : Nat} (hk : ¬ h k) : ∀ n, k < n → (visL h k).length < (visL h n).length ∧ rd (visL h n) ((visL h k).length : Int) = k
  | 0, hn => by omega
  | n + 1, hn => by
    by_cases e : k = n
    · subst e
      rw [visL_see hk]
      exact ⟨by rw [List.length_append]; show _ < _ + 1; omega, Go.Proofs.YtdpnfdoplahfgaaDoor.ThB.rd_snoc _ _ rfl⟩
    · obtain ⟨a, b⟩ := visL_at hk n (by omega)
      by_cases c : h n
      · rw [visL_hid c]; exact ⟨a, b⟩
      · rw [visL_see c]
        exact ⟨by rw [List.length_append]; omega, by rw [Go.Proofs.YtdpnfdoplahfgaaDoor.ThB.rd_left _ _ (by omega) (by omega)]; exact b⟩
theorem hid_all (s : ByteArray) {k : Nat} (hk : k < lnN s) : Go.Proofs.YtdpnfdoplahfgaaDoor.Ev.hid s (tab (fun i => (i : Int)) (lnN s)) k ↔ ∃ c, c < k ∧ k ≤ fe s c := by
  have hl := tab_len (fun i => (i : Int)) (lnN s)
  constructor
  · rintro ⟨j, j0, j1, h0, h1, h2, h3⟩
    rw [rd_tab _ _ j0 (by omega)] at h0 h1 h2 h3
    exact ⟨j.toNat, by omega, by rw [Int.toNat_natCast] at h3; exact h3⟩
  · rintro ⟨c, h1, h2⟩
    refine ⟨c, by omega, by omega, ?_⟩
    rw [rd_tab _ _ (by omega) (by omega), Int.toNat_natCast, Int.toNat_natCast]
    exact ⟨by omega, by omega, by omega, h2⟩
theorem FnFoldOuter : laws_FnFoldOuter.Pure := by
  intro l _ _ hw
  refine W.rounds (r := true) ?_
  unfold laws_FnFoldOuter.f
  refine W.ite (fun _ => W.ret rfl) (fun _ => W.bind (drawFA hw) (fun r hr => ?_))
  obtain ⟨s, line⟩ := r
  obtain ⟨hr, hr1, hr2⟩ := hr
  dsimp only at hr hr1 hr2 ⊢
  have hs : s.size ≤ 140737488351232 := by omega
  refine W.bind_eq (implFoldAround s line hs) (W.bind_eq (specFoldAround s line hs) (W.pos rfl ?_))
  have skip : W (fun k => laws_FnFoldOuter.j0 k s true) (· = true) := W.step (fun k => laws_FnFoldOuter.j0.eq_2 ..) (W.pos rfl alive_then)
  refine W.bind (specTV s hs) (fun b hb => W.ite (fun h => W.bind_eq (implLineMany s hs) ?_) (fun h => skip))
  have hv := hb.1 h
  rw [if_pos hv]
  have hN : lnN s = nl s s.size + 1 := rfl
  have fin := nl_le s s.size
  by_cases hlong : (nl s s.size : Int) + 1 > 120
  · rw [decide_eq_true hlong]; exact skip
  rw [decide_eq_false hlong]
  refine W.step (fun k => laws_FnFoldOuter.j0.eq_2 ..) (W.neg (by decide) ?_)
  obtain ⟨C, hC⟩ : ∃ C : List Int, C = tab (fun i => (i : Int)) (lnN s) := ⟨_, rfl⟩
  have hCl : C.length = lnN s := by rw [hC]; exact tab_len _ _
  have ev : vis s C = visL (Go.Proofs.YtdpnfdoplahfgaaDoor.Ev.hid s C) (lnN s) := by unfold vis; rw [if_pos ⟨hv, by omega⟩]
  have second : W (fun k => laws_FnFoldOuter.l1 k s C (vis s C) 0 0) (· = true) := by
    rw [ev]
    have key := W.loop (l := fun (n : Nat) k => laws_FnFoldOuter.l1 k s C (visL (Go.Proofs.YtdpnfdoplahfgaaDoor.Ev.hid s C) (lnN s)) ((visL (Go.Proofs.YtdpnfdoplahfgaaDoor.Ev.hid s C) n).length : Int) n) (P := fun _ r => r = true) (fun n => n ≤ lnN s) (fun n => lnN s - n) (by
      intro n hn ih
      refine W.step (fun k => laws_FnFoldOuter.l1.eq_2 ..) ?_
      have hvl := visL_len_le (Go.Proofs.YtdpnfdoplahfgaaDoor.Ev.hid s C) n
      by_cases hlt : n < lnN s
      · have next := ih (n + 1) (by omega) (by omega)
        rw [show ((n + 1 : Nat) : Int) = (n : Int) + 1 from by omega] at next
        rw [w64 (x := (n : Int) + 1) (by omega) (by omega), w64 (x := ((visL (Go.Proofs.YtdpnfdoplahfgaaDoor.Ev.hid s C) n).length : Int) + 1) (by omega) (by omega)]
        refine W.pos (by omega) (W.bind_eq (implFoldAround s n hs) ?_)
        rw [if_pos (show isLn s n from ⟨hv, by omega, by omega⟩), Int.toNat_natCast]
        have hall : Go.Proofs.YtdpnfdoplahfgaaDoor.Ev.hid s C n ↔ ∃ c, c < n ∧ n ≤ fe s c := by rw [hC]; exact hid_all s hlt
        rcases faN_spec s n n with ⟨h1, h2⟩ | ⟨c, h1, h2, h3⟩
        · have hno : ¬ Go.Proofs.YtdpnfdoplahfgaaDoor.Ev.hid s C n := fun h3 => by
            obtain ⟨c, hc1, hc2⟩ := hall.1 h3
            exact h2 c hc1 hc2
          obtain ⟨a1, a2⟩ := visL_at hno (lnN s) hlt
          rw [visL_see hno, List.length_append, show (([(n : Int)] : List Int)).length = 1 from rfl, show (((visL (Go.Proofs.YtdpnfdoplahfgaaDoor.Ev.hid s C) n).length + 1 : Nat) : Int) = ((visL (Go.Proofs.YtdpnfdoplahfgaaDoor.Ev.hid s C) n).length : Int) + 1 from by omega] at next
          exact W.pos h1 (W.neg (by omega) (W.pos (by omega) (W.pos (by omega) (W.pos a2 next))))
        · have hyes : Go.Proofs.YtdpnfdoplahfgaaDoor.Ev.hid s C n := hall.2 ⟨c, h2, h3⟩
          rw [visL_hid hyes] at next
          exact W.neg (by rw [show fa s n = c from h1]; omega) next
      · have en : n = lnN s := by omega
        subst en
        exact W.neg (by omega) (W.ret (by simp))) 0 (by omega)
    exact key
  have first := W.loop (l := fun (n : Nat) k => laws_FnFoldOuter.l0 k s (tab (fun i => (i : Int)) n) n) (P := fun _ r => r = true) (fun n => n ≤ lnN s) (fun n => lnN s - n) (by
    intro n hn ih
    refine W.step (fun k => laws_FnFoldOuter.l0.eq_2 ..) (W.bind_eq (implLineMany s hs) ?_)
    rw [if_pos hv]
    have hl := tab_len (fun i => (i : Int)) n
    by_cases hlt : n < lnN s
    · have next := ih (n + 1) (by omega) (by omega)
      rw [tab_succ, show ((n + 1 : Nat) : Int) = (n : Int) + 1 from by omega] at next
      rw [w64 (x := (n : Int) + 1) (by omega) (by omega)]
      exact W.pos (by omega) (W.pos (by omega) next)
    · have en : n = lnN s := by omega
      subst en
      refine W.neg (by omega) ?_
      rw [← hC]
      exact W.bind_eq (implVisible s C hs (by omega)) second) 0 (by omega)
  exact first
end Go.Proofs.YtdpnfdoplahfgaaDoor.Pure
