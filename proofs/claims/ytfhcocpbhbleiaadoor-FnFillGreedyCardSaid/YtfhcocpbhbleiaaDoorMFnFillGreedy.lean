/- For every code, the law on filled lines answers true: no line is wider than the width, unless it is one word, and with the first word of the next line it would be; the lines have the words. Conditions: none. -/
import Derived.Test.YtfhcocpbhbleiaaDoorWMore
import Derived.Test.YtfhcocpbhbleiaaDoorX2
import Derived.Test.YtfhcocpbhbleiaaDoorX4
import Derived.Laws.Strings
import Derived.Lib.Fields
import Derived.Test.YtfhcocpbhbleiaaDoorX6
import Derived.Test.YtfhcocpbhbleiaaDoorX8
import Derived.Lib.Join
import Derived.Test.YtfhcocpbhbleiaaDoorX3
import Derived.Test.YtfhcocpbhbleiaaDoorX11
/- Running the printed functions: 'W g P': from some number of rounds on g answers, and the answer meets P. -/
namespace Go.Proofs.YtfhcocpbhbleiaaDoor.Wp
open Go.RowKit Go.Proofs.YtfhcocpbhbleiaaDoorW.PrintWords
set_option linter.unusedVariables false
set_option linter.unusedSimpArgs false

def W {α : Type} (g : Nat → Option α) (P : α → Prop) : Prop := ∃ r, P r ∧ ∃ K, ∀ k, K ≤ k → g k = some r

theorem W.ret {α : Type} {r : α} {P : α → Prop} (h : P r) : W (fun _ => some r) P := ⟨r, h, 0, fun _ _ => rfl⟩

theorem W.mono {α : Type} {g : Nat → Option α} {P Q : α → Prop} (h : W g Q) (hk : ∀ a, Q a → P a) : W g P := by
  obtain ⟨r, hr, K, h⟩ := h
  exact ⟨r, hk r hr, K, h⟩

theorem W.bind {α β : Type} {g : Nat → Option α} {f : Nat → α → Option β} {P : β → Prop} {Q : α → Prop} (h : W g Q) (hk : ∀ a, Q a → W (fun k => f k a) P) : W (fun k => (g k).bind (f k)) P := by
  obtain ⟨a, ha, K, h⟩ := h
  obtain ⟨r, hr, K', h'⟩ := hk a ha
  refine ⟨r, hr, max K K', fun k hle => ?_⟩
  have h1 := h k (by omega)
  have h2 := h' k (by omega)
  simp only [h1, Option.bind_some]
  exact h2

theorem W.bind_eq {α β : Type} {g : Nat → Option α} {f : Nat → α → Option β} {P : β → Prop} {a : α} (h : W g (· = a)) (hk : W (fun k => f k a) P) : W (fun k => (g k).bind (f k)) P :=
  W.bind h (fun b hb => by subst hb; exact hk)

theorem W.step {α : Type} {g f : Nat → Option α} {P : α → Prop} (h : ∀ k, g (k + 1) = f k) (w : W f P) : W g P := by
  obtain ⟨r, hr, K, w⟩ := w
  refine ⟨r, hr, K + 1, fun k hk => ?_⟩
  obtain ⟨m, rfl⟩ : ∃ m, k = m + 1 := ⟨k - 1, by omega⟩
  rw [h]
  exact w m (by omega)

theorem W.congr {α : Type} {g f : Nat → Option α} {P : α → Prop} (h : ∀ k, g k = f k) (w : W f P) : W g P := by
  obtain ⟨r, hr, K, w⟩ := w
  exact ⟨r, hr, K, fun k hk => (h k).trans (w k hk)⟩

theorem W.ite {α : Type} {c : Prop} [Decidable c] {a b : Nat → Option α} {P : α → Prop} (h1 : c → W a P) (h2 : ¬c → W b P) : W (fun k => if c then a k else b k) P := by
  by_cases h : c
  · simp only [if_pos h]; exact h1 h
  · simp only [if_neg h]; exact h2 h

theorem W.pos {α : Type} {c : Prop} [Decidable c] {a b : Nat → Option α} {P : α → Prop} (h : c) (w : W a P) : W (fun k => if c then a k else b k) P := W.ite (fun _ => w) (fun h' => absurd h h')
theorem W.neg {α : Type} {c : Prop} [Decidable c] {a b : Nat → Option α} {P : α → Prop} (h : ¬ c) (w : W b P) : W (fun k => if c then a k else b k) P := W.ite (fun h' => absurd h' h) (fun _ => w)
theorem W.call {α β : Type} {x : Option α} {r : α} {f : Nat → α → Option β} {P : β → Prop} (h : x = some r) (w : W (fun k => f k r) P) : W (fun k => x.bind (f k)) P := by
  subst h; exact w
theorem W.name {α β : Type} {r : α} {f : Nat → α → Option β} {P : β → Prop} (w : W (fun k => f k r) P) : W (fun k => (some r).bind (f k)) P := w

theorem W.rounds {α : Type} {g : Nat → Option α} {r : α} (h : W g (· = r)) : ∃ k, g k = some r := by
  obtain ⟨a, rfl, K, h⟩ := h
  exact ⟨K, h K (Nat.le_refl _)⟩

/-- A loop: a measure, an invariant. -/
theorem W.loop {α σ : Type} {l : σ → Nat → Option α} {P : σ → α → Prop} (I : σ → Prop) (m : σ → Nat) (h : ∀ s, I s → (∀ s', I s' → m s' < m s → W (l s') (P s')) → W (l s) (P s)) : ∀ s, I s → W (l s) (P s) := by
  have key : ∀ n s, m s < n → I s → W (l s) (P s) := by
    intro n
    induction n with
    | zero => intro s hs; omega
    | succ n ih => intro s hs hi; exact h s hi (fun s' hi' hm => ih s' (by omega) hi')
  intro s hi
  exact key (m s + 1) s (by omega) hi

theorem w64 {x : Int} (h : -9223372036854775808 ≤ x) (h' : x ≤ 9223372036854775807) : wrap64 x = x := by
  unfold wrap64; omega

end Go.Proofs.YtfhcocpbhbleiaaDoor.Wp
/- What the printed functions answer, part A: valid texts, places, ranges. -/
namespace Go.Proofs.YtfhcocpbhbleiaaDoor.Ev
open Go.RowKit Go.Proofs.YtfhcocpbhbleiaaDoor.X Go.Proofs.YtfhcocpbhbleiaaDoor.Wp Go.Proofs.YtfhcocpbhbleiaaDoorW.PrintWords
set_option linter.unusedVariables false
set_option linter.unusedSimpArgs false

def okB (c : Int) : Prop := c = 10 ∨ (32 ≤ c ∧ c ≤ 126)
instance (c : Int) : Decidable (okB c) := by unfold okB; infer_instance
/-- A valid text. -/
def VT (s : ByteArray) : Prop := s.size ≤ 120 ∧ ∀ j : Int, 0 ≤ j → j < s.size → okB (bt s j)

noncomputable instance (s : ByteArray) : Decidable (VT s) := Classical.propDecidable _

theorem isByte_eq (c : Int) : impl_isByte.f c = some (decide (okB c)) := by
  unfold impl_isByte.f okB
  by_cases h1 : c = 10
  · simp [h1]
  · by_cases h2 : c ≥ 32
    · simp [h1, h2]
    · have : ¬ 32 ≤ c := h2
      simp [h1, this]
theorem in_eq (a b c : Int) : impl_in.f a b c = some (decide (b ≤ a ∧ a ≤ c)) := by
  unfold impl_in.f
  by_cases h : b ≤ a <;> simp [h]
theorem l1In_eq (a b c : Int) : spec_l1In.f a b c = some (decide (b ≤ a ∧ a ≤ c)) := by
  unfold spec_l1In.f
  by_cases h : b ≤ a
  · simp [h]
  · have : ¬ a ≥ b := h
    simp [h]
theorem implTV (s : ByteArray) (hs : s.size ≤ 140737488351232) : W (fun k => impl_TextValid.f k s) (fun b => b = true ↔ VT s) := by
  unfold impl_TextValid.f
  refine W.loop (l := fun i k => impl_TextValid.l0 k s s.size i) (P := fun _ b => b = true ↔ VT s) (fun i => 0 ≤ i ∧ i ≤ s.size ∧ ∀ j, 0 ≤ j → j < i → okB (bt s j)) (fun i => (s.size - i).toNat) ?_ 0 ⟨by omega, by omega, fun j h0 h1 => by omega⟩
  intro i ⟨h0, h1, h2⟩ ih
  refine W.step (fun k => impl_TextValid.l0.eq_2 ..) ?_
  by_cases hlt : i < s.size
  · simp (disch := omega) only [if_pos, w64, isByte_eq, Option.bind_some]
    by_cases hb : okB (bt s i)
    · simp only [hb, decide_true, if_true]
      exact ih (i + 1) ⟨by omega, by omega, fun j h3 h4 => by
        by_cases e : j = i
        · subst e; exact hb
        · exact h2 j h3 (by omega)⟩ (by omega)
    · simp only [hb, decide_false]
      exact W.ret ⟨fun h => by simp at h, fun h => absurd (h.2 i h0 hlt) hb⟩
  · simp (disch := omega) only [if_neg]
    refine W.ret ?_
    simp only [decide_eq_true_eq]
    exact ⟨fun h => ⟨by omega, fun j h3 h4 => h2 j h3 (by omega)⟩, fun h => by have := h.1; omega⟩

theorem specPlain (s : ByteArray) (hs : s.size ≤ 140737488351232) : W (fun k => spec_l1Plain.f k s) (fun b => b = true ↔ ∀ j : Int, 0 ≤ j → j < s.size → okB (bt s j)) := by
  unfold spec_l1Plain.f
  refine W.loop (l := fun i k => spec_l1Plain.l0 k s i) (P := fun _ b => b = true ↔ ∀ j : Int, 0 ≤ j → j < s.size → okB (bt s j)) (fun i => 0 ≤ i ∧ i ≤ s.size ∧ ∀ j, 0 ≤ j → j < i → okB (bt s j)) (fun i => (s.size - i).toNat) ?_ 0 ⟨by omega, by omega, fun j h0 h1 => by omega⟩
  intro i ⟨h0, h1, h2⟩ ih
  refine W.step (fun k => spec_l1Plain.l0.eq_2 ..) ?_
  have hr := bt_range s i
  by_cases hlt : i < s.size
  · simp (disch := omega) only [if_pos, w64, l1In_eq, Option.bind_some]
    have next : okB (bt s i) → ∀ j, 0 ≤ j → j < i + 1 → okB (bt s j) := fun hb j h3 h4 => by
      by_cases e : j = i
      · subst e; exact hb
      · exact h2 j h3 (by omega)
    refine W.ite (fun hc => ih (i + 1) ⟨by omega, by omega, next (.inl hc)⟩ (by omega)) (fun hc => ?_)
    refine W.ite (fun hd => ih (i + 1) ⟨by omega, by omega, next (.inr (by simpa using hd))⟩ (by omega)) (fun hd => ?_)
    refine W.ret ⟨fun h => by simp at h, fun h => ?_⟩
    rcases h i h0 hlt with h | h
    · exact absurd h hc
    · exact absurd (by simpa using h) hd
  · simp (disch := omega) only [if_neg]
    exact W.ret ⟨fun _ j h3 h4 => h2 j h3 (by omega), fun _ => rfl⟩

theorem specTV (s : ByteArray) (hs : s.size ≤ 140737488351232) : W (fun k => spec_TextValid.f k s) (fun b => b = true ↔ VT s) := by
  unfold spec_TextValid.f
  refine W.ite (fun h => ?_) (fun h => ?_)
  · refine W.bind (specPlain s hs) (fun b hb => W.ret ?_)
    rw [hb]
    exact ⟨fun h' => ⟨by omega, h'⟩, fun h' => h'.2⟩
  · exact W.ret ⟨fun h' => by simp at h', fun h' => by have := h'.1; omega⟩

theorem tv_pos {g : Nat → Option Bool} {s : ByteArray} (h : W g (fun b => b = true ↔ VT s)) (hv : VT s) : W g (· = true) := h.mono fun b hb => hb.2 hv
theorem tv_neg {g : Nat → Option Bool} {s : ByteArray} (h : W g (fun b => b = true ↔ VT s)) (hv : ¬ VT s) : W g (· = false) := h.mono fun b hb => by
  cases b
  · rfl
  · exact absurd (hb.1 rfl) hv

end Go.Proofs.YtfhcocpbhbleiaaDoor.Ev
/- Texts as bytes: parts, sums, equality. -/
namespace Go.Proofs.YtfhcocpbhbleiaaDoor.Ev
open Go.RowKit Go.Proofs.YtfhcocpbhbleiaaDoorW.PrintWords
set_option linter.unusedVariables false
set_option linter.unusedSimpArgs false

theorem bt_eq (s : ByteArray) {i : Int} (h0 : 0 ≤ i) (h : i < s.size) : ∃ h' : i.toNat < s.size, bt s i = (s[i.toNat]'h').toNat := by
  have h' : i.toNat < s.size := by omega
  exact ⟨h', by unfold bt; rw [dif_pos h']⟩
theorem str_ext {a b : ByteArray} (hl : a.size = b.size) (h : ∀ i : Int, 0 ≤ i → i < a.size → bt a i = bt b i) : a = b := by
  apply ByteArray.ext_getElem hl
  intro i h1 h2
  have := h i (by omega) (by omega)
  unfold bt at this
  rw [dif_pos (by simpa using h1), dif_pos (by simpa using h2)] at this
  exact UInt8.toNat_inj.1 (by exact_mod_cast this)
theorem toList_data (a : ByteArray) : a.toList = a.data.toList := ByteArray.toList_eq a
theorem toList_inj {a b : ByteArray} : a.toList = b.toList ↔ a = b := by
  rw [toList_data, toList_data]
  constructor
  · intro h
    obtain ⟨⟨x⟩⟩ := a
    obtain ⟨⟨y⟩⟩ := b
    simp only at h
    subst h; rfl
  · intro h; rw [h]
theorem bt_ext (s : ByteArray) {a b i : Int} (h0 : 0 ≤ a) (h1 : 0 ≤ i) (h2 : i < b - a) (h3 : b ≤ s.size) : bt (s.extract a.toNat b.toNat) i = bt s (a + i) := by
  unfold bt
  rw [dif_pos (by rw [ByteArray.size_extract]; omega), dif_pos (by omega), ByteArray.getElem_extract]
  congr 2
  congr 1
  omega
end Go.Proofs.YtfhcocpbhbleiaaDoor.Ev
/- Lists of numbers: read, set, cut. No program in sight. -/
namespace Go.Proofs.YtfhcocpbhbleiaaDoor.ThB
open Go.RowKit Go.Proofs.YtfhcocpbhbleiaaDoorW.PrintWords
set_option linter.unusedVariables false
set_option linter.unusedSimpArgs false
theorem rd_set_ne (xs : List Int) (v : Int) {i j : Int} (h0 : 0 ≤ i) (hj : 0 ≤ j) (h : i ≠ j) : rd (xs.set j.toNat v) i = rd xs i := by
  unfold rd
  rw [List.getD_eq_getElem?_getD, List.getD_eq_getElem?_getD, List.getElem?_set_ne (by omega)]
end Go.Proofs.YtfhcocpbhbleiaaDoor.ThB
/- Lists as tables. No program in sight. -/
namespace Go.Proofs.YtfhcocpbhbleiaaDoor.ThT
open Go.RowKit Go.Proofs.YtfhcocpbhbleiaaDoorW.PrintWords Go.Proofs.YtfhcocpbhbleiaaDoor.ThB
set_option linter.unusedVariables false
set_option linter.unusedSimpArgs false
theorem rdOf_ext {α : Type} (d : α) {a b : List α} (hl : a.length = b.length) (h : ∀ i : Int, 0 ≤ i → i < a.length → rdOf d a i = rdOf d b i) : a = b := by
  apply List.ext_getElem hl
  intro i h1 h2
  have := h i (by omega) (by omega)
  unfold rdOf at this
  simpa [List.getD_eq_getElem?_getD, h1, h2] using this
end Go.Proofs.YtfhcocpbhbleiaaDoor.ThT
/- The plain law of words: the words of a text, words joined by spaces, lines that are as full as can be. No program in sight. -/
namespace Go.Proofs.YtfhcocpbhbleiaaDoor.ThW
set_option linter.unusedVariables false
set_option linter.unusedSimpArgs false

def mk (l : List UInt8) : ByteArray := ⟨l.toArray⟩
theorem mk_data (l : List UInt8) : (mk l).data.toList = l := rfl
theorem data_mk (s : ByteArray) : mk s.data.toList = s := by
  obtain ⟨⟨l⟩⟩ := s; rfl
theorem data_inj {a b : ByteArray} (h : a.data.toList = b.data.toList) : a = b := by rw [← data_mk a, ← data_mk b, h]
theorem data_len (s : ByteArray) : s.data.toList.length = s.size := by rw [Array.length_toList]; rfl
theorem data_cat (a b : ByteArray) : (a ++ b).data.toList = a.data.toList ++ b.data.toList := by simp
theorem size_mk (l : List UInt8) : (mk l).size = l.length := by rw [← data_len]; rfl
theorem size0 {s : ByteArray} : s.size = 0 ↔ s = ByteArray.empty := by
  constructor
  · intro h; exact data_inj (List.length_eq_zero_iff.1 (by rw [data_len]; exact h))
  · intro h; subst h; rfl

def sp : ByteArray := ⟨#[32]⟩

/-- The words of what is left of a text, cur: the word that has begun. -/
def fg (cur : ByteArray) (l : List UInt8) : List ByteArray := (Lib.fieldsGo cur.data.toList l).map mk
/-- The words of a text. -/
def wds (s : ByteArray) : List ByteArray := fg ByteArray.empty s.data.toList
theorem isEmpty_data (s : ByteArray) : s.data.toList.isEmpty = decide (s.size = 0) := by
  rw [← data_len]
  cases s.data.toList <;> simp
theorem fg_nil (cur : ByteArray) : fg cur [] = if cur.size = 0 then [] else [cur] := by
  unfold fg Lib.fieldsGo
  rw [isEmpty_data]
  by_cases h : cur.size = 0
  · simp [h]
  · simp [h, data_mk]
theorem fg_sp (cur : ByteArray) {b : UInt8} (l : List UInt8) (h : Lib.isSp b = true) : fg cur (b :: l) = if cur.size = 0 then fg ByteArray.empty l else cur :: fg ByteArray.empty l := by
  have he : ByteArray.empty.data.toList = [] := rfl
  unfold fg
  rw [Lib.fieldsGo, if_pos h, isEmpty_data]
  by_cases hc : cur.size = 0
  · simp only [hc, decide_true, if_true]; rfl
  · simp only [hc, decide_false, if_false, List.map_cons, data_mk]; rfl
theorem fg_ch (cur : ByteArray) {b : UInt8} (l : List UInt8) (h : Lib.isSp b = false) : fg cur (b :: l) = fg (cur ++ mk [b]) l := by
  unfold fg
  rw [Lib.fieldsGo, h, data_cat]; rfl

/-- A word: not empty, and without spaces. -/
def okW (x : ByteArray) : Prop := x.size ≠ 0 ∧ ∀ b ∈ x.data.toList, Lib.isSp b = false
theorem fg_ok (l : List UInt8) : ∀ cur : ByteArray, (∀ b ∈ cur.data.toList, Lib.isSp b = false) → ∀ x ∈ fg cur l, okW x := by
  induction l with
  | nil =>
    intro cur hc x hx
    rw [fg_nil] at hx
    by_cases h : cur.size = 0
    · rw [if_pos h] at hx; cases hx
    · rw [if_neg h, List.mem_singleton] at hx
      subst hx; exact ⟨h, hc⟩
  | cons b l ih =>
    intro cur hc x hx
    cases hb : Lib.isSp b with
    | true =>
      rw [fg_sp _ _ hb] at hx
      by_cases h : cur.size = 0
      · rw [if_pos h] at hx; exact ih ByteArray.empty (fun b hb => by cases hb) x hx
      · rw [if_neg h, List.mem_cons] at hx
        rcases hx with hx | hx
        · subst hx; exact ⟨h, hc⟩
        · exact ih ByteArray.empty (fun b hb => by cases hb) x hx
    | false =>
      rw [fg_ch _ _ hb] at hx
      refine ih _ (fun c hcm => ?_) x hx
      rw [data_cat, List.mem_append] at hcm
      rcases hcm with h | h
      · exact hc c h
      · rw [mk_data, List.mem_singleton] at h
        subst h; exact hb
theorem wds_ok (s : ByteArray) : ∀ x ∈ wds s, okW x := fg_ok _ _ (fun b hb => by cases hb)

def tot (ws : List ByteArray) : Nat := (ws.map ByteArray.size).sum
theorem tot_cons (x : ByteArray) (ws : List ByteArray) : tot (x :: ws) = x.size + tot ws := rfl
theorem tot_append (a b : List ByteArray) : tot (a ++ b) = tot a + tot b := by
  induction a with
  | nil => simp [tot]
  | cons x a ih => rw [List.cons_append, tot_cons, tot_cons, ih]; omega
theorem fg_tot (l : List UInt8) : ∀ cur : ByteArray, tot (fg cur l) + (fg cur l).length ≤ cur.size + l.length + 1 := by
  induction l with
  | nil =>
    intro cur
    rw [fg_nil]
    by_cases h : cur.size = 0
    · rw [if_pos h]; simp [tot]
    · rw [if_neg h]; simp [tot]
  | cons b l ih =>
    intro cur
    cases hb : Lib.isSp b with
    | true =>
      have := ih ByteArray.empty
      rw [show ByteArray.empty.size = 0 from rfl] at this
      rw [fg_sp _ _ hb]
      by_cases h : cur.size = 0
      · rw [if_pos h]; simp only [List.length_cons]; omega
      · rw [if_neg h, tot_cons]; simp only [List.length_cons]; omega
    | false =>
      have := ih (cur ++ mk [b])
      rw [ByteArray.size_append, size_mk] at this
      rw [fg_ch _ _ hb]
      simp only [List.length_cons, List.length_nil] at this ⊢; omega
theorem wds_tot (s : ByteArray) : tot (wds s) + (wds s).length ≤ s.size + 1 := by
  have := fg_tot s.data.toList ByteArray.empty
  rw [data_len, show ByteArray.empty.size = 0 from rfl] at this
  unfold wds; omega
theorem mem_tot {x : ByteArray} {ws : List ByteArray} (h : x ∈ ws) : x.size ≤ tot ws := by
  induction ws with
  | nil => cases h
  | cons y ws ih =>
    rw [tot_cons]
    rw [List.mem_cons] at h
    rcases h with h | h
    · subst h; omega
    · have := ih h; omega
/-- The bytes of the words, one behind the other, are those of the text that are no spaces. -/
theorem fg_flat (l : List UInt8) : ∀ cur : ByteArray, (fg cur l).flatMap (fun x => x.data.toList) = cur.data.toList ++ l.filter (fun b => !Lib.isSp b) := by
  induction l with
  | nil =>
    intro cur
    rw [fg_nil]
    by_cases h : cur.size = 0
    · rw [if_pos h, size0.1 h]; rfl
    · rw [if_neg h]; simp
  | cons b l ih =>
    intro cur
    cases hb : Lib.isSp b with
    | true =>
      have := ih ByteArray.empty
      rw [fg_sp _ _ hb, List.filter_cons]
      simp only [hb, Bool.not_true, Bool.false_eq_true, if_false]
      by_cases h : cur.size = 0
      · rw [if_pos h, size0.1 h]; exact this
      · rw [if_neg h, List.flatMap_cons, this]; rfl
    | false =>
      have := ih (cur ++ mk [b])
      rw [fg_ch _ _ hb, this, List.filter_cons, data_cat]
      simp [hb, mk_data]

/-! words joined by spaces -/
def tl : List ByteArray → ByteArray
  | [] => ByteArray.empty
  | y :: ys => sp ++ (y ++ tl ys)
def jn : List ByteArray → ByteArray
  | [] => ByteArray.empty
  | x :: xs => x ++ tl xs
theorem empty_cat (a : ByteArray) : ByteArray.empty ++ a = a := data_inj (by rw [data_cat]; rfl)
theorem cat_empty (a : ByteArray) : a ++ ByteArray.empty = a := data_inj (by rw [data_cat]; exact List.append_nil _)
theorem cat_assoc (a b c : ByteArray) : a ++ b ++ c = a ++ (b ++ c) := data_inj (by simp only [data_cat, List.append_assoc])
theorem tl_append (a b : List ByteArray) : tl (a ++ b) = tl a ++ tl b := by
  induction a with
  | nil => exact (empty_cat _).symm
  | cons y a ih => rw [List.cons_append, tl, tl, ih, cat_assoc, cat_assoc]
theorem jn_snoc {l : List ByteArray} (y : ByteArray) (h : l ≠ []) : jn (l ++ [y]) = jn l ++ sp ++ y := by
  cases l with
  | nil => exact absurd rfl h
  | cons x l => rw [List.cons_append, jn, jn, tl_append, tl, tl, cat_empty, cat_assoc, cat_assoc]
theorem jn_append {a b : List ByteArray} (ha : a ≠ []) (hb : b ≠ []) : jn (a ++ b) = jn a ++ sp ++ jn b := by
  cases a with
  | nil => exact absurd rfl ha
  | cons x a =>
    cases b with
    | nil => exact absurd rfl hb
    | cons y b => rw [List.cons_append, jn, jn, jn, tl_append, tl, cat_assoc, cat_assoc]
theorem tl_size (l : List ByteArray) : (tl l).size = tot l + l.length := by
  induction l with
  | nil => rfl
  | cons y l ih => rw [tl, ByteArray.size_append, ByteArray.size_append, ih, tot_cons, List.length_cons, show sp.size = 1 from rfl]; omega
theorem jn_size (l : List ByteArray) : (jn l).size = tot l + (l.length - 1) := by
  cases l with
  | nil => rfl
  | cons y l => rw [jn, ByteArray.size_append, tl_size, tot_cons, List.length_cons]; omega
theorem fieldsGo_word (x : List UInt8) (h : ∀ b ∈ x, Lib.isSp b = false) : ∀ (cur l : List UInt8), Lib.fieldsGo cur (x ++ l) = Lib.fieldsGo (cur ++ x) l := by
  induction x with
  | nil => intro cur l; simp
  | cons b x ih =>
    intro cur l
    rw [List.cons_append, Lib.fieldsGo, h b (List.mem_cons_self ..)]
    simp only [Bool.false_eq_true, if_false]
    rw [ih (fun c hc => h c (List.mem_cons_of_mem _ hc))]
    simp
theorem fg_tl (ws : List ByteArray) : ∀ cur : ByteArray, (∀ x ∈ ws, okW x) → cur.size ≠ 0 → fg cur (tl ws).data.toList = cur :: ws := by
  induction ws with
  | nil => intro cur h hc; rw [tl, show ByteArray.empty.data.toList = [] from rfl, fg_nil, if_neg hc]
  | cons y ws ih =>
    intro cur h hc
    rw [tl, data_cat, data_cat, show sp.data.toList = [32] from rfl, List.singleton_append, fg_sp _ _ (by decide), if_neg hc]
    congr 1
    have hy := h y (List.mem_cons_self ..)
    have : fg ByteArray.empty (y.data.toList ++ (tl ws).data.toList) = fg y (tl ws).data.toList := by
      unfold fg
      rw [fieldsGo_word _ hy.2]; rfl
    rw [this]
    exact ih y (fun x hx => h x (List.mem_cons_of_mem _ hx)) hy.1
/-- The words of words joined by spaces are these words. -/
theorem wds_jn {ws : List ByteArray} (h : ∀ x ∈ ws, okW x) : wds (jn ws) = ws := by
  cases ws with
  | nil => rfl
  | cons x ws =>
    have hx := h x (List.mem_cons_self ..)
    unfold wds
    rw [jn, data_cat]
    have : fg ByteArray.empty (x.data.toList ++ (tl ws).data.toList) = fg x (tl ws).data.toList := by
      unfold fg
      rw [fieldsGo_word _ hx.2]; rfl
    rw [this]
    exact fg_tl ws x (fun y hy => h y (List.mem_cons_of_mem _ hy)) hx.1
/-- Lines joined: their words joined. -/
theorem jn_jn {L : List (List ByteArray)} (h : ∀ g ∈ L, g ≠ []) : jn (L.map jn) = jn L.flatten := by
  induction L with
  | nil => rfl
  | cons g L ih =>
    have hg := h g (List.mem_cons_self ..)
    have ih := ih (fun x hx => h x (List.mem_cons_of_mem _ hx))
    cases L with
    | nil => simp only [List.map_cons, List.map_nil, List.flatten_cons, List.flatten_nil, List.append_nil]; rw [jn, tl, cat_empty]
    | cons g2 L =>
      have h2 : (g2 :: L).flatten ≠ [] := by
        have := h g2 (by simp)
        rw [List.flatten_cons]
        intro e
        exact this (List.append_eq_nil_iff.1 e).1
      rw [List.map_cons, List.flatten_cons, jn_append hg h2, ← ih, ← List.singleton_append, jn_append (by simp) (by simp), jn, tl, cat_empty]

/-! lines as full as can be -/
def grGo (w : Nat) : List ByteArray → List ByteArray → List (List ByteArray)
  | cur, [] => [cur]
  | cur, y :: ys => if (jn cur).size + 1 + y.size ≤ w then grGo w (cur ++ [y]) ys else cur :: grGo w [y] ys
def gr (w : Nat) : List ByteArray → List (List ByteArray)
  | [] => []
  | x :: xs => grGo w [x] xs
theorem grGo_flat (w : Nat) (ys : List ByteArray) : ∀ cur, (grGo w cur ys).flatten = cur ++ ys := by
  induction ys with
  | nil => intro cur; simp [grGo]
  | cons y ys ih =>
    intro cur
    rw [grGo]
    split
    · rw [ih]; simp
    · rw [List.flatten_cons, ih]; simp
theorem grGo_ne (w : Nat) (ys : List ByteArray) : ∀ cur, cur ≠ [] → ∀ g ∈ grGo w cur ys, g ≠ [] := by
  induction ys with
  | nil => intro cur h g hg; rw [grGo, List.mem_singleton] at hg; subst hg; exact h
  | cons y ys ih =>
    intro cur h g hg
    rw [grGo] at hg
    split at hg
    · exact ih _ (by simp) g hg
    · rw [List.mem_cons] at hg
      rcases hg with hg | hg
      · subst hg; exact h
      · exact ih _ (by simp) g hg
theorem gr_flat (w : Nat) (ws : List ByteArray) : (gr w ws).flatten = ws := by
  cases ws with
  | nil => rfl
  | cons x xs => rw [gr, grGo_flat]; rfl
theorem gr_ne (w : Nat) (ws : List ByteArray) : ∀ g ∈ gr w ws, g ≠ [] := by
  cases ws with
  | nil => intro g hg; cases hg
  | cons x xs => exact grGo_ne w xs [x] (by simp)
/-- No line is wider than the width, unless it is one word; with the first word of the next line it would be. -/
def full (w : Nat) : List (List ByteArray) → Prop
  | [] => True
  | [g] => (jn g).size ≤ w ∨ g.length = 1
  | g :: h :: L => ((jn g).size ≤ w ∨ g.length = 1) ∧ (∀ y ys, h = y :: ys → w < (jn g).size + 1 + y.size) ∧ full w (h :: L)
theorem grGo_head (w : Nat) (ys : List ByteArray) : ∀ cur, cur ≠ [] → ∃ g L, grGo w cur ys = g :: L ∧ ∃ t, g = cur ++ t := by
  induction ys with
  | nil => intro cur h; exact ⟨cur, [], rfl, [], by simp⟩
  | cons y ys ih =>
    intro cur h
    rw [grGo]
    split
    · obtain ⟨g, L, e, t, ht⟩ := ih (cur ++ [y]) (by simp)
      exact ⟨g, L, e, y :: t, by rw [ht]; simp⟩
    · exact ⟨cur, _, rfl, [], by simp⟩
theorem grGo_full (w : Nat) (ys : List ByteArray) : ∀ cur, cur ≠ [] → ((jn cur).size ≤ w ∨ cur.length = 1) → full w (grGo w cur ys) := by
  induction ys with
  | nil => intro cur h hw; exact hw
  | cons y ys ih =>
    intro cur h hw
    rw [grGo]
    split
    · rename_i hle
      refine ih _ (by simp) (.inl ?_)
      rw [jn_snoc _ h, ByteArray.size_append, ByteArray.size_append, show sp.size = 1 from rfl]; omega
    · rename_i hgt
      have hf := ih [y] (by simp) (.inr rfl)
      obtain ⟨g, L, e, t, ht⟩ := grGo_head w ys [y] (by simp)
      rw [e] at hf ⊢
      refine ⟨hw, fun z zs hz => ?_, hf⟩
      rw [ht] at hz
      simp only [List.cons_append, List.nil_append, List.cons.injEq] at hz
      rw [← hz.1]; omega
theorem gr_full (w : Nat) (ws : List ByteArray) : full w (gr w ws) := by
  cases ws with
  | nil => trivial
  | cons x xs => exact grGo_full w xs [x] (by simp) (.inr rfl)
theorem full_get {w : Nat} {L : List (List ByteArray)} (h : full w L) (k : Nat) {g : List ByteArray} (hg : L[k]? = some g) : ((jn g).size ≤ w ∨ g.length = 1) ∧ ∀ y ys f, g = y :: ys → 0 < k → L[k - 1]? = some f → w < (jn f).size + 1 + y.size := by
  induction L generalizing k with
  | nil => simp at hg
  | cons a L ih =>
    cases L with
    | nil =>
      cases k with
      | zero => simp only [List.getElem?_cons_zero, Option.some.injEq] at hg; subst hg; exact ⟨h, fun _ _ _ _ h0 => by omega⟩
      | succ k => simp at hg
    | cons b L =>
      obtain ⟨h1, h2, h3⟩ := h
      cases k with
      | zero => simp only [List.getElem?_cons_zero, Option.some.injEq] at hg; subst hg; exact ⟨h1, fun _ _ _ _ h0 => by omega⟩
      | succ k =>
        rw [List.getElem?_cons_succ] at hg
        obtain ⟨i1, i2⟩ := ih h3 k hg
        refine ⟨i1, fun y ys f hy _ hf => ?_⟩
        cases k with
        | zero =>
          simp only [Nat.zero_add, Nat.sub_self, List.getElem?_cons_zero, Option.some.injEq] at hf hg
          subst hf hg
          exact h2 y ys hy
        | succ k =>
          rw [show k + 1 + 1 - 1 = k + 1 from by omega, List.getElem?_cons_succ] at hf
          exact i2 y ys f hy (by omega) (by rw [show k + 1 - 1 = k from by omega]; exact hf)
end Go.Proofs.YtfhcocpbhbleiaaDoor.ThW
/- What the printed functions answer, part Wd: the words of a text; words joined. -/
namespace Go.Proofs.YtfhcocpbhbleiaaDoor.Ev
open Go.RowKit Go.Proofs.YtfhcocpbhbleiaaDoor.X Go.Proofs.YtfhcocpbhbleiaaDoor.Wp Go.Proofs.YtfhcocpbhbleiaaDoorW.PrintWords Go.Proofs.YtfhcocpbhbleiaaDoor.ThW Go.Proofs.YtfhcocpbhbleiaaDoor.ThT
set_option linter.unusedVariables false
set_option linter.unusedSimpArgs false

theorem data_at (s : ByteArray) {n : Nat} (h : n < s.size) : ∃ c : UInt8, s.data.toList.drop n = c :: s.data.toList.drop (n + 1) ∧ bt s n = c.toNat ∧ s.extract n (n + 1) = mk [c] := by
  have hl := data_len s
  have h1 : n < s.data.toList.length := by omega
  refine ⟨s.data.toList[n], List.drop_eq_getElem_cons h1, ?_, ?_⟩
  · obtain ⟨p, e⟩ := bt_eq s (i := (n : Int)) (by omega) (by omega)
    rw [e]; rfl
  · apply str_ext
    · rw [ByteArray.size_extract, size_mk]; simp only [List.length_cons, List.length_nil]; omega
    · intro i h0 h2
      rw [ByteArray.size_extract] at h2
      have e : i = 0 := by omega
      subst e
      have := bt_ext s (a := (n : Int)) (b := ((n + 1 : Nat) : Int)) (i := 0) (by omega) (by omega) (by omega) (by omega)
      rw [Int.toNat_natCast, Int.toNat_natCast] at this
      rw [this, Int.add_zero]
      obtain ⟨p, e⟩ := bt_eq s (i := (n : Int)) (by omega) (by omega)
      rw [e]; rfl
theorem data_ok {s : ByteArray} (hv : VT s) {b : UInt8} (hb : b ∈ s.data.toList) : okB b.toNat := by
  obtain ⟨n, hn, rfl⟩ := List.getElem_of_mem hb
  rw [data_len] at hn
  have := hv.2 n (by omega) (by omega)
  obtain ⟨p, e⟩ := bt_eq s (i := (n : Int)) (by omega) (by omega)
  rw [e] at this
  exact this
theorem isSp_ok {b : UInt8} (h : okB b.toNat) : Lib.isSp b = true ↔ (b.toNat : Int) = 32 ∨ (b.toNat : Int) = 10 := by
  have key : Lib.isSp b = true ↔ (b = 9 ∨ b = 10 ∨ b = 11 ∨ b = 12 ∨ b = 13 ∨ b = 32) := by
    unfold Lib.isSp
    simp only [Bool.or_eq_true, beq_iff_eq]
    constructor
    · rintro (((((h | h) | h) | h) | h) | h) <;> simp [h]
    · rintro (h | h | h | h | h | h) <;> simp [h]
  rw [key]
  have conv : ∀ c : UInt8, b = c ↔ b.toNat = c.toNat := fun c => UInt8.toNat_inj.symm
  rw [conv, conv, conv, conv, conv, conv]
  have e9 : (9 : UInt8).toNat = 9 := rfl
  have e10 : (10 : UInt8).toNat = 10 := rfl
  have e11 : (11 : UInt8).toNat = 11 := rfl
  have e12 : (12 : UInt8).toNat = 12 := rfl
  have e13 : (13 : UInt8).toNat = 13 := rfl
  have e32 : (32 : UInt8).toNat = 32 := rfl
  unfold okB at h
  omega
theorem size_toList (s : ByteArray) : s.toList = [] ↔ s.size = 0 := by
  rw [toList_data, ← List.length_eq_zero_iff, data_len]

/-- The words of a valid text, none of another one. -/
noncomputable def W0 (s : ByteArray) : List ByteArray := if VT s then wds s else []
theorem implWords (s : ByteArray) (hs : s.size ≤ 140737488351232) : W (fun k => impl_WordsOf.f k s) (· = W0 s) := by
  unfold impl_WordsOf.f W0
  refine W.bind (implTV s hs) (fun b hb => W.ite (fun h => ?_) (fun h => W.ret (by rw [if_neg (fun hv => h (hb.2 hv))])))
  have hv := hb.1 h
  have hsz := hv.1
  rw [if_pos hv]
  refine W.call (r := wds s) ?_ (W.ret rfl)
  unfold strings_Fields.f
  rw [if_pos ⟨by omega, List.all_eq_true.2 fun b hb => by
    have := data_ok hv hb
    unfold okB at this
    simp only [decide_eq_true_eq]
    omega⟩]
  rfl
theorem specWords (s : ByteArray) (hs : s.size ≤ 140737488351232) : W (fun k => spec_WordsOf.f k s) (· = W0 s) := by
  unfold spec_WordsOf.f W0
  by_cases hv : VT s
  · rw [if_pos hv]
    have hsz := hv.1
    have key := W.loop (σ := List ByteArray × ByteArray × Nat) (l := fun x k => spec_WordsOf.l0 k s x.1 x.2.1 x.2.2) (P := fun x r => r = x.1 ++ if x.2.2 ≤ s.size then fg x.2.1 (s.data.toList.drop x.2.2) else []) (fun x => x.2.2 ≤ s.size + 1 ∧ x.1.length ≤ x.2.2 ∧ x.2.1.size ≤ x.2.2) (fun x => s.size + 1 - x.2.2) (by
      rintro ⟨out, word, n⟩ ⟨hn, ho, hw⟩ ih
      dsimp only at hn ho hw ⊢
      refine W.step (fun k => spec_WordsOf.l0.eq_2 ..) ?_
      by_cases hle : n ≤ s.size
      · rw [if_pos hle]
        refine W.pos (by omega) (W.bind_eq (tv_pos (specTV s hs) hv) (W.step (fun k => spec_WordsOf.j1.eq_2 ..) (W.pos rfl ?_)))
        -- a place at which no word goes on
        have brk : (n < s.size → ∃ c : UInt8, s.data.toList.drop n = c :: s.data.toList.drop (n + 1) ∧ Lib.isSp c = true) → W (fun k => spec_WordsOf.j2 k s out word n false) (· = out ++ fg word (s.data.toList.drop n)) := by
          intro hc
          refine W.step (fun k => spec_WordsOf.j2.eq_2 ..) (W.neg (by decide) ?_)
          have fin : fg word (s.data.toList.drop n) = (if word.size = 0 then [] else [word]) ++ if n + 1 ≤ s.size then fg ByteArray.empty (s.data.toList.drop (n + 1)) else [] := by
            by_cases hlt : n < s.size
            · obtain ⟨c, e, hsp⟩ := hc hlt
              rw [e, fg_sp _ _ hsp, if_pos (show n + 1 ≤ s.size from hlt)]
              by_cases h0 : word.size = 0
              · rw [if_pos h0, if_pos h0]; rfl
              · rw [if_neg h0, if_neg h0]; rfl
            · rw [List.drop_of_length_le (by rw [data_len]; omega), fg_nil, if_neg (show ¬ n + 1 ≤ s.size by omega), List.append_nil]
          rw [w64 (x := (n : Int) + 1) (by omega) (by omega)]
          refine W.ite (fun h => ?_) (fun h => ?_)
          · have h0 := (size_toList word).1 h
            have next := ih (out, word, n + 1) ⟨by dsimp only; omega, by dsimp only; omega, by dsimp only; omega⟩ (by dsimp only; omega)
            dsimp only at next
            rw [fin, if_pos h0, List.nil_append, ← size0.1 h0]
            exact next
          · have h0 : word.size ≠ 0 := fun h2 => h ((size_toList word).2 h2)
            have next := ih (out ++ [word], ByteArray.empty, n + 1) ⟨by dsimp only; omega, by simp only [List.length_append, List.length_cons, List.length_nil]; omega, by dsimp only; exact Nat.zero_le _⟩ (by dsimp only; omega)
            dsimp only at next
            rw [fin, if_neg h0, ← List.append_assoc]
            exact W.pos (by omega) next
        by_cases hlt : n < s.size
        · obtain ⟨c, e, hb, hx⟩ := data_at s hlt
          have hok : okB c.toNat := by rw [← hb]; exact hv.2 n (by omega) (by omega)
          refine W.pos (by omega) (W.pos (by omega) (W.ite (fun h => brk (fun _ => ⟨c, e, (isSp_ok hok).2 (.inl (by rw [← hb]; exact h))⟩)) (fun h => ?_)))
          by_cases h10 : bt s n = 10
          · rw [show (bt s n != 10) = false from by simp [h10]]
            exact brk (fun _ => ⟨c, e, (isSp_ok hok).2 (.inr (by rw [← hb]; exact h10))⟩)
          · rw [show (bt s n != 10) = true from by simp [h10]]
            have hsp : Lib.isSp c = false := by
              cases hc : Lib.isSp c with
              | false => rfl
              | true =>
                rcases (isSp_ok hok).1 hc with h2 | h2
                · exact absurd (hb.trans h2) h
                · exact absurd (hb.trans h2) h10
            have next := ih (out, word ++ mk [c], n + 1) ⟨by dsimp only; omega, by dsimp only; omega, by
              dsimp only
              rw [ByteArray.size_append, size_mk]; simp only [List.length_cons, List.length_nil]; omega⟩ (by dsimp only; omega)
            dsimp only at next
            rw [if_pos (show n + 1 ≤ s.size from hlt), ← fg_ch word _ hsp, ← e] at next
            refine W.step (fun k => spec_WordsOf.j2.eq_2 ..) (W.pos rfl ?_)
            rw [w64 (x := (n : Int) + 1) (by omega) (by omega), show ((n : Int) + 1).toNat = n + 1 from by omega, Int.toNat_natCast, hx]
            have hz : (mk [c]).size = 1 := rfl
            exact W.pos (by omega) (W.pos (by omega) (W.pos (by omega) (W.pos (by omega) next)))
        · exact W.neg (by omega) (brk (fun h => absurd h hlt))
      · rw [if_neg hle, List.append_nil]
        exact W.neg (by omega) (W.step (fun k => spec_WordsOf.j1.eq_2 ..) (W.neg (by decide) (W.ret rfl)))) ([], ByteArray.empty, 0) ⟨by dsimp only; omega, Nat.le_refl _, Nat.le_refl _⟩
    dsimp only at key
    rw [if_pos (Nat.zero_le _), List.drop_zero, List.nil_append] at key
    exact key
  · rw [if_neg hv]
    exact W.step (fun k => spec_WordsOf.l0.eq_2 ..) (W.pos (by omega) (W.bind_eq (tv_neg (specTV s hs) hv) (W.step (fun k => spec_WordsOf.j1.eq_2 ..) (W.neg (by decide) (W.ret rfl)))))

theorem W0_ok (s : ByteArray) : ∀ x ∈ W0 s, okW x := by
  unfold W0
  split
  · exact wds_ok s
  · intro x h; cases h
theorem W0_tot (s : ByteArray) : tot (W0 s) + (W0 s).length ≤ 121 := by
  unfold W0
  split
  · rename_i h
    have := wds_tot s
    have := h.1
    omega
  · simp [tot]
theorem rd_get (l : List ByteArray) {i : Int} (h0 : 0 ≤ i) (h : i < l.length) : l[i.toNat]? = some (rdOf ByteArray.empty l i) := by
  unfold rdOf
  rw [List.getD_eq_getElem?_getD, List.getElem?_eq_getElem (by omega)]
  rfl
theorem take_snoc (l : List ByteArray) {n : Nat} (h : n < l.length) : l.take (n + 1) = l.take n ++ [rdOf ByteArray.empty l n] := by
  rw [List.take_add_one]
  have := rd_get l (i := n) (by omega) (by omega)
  rw [Int.toNat_natCast] at this
  rw [this]; rfl
theorem drop_cons (l : List ByteArray) {n : Nat} (h : n < l.length) : l.drop n = rdOf ByteArray.empty l n :: l.drop (n + 1) := by
  rw [List.drop_eq_getElem_cons h]
  have := rd_get l (i := n) (by omega) (by omega)
  rw [Int.toNat_natCast, List.getElem?_eq_getElem h] at this
  injection this with this
  rw [this]
theorem rd_mem (l : List ByteArray) {i : Int} (h0 : 0 ≤ i) (h : i < l.length) : rdOf ByteArray.empty l i ∈ l := List.mem_of_getElem? (rd_get l h0 h)
theorem tot_take (l : List ByteArray) (n : Nat) : tot (l.take n) ≤ tot l := by
  have h := congrArg tot (List.take_append_drop n l)
  rw [tot_append] at h
  omega
/-- Lines joined by spaces. -/
theorem joinedW (l : List ByteArray) (h : tot l + l.length ≤ 100000) : W (fun k => laws_joined.f k l) (· = jn l) := by
  unfold laws_joined.f
  have key := W.loop (l := fun (n : Nat) k => laws_joined.l0 k l (jn (l.take n)) n) (P := fun _ r => r = jn l) (fun n => n ≤ l.length) (fun n => l.length - n) (by
    intro n hn ih
    refine W.step (fun k => laws_joined.l0.eq_2 ..) ?_
    by_cases hlt : n < l.length
    · have next := ih (n + 1) (by omega) (by omega)
      have hz := jn_size (l.take n)
      have ht := tot_take l n
      have hm := mem_tot (rd_mem l (i := n) (by omega) (by omega))
      rw [List.length_take] at hz
      rw [take_snoc l hlt, show ((n + 1 : Nat) : Int) = (n : Int) + 1 from by omega] at next
      rw [w64 (x := (n : Int) + 1) (by omega) (by omega)]
      refine W.pos (by omega) (W.ite (fun h0 => ?_) (fun h0 => ?_))
      · have hne : l.take n ≠ [] := by
          intro e
          have := congrArg List.length e
          rw [List.length_take, List.length_nil] at this
          omega
        rw [jn_snoc _ hne] at next
        have hs : (jn (l.take n) ++ (⟨#[32]⟩ : ByteArray)).size = (jn (l.take n)).size + 1 := by rw [ByteArray.size_append]; rfl
        first
          | exact W.pos (by omega) (W.pos (by omega) (W.pos (by omega) next))
          | exact W.pos (by omega) (W.pos (by omega) (W.pos (by omega) (W.pos (by omega) next)))
      · have e : n = 0 := by omega
        subst e
        rw [List.take_zero, List.nil_append] at next
        rw [List.take_zero]
        have e2 : jn [rdOf ByteArray.empty l ((0 : Nat) : Int)] = jn [] ++ rdOf ByteArray.empty l ((0 : Nat) : Int) := by
          simp only [jn, tl]; rw [cat_empty, empty_cat]
        rw [e2] at next
        have hz0 : (jn []).size = 0 := rfl
        first
          | exact W.pos (by omega) (W.pos (by omega) next)
          | exact W.pos (by omega) next
    · have e : n = l.length := by omega
      subst e
      rw [List.take_length]
      exact W.neg (by omega) (W.ret rfl)) 0 (by omega)
  rw [List.take_zero] at key
  exact key
end Go.Proofs.YtfhcocpbhbleiaaDoor.Ev
/- The plain law of least costs: words in lines whose costs are least. No program in sight. -/
namespace Go.Proofs.YtfhcocpbhbleiaaDoor.ThP
open Go.Proofs.YtfhcocpbhbleiaaDoor.ThW
set_option linter.unusedVariables false
set_option linter.unusedSimpArgs false

/-- What a line of so many bytes costs. -/
def lc (w len : Int) (last : Bool) : Int := if w - len < 0 then 100 * (w - len) * (w - len) else if last then 0 else (w - len) * (w - len)
/-- B, N: the least costs from word k on, and where the first line ends: the last such place. -/
def IsDP (n : Nat) (C : Nat → Nat → Int) (B : Nat → Int) (N : Nat → Nat) : Prop :=
  B n = 0 ∧ ∀ k, k < n → k < N k ∧ N k ≤ n ∧ B k = C k (N k) + B (N k) ∧ (∀ j, k < j → j ≤ n → B k ≤ C k j + B j) ∧ (∀ j, N k < j → j ≤ n → B k < C k j + B j)
/-- Words in lines by the table N, from word k on. -/
def chn (ws : List ByteArray) (N : Nat → Nat) : Nat → Nat → List (List ByteArray)
  | 0, _ => []
  | d + 1, k => if k < ws.length then (ws.drop k).take (N k - k) :: chn ws N d (N k) else []
/-- The costs of lines of words k .. j. -/
def seg (ws : List ByteArray) (k j : Nat) : List ByteArray := (ws.drop k).take (j - k)
def CL (w : Int) (ws : List ByteArray) (k j : Nat) : Int := lc w (jn (seg ws k j)).size (decide (j = ws.length))
end Go.Proofs.YtfhcocpbhbleiaaDoor.ThP
/- What the printed functions answer, part Fl: words in lines that are as full as can be. -/
namespace Go.Proofs.YtfhcocpbhbleiaaDoor.Ev
open Go.RowKit Go.Proofs.YtfhcocpbhbleiaaDoor.X Go.Proofs.YtfhcocpbhbleiaaDoor.Wp Go.Proofs.YtfhcocpbhbleiaaDoorW.PrintWords Go.Proofs.YtfhcocpbhbleiaaDoor.ThW Go.Proofs.YtfhcocpbhbleiaaDoor.ThP Go.Proofs.YtfhcocpbhbleiaaDoor.ThT
set_option linter.unusedVariables false
set_option linter.unusedSimpArgs false

theorem seg_len (ws : List ByteArray) {k j : Nat} (h : k ≤ j) (hj : j ≤ ws.length) : (seg ws k j).length = j - k := by
  unfold seg
  rw [List.length_take, List.length_drop]; omega
theorem seg_self (ws : List ByteArray) (k : Nat) : seg ws k k = [] := by
  unfold seg
  rw [Nat.sub_self, List.take_zero]
theorem seg_succ (ws : List ByteArray) {k j : Nat} (h : k ≤ j) (hj : j < ws.length) : seg ws k (j + 1) = seg ws k j ++ [rdOf ByteArray.empty ws j] := by
  unfold seg
  rw [show j + 1 - k = (j - k) + 1 from by omega, List.take_add_one, List.getElem?_drop, show k + (j - k) = j from by omega]
  have := rd_get ws (i := j) (by omega) (by omega)
  rw [Int.toNat_natCast] at this
  rw [this]; rfl
theorem tot_drop (l : List ByteArray) (n : Nat) : tot (l.drop n) ≤ tot l := by
  have h := congrArg tot (List.take_append_drop n l)
  rw [tot_append] at h
  omega
theorem tot_seg (ws : List ByteArray) (k j : Nat) : tot (seg ws k j) ≤ tot ws := by
  unfold seg
  have := tot_take (ws.drop k) (j - k)
  have := tot_drop ws k
  omega
theorem seg_size (ws : List ByteArray) {k j : Nat} (h : k < j) (hj : j ≤ ws.length) : (jn (seg ws k j)).size = tot (seg ws k j) + (j - k - 1) := by
  rw [jn_size, seg_len ws (by omega) hj]
theorem seg_ne (ws : List ByteArray) {k j : Nat} (h : k < j) (hj : j ≤ ws.length) : seg ws k j ≠ [] := by
  intro e
  have := congrArg List.length e
  rw [seg_len ws (by omega) hj, List.length_nil] at this
  omega

theorem sizeW (ws : List ByteArray) {k j : Nat} (h : k < j) (hj : j ≤ ws.length) (ht : tot ws + ws.length ≤ 100000) : W (fun f => spec_l14Size.f f ws k j) (· = ((jn (seg ws k j)).size : Int)) := by
  unfold spec_l14Size.f
  rw [w64 (x := (j : Int) - k) (by omega) (by omega), w64 (x := (j : Int) - k - 1) (by omega) (by omega)]
  have key := W.loop (l := fun (m : Nat) f => spec_l14Size.l0 f ws j ((j : Int) - k - 1 + (tot (seg ws k m) : Nat)) m) (P := fun _ r => r = ((jn (seg ws k j)).size : Int)) (fun m => k ≤ m ∧ m ≤ j) (fun m => j - m) (by
    rintro m ⟨h0, h1⟩ ih
    refine W.step (fun f => spec_l14Size.l0.eq_2 ..) ?_
    by_cases hlt : m < j
    · have next := ih (m + 1) ⟨by omega, by omega⟩ (by omega)
      have hm := mem_tot (rd_mem ws (i := m) (by omega) (by omega))
      have h2 := tot_seg ws k m
      rw [seg_succ ws h0 (by omega), tot_append, tot_cons, show tot [] = 0 from rfl, show ((m + 1 : Nat) : Int) = (m : Int) + 1 from by omega] at next
      rw [w64 (x := (m : Int) + 1) (by omega) (by omega), w64 (x := (j : Int) - k - 1 + (tot (seg ws k m) : Nat) + ((rdOf ByteArray.empty ws m).size : Nat)) (by omega) (by omega)]
      refine W.pos (by omega) (W.pos (by omega) (W.pos (by omega) ?_))
      rw [show (j : Int) - k - 1 + (tot (seg ws k m) : Nat) + ((rdOf ByteArray.empty ws m).size : Nat) = (j : Int) - k - 1 + ((tot (seg ws k m) + ((rdOf ByteArray.empty ws m).size + 0) : Nat) : Int) from by omega]
      exact next
    · have e : m = j := by omega
      subst e
      refine W.neg (by omega) (W.ret ?_)
      rw [seg_size ws h hj]; omega) k ⟨Nat.le_refl _, by omega⟩
  rw [seg_self, show tot [] = 0 from rfl] at key
  rw [show (j : Int) - k - 1 + ((0 : Nat) : Int) = (j : Int) - k - 1 from by omega] at key
  exact key

theorem textFW (ws : List ByteArray) {k j : Nat} (h : k ≤ j) (hj : j ≤ ws.length) (ht : tot ws + ws.length ≤ 100000) : W (fun f => spec_l14Text.f f ws k j) (· = jn (seg ws k j)) := by
  unfold spec_l14Text.f
  have key := W.loop (l := fun (m : Nat) f => spec_l14Text.l0 f ws k j (jn (seg ws k m)) m) (P := fun _ r => r = jn (seg ws k j)) (fun m => k ≤ m ∧ m ≤ j) (fun m => j - m) (by
    rintro m ⟨h0, h1⟩ ih
    refine W.step (fun f => spec_l14Text.l0.eq_2 ..) ?_
    by_cases hlt : m < j
    · have next := ih (m + 1) ⟨by omega, by omega⟩ (by omega)
      have hm := mem_tot (rd_mem ws (i := m) (by omega) (by omega))
      have h2 := tot_seg ws k m
      have hz := jn_size (seg ws k m)
      rw [seg_len ws h0 (by omega)] at hz
      rw [seg_succ ws h0 (by omega), show ((m + 1 : Nat) : Int) = (m : Int) + 1 from by omega] at next
      rw [w64 (x := (m : Int) + 1) (by omega) (by omega)]
      refine W.pos (by omega) (W.ite (fun hgt => ?_) (fun hgt => ?_))
      · rw [jn_snoc _ (seg_ne ws (show k < m by omega) (by omega))] at next
        have hs : (jn (seg ws k m) ++ (⟨#[32]⟩ : ByteArray)).size = (jn (seg ws k m)).size + 1 := by rw [ByteArray.size_append]; rfl
        exact W.pos (by omega) (W.pos (by omega) (W.pos (by omega) (W.pos (by omega) next)))
      · have e : m = k := by omega
        subst e
        rw [seg_self, List.nil_append] at next
        rw [seg_self]
        have e2 : jn [rdOf ByteArray.empty ws m] = jn [] ++ rdOf ByteArray.empty ws m := by
          simp only [jn, tl]; rw [cat_empty, empty_cat]
        rw [e2] at next
        have hz0 : (jn []).size = 0 := rfl
        exact W.pos (by omega) (W.pos (by omega) (W.pos (by omega) next))
    · have e : m = j := by omega
      subst e
      exact W.neg (by omega) (W.ret rfl)) k ⟨Nat.le_refl _, by omega⟩
  rw [seg_self] at key
  exact key

/-- The lines of words. -/
def gt (w : Nat) (ws : List ByteArray) : List ByteArray := (gr w ws).map jn
theorem grGo_len (w : Nat) (ys : List ByteArray) : ∀ cur, (grGo w cur ys).length ≤ ys.length + 1 := by
  induction ys with
  | nil => intro cur; simp [grGo]
  | cons y ys ih =>
    intro cur
    rw [grGo]
    split
    · have := ih (cur ++ [y]); simp only [List.length_cons]; omega
    · have := ih [y]; simp only [List.length_cons]; omega
theorem gt_len (w : Nat) (ws : List ByteArray) : (gt w ws).length ≤ ws.length := by
  unfold gt
  rw [List.length_map]
  cases ws with
  | nil => exact Nat.le_refl _
  | cons x xs => have := grGo_len w xs [x]; rw [gr]; simp only [List.length_cons]; omega
theorem isWidthE (w : Int) : impl_isWidth.f w = some (decide (4 ≤ w ∧ w ≤ 40)) := by
  unfold impl_isWidth.f
  rw [in_eq]; rfl

theorem specGreedy (s : ByteArray) (w : Int) (hs : s.size ≤ 140737488351232) : W (fun f => spec_FillGreedy.f f s w) (· = if 4 ≤ w ∧ w ≤ 40 then gt w.toNat (W0 s) else []) := by
  unfold spec_FillGreedy.f
  refine W.bind_eq (specWords s hs) ?_
  have htot := W0_tot s
  generalize W0 s = ws at htot ⊢
  by_cases hw : 4 ≤ w ∧ w ≤ 40
  · rw [if_pos hw]
    have main : ∀ (d k : Nat) (out : List ByteArray), ws.length - k = d → k ≤ ws.length → out.length ≤ k → W (fun f => spec_FillGreedy.l0 f w out ws k) (· = out ++ gt w.toNat (ws.drop k)) := by
      intro d
      induction d using Nat.strongRecOn with
      | _ d IH =>
        intro k out hd hk ho
        refine W.step (fun f => spec_FillGreedy.l0.eq_2 ..) ?_
        by_cases hlt : k < ws.length
        · refine W.pos (by omega) (W.call (l1In_eq ..) ?_)
          rw [decide_eq_true hw]
          refine W.step (fun f => spec_FillGreedy.j1.eq_2 ..) (W.pos rfl ?_)
          rw [w64 (x := (k : Int) + 1) (by omega) (by omega)]
          have key := W.loop (l := fun (n : Nat) f => spec_FillGreedy.l1 f w out ws k n) (P := fun n r => r = out ++ (grGo w.toNat (seg ws k n) (ws.drop n)).map jn) (fun n => k < n ∧ n ≤ ws.length) (fun n => ws.length - n) (by
            rintro n ⟨h0, h1⟩ ih
            refine W.step (fun f => spec_FillGreedy.l1.eq_2 ..) ?_
            by_cases hn : n < ws.length
            · have next := ih (n + 1) ⟨by omega, by omega⟩ (by omega)
              rw [w64 (x := (n : Int) + 1) (by omega) (by omega), show (n : Int) + 1 = ((n + 1 : Nat) : Int) from by omega]
              refine W.pos (by omega) (W.bind_eq (sizeW ws (show k < n + 1 by omega) (by omega) (by omega)) ?_)
              have e := seg_succ ws (show k ≤ n by omega) hn
              have hz : (jn (seg ws k (n + 1))).size = (jn (seg ws k n)).size + 1 + (rdOf ByteArray.empty ws n).size := by
                rw [e, jn_snoc _ (seg_ne ws h0 h1), ByteArray.size_append, ByteArray.size_append]; rfl
              rw [drop_cons ws hn, grGo]
              refine W.ite (fun h => ?_) (fun h => ?_)
              · rw [if_pos (show (jn (seg ws k n)).size + 1 + (rdOf ByteArray.empty ws n).size ≤ w.toNat by omega), ← e]
                exact next
              · rw [if_neg (show ¬ (jn (seg ws k n)).size + 1 + (rdOf ByteArray.empty ws n).size ≤ w.toNat by omega)]
                refine W.bind_eq (textFW ws (show k ≤ n by omega) (by omega) (by omega)) (W.pos (by omega) ?_)
                have := IH (ws.length - n) (by omega) n (out ++ [jn (seg ws k n)]) rfl (by omega) (by simp only [List.length_append, List.length_cons, List.length_nil]; omega)
                rw [drop_cons ws hn, gt, gr] at this
                exact this.mono (fun r hr => by rw [hr, List.map_cons, List.append_assoc]; rfl)
            · have e : n = ws.length := by omega
              subst e
              refine W.neg (by omega) (W.bind_eq (textFW ws (show k ≤ ws.length by omega) (by omega) (by omega)) (W.pos (by omega) ?_))
              have := IH (ws.length - ws.length) (by omega) ws.length (out ++ [jn (seg ws k ws.length)]) rfl (by omega) (by simp only [List.length_append, List.length_cons, List.length_nil]; omega)
              rw [List.drop_length] at this ⊢
              rw [grGo, List.map_cons, List.map_nil]
              rw [gt, gr, List.map_nil, List.append_nil] at this
              exact this) (k + 1) ⟨by omega, by omega⟩
          have e : seg ws k (k + 1) = [rdOf ByteArray.empty ws k] := by rw [seg_succ ws (Nat.le_refl k) hlt, seg_self]; rfl
          rw [e, show ((k + 1 : Nat) : Int) = (k : Int) + 1 from by omega] at key
          rw [drop_cons ws hlt, gt, gr]
          exact key
        · have e : k = ws.length := by omega
          subst e
          refine W.neg (by omega) (W.step (fun f => spec_FillGreedy.j1.eq_2 ..) (W.neg (by decide) (W.ret ?_)))
          rw [List.drop_length, gt, gr, List.map_nil, List.append_nil]
    have := main ws.length 0 [] (by omega) (by omega) (Nat.le_refl _)
    rw [List.drop_zero, List.nil_append] at this
    exact this
  · rw [if_neg hw]
    refine W.step (fun f => spec_FillGreedy.l0.eq_2 ..) ?_
    have fin : W (fun f => spec_FillGreedy.j1 f w [] ws 0 false) (· = []) := W.step (fun f => spec_FillGreedy.j1.eq_2 ..) (W.neg (by decide) (W.ret rfl))
    refine W.ite (fun h => W.call (l1In_eq ..) ?_) (fun h => fin)
    rw [decide_eq_false hw]
    exact fin

theorem rd_last (out : List ByteArray) (x : ByteArray) : rdOf ByteArray.empty (out ++ [x]) out.length = x := by
  unfold rdOf
  rw [List.getD_eq_getElem?_getD, Int.toNat_natCast, List.getElem?_append_right (Nat.le_refl _), Nat.sub_self]; rfl
theorem set_last (out : List ByteArray) (x y : ByteArray) : (out ++ [x]).set out.length y = out ++ [y] := by
  rw [List.set_append_right _ _ (Nat.le_refl _), Nat.sub_self]; rfl
theorem implGreedy (s : ByteArray) (w : Int) (hs : s.size ≤ 140737488351232) : W (fun f => impl_FillGreedy.f f s w) (· = if 4 ≤ w ∧ w ≤ 40 then gt w.toNat (W0 s) else []) := by
  unfold impl_FillGreedy.f
  have no : ∀ P : Prop, [Decidable P] → (P → W0 s = []) → W (fun f => impl_FillGreedy.j0 f s w true) (· = if P then gt w.toNat (W0 s) else []) := fun P _ hP => by
    refine W.step (fun f => impl_FillGreedy.j0.eq_2 ..) (W.pos rfl (W.ret ?_))
    split
    · rename_i h; rw [hP h]; rfl
    · rfl
  refine W.bind (implTV s hs) (fun b hb => W.ite (fun h => ?_) (fun h => no _ (fun _ => by unfold W0; rw [if_neg (fun hv => h (hb.2 hv))])))
  refine W.call (isWidthE w) ?_
  by_cases hw : 4 ≤ w ∧ w ≤ 40
  · rw [decide_eq_true hw, if_pos hw]
    refine W.step (fun f => impl_FillGreedy.j0.eq_2 ..) (W.neg (by decide) (W.bind_eq (implWords s hs) ?_))
    have htot := W0_tot s
    generalize W0 s = ws at htot ⊢
    have main := W.loop (σ := List ByteArray × List ByteArray × Nat) (l := fun x f => impl_FillGreedy.l0 f w (x.1 ++ [jn x.2.1]) ws ws.length x.2.2) (P := fun x r => r = x.1 ++ (grGo w.toNat x.2.1 (ws.drop x.2.2)).map jn) (fun x => x.2.1 ≠ [] ∧ x.2.2 ≤ ws.length ∧ x.1.length + 1 ≤ x.2.2 ∧ tot x.2.1 + x.2.1.length ≤ 121 ∧ tot x.2.1 + x.2.1.length + tot (ws.drop x.2.2) + (ws.drop x.2.2).length ≤ 121) (fun x => ws.length - x.2.2) (by
      rintro ⟨out, cur, n⟩ ⟨hc, hn, ho, hz, hz2⟩ ih
      dsimp only at hc hn ho hz hz2 ⊢
      refine W.step (fun f => impl_FillGreedy.l0.eq_2 ..) ?_
      by_cases hlt : n < ws.length
      · have hl : (out ++ [jn cur]).length = out.length + 1 := by simp
        have hdl : (ws.drop n).length = ws.length - n := List.length_drop ..
        have hdl2 : (ws.drop (n + 1)).length = ws.length - (n + 1) := List.length_drop ..
        have hcz := jn_size cur
        rw [drop_cons ws hlt, tot_cons] at hz2
        simp only [List.length_cons] at hz2
        rw [hl, show (((out.length + 1 : Nat) : Int)) - 1 = out.length from by omega, w64 (x := (out.length : Int)) (by omega) (by omega), rd_last, w64 (x := (n : Int) + 1) (by omega) (by omega)]
        rw [w64 (x := ((jn cur).size : Int) + 1) (by omega) (by omega), w64 (x := ((jn cur).size : Int) + 1 + ((rdOf ByteArray.empty ws n).size : Nat)) (by omega) (by omega)]
        rw [drop_cons ws hlt, grGo]
        refine W.pos (by omega) (W.pos (by omega) (W.pos (by omega) (W.pos (by omega) (W.pos (by omega) (W.pos (by omega) (W.ite (fun h => ?_) (fun h => ?_)))))))
        · rw [if_pos (show (jn cur).size + 1 + (rdOf ByteArray.empty ws n).size ≤ w.toNat by omega), Int.toNat_natCast, set_last]
          have next := ih (out, cur ++ [rdOf ByteArray.empty ws n], n + 1) ⟨by simp, by dsimp only; omega, by dsimp only; omega, by dsimp only; rw [tot_append, tot_cons, show tot [] = 0 from rfl]; simp only [List.length_append, List.length_cons, List.length_nil]; omega, by dsimp only; rw [tot_append, tot_cons, show tot [] = 0 from rfl]; simp only [List.length_append, List.length_cons, List.length_nil]; omega⟩ (by dsimp only; omega)
          dsimp only at next
          rw [jn_snoc _ hc, cat_assoc, show ((n + 1 : Nat) : Int) = (n : Int) + 1 from by omega] at next
          have hs1 : ((⟨#[32]⟩ : ByteArray) ++ rdOf ByteArray.empty ws n).size = 1 + (rdOf ByteArray.empty ws n).size := by rw [ByteArray.size_append]; rfl
          exact W.pos (by omega) (W.pos (by omega) next)
        · rw [if_neg (show ¬ (jn cur).size + 1 + (rdOf ByteArray.empty ws n).size ≤ w.toNat by omega)]
          have next := ih (out ++ [jn cur], [rdOf ByteArray.empty ws n], n + 1) ⟨by simp, by dsimp only; omega, by simp only [List.length_append, List.length_cons, List.length_nil]; omega, by dsimp only; rw [tot_cons, show tot [] = 0 from rfl]; simp only [List.length_cons, List.length_nil]; omega, by dsimp only; rw [tot_cons, show tot [] = 0 from rfl]; simp only [List.length_cons, List.length_nil]; omega⟩ (by dsimp only; omega)
          dsimp only at next
          have e1 : jn [rdOf ByteArray.empty ws n] = rdOf ByteArray.empty ws n := by simp only [jn, tl]; rw [cat_empty]
          rw [e1, show ((n + 1 : Nat) : Int) = (n : Int) + 1 from by omega] at next
          exact W.pos (by omega) (next.mono (fun r hr => by rw [hr, List.map_cons, List.append_assoc]; rfl))
      · have e : n = ws.length := by omega
        subst e
        refine W.neg (by omega) (W.ret ?_)
        rw [List.drop_length, grGo]; rfl)
    refine W.step (fun f => impl_FillGreedy.l0.eq_2 ..) ?_
    by_cases h0 : 0 < ws.length
    · have hd : ws = rdOf ByteArray.empty ws 0 :: ws.drop 1 := by
        have := drop_cons ws h0
        rw [List.drop_zero] at this
        exact this
      have hz := htot
      rw [hd, tot_cons, List.length_cons] at hz
      have next := main ([], [rdOf ByteArray.empty ws 0], 1) ⟨by simp, by dsimp only; omega, Nat.le_refl _, by dsimp only; rw [tot_cons, show tot [] = 0 from rfl]; simp only [List.length_cons, List.length_nil]; omega, by dsimp only; rw [tot_cons, show tot [] = 0 from rfl]; simp only [List.length_cons, List.length_nil] at hz ⊢; omega⟩
      dsimp only at next
      have e1 : jn [rdOf ByteArray.empty ws 0] = rdOf ByteArray.empty ws 0 := by simp only [jn, tl]; rw [cat_empty]
      rw [e1, List.nil_append, List.nil_append] at next
      rw [show gt w.toNat ws = (grGo w.toNat [rdOf ByteArray.empty ws 0] (ws.drop 1)).map jn from by
        unfold gt
        conv => lhs; rw [hd]
        rfl]
      rw [show (([] : List ByteArray).length : Int) - 1 = -1 from rfl, w64 (x := -1) (by omega) (by omega), w64 (x := (0 : Int) + 1) (by omega) (by omega)]
      exact W.pos (by omega) (W.pos (by omega) (W.pos (by omega) (W.neg (by omega) (W.pos (by simp) next))))
    · have e : ws = [] := List.length_eq_zero_iff.1 (by omega)
      subst e
      exact W.neg (by simp) (W.ret rfl)
  · rw [decide_eq_false hw]
    exact no _ (fun h => absurd h hw)
end Go.Proofs.YtfhcocpbhbleiaaDoor.Ev
/- What the printed functions answer, part Fm: words in lines whose costs are least. -/
namespace Go.Proofs.YtfhcocpbhbleiaaDoor.Ev
open Go.RowKit Go.Proofs.YtfhcocpbhbleiaaDoor.X Go.Proofs.YtfhcocpbhbleiaaDoor.Wp Go.Proofs.YtfhcocpbhbleiaaDoorW.PrintWords Go.Proofs.YtfhcocpbhbleiaaDoor.ThW Go.Proofs.YtfhcocpbhbleiaaDoor.ThP Go.Proofs.YtfhcocpbhbleiaaDoor.ThT
set_option linter.unusedVariables false
set_option linter.unusedSimpArgs false
/-- The tables are right from word f on. -/
structure DPf (n : Nat) (C : Nat → Nat → Int) (L M : List Int) (f : Nat) : Prop where
  len1 : L.length = n + 1
  len2 : M.length = n + 1
  last : rd L n = 0
  at_ : ∀ k : Nat, f ≤ k → k < n → (k : Int) < rd M k ∧ rd M k ≤ n ∧ rd L k = C k (rd M k).toNat + rd L (rd M k) ∧ (∀ j : Nat, k < j → j ≤ n → rd L k ≤ C k j + rd L j) ∧ (∀ j : Nat, rd M k < j → j ≤ n → rd L k < C k j + rd L j)
  bnd : ∀ k : Nat, f ≤ k → k ≤ n → 0 ≤ rd L k ∧ rd L k ≤ (n - k) * 100000000
/-- The best of the places before j. -/
def Best (C : Nat → Nat → Int) (L M : List Int) (k j : Nat) : Prop :=
  k + 1 < j → (k : Int) < rd M k ∧ rd M k < j ∧ rd L k = C k (rd M k).toNat + rd L (rd M k) ∧ (∀ i : Nat, k < i → i < j → rd L k ≤ C k i + rd L i) ∧ (∀ i : Nat, rd M k < i → i < j → rd L k < C k i + rd L i)
theorem rd_set_ne (xs : List Int) (v : Int) {k : Nat} {i : Int} (h0 : 0 ≤ i) (h : i ≠ k) : rd (xs.set k v) i = rd xs i := by
  unfold rd
  rw [List.getD_eq_getElem?_getD, List.getD_eq_getElem?_getD, List.getElem?_set_ne (by omega)]
theorem DPf.set {n : Nat} {C : Nat → Nat → Int} {L M : List Int} {k : Nat} (h : DPf n C L M (k + 1)) (hk : k < n) (u v : Int) : DPf n C (L.set k u) (M.set k v) (k + 1) := by
  have eL : ∀ i : Int, (k : Int) < i → rd (L.set k u) i = rd L i := fun i hi => rd_set_ne L u (by omega) (by omega)
  have eM : ∀ i : Int, (k : Int) < i → rd (M.set k v) i = rd M i := fun i hi => rd_set_ne M v (by omega) (by omega)
  refine ⟨by rw [List.length_set]; exact h.len1, by rw [List.length_set]; exact h.len2, by rw [eL _ (by omega)]; exact h.last, fun i h0 h1 => ?_, fun i h0 h1 => by rw [eL _ (by omega)]; exact h.bnd i h0 h1⟩
  obtain ⟨a, b, c, d, e⟩ := h.at_ i h0 h1
  rw [eM _ (by omega), eL _ (by omega), eL _ (by omega)]
  exact ⟨a, b, c, fun j j0 j1 => by rw [eL _ (by omega)]; exact d j j0 j1, fun j j0 j1 => by rw [eL _ (by omega)]; exact e j j0 j1⟩
theorem DPf.next {n : Nat} {C : Nat → Nat → Int} {L M : List Int} {k : Nat} (h : DPf n C L M (k + 1)) (hk : k < n) (hb : Best C L M k (n + 1)) (hC : ∀ j, k < j → j ≤ n → 0 ≤ C k j ∧ C k j ≤ 100000000) : DPf n C L M k := by
  obtain ⟨a, b, c, d, e⟩ := hb (by omega)
  refine ⟨h.len1, h.len2, h.last, fun i h0 h1 => ?_, fun i h0 h1 => ?_⟩
  · by_cases x : i = k
    · subst x
      exact ⟨a, by omega, c, fun j j0 j1 => d j j0 (by omega), fun j j0 j1 => e j j0 (by omega)⟩
    · exact h.at_ i (by omega) h1
  · by_cases x : i = k
    · subst x
      have h2 := hC (i + 1) (by omega) (by omega)
      have h3 := h.bnd (i + 1) (by omega) (by omega)
      have h4 := d (i + 1) (by omega) (by omega)
      have h5 := hC (rd M i).toNat (by omega) (by omega)
      have h6 := h.bnd (rd M i).toNat (by omega) (by omega)
      rw [show (((rd M i).toNat : Nat) : Int) = rd M i from by omega] at h6
      omega
    · exact h.bnd i (by omega) h1
/-- Words in lines with the least costs. -/
def LeastOf (w : Int) (ws r : List ByteArray) : Prop := ∃ B N, IsDP ws.length (CL w ws) B N ∧ r = (chn ws N ws.length 0).map jn
theorem LeastOf.nil (w : Int) : LeastOf w [] [] := ⟨fun _ => 0, fun k => k, ⟨rfl, fun k hk => by simp at hk⟩, rfl⟩
theorem chn_len (ws : List ByteArray) (N : Nat → Nat) (hN : ∀ k, k < ws.length → k < N k) : ∀ d k, (chn ws N d k).length ≤ ws.length - k
  | 0, k => by rw [chn]; exact Nat.zero_le _
  | d + 1, k => by
    rw [chn]
    by_cases c : k < ws.length
    · have := chn_len ws N hN d (N k)
      have := hN k c
      rw [if_pos c, List.length_cons]; omega
    · rw [if_neg c]; exact Nat.zero_le _
theorem LeastOf.len {w : Int} {ws r : List ByteArray} (h : LeastOf w ws r) : r.length ≤ ws.length := by
  obtain ⟨B, N, hd, rfl⟩ := h
  have := chn_len ws N (fun k hk => (hd.2 k hk).1) ws.length 0
  rw [List.length_map]; omega
end Go.Proofs.YtfhcocpbhbleiaaDoor.Ev
/- What the printed functions answer, part Fp: words in lines, and the words of the lines. -/
namespace Go.Proofs.YtfhcocpbhbleiaaDoor.Ev
open Go.RowKit Go.Proofs.YtfhcocpbhbleiaaDoor.X Go.Proofs.YtfhcocpbhbleiaaDoor.Wp Go.Proofs.YtfhcocpbhbleiaaDoorW.PrintWords Go.Proofs.YtfhcocpbhbleiaaDoor.ThW Go.Proofs.YtfhcocpbhbleiaaDoor.ThP Go.Proofs.YtfhcocpbhbleiaaDoor.ThT
set_option linter.unusedVariables false
set_option linter.unusedSimpArgs false

/-- Words in lines. -/
structure Part (ws : List ByteArray) (L : List (List ByteArray)) : Prop where
  ne : ∀ g ∈ L, g ≠ []
  flat : L.flatten = ws
theorem part_tot : ∀ {L : List (List ByteArray)}, (∀ g ∈ L, g ≠ []) → tot (L.map jn) + L.length = tot L.flatten + L.flatten.length
  | [], _ => rfl
  | g :: L, h => by
    have ih := part_tot (L := L) (fun x hx => h x (List.mem_cons_of_mem _ hx))
    have hg := List.length_pos_iff.2 (h g (List.mem_cons_self ..))
    rw [List.map_cons, tot_cons, List.flatten_cons, tot_append, List.length_append, List.length_cons, jn_size]
    omega
theorem part_mem {L : List (List ByteArray)} {g : List ByteArray} (h : g ∈ L) : tot g + g.length ≤ tot L.flatten + L.flatten.length := by
  induction L with
  | nil => cases h
  | cons x L ih =>
    rw [List.flatten_cons, tot_append, List.length_append]
    rw [List.mem_cons] at h
    rcases h with h | h
    · subst h; omega
    · have := ih h; omega
theorem Part.len {ws : List ByteArray} {L : List (List ByteArray)} (h : Part ws L) : L.length ≤ ws.length := by
  rw [← h.flat]
  have := h.ne
  clear h
  induction L with
  | nil => exact Nat.zero_le _
  | cons g L ih =>
    have h1 := ih (fun x hx => this x (List.mem_cons_of_mem _ hx))
    have hg := List.length_pos_iff.2 (this g (List.mem_cons_self ..))
    rw [List.length_cons, List.flatten_cons, List.length_append]; omega
/-- Words whose bytes may stand in a text. -/
def okWs (ws : List ByteArray) : Prop := ∀ x ∈ ws, ∀ b ∈ x.data.toList, okB b.toNat
theorem W0_okWs (s : ByteArray) : okWs (W0 s) := by
  intro x hx b hb
  unfold W0 at hx
  split at hx
  · rename_i hv
    have h := fg_flat s.data.toList ByteArray.empty
    have hm : b ∈ (fg ByteArray.empty s.data.toList).flatMap (fun x => x.data.toList) := List.mem_flatMap.2 ⟨x, hx, hb⟩
    rw [h, List.mem_append] at hm
    rcases hm with hm | hm
    · cases hm
    · exact data_ok hv (List.mem_filter.1 hm).1
  · cases hx
theorem tl_mem {ws : List ByteArray} {b : UInt8} (h : b ∈ (tl ws).data.toList) : b = 32 ∨ ∃ x ∈ ws, b ∈ x.data.toList := by
  induction ws with
  | nil => cases h
  | cons y ws ih =>
    rw [tl, data_cat, data_cat, List.mem_append, List.mem_append] at h
    rcases h with h | h | h
    · left
      have h2 : b ∈ ([32] : List UInt8) := h
      rw [List.mem_singleton] at h2; exact h2
    · exact .inr ⟨y, List.mem_cons_self .., h⟩
    · rcases ih h with h | ⟨x, hx, h⟩
      · exact .inl h
      · exact .inr ⟨x, List.mem_cons_of_mem _ hx, h⟩
theorem jn_mem {ws : List ByteArray} {b : UInt8} (h : b ∈ (jn ws).data.toList) : b = 32 ∨ ∃ x ∈ ws, b ∈ x.data.toList := by
  cases ws with
  | nil => cases h
  | cons y ws =>
    rw [jn, data_cat, List.mem_append] at h
    rcases h with h | h
    · exact .inr ⟨y, List.mem_cons_self .., h⟩
    · rcases tl_mem h with h | ⟨x, hx, h⟩
      · exact .inl h
      · exact .inr ⟨x, List.mem_cons_of_mem _ hx, h⟩
theorem VT_jn {ws : List ByteArray} (h : okWs ws) (hs : tot ws + ws.length ≤ 121) : VT (jn ws) := by
  have hz : (jn ws).size ≤ 120 := by
    have hz := jn_size ws
    cases ws with
    | nil => exact Nat.zero_le _
    | cons x l => simp only [List.length_cons] at hs hz; omega
  refine ⟨hz, fun j h0 h1 => ?_⟩
  obtain ⟨p, e⟩ := bt_eq (jn ws) h0 h1
  rw [e]
  have hm : (jn ws)[j.toNat]'p ∈ (jn ws).data.toList := List.getElem_mem (l := (jn ws).data.toList) (by rw [data_len]; exact p)
  rcases jn_mem hm with h2 | ⟨x, hx, h2⟩
  · rw [h2]; right; decide
  · exact h x hx _ h2
/-- The words of words joined. -/
theorem W0_jn {ws : List ByteArray} (h : okWs ws) (hw : ∀ x ∈ ws, okW x) (hs : tot ws + ws.length ≤ 121) : W0 (jn ws) = ws := by
  unfold W0
  rw [if_pos (VT_jn h hs), wds_jn hw]
theorem part_gr (w : Nat) (ws : List ByteArray) : Part ws (gr w ws) := ⟨gr_ne w ws, gr_flat w ws⟩
theorem joinedPart {ws : List ByteArray} {L : List (List ByteArray)} (h : Part ws L) (hs : tot ws + ws.length ≤ 121) : W (fun k => laws_joined.f k (L.map jn)) (· = jn ws) := by
  have ht := part_tot h.ne
  rw [h.flat] at ht
  refine (joinedW (L.map jn) (by rw [List.length_map]; omega)).mono (fun r hr => ?_)
  rw [hr, jn_jn h.ne, h.flat]
end Go.Proofs.YtfhcocpbhbleiaaDoor.Ev
/- Reading lists. -/
namespace Go.Proofs.YtfhcocpbhbleiaaDoor.Ev
open Go.RowKit Go.Proofs.YtfhcocpbhbleiaaDoorW.PrintWords
theorem rd_take' (xs : List Int) (n : Nat) {i : Int} (h0 : 0 ≤ i) (h : i < n) : rd (xs.take n) i = rd xs i := by
  unfold rd
  rw [List.getD_eq_getElem?_getD, List.getD_eq_getElem?_getD, List.getElem?_take, if_pos (by omega)]
end Go.Proofs.YtfhcocpbhbleiaaDoor.Ev
/- What the printed functions answer, part D: drawn texts. They end, and what they draw is short. -/
namespace Go.Proofs.YtfhcocpbhbleiaaDoor.Ev
open Go.RowKit Go.Proofs.YtfhcocpbhbleiaaDoor.X Go.Proofs.YtfhcocpbhbleiaaDoor.Wp Go.Proofs.YtfhcocpbhbleiaaDoorW.PrintWords
set_option linter.unusedVariables false
set_option linter.unusedSimpArgs false

/-- A reader's bytes. -/
def RB (b : List Int) : Prop := ∀ j : Int, 0 ≤ j → j < b.length → 0 ≤ rd b j ∧ rd b j ≤ 255
theorem RB_of {l : List Int} (h : ∀ x ∈ l, (Lit.int .u8 x).wf = true) : RB l := by
  intro j h0 h1
  have hm : rd l j ∈ l := by
    unfold rd
    rw [List.getD_eq_getElem?_getD, List.getElem?_eq_getElem (by omega)]
    exact List.getElem_mem _
  have := h _ hm
  simp [Lit.wf, IntKind.min, IntKind.max, IntKind.signed, IntKind.bits] at this
  omega
theorem RB_take {l : List Int} (h : RB l) (n : Nat) : RB (l.take n) := by
  intro j h0 h1
  rw [List.length_take] at h1
  rw [rd_take' l n h0 (by omega)]
  exact h j h0 (by omega)

theorem xor_nonneg {a b : Int} (a0 : 0 ≤ a) (a1 : a < 4611686018427387904) (b0 : 0 ≤ b) (b1 : b < 4611686018427387904) : 0 ≤ Go.bits .xor .i64 a b := by
  obtain ⟨x, rfl⟩ := Int.eq_ofNat_of_zero_le a0
  obtain ⟨y, rfl⟩ := Int.eq_ofNat_of_zero_le b0
  have hx : x < 2 ^ 62 := by omega
  have hy : y < 2 ^ 62 := by omega
  have h := Nat.xor_lt_two_pow hx hy
  simp only [Go.bits, BitVec.ofInt_natCast, BitVec.toNat_xor, BitVec.toNat_ofNat]
  rw [Nat.mod_eq_of_lt (show x < 2 ^ IntKind.i64.bits from Nat.lt_of_lt_of_le hx (by decide)), Nat.mod_eq_of_lt (show y < 2 ^ IntKind.i64.bits from Nat.lt_of_lt_of_le hy (by decide))]
  show 0 ≤ IntKind.i64.wrap ((x ^^^ y : Nat) : Int)
  rw [IntKind.wrap_i64]
  omega

theorem tmod_in {a n : Int} (h0 : 0 ≤ a) (h1 : 0 < n) : 0 ≤ Int.tmod a n ∧ Int.tmod a n < n := by
  rw [Int.tmod_eq_emod_of_nonneg h0]
  exact ⟨Int.emod_nonneg _ (by omega), Int.emod_lt_of_pos _ h1⟩

theorem pickW {b : List Int} {p n : Int} (hb : RB b) (hp : 0 ≤ p) (hp2 : p ≤ 1000000000) (hn : n ≤ 1000000000) : W (fun k => spec_l20Rd_pick.f k b p n) (fun r => 0 ≤ r.1 ∧ (r.1 < n ∨ r.1 = 0) ∧ r.2 = p + 1) := by
  unfold spec_l20Rd_pick.f
  rw [w64 (x := p + 1) (by omega) (by omega)]
  have zero : W (fun k => spec_l20Rd_pick.j0 k n true b (p + 1)) (fun r => 0 ≤ r.1 ∧ (r.1 < n ∨ r.1 = 0) ∧ r.2 = p + 1) :=
    W.step (fun k => spec_l20Rd_pick.j0.eq_2 ..) (W.pos rfl (W.ret ⟨by simp, .inr rfl, rfl⟩))
  refine W.ite (fun _ => zero) (fun hn1 => ?_)
  by_cases hl : (b.length : Int) = 0
  · rw [show ((b.length : Int) == 0) = true from by simpa using hl]
    exact zero
  · rw [show ((b.length : Int) == 0) = false from by simpa using hl]
    refine W.step (fun k => spec_l20Rd_pick.j0.eq_2 ..) (W.neg (by decide) ?_)
    rw [w64 (x := p + 1 - 1) (by omega) (by omega), show p + 1 - 1 = p from by omega]
    refine W.ite (fun hlt => W.pos hp (W.neg (by omega) ?_)) (fun hge => W.neg hl ?_)
    · have h := hb p hp hlt
      rw [w64 (x := rd b p) (by omega) (by omega)]
      have := tmod_in (a := rd b p) (n := n) h.1 (by omega)
      exact W.ret ⟨this.1, .inl this.2, rfl⟩
    · rw [w64 (x := p * 7) (by omega) (by omega), w64 (x := p * 7 + 3) (by omega) (by omega), w64 (x := p * 29) (by omega) (by omega)]
      have i1 := tmod_in (a := p) (n := (b.length : Int)) hp (by omega)
      have i2 := tmod_in (a := p * 7 + 3) (n := (b.length : Int)) (by omega) (by omega)
      have h1 := hb _ i1.1 i1.2
      have h2 := hb _ i2.1 i2.2
      have q1 : 0 ≤ Int.tdiv p (b.length : Int) ∧ Int.tdiv p (b.length : Int) ≤ p := by
        rw [Int.tdiv_eq_ediv_of_nonneg hp]
        exact ⟨Int.ediv_nonneg hp (by omega), Int.ediv_le_self _ hp⟩
      refine W.pos i1.1 (W.pos i1.2 (W.pos i2.1 (W.pos i2.2 (W.neg (by omega) ?_))))
      obtain ⟨u, hu⟩ : ∃ u, u = rd b (Int.tmod p (b.length : Int)) := ⟨_, rfl⟩
      obtain ⟨v, hv⟩ : ∃ v, v = rd b (Int.tmod (p * 7 + 3) (b.length : Int)) := ⟨_, rfl⟩
      obtain ⟨q, hq⟩ : ∃ q, q = Int.tdiv p (b.length : Int) := ⟨_, rfl⟩
      rw [← hu] at h1
      rw [← hv] at h2
      rw [← hq] at q1
      rw [← hu, ← hv, ← hq]
      rw [w64 (x := u) (by omega) (by omega), w64 (x := v) (by omega) (by omega), w64 (x := q) (by omega) (by omega), w64 (x := u * 131) (by omega) (by omega), w64 (x := v * 1117) (by omega) (by omega), w64 (x := q * 53) (by omega) (by omega),
        w64 (x := u * 131 + v * 1117) (by omega) (by omega), w64 (x := u * 131 + v * 1117 + p * 29) (by omega) (by omega), w64 (x := u * 131 + v * 1117 + p * 29 + q * 53) (by omega) (by omega)]
      obtain ⟨x, hx⟩ : ∃ x, x = u * 131 + v * 1117 + p * 29 + q * 53 := ⟨_, rfl⟩
      have x0 : 0 ≤ x ∧ x ≤ 1000000000000 := by omega
      rw [← hx]
      have x1 : 0 ≤ Int.tdiv x 64 ∧ Int.tdiv x 64 ≤ x := by
        rw [Int.tdiv_eq_ediv_of_nonneg x0.1]
        omega
      rw [w64 (x := Int.tdiv x 64) (by omega) (by omega)]
      have := tmod_in (n := n) (xor_nonneg (a := x) (b := Int.tdiv x 64) (by omega) (by omega) (by omega) (by omega)) (by omega)
      exact W.ret ⟨this.1, .inl this.2, rfl⟩

theorem oddW {b : List Int} {p n : Int} (hb : RB b) (hp : 0 ≤ p) (hp2 : p ≤ 1000000000) (hn : n ≤ 1000000000) : W (fun k => spec_l20Rd_odd.f k b p n) (fun r => p ≤ r.2 ∧ r.2 ≤ p + 1) := by
  unfold spec_l20Rd_odd.f
  refine W.ite (fun _ => W.bind (pickW hb hp hp2 hn) (fun a ha => W.ret ?_)) (fun _ => W.ret (by dsimp only; omega))
  dsimp only; omega

theorem rdOf_size {parts : List ByteArray} {m : Nat} (h : ∀ x ∈ parts, x.size ≤ m) (i : Int) : (rdOf ByteArray.empty parts i).size ≤ m := by
  unfold rdOf
  rw [List.getD_eq_getElem?_getD]
  cases hx : parts[i.toNat]? with
  | none => simp
  | some y => exact h y (List.mem_of_getElem? hx)

theorem textW {b : List Int} {p n : Int} (hb : RB b) (hp : 0 ≤ p) (hp2 : p ≤ 1000000) (hn : n ≤ 1000000000) : W (fun k => spec_l20Text.f k b p n) (fun r => r.1.size ≤ 125 ∧ p ≤ r.2 ∧ r.2 ≤ p + 30) := by
  unfold spec_l20Text.f
  refine W.bind (pickW hb hp (by omega) (by omega)) (fun a ha => ?_)
  obtain ⟨a1, a2⟩ := a
  dsimp only at ha ⊢
  obtain ⟨parts, hparts, hlen, hsz⟩ : ∃ parts : List ByteArray, parts = [(⟨#[97]⟩ : ByteArray), (⟨#[98]⟩ : ByteArray), (⟨#[97, 98]⟩ : ByteArray), (⟨#[119, 111, 114, 100]⟩ : ByteArray), (⟨#[120, 49]⟩ : ByteArray), (⟨#[32]⟩ : ByteArray), (⟨#[32]⟩ : ByteArray), (⟨#[32, 32]⟩ : ByteArray), (⟨#[10]⟩ : ByteArray), (⟨#[10]⟩ : ByteArray), (⟨#[10, 32, 32]⟩ : ByteArray), (⟨#[40]⟩ : ByteArray), (⟨#[41]⟩ : ByteArray), (⟨#[91, 97, 93]⟩ : ByteArray), (⟨#[123, 99, 125]⟩ : ByteArray), (⟨#[123]⟩ : ByteArray), (⟨#[125]⟩ : ByteArray), (⟨#[46]⟩ : ByteArray), (⟨#[34]⟩ : ByteArray), (⟨#[34, 115, 34]⟩ : ByteArray), (⟨#[55]⟩ : ByteArray), (⟨#[102, 111, 111, 32, 98, 97, 114]⟩ : ByteArray), (⟨#[92]⟩ : ByteArray), (⟨#[97, 97]⟩ : ByteArray)] ∧ parts.length = 24 ∧ ∀ x ∈ parts, x.size ≤ 7 := ⟨_, rfl, rfl, by
    intro x hx
    simp only [List.mem_cons, List.mem_nil_iff, or_false] at hx
    rcases hx with rfl | rfl | rfl | rfl | rfl | rfl | rfl | rfl | rfl | rfl | rfl | rfl | rfl | rfl | rfl | rfl | rfl | rfl | rfl | rfl | rfl | rfl | rfl | rfl <;> decide⟩
  rw [← hparts]
  have last : ∀ (s : ByteArray) (q : Int), s.size ≤ 125 → p ≤ q → q ≤ p + 30 → W (fun k => spec_l20Text.l1 k s b q) (fun r => r.1.size ≤ 125 ∧ p ≤ r.2 ∧ r.2 ≤ p + 30) := by
    intro s q hs h0 h1
    refine W.loop (l := fun s k => spec_l20Text.l1 k s b q) (P := fun _ r => r.1.size ≤ 125 ∧ p ≤ r.2 ∧ r.2 ≤ p + 30) (fun s : ByteArray => s.size ≤ 125) (fun s => 121 - s.size) ?_ s hs
    intro s hs ih
    refine W.step (fun k => spec_l20Text.l1.eq_2 ..) (W.ite (fun h => W.pos (by omega) (ih _ ?_ ?_)) (fun h => W.ret ⟨hs, h0, h1⟩))
    · rw [ByteArray.size_append]; show s.size + 5 ≤ 125; omega
    · rw [ByteArray.size_append]; show 121 - (s.size + 5) < 121 - s.size; omega
  refine W.loop (l := fun (z : ByteArray × Int × Int) k => spec_l20Text.l0 k n z.1 parts z.2.1 b z.2.2) (P := fun _ r => r.1.size ≤ 125 ∧ p ≤ r.2 ∧ r.2 ≤ p + 30) (fun z => z.1.size + 7 * z.2.1 ≤ 161 ∧ z.2.1 ≤ 23 ∧ -1 ≤ z.2.1 ∧ p ≤ z.2.2 ∧ z.2.2 + z.2.1 ≤ p + 24) (fun z => z.2.1.toNat) ?_ (⟨#[]⟩, a1, a2) ⟨by show 0 + 7 * a1 ≤ 161; omega, by dsimp only; omega, by dsimp only; omega, by dsimp only; omega, by dsimp only; omega⟩
  rintro ⟨s, c, q⟩ ⟨h1, h2, h3, h4, h5⟩ ih
  dsimp only at h1 h2 h3 h4 h5 ⊢
  refine W.step (fun k => spec_l20Text.l0.eq_2 ..) (W.ite (fun hc => ?_) (fun hc => ?_))
  · refine W.bind (pickW hb (by omega) (by omega) (by omega)) (fun d hd => ?_)
    have hr := rdOf_size hsz d.1
    rw [w64 (x := c - 1) (by omega) (by omega)]
    refine W.pos hd.1 (W.pos (by omega) (W.pos (by omega) (ih (_, c - 1, d.2) ⟨?_, ?_, ?_, ?_, ?_⟩ ?_)))
    · dsimp only; rw [ByteArray.size_append]; omega
    all_goals (dsimp only; omega)
  · have hmn : mn (s.size : Int) 120 ≤ s.size ∧ 0 ≤ mn (s.size : Int) 120 ∧ mn (s.size : Int) 120 ≤ 120 := by unfold mn; split <;> omega
    have hsz2 : (s.extract 0 (mn (s.size : Int) 120).toNat).size ≤ 120 := by rw [ByteArray.size_extract]; omega
    refine W.pos hmn.2.1 (W.pos hmn.1 (W.bind (oddW hb (by omega) (by omega) hn) (fun o ho => W.ite (fun _ => ?_) (fun _ => W.ret ⟨by dsimp only; omega, by dsimp only; omega, by dsimp only; omega⟩))))
    refine W.bind (pickW hb (by omega) (by omega) (by omega)) (fun d hd => W.ite (fun _ => W.pos (by omega) (W.ret ⟨?_, by dsimp only; omega, by dsimp only; omega⟩)) (fun _ => W.ite (fun _ => W.pos (by omega) (W.ret ⟨?_, by dsimp only; omega, by dsimp only; omega⟩)) (fun _ => last _ _ (by omega) (by omega) (by omega))))
    · dsimp only; rw [ByteArray.size_append]; show _ + 1 ≤ 125; omega
    · dsimp only; rw [ByteArray.size_append]; show _ + 1 ≤ 125; omega

theorem openW {l : List Int} (h : RB l) : ∃ b, spec_l20Open.f l = some (b, 0) ∧ RB b := by
  unfold spec_l20Open.f
  by_cases hl : (l.length : Int) > 2000
  · exact ⟨l.take 2000, by rw [if_pos hl, if_pos (by omega)], RB_take h _⟩
  · exact ⟨l, by rw [if_neg hl], h⟩
end Go.Proofs.YtfhcocpbhbleiaaDoor.Ev
/- What the printed functions answer, part DW: drawn texts and widths. -/
namespace Go.Proofs.YtfhcocpbhbleiaaDoor.Ev
open Go.RowKit Go.Proofs.YtfhcocpbhbleiaaDoor.X Go.Proofs.YtfhcocpbhbleiaaDoor.Wp Go.Proofs.YtfhcocpbhbleiaaDoorW.PrintWords
set_option linter.unusedVariables false
set_option linter.unusedSimpArgs false

theorem nine : ∀ i : Int, 0 ≤ i → i < 9 → 0 ≤ rd ([0, 0, 0, 0, 0, 0, 2, 1, 3] : List Int) i ∧ rd ([0, 0, 0, 0, 0, 0, 2, 1, 3] : List Int) i < 4 := by
  intro i h0 h1
  have : i = 0 ∨ i = 1 ∨ i = 2 ∨ i = 3 ∨ i = 4 ∨ i = 5 ∨ i = 6 ∨ i = 7 ∨ i = 8 := by omega
  rcases this with rfl | rfl | rfl | rfl | rfl | rfl | rfl | rfl | rfl <;> decide
theorem widthW {b : List Int} {p : Int} (hb : RB b) (hp : 0 ≤ p) (hp2 : p ≤ 100000) : W (fun k => spec_l20Width.f k b p) (fun _ => True) := by
  unfold spec_l20Width.f
  refine W.bind (pickW hb (by omega) (by omega) (by omega)) (fun c hc => W.name (W.name (W.bind (pickW hb (by omega) (by omega) (by omega)) (fun d hd => ?_))))
  have hd2 : 0 ≤ d.1 ∧ d.1 < 9 := ⟨hd.1, by rcases hd.2.1 with h | h <;> omega⟩
  have h9 := nine d.1 hd2.1 hd2.2
  have hl : (([0, 0, 0, 0, 0, 0, 2, 1, 3] : List Int).length : Int) = 9 := rfl
  have hl4 : (([wrap64 (4 + c.1), 3, 40, 41] : List Int).length : Int) = 4 := rfl
  exact W.pos hd2.1 (W.pos (by rw [hl]; exact hd2.2) (W.pos h9.1 (W.pos (by rw [hl4]; exact h9.2) (W.ret trivial))))
theorem drawWR {l : List Int} (hw : ∀ x ∈ l, (Lit.int .u8 x).wf = true) : W (fun k => spec_DrawWrapRows.f k l) (fun r => r.1.size ≤ 125) := by
  obtain ⟨b, he, hb⟩ := openW (RB_of hw)
  unfold spec_DrawWrapRows.f
  refine W.call he (W.bind (textW hb (Int.le_refl 0) (show (0 : Int) ≤ 1000000 by decide) (by omega)) (fun r hr => W.bind (widthW hb hr.2.1 (by have := hr.2.2; omega)) (fun q _ => W.ret hr.1)))
theorem drawFG {l : List Int} (hw : ∀ x ∈ l, (Lit.int .u8 x).wf = true) : W (fun k => spec_DrawFillGreedy.f k l) (fun r => r.1.size ≤ 125) := by
  unfold spec_DrawFillGreedy.f
  exact W.bind (drawWR hw) (fun r hr => W.ret hr)
end Go.Proofs.YtfhcocpbhbleiaaDoor.Ev
/- What the printed functions answer, part L: 'alive'. -/
namespace Go.Proofs.YtfhcocpbhbleiaaDoor.Ev
open Go.RowKit Go.Proofs.YtfhcocpbhbleiaaDoor.X Go.Proofs.YtfhcocpbhbleiaaDoor.Wp Go.Proofs.YtfhcocpbhbleiaaDoorW.PrintWords
set_option linter.unusedVariables false
set_option linter.unusedSimpArgs false

theorem aliveW : W (fun k => laws_alive.f k) (· = true) := by
  have hv : VT (⟨#[97, 10, 98]⟩ : ByteArray) := by
    refine ⟨by decide, fun j h0 h1 => ?_⟩
    have h3 : ((⟨#[97, 10, 98]⟩ : ByteArray).size : Int) = 3 := rfl
    have : j = 0 ∨ j = 1 ∨ j = 2 := by omega
    rcases this with rfl | rfl | rfl
    · right; decide
    · left; rfl
    · right; decide
  unfold laws_alive.f impl_LineMany.f
  refine W.bind_eq (a := 2) (W.bind_eq (tv_pos (implTV _ (by decide)) hv) (W.pos rfl (W.call (r := 1) rfl (W.ret ?_)))) (W.ret rfl)
  exact w64 (by omega) (by omega)
theorem alive_then : W (fun k => (laws_alive.f k).bind fun t => some t) (· = true) := W.bind_eq aliveW (W.ret rfl)
end Go.Proofs.YtfhcocpbhbleiaaDoor.Ev
/- What the printed functions answer, part Sm: lists held against each other. -/
namespace Go.Proofs.YtfhcocpbhbleiaaDoor.Ev
open Go.RowKit Go.Proofs.YtfhcocpbhbleiaaDoor.X Go.Proofs.YtfhcocpbhbleiaaDoor.Wp Go.Proofs.YtfhcocpbhbleiaaDoorW.PrintWords Go.Proofs.YtfhcocpbhbleiaaDoor.ThB Go.Proofs.YtfhcocpbhbleiaaDoor.ThT
set_option linter.unusedVariables false
set_option linter.unusedSimpArgs false

theorem sameTextsW (a b : List ByteArray) (ha : a.length ≤ 140737488351232) : W (fun k => laws_sameTexts.f k a b) (fun r => r = true ↔ a = b) := by
  unfold laws_sameTexts.f
  refine W.ite (fun hl => ?_) (fun hl => W.ret ⟨fun h => by simp at h, fun h => absurd (by rw [h]) hl⟩)
  refine W.loop (l := fun i k => laws_sameTexts.l0 k a b i) (P := fun _ r => r = true ↔ a = b) (fun i : Int => 0 ≤ i ∧ i ≤ a.length ∧ ∀ j, 0 ≤ j → j < i → rdOf ByteArray.empty a j = rdOf ByteArray.empty b j) (fun i => (a.length - i).toNat) ?_ 0 ⟨by omega, by omega, fun j h0 h1 => by omega⟩
  intro i ⟨h0, h1, h2⟩ ih
  refine W.step (fun k => laws_sameTexts.l0.eq_2 ..) ?_
  by_cases hlt : i < a.length
  · rw [w64 (x := i + 1) (by omega) (by omega)]
    refine W.pos hlt (W.pos h0 (W.pos (by omega) (W.ite (fun he => ih (i + 1) ⟨by omega, by omega, fun j h3 h4 => ?_⟩ (by omega)) (fun he => W.ret ⟨fun h => by simp at h, fun h => absurd (by rw [h]) he⟩))))
    by_cases e : j = i
    · subst e; exact toList_inj.1 he
    · exact h2 j h3 (by omega)
  · refine W.neg hlt (W.ret ⟨fun _ => rdOf_ext ByteArray.empty (by omega) (fun j h3 h4 => h2 j h3 (by omega)), fun _ => rfl⟩)
end Go.Proofs.YtfhcocpbhbleiaaDoor.Ev
namespace Go.Proofs.YtfhcocpbhbleiaaDoor.Pure
open Go.RowKit Go.Proofs.YtfhcocpbhbleiaaDoor.X Go.Proofs.YtfhcocpbhbleiaaDoor.Wp Go.Proofs.YtfhcocpbhbleiaaDoor.Ev Go.Proofs.YtfhcocpbhbleiaaDoor.ThW Go.Proofs.YtfhcocpbhbleiaaDoor.ThP Go.Proofs.YtfhcocpbhbleiaaDoorW.PrintWords
set_option linter.unusedVariables false
set_option linter.unusedSimpArgs false

theorem fillGreedyW (l : List Int) (hw : ∀ x ∈ l, (Lit.int .u8 x).wf = true) : W (fun k => laws_FnFillGreedy.f k l) (· = true) := by
  unfold laws_FnFillGreedy.f
  refine W.ite (fun _ => W.ret rfl) (fun _ => W.bind (drawFG hw) (fun d hd => ?_))
  obtain ⟨s, w⟩ := d
  dsimp only at hd ⊢
  have ht := W0_tot s
  refine W.bind_eq (implGreedy s w (by omega)) (W.bind_eq (specGreedy s w (by omega)) ?_)
  by_cases hok : 4 ≤ w ∧ w ≤ 40
  · rw [if_pos hok]
    have hgl := gt_len w.toNat (W0 s)
    have hp := part_gr w.toNat (W0 s)
    have hfull := gr_full w.toNat (W0 s)
    refine W.bind (sameTextsW _ (gt w.toNat (W0 s)) (by omega)) (fun b hb => W.pos (hb.2 rfl) (W.ite (fun _ => alive_then) (fun h0 => ?_)))
    have hgt : (gt w.toNat (W0 s)).length = (gr w.toNat (W0 s)).length := List.length_map ..
    have line : ∀ n : Nat, n < (gr w.toNat (W0 s)).length → ∃ g, (gr w.toNat (W0 s))[n]? = some g ∧ rdOf ByteArray.empty (gt w.toNat (W0 s)) n = jn g ∧ g ∈ gr w.toNat (W0 s) := by
      intro n hn
      refine ⟨_, List.getElem?_eq_getElem hn, ?_, List.getElem_mem hn⟩
      have := rd_get (gt w.toNat (W0 s)) (i := n) (by omega) (by omega)
      rw [Int.toNat_natCast] at this
      unfold gt at this ⊢
      rw [List.getElem?_map, List.getElem?_eq_getElem hn] at this
      injection this with this
      exact this.symm
    have key := W.loop (l := fun (n : Nat) k => laws_FnFillGreedy.l0 k s w (gt w.toNat (W0 s)) n) (P := fun _ r => r = true) (fun n => n ≤ (gt w.toNat (W0 s)).length) (fun n => (gt w.toNat (W0 s)).length - n) (by
      intro n hn ih
      refine W.step (fun k => laws_FnFillGreedy.l0.eq_2 ..) ?_
      by_cases hlt : n < (gt w.toNat (W0 s)).length
      · obtain ⟨g, hg, hrd, hm⟩ := line n (by omega)
        have h1 := part_mem hm
        rw [hp.flat] at h1
        have sub : ∀ x ∈ g, x ∈ W0 s := fun x hx => by rw [← hp.flat]; exact List.mem_flatten.2 ⟨g, hm, hx⟩
        have hgw : W0 (jn g) = g := W0_jn (fun x hx => W0_okWs s x (sub x hx)) (fun x hx => W0_ok s x (sub x hx)) (by omega)
        have hgs := (VT_jn (ws := g) (fun x hx => W0_okWs s x (sub x hx)) (by omega)).1
        have hne := hp.ne g hm
        have hgl0 := List.length_pos_iff.2 hne
        have hfg := full_get hfull n hg
        refine W.pos (by omega) (W.pos (by omega) ?_)
        rw [hrd]
        refine W.bind_eq (implWords (jn g) (by omega)) ?_
        rw [hgw]
        have go : W (fun k => laws_FnFillGreedy.j1 k s w (gt w.toNat (W0 s)) n g false) (· = true) := by
          refine W.step (fun k => laws_FnFillGreedy.j1.eq_2 ..) (W.neg (by decide) ?_)
          have next := ih (n + 1) (by omega) (by omega)
          rw [show ((n + 1 : Nat) : Int) = (n : Int) + 1 from by omega] at next
          rw [w64 (x := (n : Int) + 1) (by omega) (by omega)]
          refine W.ite (fun hpos => ?_) (fun _ => next)
          rw [w64 (x := (n : Int) - 1) (by omega) (by omega)]
          obtain ⟨f, hf, hrf, hmf⟩ := line (n - 1) (by omega)
          rw [show ((n - 1 : Nat) : Int) = (n : Int) - 1 from by omega] at hrf
          rw [hrf]
          have hf1 := part_mem hmf
          rw [hp.flat] at hf1
          have hfz := jn_size f
          obtain ⟨y, ys, rfl⟩ : ∃ y ys, g = y :: ys := by
            cases g with
            | nil => exact absurd rfl hne
            | cons y ys => exact ⟨y, ys, rfl⟩
          have h2 := hfg.2 y ys f rfl (by omega) hf
          have hy := mem_tot (List.mem_cons_self (a := y) (l := ys))
          rw [show rdOf ByteArray.empty (y :: ys) 0 = y from rfl, w64 (x := ((jn f).size : Int) + 1) (by omega) (by omega), w64 (x := ((jn f).size : Int) + 1 + (y.size : Nat)) (by omega) (by omega)]
          exact W.pos (by omega) (W.pos (by omega) (W.pos (by omega) (W.neg (by omega) next)))
        refine W.neg (by omega) (W.ite (fun hwide => ?_) (fun _ => go))
        rw [decide_eq_false (show ¬ (g.length : Int) > 1 from by rcases hfg.1 with h | h <;> omega)]
        exact go
      · have e : n = (gt w.toNat (W0 s)).length := by omega
        subst e
        refine W.neg (by omega) (W.bind_eq (joinedPart hp ht) ?_)
        have hj := W0_jn (W0_okWs s) (W0_ok s) ht
        have hjs := (VT_jn (W0_okWs s) ht).1
        refine W.bind_eq (implWords (jn (W0 s)) (by omega)) (W.bind_eq (implWords s (by omega)) ?_)
        rw [hj]
        exact W.bind (sameTextsW (W0 s) (W0 s) (by omega)) (fun b hb => W.ret (hb.2 rfl))) 0 (Nat.zero_le _)
    exact key
  · rw [if_neg hok]
    exact W.bind (sameTextsW [] [] (by simp)) (fun b hb => W.pos (hb.2 rfl) (W.pos rfl alive_then))
theorem FnFillGreedy : laws_FnFillGreedy.Pure := fun l _ _ hw => W.rounds (fillGreedyW l hw)
end Go.Proofs.YtfhcocpbhbleiaaDoor.Pure
