/- For every text and width, the program's FillLeast returns what the reference's FillLeast returns, in memory of its own. Conditions: none. -/
import Derived.Test.YtfhcocpbhbleiaaDoorWMore
import Derived.Test.YtfhcocpbhbleiaaDoorX2
import Derived.Test.YtfhcocpbhbleiaaDoorX4
import Derived.Laws.Strings
import Derived.Lib.Fields
import Derived.Test.YtfhcocpbhbleiaaDoorX5
import Derived.Test.YtfhcocpbhbleiaaDoorX7
import Derived.Lib.Join
import Derived.Test.YtfhcocpbhbleiaaDoorX10
/- Running the printed functions: 'W g P': from some number of rounds on g answers, and the answer meets P. -/
namespace Go.Proofs.YtfhcocpbhbleiaaDoor.Wp
open Go.RowKit Go.Proofs.YtfhcocpbhbleiaaDoorW.PrintWords
set_option linter.unusedVariables false
set_option linter.unusedSimpArgs false

def W {α : Type} (g : Nat → Option α) (P : α → Prop) : Prop := ∃ r, P r ∧ ∃ K, ∀ k, K ≤ k → g k = some r

theorem W.ret {α : Type} {r : α} {P : α → Prop} (h : P r) : W (fun _ => some r) P := ⟨r, h, 0, fun _ _ => rfl⟩

theorem W.mono {α : Type} {g : Nat → Option α} {P Q : α → Prop} (h : W g Q) (hk : ∀ a, Q a → P a) : W g P := by
  obtain ⟨r, hr, K, h⟩ := h
  exact ⟨r, hk r hr, K, h⟩

theorem W.bind {α β : Type} {g : Nat → Option α} {f : Nat → α → Option β} {P : β → Prop} {Q : α → Prop} (h : W g Q) (hk : ∀ a, Q a → W (fun k => f k a) P) : W (fun k => (g k).bind (f k)) P := by
  obtain ⟨a, ha, K, h⟩ := h
  obtain ⟨r, hr, K', h'⟩ := hk a ha
  refine ⟨r, hr, max K K', fun k hle => ?_⟩
  have h1 := h k (by omega)
  have h2 := h' k (by omega)
  simp only [h1, Option.bind_some]
  exact h2

theorem W.bind_eq {α β : Type} {g : Nat → Option α} {f : Nat → α → Option β} {P : β → Prop} {a : α} (h : W g (· = a)) (hk : W (fun k => f k a) P) : W (fun k => (g k).bind (f k)) P :=
  W.bind h (fun b hb => by subst hb; exact hk)

theorem W.step {α : Type} {g f : Nat → Option α} {P : α → Prop} (h : ∀ k, g (k + 1) = f k) (w : W f P) : W g P := by
  obtain ⟨r, hr, K, w⟩ := w
  refine ⟨r, hr, K + 1, fun k hk => ?_⟩
  obtain ⟨m, rfl⟩ : ∃ m, k = m + 1 := ⟨k - 1, by omega⟩
  rw [h]
  exact w m (by omega)

theorem W.congr {α : Type} {g f : Nat → Option α} {P : α → Prop} (h : ∀ k, g k = f k) (w : W f P) : W g P := by
  obtain ⟨r, hr, K, w⟩ := w
  exact ⟨r, hr, K, fun k hk => (h k).trans (w k hk)⟩

theorem W.ite {α : Type} {c : Prop} [Decidable c] {a b : Nat → Option α} {P : α → Prop} (h1 : c → W a P) (h2 : ¬c → W b P) : W (fun k => if c then a k else b k) P := by
  by_cases h : c
  · simp only [if_pos h]; exact h1 h
  · simp only [if_neg h]; exact h2 h

theorem W.pos {α : Type} {c : Prop} [Decidable c] {a b : Nat → Option α} {P : α → Prop} (h : c) (w : W a P) : W (fun k => if c then a k else b k) P := W.ite (fun _ => w) (fun h' => absurd h h')
theorem W.neg {α : Type} {c : Prop} [Decidable c] {a b : Nat → Option α} {P : α → Prop} (h : ¬ c) (w : W b P) : W (fun k => if c then a k else b k) P := W.ite (fun h' => absurd h' h) (fun _ => w)
theorem W.call {α β : Type} {x : Option α} {r : α} {f : Nat → α → Option β} {P : β → Prop} (h : x = some r) (w : W (fun k => f k r) P) : W (fun k => x.bind (f k)) P := by
  subst h; exact w
theorem W.name {α β : Type} {r : α} {f : Nat → α → Option β} {P : β → Prop} (w : W (fun k => f k r) P) : W (fun k => (some r).bind (f k)) P := w

theorem W.rounds {α : Type} {g : Nat → Option α} {r : α} (h : W g (· = r)) : ∃ k, g k = some r := by
  obtain ⟨a, rfl, K, h⟩ := h
  exact ⟨K, h K (Nat.le_refl _)⟩

/-- A loop: a measure, an invariant. -/
theorem W.loop {α σ : Type} {l : σ → Nat → Option α} {P : σ → α → Prop} (I : σ → Prop) (m : σ → Nat) (h : ∀ s, I s → (∀ s', I s' → m s' < m s → W (l s') (P s')) → W (l s) (P s)) : ∀ s, I s → W (l s) (P s) := by
  have key : ∀ n s, m s < n → I s → W (l s) (P s) := by
    intro n
    induction n with
    | zero => intro s hs; omega
    | succ n ih => intro s hs hi; exact h s hi (fun s' hi' hm => ih s' (by omega) hi')
  intro s hi
  exact key (m s + 1) s (by omega) hi

theorem w64 {x : Int} (h : -9223372036854775808 ≤ x) (h' : x ≤ 9223372036854775807) : wrap64 x = x := by
  unfold wrap64; omega

end Go.Proofs.YtfhcocpbhbleiaaDoor.Wp
/- What the printed functions answer, part A: valid texts, places, ranges. -/
namespace Go.Proofs.YtfhcocpbhbleiaaDoor.Ev
open Go.RowKit Go.Proofs.YtfhcocpbhbleiaaDoor.X Go.Proofs.YtfhcocpbhbleiaaDoor.Wp Go.Proofs.YtfhcocpbhbleiaaDoorW.PrintWords
set_option linter.unusedVariables false
set_option linter.unusedSimpArgs false

def okB (c : Int) : Prop := c = 10 ∨ (32 ≤ c ∧ c ≤ 126)
instance (c : Int) : Decidable (okB c) := by unfold okB; infer_instance
/-- A valid text. -/
def VT (s : ByteArray) : Prop := s.size ≤ 120 ∧ ∀ j : Int, 0 ≤ j → j < s.size → okB (bt s j)

noncomputable instance (s : ByteArray) : Decidable (VT s) := Classical.propDecidable _

theorem isByte_eq (c : Int) : impl_isByte.f c = some (decide (okB c)) := by
  unfold impl_isByte.f okB
  by_cases h1 : c = 10
  · simp [h1]
  · by_cases h2 : c ≥ 32
    · simp [h1, h2]
    · have : ¬ 32 ≤ c := h2
      simp [h1, this]
theorem in_eq (a b c : Int) : impl_in.f a b c = some (decide (b ≤ a ∧ a ≤ c)) := by
  unfold impl_in.f
  by_cases h : b ≤ a <;> simp [h]
theorem l1In_eq (a b c : Int) : spec_l1In.f a b c = some (decide (b ≤ a ∧ a ≤ c)) := by
  unfold spec_l1In.f
  by_cases h : b ≤ a
  · simp [h]
  · have : ¬ a ≥ b := h
    simp [h]
theorem implTV (s : ByteArray) (hs : s.size ≤ 140737488351232) : W (fun k => impl_TextValid.f k s) (fun b => b = true ↔ VT s) := by
  unfold impl_TextValid.f
  refine W.loop (l := fun i k => impl_TextValid.l0 k s s.size i) (P := fun _ b => b = true ↔ VT s) (fun i => 0 ≤ i ∧ i ≤ s.size ∧ ∀ j, 0 ≤ j → j < i → okB (bt s j)) (fun i => (s.size - i).toNat) ?_ 0 ⟨by omega, by omega, fun j h0 h1 => by omega⟩
  intro i ⟨h0, h1, h2⟩ ih
  refine W.step (fun k => impl_TextValid.l0.eq_2 ..) ?_
  by_cases hlt : i < s.size
  · simp (disch := omega) only [if_pos, w64, isByte_eq, Option.bind_some]
    by_cases hb : okB (bt s i)
    · simp only [hb, decide_true, if_true]
      exact ih (i + 1) ⟨by omega, by omega, fun j h3 h4 => by
        by_cases e : j = i
        · subst e; exact hb
        · exact h2 j h3 (by omega)⟩ (by omega)
    · simp only [hb, decide_false]
      exact W.ret ⟨fun h => by simp at h, fun h => absurd (h.2 i h0 hlt) hb⟩
  · simp (disch := omega) only [if_neg]
    refine W.ret ?_
    simp only [decide_eq_true_eq]
    exact ⟨fun h => ⟨by omega, fun j h3 h4 => h2 j h3 (by omega)⟩, fun h => by have := h.1; omega⟩

theorem specPlain (s : ByteArray) (hs : s.size ≤ 140737488351232) : W (fun k => spec_l1Plain.f k s) (fun b => b = true ↔ ∀ j : Int, 0 ≤ j → j < s.size → okB (bt s j)) := by
  unfold spec_l1Plain.f
  refine W.loop (l := fun i k => spec_l1Plain.l0 k s i) (P := fun _ b => b = true ↔ ∀ j : Int, 0 ≤ j → j < s.size → okB (bt s j)) (fun i => 0 ≤ i ∧ i ≤ s.size ∧ ∀ j, 0 ≤ j → j < i → okB (bt s j)) (fun i => (s.size - i).toNat) ?_ 0 ⟨by omega, by omega, fun j h0 h1 => by omega⟩
  intro i ⟨h0, h1, h2⟩ ih
  refine W.step (fun k => spec_l1Plain.l0.eq_2 ..) ?_
  have hr := bt_range s i
  by_cases hlt : i < s.size
  · simp (disch := omega) only [if_pos, w64, l1In_eq, Option.bind_some]
    have next : okB (bt s i) → ∀ j, 0 ≤ j → j < i + 1 → okB (bt s j) := fun hb j h3 h4 => by
      by_cases e : j = i
      · subst e; exact hb
      · exact h2 j h3 (by omega)
    refine W.ite (fun hc => ih (i + 1) ⟨by omega, by omega, next (.inl hc)⟩ (by omega)) (fun hc => ?_)
    refine W.ite (fun hd => ih (i + 1) ⟨by omega, by omega, next (.inr (by simpa using hd))⟩ (by omega)) (fun hd => ?_)
    refine W.ret ⟨fun h => by simp at h, fun h => ?_⟩
    rcases h i h0 hlt with h | h
    · exact absurd h hc
    · exact absurd (by simpa using h) hd
  · simp (disch := omega) only [if_neg]
    exact W.ret ⟨fun _ j h3 h4 => h2 j h3 (by omega), fun _ => rfl⟩

theorem specTV (s : ByteArray) (hs : s.size ≤ 140737488351232) : W (fun k => spec_TextValid.f k s) (fun b => b = true ↔ VT s) := by
  unfold spec_TextValid.f
  refine W.ite (fun h => ?_) (fun h => ?_)
  · refine W.bind (specPlain s hs) (fun b hb => W.ret ?_)
    rw [hb]
    exact ⟨fun h' => ⟨by omega, h'⟩, fun h' => h'.2⟩
  · exact W.ret ⟨fun h' => by simp at h', fun h' => by have := h'.1; omega⟩

theorem tv_pos {g : Nat → Option Bool} {s : ByteArray} (h : W g (fun b => b = true ↔ VT s)) (hv : VT s) : W g (· = true) := h.mono fun b hb => hb.2 hv
theorem tv_neg {g : Nat → Option Bool} {s : ByteArray} (h : W g (fun b => b = true ↔ VT s)) (hv : ¬ VT s) : W g (· = false) := h.mono fun b hb => by
  cases b
  · rfl
  · exact absurd (hb.1 rfl) hv

end Go.Proofs.YtfhcocpbhbleiaaDoor.Ev
/- Texts as bytes: parts, sums, equality. -/
namespace Go.Proofs.YtfhcocpbhbleiaaDoor.Ev
open Go.RowKit Go.Proofs.YtfhcocpbhbleiaaDoorW.PrintWords
set_option linter.unusedVariables false
set_option linter.unusedSimpArgs false

theorem bt_eq (s : ByteArray) {i : Int} (h0 : 0 ≤ i) (h : i < s.size) : ∃ h' : i.toNat < s.size, bt s i = (s[i.toNat]'h').toNat := by
  have h' : i.toNat < s.size := by omega
  exact ⟨h', by unfold bt; rw [dif_pos h']⟩
theorem str_ext {a b : ByteArray} (hl : a.size = b.size) (h : ∀ i : Int, 0 ≤ i → i < a.size → bt a i = bt b i) : a = b := by
  apply ByteArray.ext_getElem hl
  intro i h1 h2
  have := h i (by omega) (by omega)
  unfold bt at this
  rw [dif_pos (by simpa using h1), dif_pos (by simpa using h2)] at this
  exact UInt8.toNat_inj.1 (by exact_mod_cast this)
theorem toList_data (a : ByteArray) : a.toList = a.data.toList := ByteArray.toList_eq a
theorem toList_inj {a b : ByteArray} : a.toList = b.toList ↔ a = b := by
  rw [toList_data, toList_data]
  constructor
  · intro h
    obtain ⟨⟨x⟩⟩ := a
    obtain ⟨⟨y⟩⟩ := b
    simp only at h
    subst h; rfl
  · intro h; rw [h]
theorem bt_ext (s : ByteArray) {a b i : Int} (h0 : 0 ≤ a) (h1 : 0 ≤ i) (h2 : i < b - a) (h3 : b ≤ s.size) : bt (s.extract a.toNat b.toNat) i = bt s (a + i) := by
  unfold bt
  rw [dif_pos (by rw [ByteArray.size_extract]; omega), dif_pos (by omega), ByteArray.getElem_extract]
  congr 2
  congr 1
  omega
end Go.Proofs.YtfhcocpbhbleiaaDoor.Ev
/- Lists of numbers: read, set, cut. No program in sight. -/
namespace Go.Proofs.YtfhcocpbhbleiaaDoor.ThB
open Go.RowKit Go.Proofs.YtfhcocpbhbleiaaDoorW.PrintWords
set_option linter.unusedVariables false
set_option linter.unusedSimpArgs false
theorem rd_set_self (xs : List Int) (v : Int) {i : Int} (h0 : 0 ≤ i) (h : i < xs.length) : rd (xs.set i.toNat v) i = v := by
  unfold rd
  rw [List.getD_eq_getElem?_getD, List.getElem?_set_self (by omega)]
  rfl
theorem rd_set_ne (xs : List Int) (v : Int) {i j : Int} (h0 : 0 ≤ i) (hj : 0 ≤ j) (h : i ≠ j) : rd (xs.set j.toNat v) i = rd xs i := by
  unfold rd
  rw [List.getD_eq_getElem?_getD, List.getD_eq_getElem?_getD, List.getElem?_set_ne (by omega)]
end Go.Proofs.YtfhcocpbhbleiaaDoor.ThB
/- Lists as tables. No program in sight. -/
namespace Go.Proofs.YtfhcocpbhbleiaaDoor.ThT
open Go.RowKit Go.Proofs.YtfhcocpbhbleiaaDoorW.PrintWords Go.Proofs.YtfhcocpbhbleiaaDoor.ThB
set_option linter.unusedVariables false
set_option linter.unusedSimpArgs false

def tab {α : Type} (f : Nat → α) : Nat → List α
  | 0 => []
  | n + 1 => tab f n ++ [f n]
theorem tab_succ {α : Type} (f : Nat → α) (n : Nat) : tab f (n + 1) = tab f n ++ [f n] := rfl
theorem tab_len {α : Type} (f : Nat → α) : ∀ n, (tab f n).length = n
  | 0 => rfl
  | n + 1 => by rw [tab_succ, List.length_append, tab_len f n]; rfl
theorem tab_get {α : Type} (f : Nat → α) : ∀ (n i : Nat), i < n → (tab f n)[i]? = some (f i)
  | 0, i, h => by omega
  | n + 1, i, h => by
    have hl := tab_len f n
    rw [tab_succ]
    by_cases e : i = n
    · subst e; rw [List.getElem?_append_right (by omega), hl, Nat.sub_self]; rfl
    · rw [List.getElem?_append_left (by omega)]; exact tab_get f n i (by omega)
theorem rdOf_tab {α : Type} (d : α) (f : Nat → α) (n : Nat) {i : Int} (h0 : 0 ≤ i) (h1 : i < n) : rdOf d (tab f n) i = f i.toNat := by
  unfold rdOf
  rw [List.getD_eq_getElem?_getD, tab_get f n _ (by omega)]; rfl
theorem rdOf_ext {α : Type} (d : α) {a b : List α} (hl : a.length = b.length) (h : ∀ i : Int, 0 ≤ i → i < a.length → rdOf d a i = rdOf d b i) : a = b := by
  apply List.ext_getElem hl
  intro i h1 h2
  have := h i (by omega) (by omega)
  unfold rdOf at this
  simpa [List.getD_eq_getElem?_getD, h1, h2] using this
theorem rdOf_set_self {α : Type} (d : α) (xs : List α) (v : α) {i : Int} (h0 : 0 ≤ i) (h : i < xs.length) : rdOf d (xs.set i.toNat v) i = v := by
  unfold rdOf
  rw [List.getD_eq_getElem?_getD, List.getElem?_set_self (by omega)]
  rfl
theorem rdOf_set_ne {α : Type} (d : α) (xs : List α) (v : α) {i j : Int} (h0 : 0 ≤ i) (hj : 0 ≤ j) (h : i ≠ j) : rdOf d (xs.set j.toNat v) i = rdOf d xs i := by
  unfold rdOf
  rw [List.getD_eq_getElem?_getD, List.getD_eq_getElem?_getD, List.getElem?_set_ne (by omega)]
end Go.Proofs.YtfhcocpbhbleiaaDoor.ThT
/- The plain law of words: the words of a text, words joined by spaces, lines that are as full as can be. No program in sight. -/
namespace Go.Proofs.YtfhcocpbhbleiaaDoor.ThW
set_option linter.unusedVariables false
set_option linter.unusedSimpArgs false

def mk (l : List UInt8) : ByteArray := ⟨l.toArray⟩
theorem data_mk (s : ByteArray) : mk s.data.toList = s := by
  obtain ⟨⟨l⟩⟩ := s; rfl
theorem data_inj {a b : ByteArray} (h : a.data.toList = b.data.toList) : a = b := by rw [← data_mk a, ← data_mk b, h]
theorem data_len (s : ByteArray) : s.data.toList.length = s.size := by rw [Array.length_toList]; rfl
theorem data_cat (a b : ByteArray) : (a ++ b).data.toList = a.data.toList ++ b.data.toList := by simp
theorem size_mk (l : List UInt8) : (mk l).size = l.length := by rw [← data_len]; rfl
theorem size0 {s : ByteArray} : s.size = 0 ↔ s = ByteArray.empty := by
  constructor
  · intro h; exact data_inj (List.length_eq_zero_iff.1 (by rw [data_len]; exact h))
  · intro h; subst h; rfl

def sp : ByteArray := ⟨#[32]⟩

/-- The words of what is left of a text, cur: the word that has begun. -/
def fg (cur : ByteArray) (l : List UInt8) : List ByteArray := (Lib.fieldsGo cur.data.toList l).map mk
/-- The words of a text. -/
def wds (s : ByteArray) : List ByteArray := fg ByteArray.empty s.data.toList
theorem isEmpty_data (s : ByteArray) : s.data.toList.isEmpty = decide (s.size = 0) := by
  rw [← data_len]
  cases s.data.toList <;> simp
theorem fg_nil (cur : ByteArray) : fg cur [] = if cur.size = 0 then [] else [cur] := by
  unfold fg Lib.fieldsGo
  rw [isEmpty_data]
  by_cases h : cur.size = 0
  · simp [h]
  · simp [h, data_mk]
theorem fg_sp (cur : ByteArray) {b : UInt8} (l : List UInt8) (h : Lib.isSp b = true) : fg cur (b :: l) = if cur.size = 0 then fg ByteArray.empty l else cur :: fg ByteArray.empty l := by
  have he : ByteArray.empty.data.toList = [] := rfl
  unfold fg
  rw [Lib.fieldsGo, if_pos h, isEmpty_data]
  by_cases hc : cur.size = 0
  · simp only [hc, decide_true, if_true]; rfl
  · simp only [hc, decide_false, if_false, List.map_cons, data_mk]; rfl
theorem fg_ch (cur : ByteArray) {b : UInt8} (l : List UInt8) (h : Lib.isSp b = false) : fg cur (b :: l) = fg (cur ++ mk [b]) l := by
  unfold fg
  rw [Lib.fieldsGo, h, data_cat]; rfl

def tot (ws : List ByteArray) : Nat := (ws.map ByteArray.size).sum
theorem tot_cons (x : ByteArray) (ws : List ByteArray) : tot (x :: ws) = x.size + tot ws := rfl
theorem tot_append (a b : List ByteArray) : tot (a ++ b) = tot a + tot b := by
  induction a with
  | nil => simp [tot]
  | cons x a ih => rw [List.cons_append, tot_cons, tot_cons, ih]; omega
theorem fg_tot (l : List UInt8) : ∀ cur : ByteArray, tot (fg cur l) + (fg cur l).length ≤ cur.size + l.length + 1 := by
  induction l with
  | nil =>
    intro cur
    rw [fg_nil]
    by_cases h : cur.size = 0
    · rw [if_pos h]; simp [tot]
    · rw [if_neg h]; simp [tot]
  | cons b l ih =>
    intro cur
    cases hb : Lib.isSp b with
    | true =>
      have := ih ByteArray.empty
      rw [show ByteArray.empty.size = 0 from rfl] at this
      rw [fg_sp _ _ hb]
      by_cases h : cur.size = 0
      · rw [if_pos h]; simp only [List.length_cons]; omega
      · rw [if_neg h, tot_cons]; simp only [List.length_cons]; omega
    | false =>
      have := ih (cur ++ mk [b])
      rw [ByteArray.size_append, size_mk] at this
      rw [fg_ch _ _ hb]
      simp only [List.length_cons, List.length_nil] at this ⊢; omega
theorem wds_tot (s : ByteArray) : tot (wds s) + (wds s).length ≤ s.size + 1 := by
  have := fg_tot s.data.toList ByteArray.empty
  rw [data_len, show ByteArray.empty.size = 0 from rfl] at this
  unfold wds; omega
theorem mem_tot {x : ByteArray} {ws : List ByteArray} (h : x ∈ ws) : x.size ≤ tot ws := by
  induction ws with
  | nil => cases h
  | cons y ws ih =>
    rw [tot_cons]
    rw [List.mem_cons] at h
    rcases h with h | h
    · subst h; omega
    · have := ih h; omega
def tl : List ByteArray → ByteArray
  | [] => ByteArray.empty
  | y :: ys => sp ++ (y ++ tl ys)
def jn : List ByteArray → ByteArray
  | [] => ByteArray.empty
  | x :: xs => x ++ tl xs
theorem empty_cat (a : ByteArray) : ByteArray.empty ++ a = a := data_inj (by rw [data_cat]; rfl)
theorem cat_empty (a : ByteArray) : a ++ ByteArray.empty = a := data_inj (by rw [data_cat]; exact List.append_nil _)
theorem cat_assoc (a b c : ByteArray) : a ++ b ++ c = a ++ (b ++ c) := data_inj (by simp only [data_cat, List.append_assoc])
theorem tl_append (a b : List ByteArray) : tl (a ++ b) = tl a ++ tl b := by
  induction a with
  | nil => exact (empty_cat _).symm
  | cons y a ih => rw [List.cons_append, tl, tl, ih, cat_assoc, cat_assoc]
theorem jn_snoc {l : List ByteArray} (y : ByteArray) (h : l ≠ []) : jn (l ++ [y]) = jn l ++ sp ++ y := by
  cases l with
  | nil => exact absurd rfl h
  | cons x l => rw [List.cons_append, jn, jn, tl_append, tl, tl, cat_empty, cat_assoc, cat_assoc]
theorem tl_size (l : List ByteArray) : (tl l).size = tot l + l.length := by
  induction l with
  | nil => rfl
  | cons y l ih => rw [tl, ByteArray.size_append, ByteArray.size_append, ih, tot_cons, List.length_cons, show sp.size = 1 from rfl]; omega
theorem jn_size (l : List ByteArray) : (jn l).size = tot l + (l.length - 1) := by
  cases l with
  | nil => rfl
  | cons y l => rw [jn, ByteArray.size_append, tl_size, tot_cons, List.length_cons]; omega
end Go.Proofs.YtfhcocpbhbleiaaDoor.ThW
/- What the printed functions answer, part Wd: the words of a text; words joined. -/
namespace Go.Proofs.YtfhcocpbhbleiaaDoor.Ev
open Go.RowKit Go.Proofs.YtfhcocpbhbleiaaDoor.X Go.Proofs.YtfhcocpbhbleiaaDoor.Wp Go.Proofs.YtfhcocpbhbleiaaDoorW.PrintWords Go.Proofs.YtfhcocpbhbleiaaDoor.ThW Go.Proofs.YtfhcocpbhbleiaaDoor.ThT
set_option linter.unusedVariables false
set_option linter.unusedSimpArgs false

theorem data_at (s : ByteArray) {n : Nat} (h : n < s.size) : ∃ c : UInt8, s.data.toList.drop n = c :: s.data.toList.drop (n + 1) ∧ bt s n = c.toNat ∧ s.extract n (n + 1) = mk [c] := by
  have hl := data_len s
  have h1 : n < s.data.toList.length := by omega
  refine ⟨s.data.toList[n], List.drop_eq_getElem_cons h1, ?_, ?_⟩
  · obtain ⟨p, e⟩ := bt_eq s (i := (n : Int)) (by omega) (by omega)
    rw [e]; rfl
  · apply str_ext
    · rw [ByteArray.size_extract, size_mk]; simp only [List.length_cons, List.length_nil]; omega
    · intro i h0 h2
      rw [ByteArray.size_extract] at h2
      have e : i = 0 := by omega
      subst e
      have := bt_ext s (a := (n : Int)) (b := ((n + 1 : Nat) : Int)) (i := 0) (by omega) (by omega) (by omega) (by omega)
      rw [Int.toNat_natCast, Int.toNat_natCast] at this
      rw [this, Int.add_zero]
      obtain ⟨p, e⟩ := bt_eq s (i := (n : Int)) (by omega) (by omega)
      rw [e]; rfl
theorem data_ok {s : ByteArray} (hv : VT s) {b : UInt8} (hb : b ∈ s.data.toList) : okB b.toNat := by
  obtain ⟨n, hn, rfl⟩ := List.getElem_of_mem hb
  rw [data_len] at hn
  have := hv.2 n (by omega) (by omega)
  obtain ⟨p, e⟩ := bt_eq s (i := (n : Int)) (by omega) (by omega)
  rw [e] at this
  exact this
theorem isSp_ok {b : UInt8} (h : okB b.toNat) : Lib.isSp b = true ↔ (b.toNat : Int) = 32 ∨ (b.toNat : Int) = 10 := by
  have key : Lib.isSp b = true ↔ (b = 9 ∨ b = 10 ∨ b = 11 ∨ b = 12 ∨ b = 13 ∨ b = 32) := by
    unfold Lib.isSp
    simp only [Bool.or_eq_true, beq_iff_eq]
    constructor
    · rintro (((((h | h) | h) | h) | h) | h) <;> simp [h]
    · rintro (h | h | h | h | h | h) <;> simp [h]
  rw [key]
  have conv : ∀ c : UInt8, b = c ↔ b.toNat = c.toNat := fun c => UInt8.toNat_inj.symm
  rw [conv, conv, conv, conv, conv, conv]
  have e9 : (9 : UInt8).toNat = 9 := rfl
  have e10 : (10 : UInt8).toNat = 10 := rfl
  have e11 : (11 : UInt8).toNat = 11 := rfl
  have e12 : (12 : UInt8).toNat = 12 := rfl
  have e13 : (13 : UInt8).toNat = 13 := rfl
  have e32 : (32 : UInt8).toNat = 32 := rfl
  unfold okB at h
  omega
theorem size_toList (s : ByteArray) : s.toList = [] ↔ s.size = 0 := by
  rw [toList_data, ← List.length_eq_zero_iff, data_len]

/-- The words of a valid text, none of another one. -/
noncomputable def W0 (s : ByteArray) : List ByteArray := if VT s then wds s else []
theorem implWords (s : ByteArray) (hs : s.size ≤ 140737488351232) : W (fun k => impl_WordsOf.f k s) (· = W0 s) := by
  unfold impl_WordsOf.f W0
  refine W.bind (implTV s hs) (fun b hb => W.ite (fun h => ?_) (fun h => W.ret (by rw [if_neg (fun hv => h (hb.2 hv))])))
  have hv := hb.1 h
  have hsz := hv.1
  rw [if_pos hv]
  refine W.call (r := wds s) ?_ (W.ret rfl)
  unfold strings_Fields.f
  rw [if_pos ⟨by omega, List.all_eq_true.2 fun b hb => by
    have := data_ok hv hb
    unfold okB at this
    simp only [decide_eq_true_eq]
    omega⟩]
  rfl
theorem specWords (s : ByteArray) (hs : s.size ≤ 140737488351232) : W (fun k => spec_WordsOf.f k s) (· = W0 s) := by
  unfold spec_WordsOf.f W0
  by_cases hv : VT s
  · rw [if_pos hv]
    have hsz := hv.1
    have key := W.loop (σ := List ByteArray × ByteArray × Nat) (l := fun x k => spec_WordsOf.l0 k s x.1 x.2.1 x.2.2) (P := fun x r => r = x.1 ++ if x.2.2 ≤ s.size then fg x.2.1 (s.data.toList.drop x.2.2) else []) (fun x => x.2.2 ≤ s.size + 1 ∧ x.1.length ≤ x.2.2 ∧ x.2.1.size ≤ x.2.2) (fun x => s.size + 1 - x.2.2) (by
      rintro ⟨out, word, n⟩ ⟨hn, ho, hw⟩ ih
      dsimp only at hn ho hw ⊢
      refine W.step (fun k => spec_WordsOf.l0.eq_2 ..) ?_
      by_cases hle : n ≤ s.size
      · rw [if_pos hle]
        refine W.pos (by omega) (W.bind_eq (tv_pos (specTV s hs) hv) (W.step (fun k => spec_WordsOf.j1.eq_2 ..) (W.pos rfl ?_)))
        -- a place at which no word goes on
        have brk : (n < s.size → ∃ c : UInt8, s.data.toList.drop n = c :: s.data.toList.drop (n + 1) ∧ Lib.isSp c = true) → W (fun k => spec_WordsOf.j2 k s out word n false) (· = out ++ fg word (s.data.toList.drop n)) := by
          intro hc
          refine W.step (fun k => spec_WordsOf.j2.eq_2 ..) (W.neg (by decide) ?_)
          have fin : fg word (s.data.toList.drop n) = (if word.size = 0 then [] else [word]) ++ if n + 1 ≤ s.size then fg ByteArray.empty (s.data.toList.drop (n + 1)) else [] := by
            by_cases hlt : n < s.size
            · obtain ⟨c, e, hsp⟩ := hc hlt
              rw [e, fg_sp _ _ hsp, if_pos (show n + 1 ≤ s.size from hlt)]
              by_cases h0 : word.size = 0
              · rw [if_pos h0, if_pos h0]; rfl
              · rw [if_neg h0, if_neg h0]; rfl
            · rw [List.drop_of_length_le (by rw [data_len]; omega), fg_nil, if_neg (show ¬ n + 1 ≤ s.size by omega), List.append_nil]
          rw [w64 (x := (n : Int) + 1) (by omega) (by omega)]
          refine W.ite (fun h => ?_) (fun h => ?_)
          · have h0 := (size_toList word).1 h
            have next := ih (out, word, n + 1) ⟨by dsimp only; omega, by dsimp only; omega, by dsimp only; omega⟩ (by dsimp only; omega)
            dsimp only at next
            rw [fin, if_pos h0, List.nil_append, ← size0.1 h0]
            exact next
          · have h0 : word.size ≠ 0 := fun h2 => h ((size_toList word).2 h2)
            have next := ih (out ++ [word], ByteArray.empty, n + 1) ⟨by dsimp only; omega, by simp only [List.length_append, List.length_cons, List.length_nil]; omega, by dsimp only; exact Nat.zero_le _⟩ (by dsimp only; omega)
            dsimp only at next
            rw [fin, if_neg h0, ← List.append_assoc]
            exact W.pos (by omega) next
        by_cases hlt : n < s.size
        · obtain ⟨c, e, hb, hx⟩ := data_at s hlt
          have hok : okB c.toNat := by rw [← hb]; exact hv.2 n (by omega) (by omega)
          refine W.pos (by omega) (W.pos (by omega) (W.ite (fun h => brk (fun _ => ⟨c, e, (isSp_ok hok).2 (.inl (by rw [← hb]; exact h))⟩)) (fun h => ?_)))
          by_cases h10 : bt s n = 10
          · rw [show (bt s n != 10) = false from by simp [h10]]
            exact brk (fun _ => ⟨c, e, (isSp_ok hok).2 (.inr (by rw [← hb]; exact h10))⟩)
          · rw [show (bt s n != 10) = true from by simp [h10]]
            have hsp : Lib.isSp c = false := by
              cases hc : Lib.isSp c with
              | false => rfl
              | true =>
                rcases (isSp_ok hok).1 hc with h2 | h2
                · exact absurd (hb.trans h2) h
                · exact absurd (hb.trans h2) h10
            have next := ih (out, word ++ mk [c], n + 1) ⟨by dsimp only; omega, by dsimp only; omega, by
              dsimp only
              rw [ByteArray.size_append, size_mk]; simp only [List.length_cons, List.length_nil]; omega⟩ (by dsimp only; omega)
            dsimp only at next
            rw [if_pos (show n + 1 ≤ s.size from hlt), ← fg_ch word _ hsp, ← e] at next
            refine W.step (fun k => spec_WordsOf.j2.eq_2 ..) (W.pos rfl ?_)
            rw [w64 (x := (n : Int) + 1) (by omega) (by omega), show ((n : Int) + 1).toNat = n + 1 from by omega, Int.toNat_natCast, hx]
            have hz : (mk [c]).size = 1 := rfl
            exact W.pos (by omega) (W.pos (by omega) (W.pos (by omega) (W.pos (by omega) next)))
        · exact W.neg (by omega) (brk (fun h => absurd h hlt))
      · rw [if_neg hle, List.append_nil]
        exact W.neg (by omega) (W.step (fun k => spec_WordsOf.j1.eq_2 ..) (W.neg (by decide) (W.ret rfl)))) ([], ByteArray.empty, 0) ⟨by dsimp only; omega, Nat.le_refl _, Nat.le_refl _⟩
    dsimp only at key
    rw [if_pos (Nat.zero_le _), List.drop_zero, List.nil_append] at key
    exact key
  · rw [if_neg hv]
    exact W.step (fun k => spec_WordsOf.l0.eq_2 ..) (W.pos (by omega) (W.bind_eq (tv_neg (specTV s hs) hv) (W.step (fun k => spec_WordsOf.j1.eq_2 ..) (W.neg (by decide) (W.ret rfl)))))

theorem W0_tot (s : ByteArray) : tot (W0 s) + (W0 s).length ≤ 121 := by
  unfold W0
  split
  · rename_i h
    have := wds_tot s
    have := h.1
    omega
  · simp [tot]
theorem rd_get (l : List ByteArray) {i : Int} (h0 : 0 ≤ i) (h : i < l.length) : l[i.toNat]? = some (rdOf ByteArray.empty l i) := by
  unfold rdOf
  rw [List.getD_eq_getElem?_getD, List.getElem?_eq_getElem (by omega)]
  rfl
theorem rd_mem (l : List ByteArray) {i : Int} (h0 : 0 ≤ i) (h : i < l.length) : rdOf ByteArray.empty l i ∈ l := List.mem_of_getElem? (rd_get l h0 h)
theorem tot_take (l : List ByteArray) (n : Nat) : tot (l.take n) ≤ tot l := by
  have h := congrArg tot (List.take_append_drop n l)
  rw [tot_append] at h
  omega
end Go.Proofs.YtfhcocpbhbleiaaDoor.Ev
/- The plain law of least costs: words in lines whose costs are least. No program in sight. -/
namespace Go.Proofs.YtfhcocpbhbleiaaDoor.ThP
open Go.Proofs.YtfhcocpbhbleiaaDoor.ThW
set_option linter.unusedVariables false
set_option linter.unusedSimpArgs false

/-- What a line of so many bytes costs. -/
def lc (w len : Int) (last : Bool) : Int := if w - len < 0 then 100 * (w - len) * (w - len) else if last then 0 else (w - len) * (w - len)
theorem lc_nonneg (w len : Int) (last : Bool) : 0 ≤ lc w len last := by
  unfold lc
  split
  · have h : 0 ≤ (w - len) * (w - len) := by
      have := Int.mul_nonneg (a := -(w - len)) (b := -(w - len)) (by omega) (by omega)
      rwa [Int.neg_mul_neg] at this
    rw [Int.mul_assoc]; omega
  · split
    · omega
    · exact Int.mul_nonneg (by omega) (by omega)
theorem sq_le {a : Int} (h1 : -1000 ≤ a) (h2 : a ≤ 1000) : a * a ≤ 1000000 := by
  by_cases h : 0 ≤ a
  · exact Int.le_trans (Int.mul_le_mul_of_nonneg_right h2 h) (by omega)
  · have h3 := Int.mul_le_mul_of_nonneg_right (show -a ≤ 1000 by omega) (show 0 ≤ -a by omega)
    rw [Int.neg_mul_neg] at h3
    omega
theorem lc_le {w len : Int} (last : Bool) (h1 : 0 ≤ w) (h2 : w ≤ 1000) (h3 : 0 ≤ len) (h4 : len ≤ 1000) : lc w len last ≤ 100000000 := by
  have := sq_le (a := w - len) (by omega) (by omega)
  unfold lc
  split
  · rw [Int.mul_assoc]; omega
  · split <;> omega

/-- B, N: the least costs from word k on, and where the first line ends: the last such place. -/
def IsDP (n : Nat) (C : Nat → Nat → Int) (B : Nat → Int) (N : Nat → Nat) : Prop :=
  B n = 0 ∧ ∀ k, k < n → k < N k ∧ N k ≤ n ∧ B k = C k (N k) + B (N k) ∧ (∀ j, k < j → j ≤ n → B k ≤ C k j + B j) ∧ (∀ j, N k < j → j ≤ n → B k < C k j + B j)
theorem IsDP.uniq {n : Nat} {C : Nat → Nat → Int} {B B' : Nat → Int} {N N' : Nat → Nat} (h : IsDP n C B N) (h' : IsDP n C B' N') : ∀ d k, k + d = n → B k = B' k ∧ (k < n → N k = N' k) := by
  intro d
  induction d using Nat.strongRecOn with
  | _ d ih =>
    intro k hk
    by_cases hlt : k < n
    · obtain ⟨a1, a2, a3, a4, a5⟩ := h.2 k hlt
      obtain ⟨b1, b2, b3, b4, b5⟩ := h'.2 k hlt
      have e1 := (ih (n - N k) (by omega) (N k) (by omega)).1
      have e2 := (ih (n - N' k) (by omega) (N' k) (by omega)).1
      have c1 := a4 (N' k) b1 b2
      have c2 := b4 (N k) a1 a2
      have eB : B k = B' k := by omega
      refine ⟨eB, fun _ => ?_⟩
      by_cases x : N k < N' k
      · have := a5 (N' k) x b2; omega
      · by_cases y : N' k < N k
        · have := b5 (N k) y a2; omega
        · omega
    · have : k = n := by omega
      subst this
      exact ⟨by rw [h.1, h'.1], fun h => by omega⟩

/-- Words in lines by the table N, from word k on. -/
def chn (ws : List ByteArray) (N : Nat → Nat) : Nat → Nat → List (List ByteArray)
  | 0, _ => []
  | d + 1, k => if k < ws.length then (ws.drop k).take (N k - k) :: chn ws N d (N k) else []
theorem chn_congr (ws : List ByteArray) {N N' : Nat → Nat} (h : ∀ k, k < ws.length → N k = N' k) : ∀ d k, chn ws N d k = chn ws N' d k
  | 0, _ => rfl
  | d + 1, k => by
    rw [chn, chn]
    by_cases c : k < ws.length
    · rw [if_pos c, if_pos c, h k c, chn_congr ws h d]
    · rw [if_neg c, if_neg c]
theorem chn_more (ws : List ByteArray) (N : Nat → Nat) (hN : ∀ k, k < ws.length → k < N k) : ∀ d d' k, ws.length ≤ k + d → ws.length ≤ k + d' → chn ws N d k = chn ws N d' k
  | 0, 0, _, _, _ => rfl
  | 0, d' + 1, k, h, _ => by rw [chn, chn, if_neg (by omega)]
  | d + 1, 0, k, _, h => by rw [chn, chn, if_neg (by omega)]
  | d + 1, d' + 1, k, h, h' => by
    rw [chn, chn]
    by_cases c : k < ws.length
    · rw [if_pos c, if_pos c, chn_more ws N hN d d' _ (by have := hN k c; omega) (by have := hN k c; omega)]
    · rw [if_neg c, if_neg c]
/-- The costs of lines of words k .. j. -/
def seg (ws : List ByteArray) (k j : Nat) : List ByteArray := (ws.drop k).take (j - k)
def CL (w : Int) (ws : List ByteArray) (k j : Nat) : Int := lc w (jn (seg ws k j)).size (decide (j = ws.length))
end Go.Proofs.YtfhcocpbhbleiaaDoor.ThP
/- What the printed functions answer, part Fl: words in lines that are as full as can be. -/
namespace Go.Proofs.YtfhcocpbhbleiaaDoor.Ev
open Go.RowKit Go.Proofs.YtfhcocpbhbleiaaDoor.X Go.Proofs.YtfhcocpbhbleiaaDoor.Wp Go.Proofs.YtfhcocpbhbleiaaDoorW.PrintWords Go.Proofs.YtfhcocpbhbleiaaDoor.ThW Go.Proofs.YtfhcocpbhbleiaaDoor.ThP Go.Proofs.YtfhcocpbhbleiaaDoor.ThT
set_option linter.unusedVariables false
set_option linter.unusedSimpArgs false

theorem seg_len (ws : List ByteArray) {k j : Nat} (h : k ≤ j) (hj : j ≤ ws.length) : (seg ws k j).length = j - k := by
  unfold seg
  rw [List.length_take, List.length_drop]; omega
theorem seg_self (ws : List ByteArray) (k : Nat) : seg ws k k = [] := by
  unfold seg
  rw [Nat.sub_self, List.take_zero]
theorem seg_succ (ws : List ByteArray) {k j : Nat} (h : k ≤ j) (hj : j < ws.length) : seg ws k (j + 1) = seg ws k j ++ [rdOf ByteArray.empty ws j] := by
  unfold seg
  rw [show j + 1 - k = (j - k) + 1 from by omega, List.take_add_one, List.getElem?_drop, show k + (j - k) = j from by omega]
  have := rd_get ws (i := j) (by omega) (by omega)
  rw [Int.toNat_natCast] at this
  rw [this]; rfl
theorem tot_drop (l : List ByteArray) (n : Nat) : tot (l.drop n) ≤ tot l := by
  have h := congrArg tot (List.take_append_drop n l)
  rw [tot_append] at h
  omega
theorem tot_seg (ws : List ByteArray) (k j : Nat) : tot (seg ws k j) ≤ tot ws := by
  unfold seg
  have := tot_take (ws.drop k) (j - k)
  have := tot_drop ws k
  omega
theorem seg_size (ws : List ByteArray) {k j : Nat} (h : k < j) (hj : j ≤ ws.length) : (jn (seg ws k j)).size = tot (seg ws k j) + (j - k - 1) := by
  rw [jn_size, seg_len ws (by omega) hj]
theorem seg_ne (ws : List ByteArray) {k j : Nat} (h : k < j) (hj : j ≤ ws.length) : seg ws k j ≠ [] := by
  intro e
  have := congrArg List.length e
  rw [seg_len ws (by omega) hj, List.length_nil] at this
  omega

theorem sizeW (ws : List ByteArray) {k j : Nat} (h : k < j) (hj : j ≤ ws.length) (ht : tot ws + ws.length ≤ 100000) : W (fun f => spec_l14Size.f f ws k j) (· = ((jn (seg ws k j)).size : Int)) := by
  unfold spec_l14Size.f
  rw [w64 (x := (j : Int) - k) (by omega) (by omega), w64 (x := (j : Int) - k - 1) (by omega) (by omega)]
  have key := W.loop (l := fun (m : Nat) f => spec_l14Size.l0 f ws j ((j : Int) - k - 1 + (tot (seg ws k m) : Nat)) m) (P := fun _ r => r = ((jn (seg ws k j)).size : Int)) (fun m => k ≤ m ∧ m ≤ j) (fun m => j - m) (by
    rintro m ⟨h0, h1⟩ ih
    refine W.step (fun f => spec_l14Size.l0.eq_2 ..) ?_
    by_cases hlt : m < j
    · have next := ih (m + 1) ⟨by omega, by omega⟩ (by omega)
      have hm := mem_tot (rd_mem ws (i := m) (by omega) (by omega))
      have h2 := tot_seg ws k m
      rw [seg_succ ws h0 (by omega), tot_append, tot_cons, show tot [] = 0 from rfl, show ((m + 1 : Nat) : Int) = (m : Int) + 1 from by omega] at next
      rw [w64 (x := (m : Int) + 1) (by omega) (by omega), w64 (x := (j : Int) - k - 1 + (tot (seg ws k m) : Nat) + ((rdOf ByteArray.empty ws m).size : Nat)) (by omega) (by omega)]
      refine W.pos (by omega) (W.pos (by omega) (W.pos (by omega) ?_))
      rw [show (j : Int) - k - 1 + (tot (seg ws k m) : Nat) + ((rdOf ByteArray.empty ws m).size : Nat) = (j : Int) - k - 1 + ((tot (seg ws k m) + ((rdOf ByteArray.empty ws m).size + 0) : Nat) : Int) from by omega]
      exact next
    · have e : m = j := by omega
      subst e
      refine W.neg (by omega) (W.ret ?_)
      rw [seg_size ws h hj]; omega) k ⟨Nat.le_refl _, by omega⟩
  rw [seg_self, show tot [] = 0 from rfl] at key
  rw [show (j : Int) - k - 1 + ((0 : Nat) : Int) = (j : Int) - k - 1 from by omega] at key
  exact key

theorem textFW (ws : List ByteArray) {k j : Nat} (h : k ≤ j) (hj : j ≤ ws.length) (ht : tot ws + ws.length ≤ 100000) : W (fun f => spec_l14Text.f f ws k j) (· = jn (seg ws k j)) := by
  unfold spec_l14Text.f
  have key := W.loop (l := fun (m : Nat) f => spec_l14Text.l0 f ws k j (jn (seg ws k m)) m) (P := fun _ r => r = jn (seg ws k j)) (fun m => k ≤ m ∧ m ≤ j) (fun m => j - m) (by
    rintro m ⟨h0, h1⟩ ih
    refine W.step (fun f => spec_l14Text.l0.eq_2 ..) ?_
    by_cases hlt : m < j
    · have next := ih (m + 1) ⟨by omega, by omega⟩ (by omega)
      have hm := mem_tot (rd_mem ws (i := m) (by omega) (by omega))
      have h2 := tot_seg ws k m
      have hz := jn_size (seg ws k m)
      rw [seg_len ws h0 (by omega)] at hz
      rw [seg_succ ws h0 (by omega), show ((m + 1 : Nat) : Int) = (m : Int) + 1 from by omega] at next
      rw [w64 (x := (m : Int) + 1) (by omega) (by omega)]
      refine W.pos (by omega) (W.ite (fun hgt => ?_) (fun hgt => ?_))
      · rw [jn_snoc _ (seg_ne ws (show k < m by omega) (by omega))] at next
        have hs : (jn (seg ws k m) ++ (⟨#[32]⟩ : ByteArray)).size = (jn (seg ws k m)).size + 1 := by rw [ByteArray.size_append]; rfl
        exact W.pos (by omega) (W.pos (by omega) (W.pos (by omega) (W.pos (by omega) next)))
      · have e : m = k := by omega
        subst e
        rw [seg_self, List.nil_append] at next
        rw [seg_self]
        have e2 : jn [rdOf ByteArray.empty ws m] = jn [] ++ rdOf ByteArray.empty ws m := by
          simp only [jn, tl]; rw [cat_empty, empty_cat]
        rw [e2] at next
        have hz0 : (jn []).size = 0 := rfl
        exact W.pos (by omega) (W.pos (by omega) (W.pos (by omega) next))
    · have e : m = j := by omega
      subst e
      exact W.neg (by omega) (W.ret rfl)) k ⟨Nat.le_refl _, by omega⟩
  rw [seg_self] at key
  exact key

theorem isWidthE (w : Int) : impl_isWidth.f w = some (decide (4 ≤ w ∧ w ≤ 40)) := by
  unfold impl_isWidth.f
  rw [in_eq]; rfl

end Go.Proofs.YtfhcocpbhbleiaaDoor.Ev
/- What the printed functions answer, part Fm: words in lines whose costs are least. -/
namespace Go.Proofs.YtfhcocpbhbleiaaDoor.Ev
open Go.RowKit Go.Proofs.YtfhcocpbhbleiaaDoor.X Go.Proofs.YtfhcocpbhbleiaaDoor.Wp Go.Proofs.YtfhcocpbhbleiaaDoorW.PrintWords Go.Proofs.YtfhcocpbhbleiaaDoor.ThW Go.Proofs.YtfhcocpbhbleiaaDoor.ThP Go.Proofs.YtfhcocpbhbleiaaDoor.ThT
set_option linter.unusedVariables false
set_option linter.unusedSimpArgs false

theorem cost_wrap {w a : Int} (last : Bool) (h0 : 0 ≤ a) (h1 : a ≤ 200) (h2 : 0 ≤ w) (h3 : w ≤ 200) :
    (if (wrap64 (w - a)) < 0 then (some (wrap64 ((wrap64 (100 * (wrap64 (w - a)))) * (wrap64 (w - a))))) else (if last = true then (some 0) else (some (wrap64 ((wrap64 (w - a)) * (wrap64 (w - a))))))) = some (lc w a last) := by
  have hsq := sq_le (a := w - a) (by omega) (by omega)
  have h4 := lc_nonneg w a last
  have h5 := lc_le (w := w) (len := a) last (by omega) (by omega) (by omega) (by omega)
  rw [w64 (x := w - a) (by omega) (by omega), w64 (x := 100 * (w - a)) (by omega) (by omega)]
  unfold lc at h4 h5 ⊢
  by_cases c : w - a < 0
  · rw [if_pos c] at h4 h5 ⊢
    rw [if_pos c, w64 (by omega) (by omega)]
  · rw [if_neg c] at h4 h5 ⊢
    rw [if_neg c]
    cases last with
    | true => rfl
    | false =>
      simp only [Bool.false_eq_true, if_false] at h4 h5 ⊢
      rw [w64 (by omega) (by omega)]
theorem implCost1 {w a : Int} (last : Bool) (h0 : 0 ≤ a) (h1 : a ≤ 200) (h2 : 0 ≤ w) (h3 : w ≤ 200) : impl_lineCost.f a w last = some (lc w a last) := by
  unfold impl_lineCost.f; exact cost_wrap last h0 h1 h2 h3
theorem specCost1 {w a : Int} (last : Bool) (h0 : 0 ≤ a) (h1 : a ≤ 200) (h2 : 0 ≤ w) (h3 : w ≤ 200) : spec_l14Cost.f a w last = some (lc w a last) := by
  unfold spec_l14Cost.f; exact cost_wrap last h0 h1 h2 h3

/-- The tables are right from word f on. -/
structure DPf (n : Nat) (C : Nat → Nat → Int) (L M : List Int) (f : Nat) : Prop where
  len1 : L.length = n + 1
  len2 : M.length = n + 1
  last : rd L n = 0
  at_ : ∀ k : Nat, f ≤ k → k < n → (k : Int) < rd M k ∧ rd M k ≤ n ∧ rd L k = C k (rd M k).toNat + rd L (rd M k) ∧ (∀ j : Nat, k < j → j ≤ n → rd L k ≤ C k j + rd L j) ∧ (∀ j : Nat, rd M k < j → j ≤ n → rd L k < C k j + rd L j)
  bnd : ∀ k : Nat, f ≤ k → k ≤ n → 0 ≤ rd L k ∧ rd L k ≤ (n - k) * 100000000
/-- The best of the places before j. -/
def Best (C : Nat → Nat → Int) (L M : List Int) (k j : Nat) : Prop :=
  k + 1 < j → (k : Int) < rd M k ∧ rd M k < j ∧ rd L k = C k (rd M k).toNat + rd L (rd M k) ∧ (∀ i : Nat, k < i → i < j → rd L k ≤ C k i + rd L i) ∧ (∀ i : Nat, rd M k < i → i < j → rd L k < C k i + rd L i)
theorem rd_set_self (xs : List Int) (v : Int) {k : Nat} (h : k < xs.length) : rd (xs.set k v) k = v := by
  unfold rd
  rw [List.getD_eq_getElem?_getD, Int.toNat_natCast, List.getElem?_set_self h]; rfl
theorem rd_set_ne (xs : List Int) (v : Int) {k : Nat} {i : Int} (h0 : 0 ≤ i) (h : i ≠ k) : rd (xs.set k v) i = rd xs i := by
  unfold rd
  rw [List.getD_eq_getElem?_getD, List.getD_eq_getElem?_getD, List.getElem?_set_ne (by omega)]
theorem DPf.set {n : Nat} {C : Nat → Nat → Int} {L M : List Int} {k : Nat} (h : DPf n C L M (k + 1)) (hk : k < n) (u v : Int) : DPf n C (L.set k u) (M.set k v) (k + 1) := by
  have eL : ∀ i : Int, (k : Int) < i → rd (L.set k u) i = rd L i := fun i hi => rd_set_ne L u (by omega) (by omega)
  have eM : ∀ i : Int, (k : Int) < i → rd (M.set k v) i = rd M i := fun i hi => rd_set_ne M v (by omega) (by omega)
  refine ⟨by rw [List.length_set]; exact h.len1, by rw [List.length_set]; exact h.len2, by rw [eL _ (by omega)]; exact h.last, fun i h0 h1 => ?_, fun i h0 h1 => by rw [eL _ (by omega)]; exact h.bnd i h0 h1⟩
  obtain ⟨a, b, c, d, e⟩ := h.at_ i h0 h1
  rw [eM _ (by omega), eL _ (by omega), eL _ (by omega)]
  exact ⟨a, b, c, fun j j0 j1 => by rw [eL _ (by omega)]; exact d j j0 j1, fun j j0 j1 => by rw [eL _ (by omega)]; exact e j j0 j1⟩
theorem DPf.set1 {n : Nat} {C : Nat → Nat → Int} {L M : List Int} {k : Nat} (h : DPf n C L M (k + 1)) (hk : k < n) (u : Int) : DPf n C (L.set k u) M (k + 1) := by
  have eL : ∀ i : Int, (k : Int) < i → rd (L.set k u) i = rd L i := fun i hi => rd_set_ne L u (by omega) (by omega)
  refine ⟨by rw [List.length_set]; exact h.len1, h.len2, by rw [eL _ (by omega)]; exact h.last, fun i h0 h1 => ?_, fun i h0 h1 => by rw [eL _ (by omega)]; exact h.bnd i h0 h1⟩
  obtain ⟨a, b, c, d, e⟩ := h.at_ i h0 h1
  rw [eL _ (by omega), eL _ (by omega)]
  exact ⟨a, b, c, fun j j0 j1 => by rw [eL _ (by omega)]; exact d j j0 j1, fun j j0 j1 => by rw [eL _ (by omega)]; exact e j j0 j1⟩
theorem Best.put {n : Nat} {C : Nat → Nat → Int} {L M : List Int} {k j : Nat} (h : DPf n C L M (k + 1)) (hk : k < n) (hkj : k < j) (hj : j ≤ n) (hb : Best C L M k j) (hle : k + 1 < j → C k j + rd L j ≤ rd L k) : Best C (L.set k (C k j + rd L j)) (M.set k j) k (j + 1) := by
  intro _
  have l1 := h.len1
  have l2 := h.len2
  have eL : ∀ i : Int, (k : Int) < i → rd (L.set k (C k j + rd L j)) i = rd L i := fun i hi => rd_set_ne L _ (by omega) (by omega)
  rw [rd_set_self M _ (by omega), rd_set_self L _ (by omega), eL _ (by omega), Int.toNat_natCast]
  refine ⟨by omega, by omega, rfl, fun i h0 h1 => ?_, fun i h0 h1 => by omega⟩
  rw [eL _ (by omega)]
  by_cases e : i = j
  · subst e; exact Int.le_refl _
  · have := (hb (by omega)).2.2.2.1 i h0 (by omega)
    have := hle (by omega)
    omega
theorem Best.keep {C : Nat → Nat → Int} {L M : List Int} {k j : Nat} (hkj : k + 1 < j) (hb : Best C L M k j) (hlt : rd L k < C k j + rd L j) : Best C L M k (j + 1) := by
  intro _
  obtain ⟨a, b, c, d, e⟩ := hb hkj
  refine ⟨a, by omega, c, fun i h0 h1 => ?_, fun i h0 h1 => ?_⟩
  · by_cases x : i = j
    · subst x; omega
    · exact d i h0 (by omega)
  · by_cases x : i = j
    · subst x; exact hlt
    · exact e i h0 (by omega)
theorem DPf.next {n : Nat} {C : Nat → Nat → Int} {L M : List Int} {k : Nat} (h : DPf n C L M (k + 1)) (hk : k < n) (hb : Best C L M k (n + 1)) (hC : ∀ j, k < j → j ≤ n → 0 ≤ C k j ∧ C k j ≤ 100000000) : DPf n C L M k := by
  obtain ⟨a, b, c, d, e⟩ := hb (by omega)
  refine ⟨h.len1, h.len2, h.last, fun i h0 h1 => ?_, fun i h0 h1 => ?_⟩
  · by_cases x : i = k
    · subst x
      exact ⟨a, by omega, c, fun j j0 j1 => d j j0 (by omega), fun j j0 j1 => e j j0 (by omega)⟩
    · exact h.at_ i (by omega) h1
  · by_cases x : i = k
    · subst x
      have h2 := hC (i + 1) (by omega) (by omega)
      have h3 := h.bnd (i + 1) (by omega) (by omega)
      have h4 := d (i + 1) (by omega) (by omega)
      have h5 := hC (rd M i).toNat (by omega) (by omega)
      have h6 := h.bnd (rd M i).toNat (by omega) (by omega)
      rw [show (((rd M i).toNat : Nat) : Int) = rd M i from by omega] at h6
      omega
    · exact h.bnd i (by omega) h1
theorem DPf.dp {n : Nat} {C : Nat → Nat → Int} {L M : List Int} (h : DPf n C L M 0) : IsDP n C (fun i => rd L i) (fun i => (rd M i).toNat) := by
  refine ⟨h.last, fun k hk => ?_⟩
  obtain ⟨a, b, c, d, e⟩ := h.at_ k (Nat.zero_le _) hk
  refine ⟨(by show k < (rd M k).toNat; omega), (by show (rd M k).toNat ≤ n; omega), ?_, fun j j0 j1 => d j j0 j1, fun j j0 j1 => e j (by change (rd M k).toNat < j at j0; omega) j1⟩
  dsimp only
  rw [show (((rd M k).toNat : Nat) : Int) = rd M k from by omega]
  exact c
theorem DPf.start (n : Nat) (C : Nat → Nat → Int) : DPf n C (List.replicate (n + 1) 0) (List.replicate (n + 1) 0) n := by
  have hr : ∀ i : Nat, rd (List.replicate (n + 1) 0) i = 0 := fun i => by
    unfold rd
    rw [List.getD_eq_getElem?_getD, List.getElem?_replicate]
    split <;> rfl
  refine ⟨by simp, by simp, hr n, fun k h0 h1 => by omega, fun k h0 h1 => ?_⟩
  have : k = n := by omega
  subst this
  rw [hr]; omega

/-- Words in lines with the least costs. -/
def LeastOf (w : Int) (ws r : List ByteArray) : Prop := ∃ B N, IsDP ws.length (CL w ws) B N ∧ r = (chn ws N ws.length 0).map jn
theorem LeastOf.uniq {w : Int} {ws r r' : List ByteArray} (h : LeastOf w ws r) (h' : LeastOf w ws r') : r = r' := by
  obtain ⟨B, N, hd, rfl⟩ := h
  obtain ⟨B', N', hd', rfl⟩ := h'
  rw [chn_congr ws (fun k hk => (hd.uniq hd' (ws.length - k) k (by omega)).2 hk)]
theorem LeastOf.nil (w : Int) : LeastOf w [] [] := ⟨fun _ => 0, fun k => k, ⟨rfl, fun k hk => by simp at hk⟩, rfl⟩
theorem CL_bnd {w : Int} {ws : List ByteArray} (hw : 4 ≤ w ∧ w ≤ 40) (ht : tot ws + ws.length ≤ 121) (k j : Nat) : 0 ≤ CL w ws k j ∧ CL w ws k j ≤ 100000000 := by
  unfold CL
  refine ⟨lc_nonneg .., lc_le _ (by omega) (by omega) (by omega) ?_⟩
  have h1 := jn_size (seg ws k j)
  have h2 := tot_seg ws k j
  have h3 : (seg ws k j).length ≤ ws.length := by unfold seg; rw [List.length_take, List.length_drop]; omega
  omega
theorem chn_len (ws : List ByteArray) (N : Nat → Nat) (hN : ∀ k, k < ws.length → k < N k) : ∀ d k, (chn ws N d k).length ≤ ws.length - k
  | 0, k => by rw [chn]; exact Nat.zero_le _
  | d + 1, k => by
    rw [chn]
    by_cases c : k < ws.length
    · have := chn_len ws N hN d (N k)
      have := hN k c
      rw [if_pos c, List.length_cons]; omega
    · rw [if_neg c]; exact Nat.zero_le _
theorem LeastOf.len {w : Int} {ws r : List ByteArray} (h : LeastOf w ws r) : r.length ≤ ws.length := by
  obtain ⟨B, N, hd, rfl⟩ := h
  have := chn_len ws N (fun k hk => (hd.2 k hk).1) ws.length 0
  rw [List.length_map]; omega
theorem join_jn (l : List ByteArray) : (⟨(Lib.join (l.map (·.data.toList)) [32]).toArray⟩ : ByteArray) = jn l := by
  apply data_inj
  show Lib.join (l.map (·.data.toList)) [32] = _
  unfold Lib.join
  have key : ∀ (l : List ByteArray) (x : List UInt8), ([32] : List UInt8).intercalate (x :: l.map (·.data.toList)) = x ++ (tl l).data.toList := by
    intro l
    induction l with
    | nil => intro x; simp [List.intercalate, tl]
    | cons y l ih =>
      intro x
      have := ih y.data.toList
      rw [List.map_cons, tl, data_cat, data_cat, ← this]
      simp [List.intercalate, sp]
  cases l with
  | nil => rfl
  | cons x l => rw [List.map_cons, key, jn, data_cat]
theorem seg_take (ws : List ByteArray) (k j : Nat) : (ws.take j).drop k = seg ws k j := by
  unfold seg
  rw [List.drop_take]

theorem specLeast (s : ByteArray) (w : Int) (hs : s.size ≤ 140737488351232) : W (fun f => spec_FillLeast.f f s w) (fun r => if 4 ≤ w ∧ w ≤ 40 then LeastOf w (W0 s) r else r = []) := by
  unfold spec_FillLeast.f
  refine W.name (W.bind_eq (specWords s hs) ?_)
  have ht := W0_tot s
  generalize W0 s = ws at ht ⊢
  refine W.call (l1In_eq ..) (W.ite (fun h => ?_) (fun h => W.ret (by rw [if_neg (by simpa using h)])))
  have hw : 4 ≤ w ∧ w ≤ 40 := by simpa using h
  simp only [if_pos hw]
  have hC := CL_bnd hw ht
  rw [w64 (x := (ws.length : Int) + 1) (by omega) (by omega), w64 (x := (ws.length : Int) - 1) (by omega) (by omega)]
  refine W.pos (by omega) (W.pos (by omega) ?_)
  -- the lines, out of the table
  have lines : ∀ L M, DPf ws.length (CL w ws) L M 0 → W (fun f => spec_FillLeast.l2 f [] ws ws.length M 0) (LeastOf w ws) := by
    intro L M hd
    have hN : ∀ k, k < ws.length → k < (rd M k).toNat := fun k hk => by have := (hd.at_ k (Nat.zero_le _) hk).1; omega
    have key := W.loop (σ := List ByteArray × Nat) (l := fun x f => spec_FillLeast.l2 f x.1 ws ws.length M x.2) (P := fun x r => r = x.1 ++ (chn ws (fun i => (rd M i).toNat) (ws.length - x.2) x.2).map jn) (fun x => x.2 ≤ ws.length ∧ x.1.length ≤ x.2) (fun x => ws.length - x.2) (by
      rintro ⟨out, k⟩ ⟨hk, ho⟩ ih
      dsimp only at hk ho ⊢
      refine W.step (fun f => spec_FillLeast.l2.eq_2 ..) ?_
      by_cases hlt : k < ws.length
      · obtain ⟨a, b, _⟩ := hd.at_ k (Nat.zero_le _) hlt
        have hl2 := hd.len2
        obtain ⟨j, hj⟩ : ∃ j : Nat, rd M k = j := ⟨(rd M k).toNat, by omega⟩
        rw [hj] at a b ⊢
        refine W.pos (by omega) (W.pos (by omega) (W.pos (by omega) (W.bind_eq (textFW ws (show k ≤ j by omega) (by omega) (by omega)) (W.pos (by omega) ?_))))
        have next := ih (out ++ [jn (seg ws k j)], j) ⟨by dsimp only; omega, by simp only [List.length_append, List.length_cons, List.length_nil]; omega⟩ (by dsimp only; omega)
        dsimp only at next
        refine next.mono (fun r hr => ?_)
        rw [hr, show ws.length - k = (ws.length - k - 1) + 1 from by omega, chn, if_pos hlt, hj, Int.toNat_natCast, List.map_cons, chn_more ws _ hN (ws.length - k - 1) (ws.length - j) j (by omega) (by omega), List.append_assoc]
        rfl
      · have e : k = ws.length := by omega
        subst e
        refine W.neg (by omega) (W.ret ?_)
        rw [Nat.sub_self, chn, List.map_nil, List.append_nil]) ([], 0) ⟨Nat.zero_le _, Nat.le_refl _⟩
    dsimp only at key
    rw [Nat.sub_zero, List.nil_append] at key
    exact key.mono (fun r hr => ⟨_, _, hd.dp, hr⟩)
  -- the tables
  have outer : ∀ f (L M : List Int), f ≤ ws.length → DPf ws.length (CL w ws) L M f → W (fun fl => spec_FillLeast.l0 fl w [] ws ws.length L M ((f : Int) - 1)) (LeastOf w ws) := by
    intro f
    induction f with
    | zero =>
      intro L M hf hd
      exact W.step (fun fl => spec_FillLeast.l0.eq_2 ..) (W.neg (by omega) (lines L M hd))
    | succ k IH =>
      intro L M hf hd
      have l1 := hd.len1
      have l2 := hd.len2
      refine W.step (fun fl => spec_FillLeast.l0.eq_2 ..) ?_
      rw [show (((k + 1 : Nat) : Int)) - 1 = k from by omega, w64 (x := (k : Int) + 1) (by omega) (by omega), Int.toNat_natCast]
      refine W.pos (by omega) (W.pos (by omega) (W.pos (by omega) ?_))
      have key := W.loop (σ := List Int × List Int × Nat) (l := fun x fl => spec_FillLeast.l1 fl w [] ws ws.length x.1 x.2.1 k x.2.2) (P := fun _ => LeastOf w ws) (fun x => k < x.2.2 ∧ x.2.2 ≤ ws.length + 1 ∧ DPf ws.length (CL w ws) x.1 x.2.1 (k + 1) ∧ Best (CL w ws) x.1 x.2.1 k x.2.2 ∧ (rd x.1 k < 0 ↔ x.2.2 = k + 1)) (fun x => ws.length + 1 - x.2.2) (by
        rintro ⟨L, M, j⟩ ⟨h0, h1, hd, hb, hn⟩ ih
        dsimp only at h0 h1 hd hb hn ⊢
        have l1 := hd.len1
        have l2 := hd.len2
        refine W.step (fun fl => spec_FillLeast.l1.eq_2 ..) ?_
        by_cases hle : j ≤ ws.length
        · have hsz : (jn (seg ws k j)).size ≤ 121 := by
            have := seg_size ws h0 hle
            have := tot_seg ws k j
            omega
          have hcl : lc w ((jn (seg ws k j)).size : Int) (decide (j = ws.length)) = CL w ws k j := rfl
          have hbd := hd.bnd j (by omega) hle
          have hC2 := hC k j
          refine W.pos (by omega) (W.bind_eq (sizeW ws h0 hle (by omega)) (W.call (specCost1 _ (by omega) (by omega) (by omega) (by omega)) ?_))
          rw [show ((j : Int) == (ws.length : Int)) = decide (j = ws.length) from by
            rw [Bool.eq_iff_iff]; simp; omega]
          rw [hcl, w64 (x := CL w ws k j + rd L j) (by omega) (by omega), w64 (x := (j : Int) + 1) (by omega) (by omega), Int.toNat_natCast]
          have put : (k + 1 < j → CL w ws k j + rd L j ≤ rd L k) → W (fun fl => spec_FillLeast.l1 fl w [] ws ws.length (L.set k (CL w ws k j + rd L j)) (M.set k j) k ((j : Int) + 1)) (LeastOf w ws) := by
            intro hle2
            have next := ih (L.set k (CL w ws k j + rd L j), M.set k (j : Int), j + 1) ⟨by dsimp only; omega, by dsimp only; omega, hd.set (by omega) _ _, Best.put hd (by omega) h0 hle hb hle2, by
              dsimp only
              rw [rd_set_self L _ (by omega)]; omega⟩ (by dsimp only; omega)
            dsimp only at next
            rw [show ((j + 1 : Nat) : Int) = (j : Int) + 1 from by omega] at next
            exact next
          refine W.pos (by omega) (W.pos (by omega) (W.pos (by omega) (W.pos (by omega) (W.ite (fun hneg => W.pos (by omega) ?_) (fun hneg => ?_)))))
          · have e := hn.1 hneg
            exact put (fun h => by omega)
          · have hj : k + 1 < j := by
              by_cases e : j = k + 1
              · exact absurd (hn.2 e) hneg
              · omega
            refine W.ite (fun hle2 => W.pos (by omega) (put (fun _ => hle2))) (fun hgt => ?_)
            have next := ih (L, M, j + 1) ⟨by dsimp only; omega, by dsimp only; omega, hd, Best.keep hj hb (show rd L k < CL w ws k j + rd L j by omega), by dsimp only; omega⟩ (by dsimp only; omega)
            dsimp only at next
            rw [show ((j + 1 : Nat) : Int) = (j : Int) + 1 from by omega] at next
            exact next
        · have e : j = ws.length + 1 := by omega
          subst e
          refine W.neg (by omega) ?_
          rw [w64 (x := (k : Int) - 1) (by omega) (by omega)]
          exact IH L M (by omega) (hd.next (by omega) hb (fun j _ _ => hC k j))) (L.set k (-1), M, k + 1) ⟨by dsimp only; omega, by dsimp only; omega, hd.set1 (by omega) _, fun h => by dsimp only at h; omega, by
            dsimp only
            rw [rd_set_self L _ (by omega)]; omega⟩
      dsimp only at key
      rw [show ((k + 1 : Nat) : Int) = (k : Int) + 1 from by omega] at key
      exact key
  have := outer ws.length _ _ (Nat.le_refl _) (DPf.start ws.length (CL w ws))
  rw [show ((ws.length : Int) + 1).toNat = ws.length + 1 from by omega]
  exact this

theorem implLeast (s : ByteArray) (w : Int) (hs : s.size ≤ 140737488351232) : W (fun f => impl_FillLeast.f f s w) (fun r => if 4 ≤ w ∧ w ≤ 40 then LeastOf w (W0 s) r else r = []) := by
  unfold impl_FillLeast.f
  have no : ((4 ≤ w ∧ w ≤ 40) → W0 s = []) → W (fun f => impl_FillLeast.j0 f s w true) (fun r => if 4 ≤ w ∧ w ≤ 40 then LeastOf w (W0 s) r else r = []) := fun hP => by
    refine W.step (fun f => impl_FillLeast.j0.eq_2 ..) (W.pos rfl (W.ret ?_))
    split
    · rename_i h; rw [hP h]; exact LeastOf.nil w
    · rfl
  refine W.bind (implTV s hs) (fun b hb => W.ite (fun h => ?_) (fun h => no (fun _ => by unfold W0; rw [if_neg (fun hv => h (hb.2 hv))])))
  refine W.call (isWidthE w) ?_
  by_cases hw : 4 ≤ w ∧ w ≤ 40
  case neg =>
    rw [decide_eq_false hw]
    exact no (fun h => absurd h hw)
  rw [decide_eq_true hw]
  simp only [if_pos hw]
  refine W.step (fun f => impl_FillLeast.j0.eq_2 ..) (W.neg (by decide) (W.bind_eq (implWords s hs) ?_))
  have ht := W0_tot s
  generalize W0 s = ws at ht ⊢
  have hC := CL_bnd hw ht
  rw [w64 (x := (ws.length : Int) + 1) (by omega) (by omega), w64 (x := (ws.length : Int) - 1) (by omega) (by omega)]
  refine W.pos (by omega) (W.pos (by omega) ?_)
  have lines : ∀ L M, DPf ws.length (CL w ws) L M 0 → W (fun f => impl_FillLeast.l2 f ws ws.length M [] 0) (LeastOf w ws) := by
    intro L M hd
    have hN : ∀ k, k < ws.length → k < (rd M k).toNat := fun k hk => by have := (hd.at_ k (Nat.zero_le _) hk).1; omega
    have key := W.loop (σ := List ByteArray × Nat) (l := fun x f => impl_FillLeast.l2 f ws ws.length M x.1 x.2) (P := fun x r => r = x.1 ++ (chn ws (fun i => (rd M i).toNat) (ws.length - x.2) x.2).map jn) (fun x => x.2 ≤ ws.length ∧ x.1.length ≤ x.2) (fun x => ws.length - x.2) (by
      rintro ⟨out, k⟩ ⟨hk, ho⟩ ih
      dsimp only at hk ho ⊢
      refine W.step (fun f => impl_FillLeast.l2.eq_2 ..) ?_
      by_cases hlt : k < ws.length
      · obtain ⟨a, b, _⟩ := hd.at_ k (Nat.zero_le _) hlt
        have hl2 := hd.len2
        obtain ⟨j, hj⟩ : ∃ j : Nat, rd M k = j := ⟨(rd M k).toNat, by omega⟩
        rw [hj] at a b ⊢
        rw [Int.toNat_natCast, Int.toNat_natCast, seg_take]
        have hsl := seg_len ws (show k ≤ j by omega) (by omega)
        have hjs : strings_Join.f (seg ws k j) (⟨#[32]⟩ : ByteArray) = some (jn (seg ws k j)) := by
          unfold strings_Join.f
          have e := join_jn (seg ws k j)
          have hz : (Lib.join ((seg ws k j).map (·.data.toList)) [32]).length = (jn (seg ws k j)).size := by rw [← e]; exact (size_mk _).symm
          have h3 := seg_size ws (show k < j by omega) (by omega)
          have h4 := tot_seg ws k j
          rw [show (⟨#[32]⟩ : ByteArray).data.toList = [32] from rfl, if_pos ⟨by omega, by omega⟩, e]
        refine W.pos (by omega) (W.pos (by omega) (W.pos (by omega) (W.pos (by omega) (W.pos (by omega) (W.call hjs (W.pos (by omega) ?_))))))
        have next := ih (out ++ [jn (seg ws k j)], j) ⟨by dsimp only; omega, by simp only [List.length_append, List.length_cons, List.length_nil]; omega⟩ (by dsimp only; omega)
        dsimp only at next
        refine next.mono (fun r hr => ?_)
        rw [hr, show ws.length - k = (ws.length - k - 1) + 1 from by omega, chn, if_pos hlt, hj, Int.toNat_natCast, List.map_cons, chn_more ws _ hN (ws.length - k - 1) (ws.length - j) j (by omega) (by omega), List.append_assoc]
        rfl
      · have e : k = ws.length := by omega
        subst e
        refine W.neg (by omega) (W.ret ?_)
        rw [Nat.sub_self, chn, List.map_nil, List.append_nil]) ([], 0) ⟨Nat.zero_le _, Nat.le_refl _⟩
    dsimp only at key
    rw [Nat.sub_zero, List.nil_append] at key
    exact key.mono (fun r hr => ⟨_, _, hd.dp, hr⟩)
  have outer : ∀ f (L M : List Int), f ≤ ws.length → DPf ws.length (CL w ws) L M f → W (fun fl => impl_FillLeast.l0 fl w ws ws.length L M ((f : Int) - 1)) (LeastOf w ws) := by
    intro f
    induction f with
    | zero =>
      intro L M hf hd
      exact W.step (fun fl => impl_FillLeast.l0.eq_2 ..) (W.neg (by omega) (lines L M hd))
    | succ k IH =>
      intro L M hf hd
      refine W.step (fun fl => impl_FillLeast.l0.eq_2 ..) ?_
      rw [show (((k + 1 : Nat) : Int)) - 1 = k from by omega, w64 (x := (k : Int) + 1) (by omega) (by omega)]
      refine W.pos (by omega) ?_
      have key := W.loop (σ := List Int × List Int × Nat) (l := fun x fl => impl_FillLeast.l1 fl w ws ws.length x.1 x.2.1 k ((tot (seg ws k (x.2.2 - 1)) : Int) + (x.2.2 - k - 1) - 1) x.2.2) (P := fun _ => LeastOf w ws) (fun x => k < x.2.2 ∧ x.2.2 ≤ ws.length + 1 ∧ DPf ws.length (CL w ws) x.1 x.2.1 (k + 1) ∧ Best (CL w ws) x.1 x.2.1 k x.2.2) (fun x => ws.length + 1 - x.2.2) (by
        rintro ⟨L, M, j⟩ ⟨h0, h1, hd, hb⟩ ih
        dsimp only at h0 h1 hd hb ⊢
        have l1 := hd.len1
        have l2 := hd.len2
        refine W.step (fun fl => impl_FillLeast.l1.eq_2 ..) ?_
        by_cases hle : j ≤ ws.length
        · have hsz0 := seg_size ws h0 hle
          have hts := tot_seg ws k j
          have hcl : lc w ((jn (seg ws k j)).size : Int) (decide (j = ws.length)) = CL w ws k j := rfl
          have hbd := hd.bnd j (by omega) hle
          have hC2 := hC k j
          obtain ⟨m, rfl⟩ : ∃ m, j = m + 1 := ⟨j - 1, by omega⟩
          have hseg := seg_succ ws (show k ≤ m by omega) (by omega)
          have htot2 : tot (seg ws k (m + 1)) = tot (seg ws k m) + (rdOf ByteArray.empty ws m).size := by
            rw [hseg, tot_append, tot_cons, show tot [] = 0 from rfl]; omega
          rw [show m + 1 - 1 = m from by omega, show (((m + 1 : Nat) : Int)) - 1 = m from by omega, w64 (x := (m : Int)) (by omega) (by omega), w64 (x := (1 : Int) + ((rdOf ByteArray.empty ws m).size : Nat)) (by omega) (by omega)]
          rw [w64 (x := (tot (seg ws k m) : Int) + (((m + 1 : Nat) : Int) - k - 1) - 1 + (1 + ((rdOf ByteArray.empty ws m).size : Nat))) (by omega) (by omega)]
          have hsz : (tot (seg ws k m) : Int) + (((m + 1 : Nat) : Int) - k - 1) - 1 + (1 + ((rdOf ByteArray.empty ws m).size : Nat)) = ((jn (seg ws k (m + 1))).size : Nat) := by omega
          rw [hsz]
          refine W.pos (by omega) (W.pos (by omega) (W.pos (by omega) (W.call (implCost1 _ (by omega) (by omega) (by omega) (by omega)) ?_)))
          rw [show (((m + 1 : Nat) : Int) == (ws.length : Int)) = decide (m + 1 = ws.length) from by
            rw [Bool.eq_iff_iff]; simp; omega]
          rw [hcl, w64 (x := CL w ws k (m + 1) + rd L ((m + 1 : Nat) : Int)) (by omega) (by omega), w64 (x := ((m + 1 : Nat) : Int) + 1) (by omega) (by omega), w64 (x := (k : Int) + 1) (by omega) (by omega), Int.toNat_natCast]
          have hlen : ((tot (seg ws k (m + 1 + 1 - 1)) : Nat) : Int) + (((m + 1 + 1 : Nat) : Int) - k - 1) - 1 = ((jn (seg ws k (m + 1))).size : Nat) := by
            rw [show m + 1 + 1 - 1 = m + 1 from by omega]; omega
          have put : (k + 1 < m + 1 → CL w ws k (m + 1) + rd L ((m + 1 : Nat) : Int) ≤ rd L k) → W (fun fl => impl_FillLeast.l1 fl w ws ws.length (L.set k (CL w ws k (m + 1) + rd L ((m + 1 : Nat) : Int))) (M.set k ((m + 1 : Nat) : Int)) k ((jn (seg ws k (m + 1))).size : Nat) (((m + 1 : Nat) : Int) + 1)) (LeastOf w ws) := by
            intro hle2
            have next := ih (L.set k (CL w ws k (m + 1) + rd L ((m + 1 : Nat) : Int)), M.set k ((m + 1 : Nat) : Int), m + 1 + 1) ⟨by dsimp only; omega, by dsimp only; omega, hd.set (by omega) _ _, Best.put hd (by omega) h0 hle hb hle2⟩ (by dsimp only; omega)
            dsimp only at next
            rw [hlen, show ((m + 1 + 1 : Nat) : Int) = ((m + 1 : Nat) : Int) + 1 from by omega] at next
            exact next
          refine W.pos (by omega) (W.pos (by omega) (W.ite (fun hneg => W.pos (by omega) (W.pos (by omega) (W.pos (by omega) ?_))) (fun hneg => W.pos (by omega) (W.pos (by omega) ?_))))
          · exact put (fun h => by omega)
          · refine W.ite (fun hle2 => W.pos (by omega) (put (fun _ => hle2))) (fun hgt => ?_)
            have next := ih (L, M, m + 1 + 1) ⟨by dsimp only; omega, by dsimp only; omega, hd, Best.keep (by omega) hb (show rd L k < CL w ws k (m + 1) + rd L ((m + 1 : Nat) : Int) by omega)⟩ (by dsimp only; omega)
            dsimp only at next
            rw [hlen, show ((m + 1 + 1 : Nat) : Int) = ((m + 1 : Nat) : Int) + 1 from by omega] at next
            exact next
        · have e : j = ws.length + 1 := by omega
          subst e
          refine W.neg (by omega) ?_
          rw [w64 (x := (k : Int) - 1) (by omega) (by omega)]
          exact IH L M (by omega) (hd.next (by omega) hb (fun j _ _ => hC k j))) (L, M, k + 1) ⟨by dsimp only; omega, by dsimp only; omega, hd, fun h => by dsimp only at h; omega⟩
      dsimp only at key
      rw [show k + 1 - 1 = k from by omega, seg_self, show (((tot [] : Nat) : Int)) + (((k + 1 : Nat) : Int) - k - 1) - 1 = -1 from by
        rw [show tot [] = 0 from rfl]; omega, show ((k + 1 : Nat) : Int) = (k : Int) + 1 from by omega] at key
      exact key
  have := outer ws.length _ _ (Nat.le_refl _) (DPf.start ws.length (CL w ws))
  rw [show ((ws.length : Int) + 1).toNat = ws.length + 1 from by omega]
  exact this

end Go.Proofs.YtfhcocpbhbleiaaDoor.Ev
/- What the printed functions answer, part Fp: words in lines, and the words of the lines. -/
namespace Go.Proofs.YtfhcocpbhbleiaaDoor.Ev
open Go.RowKit Go.Proofs.YtfhcocpbhbleiaaDoor.X Go.Proofs.YtfhcocpbhbleiaaDoor.Wp Go.Proofs.YtfhcocpbhbleiaaDoorW.PrintWords Go.Proofs.YtfhcocpbhbleiaaDoor.ThW Go.Proofs.YtfhcocpbhbleiaaDoor.ThP Go.Proofs.YtfhcocpbhbleiaaDoor.ThT
set_option linter.unusedVariables false
set_option linter.unusedSimpArgs false

/-- Words in lines. -/
structure Part (ws : List ByteArray) (L : List (List ByteArray)) : Prop where
  ne : ∀ g ∈ L, g ≠ []
  flat : L.flatten = ws
theorem Part.len {ws : List ByteArray} {L : List (List ByteArray)} (h : Part ws L) : L.length ≤ ws.length := by
  rw [← h.flat]
  have := h.ne
  clear h
  induction L with
  | nil => exact Nat.zero_le _
  | cons g L ih =>
    have h1 := ih (fun x hx => this x (List.mem_cons_of_mem _ hx))
    have hg := List.length_pos_iff.2 (this g (List.mem_cons_self ..))
    rw [List.length_cons, List.flatten_cons, List.length_append]; omega
end Go.Proofs.YtfhcocpbhbleiaaDoor.Ev
/- What the printed functions answer, part MS: lists of texts compared, marked, held. -/
namespace Go.Proofs.YtfhcocpbhbleiaaDoor.Ev
open Go.RowKit Go.Proofs.YtfhcocpbhbleiaaDoor.X Go.Proofs.YtfhcocpbhbleiaaDoor.Wp Go.Proofs.YtfhcocpbhbleiaaDoorW.PrintWords Go.Proofs.YtfhcocpbhbleiaaDoor.ThT
set_option linter.unusedVariables false
set_option linter.unusedSimpArgs false

theorem eqStrings (a b : List ByteArray) (ha : a.length ≤ 140737488351232) : W (fun k => laws_eqStringS.f k a b) (fun r => r = true ↔ a = b) := by
  unfold laws_eqStringS.f
  refine W.ite (fun hl => ?_) (fun hl => W.ret ⟨fun h => by simp at h, fun h => absurd (by rw [h]) hl⟩)
  refine W.loop (l := fun i k => laws_eqStringS.l0 k a b i) (P := fun _ r => r = true ↔ a = b) (fun i : Int => 0 ≤ i ∧ i ≤ a.length ∧ ∀ j, 0 ≤ j → j < i → rdOf ByteArray.empty a j = rdOf ByteArray.empty b j) (fun i => (a.length - i).toNat) ?_ 0 ⟨by omega, by omega, fun j h0 h1 => by omega⟩
  intro i ⟨h0, h1, h2⟩ ih
  refine W.step (fun k => laws_eqStringS.l0.eq_2 ..) ?_
  by_cases hlt : i < a.length
  · rw [w64 (x := i + 1) (by omega) (by omega)]
    refine W.pos hlt (W.pos h0 (W.pos (by omega) (W.ite (fun he => ih (i + 1) ⟨by omega, by omega, fun j h3 h4 => ?_⟩ (by omega)) (fun he => W.ret ⟨fun h => by simp at h, fun h => absurd (by rw [h]) he⟩))))
    by_cases e : j = i
    · subst e; exact toList_inj.1 he
    · exact h2 j h3 (by omega)
  · refine W.neg hlt (W.ret ⟨fun _ => rdOf_ext ByteArray.empty (by omega) (fun j h3 h4 => h2 j h3 (by omega)), fun _ => rfl⟩)
theorem eqStrings_true {a b : List ByteArray} (h : a = b) (ha : a.length ≤ 140737488351232) : W (fun k => laws_eqStringS.f k a b) (· = true) := (eqStrings a b ha).mono fun r hr => hr.2 h

theorem strOfNums_one (x : Int) : (strOfNums [x]).size = 1 := rfl
theorem markTextEnds (x : Int) (h : x ≤ 1000000000000000) : W (fun k => laws_markText.f k x) (fun _ => True) := by
  unfold laws_markText.f
  refine W.ite (fun _ => W.ret trivial) (fun hx => ?_)
  refine W.loop (l := fun (z : Int × ByteArray) k => laws_markText.l0 k z.1 z.2) (P := fun _ _ => True) (fun z => 0 ≤ z.1 ∧ z.1 + z.2.size ≤ 1000000000000000) (fun z => z.1.toNat) ?_ (x, ⟨#[]⟩) ⟨by dsimp only; omega, by show x + ((0 : Nat) : Int) ≤ _; omega⟩
  rintro ⟨a, t⟩ ⟨h0, h1⟩ ih
  dsimp only at h0 h1 ⊢
  refine W.step (fun k => laws_markText.l0.eq_2 ..) (W.ite (fun hc => W.name ?_) (fun hc => W.pos (by omega) (W.ret trivial)))
  obtain ⟨y, hy⟩ : ∃ y, y = wrap64 (48 + a.tmod 10) % 256 := ⟨_, rfl⟩
  rw [← hy]
  have hd : Int.tdiv a 10 = a / 10 := Int.tdiv_eq_ediv_of_nonneg h0
  rw [w64 (x := Int.tdiv a 10) (by omega) (by omega), hd]
  have hs := strOfNums_one y
  refine W.pos (by omega) (ih (_, _) ⟨by dsimp only; omega, ?_⟩ (by dsimp only; omega))
  dsimp only
  rw [ByteArray.size_append, hs]; omega
open Classical in
/-- The mark's text. -/
noncomputable def mtx (x : Int) : ByteArray := if h : ∃ r, W (fun k => laws_markText.f k x) (· = r) then Classical.choose h else ByteArray.empty
theorem markTextW (x : Int) (h : x ≤ 1000000000000000) : W (fun k => laws_markText.f k x) (· = mtx x) := by
  have ex : ∃ r, W (fun k => laws_markText.f k x) (· = r) := by
    obtain ⟨r, _, hK⟩ := markTextEnds x h
    exact ⟨r, r, rfl, hK⟩
  unfold mtx
  rw [dif_pos ex]
  exact Classical.choose_spec ex

/-- The marks from k on. -/
noncomputable def marks (k : Int) (n : Nat) : List ByteArray := tab (fun i => mtx (k + i)) n
theorem markStrings (a : List ByteArray) (k : Int) (h0 : 0 ≤ k) (h1 : k ≤ 1000) (ha : a.length ≤ 140737488351232) : W (fun f => laws_markStringS.f f a k) (fun r => r = (k + a.length, marks k a.length)) := by
  unfold laws_markStringS.f
  have key := W.loop (l := fun (s : Int × List ByteArray) f => laws_markStringS.l0 f s.2 (k + s.1) s.1) (P := fun _ r => r = (k + a.length, marks k a.length)) (fun s => 0 ≤ s.1 ∧ s.1 ≤ a.length ∧ s.2.length = a.length ∧ ∀ j, 0 ≤ j → j < s.1 → rdOf ByteArray.empty s.2 j = mtx (k + j)) (fun s => (a.length - s.1).toNat) (by
    rintro ⟨i, x⟩ ⟨h2, h3, h4, h5⟩ ih
    dsimp only at h2 h3 h4 h5 ⊢
    refine W.step (fun f => laws_markStringS.l0.eq_2 ..) ?_
    by_cases hlt : i < a.length
    · rw [w64 (x := i + 1) (by omega) (by omega), w64 (x := k + i + 1) (by omega) (by omega)]
      have next := ih (i + 1, x.set i.toNat (mtx (k + i))) ⟨by dsimp only; omega, by dsimp only; omega, by dsimp only; rw [List.length_set]; exact h4, fun j h6 h7 => by
        dsimp only at h7 ⊢
        by_cases e : j = i
        · subst e; exact rdOf_set_self _ _ _ h6 (by omega)
        · rw [rdOf_set_ne _ _ _ h6 h2 e]; exact h5 j h6 (by omega)⟩ (by dsimp only; omega)
      dsimp only at next
      rw [show k + (i + 1) = k + i + 1 from by omega] at next
      exact W.pos (by omega) (W.bind_eq (markTextW (k + i) (by omega)) (W.pos h2 next))
    · refine W.neg (by omega) (W.ret ?_)
      have e : i = a.length := by omega
      subst e
      exact Prod.ext rfl (rdOf_ext ByteArray.empty (by unfold marks; rw [tab_len]; exact h4) (fun j h6 h7 => by
        dsimp only at h7
        show rdOf ByteArray.empty x j = _
        unfold marks
        rw [h5 j h6 (by omega), rdOf_tab _ _ _ h6 (by omega), show ((j.toNat : Nat) : Int) = j from by omega]))) (0, a) ⟨by simp, by simp, rfl, fun j h6 h7 => by dsimp only at h7; omega⟩
  simpa using key
theorem heldStrings (k : Int) (n : Nat) (h0 : 0 ≤ k) (h1 : k ≤ 1000) (hn : n ≤ 140737488351232) : W (fun f => laws_heldStringS.f f (marks k n) k) (fun r => r = k + n) := by
  unfold laws_heldStringS.f
  have hl : (marks k n).length = n := tab_len _ n
  have key := W.loop (l := fun (i : Int) f => laws_heldStringS.l0 f (marks k n) (k + i) i) (P := fun _ r => r = k + n) (fun i => 0 ≤ i ∧ i ≤ n) (fun i => (n - i).toNat) (by
    rintro i ⟨h2, h3⟩ ih
    refine W.step (fun f => laws_heldStringS.l0.eq_2 ..) ?_
    by_cases hlt : i < n
    · rw [w64 (x := i + 1) (by omega) (by omega), w64 (x := k + i + 1) (by omega) (by omega)]
      have next := ih (i + 1) ⟨by omega, by omega⟩ (by omega)
      rw [show k + (i + 1) = k + i + 1 from by omega] at next
      refine W.pos (by omega) (W.pos h2 (W.bind_eq (markTextW (k + i) (by omega)) (W.pos ?_ next)))
      rw [show rdOf ByteArray.empty (marks k n) i = mtx (k + i) from by unfold marks; rw [rdOf_tab _ _ _ h2 hlt, show ((i.toNat : Nat) : Int) = i from by omega]]
    · exact W.neg (by omega) (W.ret (by omega))) 0 ⟨by omega, by omega⟩
  simpa using key
end Go.Proofs.YtfhcocpbhbleiaaDoor.Ev
namespace Go.Proofs.YtfhcocpbhbleiaaDoor.Pure
open Go.RowKit Go.Proofs.YtfhcocpbhbleiaaDoor.X Go.Proofs.YtfhcocpbhbleiaaDoor.Wp Go.Proofs.YtfhcocpbhbleiaaDoor.Ev Go.Proofs.YtfhcocpbhbleiaaDoor.ThW

theorem least_same {s : ByteArray} {w : Int} {r r' : List ByteArray} (h : if 4 ≤ w ∧ w ≤ 40 then LeastOf w (W0 s) r else r = []) (h' : if 4 ≤ w ∧ w ≤ 40 then LeastOf w (W0 s) r' else r' = []) : r' = r ∧ r.length ≤ 121 := by
  have ht := W0_tot s
  split at h
  · rename_i hw
    rw [if_pos hw] at h'
    have := h.len
    exact ⟨h'.uniq h, by omega⟩
  · rename_i hw
    rw [if_neg hw] at h'
    subst h h'
    exact ⟨rfl, by simp⟩
theorem FnExactFillLeast : laws_FnExactFillLeast.Pure := by
  intro s w hs hw
  refine W.rounds (r := true) ?_
  unfold laws_FnExactFillLeast.f
  refine W.ite (fun _ => W.ret rfl) (fun hbig => W.bind (specLeast s w hs) (fun r hr => W.bind (implLeast s w hs) (fun g hg => ?_)))
  obtain ⟨rfl, hl⟩ := least_same hr hg
  refine W.bind_eq (eqStrings_true rfl (by omega)) (W.pos rfl (W.bind_eq (markStrings g 1 (by omega) (by omega) (by omega)) (W.bind_eq (heldStrings 1 g.length (by omega) (by omega) (by omega)) (W.neg (by omega) (W.pos rfl (W.bind (implLeast s w hs) (fun g2 hg2 => ?_)))))))
  obtain ⟨rfl, _⟩ := least_same hr hg2
  exact W.bind_eq (eqStrings_true rfl (by omega)) (W.pos rfl (W.bind_eq (heldStrings 1 g2.length (by omega) (by omega) (by omega)) (W.neg (by omega) (W.pos rfl (W.ret rfl)))))
end Go.Proofs.YtfhcocpbhbleiaaDoor.Pure
