/- For every text, the program's KeysFor returns what the reference's KeysFor returns. Conditions: none. -/
import Derived.Test.YtmpdbcmbchejmaaDoorWMore
import Derived.Test.YtmpdbcmbchejmaaDoorX1
import Derived.Laws.Strings
import Derived.Lib.Fields
import Derived.Lib.Replace
import Derived.Lib.IndexAny
/- Running the printed functions: 'W g P': from some number of rounds on g answers, and the answer meets P. -/
namespace Go.Proofs.YtmpdbcmbchejmaaDoor.Wp
open Go.RowKit Go.Proofs.YtmpdbcmbchejmaaDoorW.PrintWords
set_option linter.unusedVariables false
set_option linter.unusedSimpArgs false

def W {α : Type} (g : Nat → Option α) (P : α → Prop) : Prop := ∃ r, P r ∧ ∃ K, ∀ k, K ≤ k → g k = some r

theorem W.ret {α : Type} {r : α} {P : α → Prop} (h : P r) : W (fun _ => some r) P := ⟨r, h, 0, fun _ _ => rfl⟩

theorem W.mono {α : Type} {g : Nat → Option α} {P Q : α → Prop} (h : W g Q) (hk : ∀ a, Q a → P a) : W g P := by
  obtain ⟨r, hr, K, h⟩ := h
  exact ⟨r, hk r hr, K, h⟩

theorem W.bind {α β : Type} {g : Nat → Option α} {f : Nat → α → Option β} {P : β → Prop} {Q : α → Prop} (h : W g Q) (hk : ∀ a, Q a → W (fun k => f k a) P) : W (fun k => (g k).bind (f k)) P := by
  obtain ⟨a, ha, K, h⟩ := h
  obtain ⟨r, hr, K', h'⟩ := hk a ha
  refine ⟨r, hr, max K K', fun k hle => ?_⟩
  have h1 := h k (by omega)
  have h2 := h' k (by omega)
  simp only [h1, Option.bind_some]
  exact h2

theorem W.bind_eq {α β : Type} {g : Nat → Option α} {f : Nat → α → Option β} {P : β → Prop} {a : α} (h : W g (· = a)) (hk : W (fun k => f k a) P) : W (fun k => (g k).bind (f k)) P :=
  W.bind h (fun b hb => by subst hb; exact hk)

theorem W.step {α : Type} {g f : Nat → Option α} {P : α → Prop} (h : ∀ k, g (k + 1) = f k) (w : W f P) : W g P := by
  obtain ⟨r, hr, K, w⟩ := w
  refine ⟨r, hr, K + 1, fun k hk => ?_⟩
  obtain ⟨m, rfl⟩ : ∃ m, k = m + 1 := ⟨k - 1, by omega⟩
  rw [h]
  exact w m (by omega)

theorem W.congr {α : Type} {g f : Nat → Option α} {P : α → Prop} (h : ∀ k, g k = f k) (w : W f P) : W g P := by
  obtain ⟨r, hr, K, w⟩ := w
  exact ⟨r, hr, K, fun k hk => (h k).trans (w k hk)⟩

theorem W.ite {α : Type} {c : Prop} [Decidable c] {a b : Nat → Option α} {P : α → Prop} (h1 : c → W a P) (h2 : ¬c → W b P) : W (fun k => if c then a k else b k) P := by
  by_cases h : c
  · simp only [if_pos h]; exact h1 h
  · simp only [if_neg h]; exact h2 h

theorem W.pos {α : Type} {c : Prop} [Decidable c] {a b : Nat → Option α} {P : α → Prop} (h : c) (w : W a P) : W (fun k => if c then a k else b k) P := W.ite (fun _ => w) (fun h' => absurd h h')
theorem W.neg {α : Type} {c : Prop} [Decidable c] {a b : Nat → Option α} {P : α → Prop} (h : ¬ c) (w : W b P) : W (fun k => if c then a k else b k) P := W.ite (fun h' => absurd h' h) (fun _ => w)
theorem W.call {α β : Type} {x : Option α} {r : α} {f : Nat → α → Option β} {P : β → Prop} (h : x = some r) (w : W (fun k => f k r) P) : W (fun k => x.bind (f k)) P := by
  subst h; exact w
theorem W.rounds {α : Type} {g : Nat → Option α} {r : α} (h : W g (· = r)) : ∃ k, g k = some r := by
  obtain ⟨a, rfl, K, h⟩ := h
  exact ⟨K, h K (Nat.le_refl _)⟩

/-- A loop: a measure, an invariant. -/
theorem W.loop {α σ : Type} {l : σ → Nat → Option α} {P : σ → α → Prop} (I : σ → Prop) (m : σ → Nat) (h : ∀ s, I s → (∀ s', I s' → m s' < m s → W (l s') (P s')) → W (l s) (P s)) : ∀ s, I s → W (l s) (P s) := by
  have key : ∀ n s, m s < n → I s → W (l s) (P s) := by
    intro n
    induction n with
    | zero => intro s hs; omega
    | succ n ih => intro s hs hi; exact h s hi (fun s' hi' hm => ih s' (by omega) hi')
  intro s hi
  exact key (m s + 1) s (by omega) hi

theorem w64 {x : Int} (h : -9223372036854775808 ≤ x) (h' : x ≤ 9223372036854775807) : wrap64 x = x := by
  unfold wrap64; omega

end Go.Proofs.YtmpdbcmbchejmaaDoor.Wp
/- What the printed functions answer, part A: valid texts, places, ranges. -/
namespace Go.Proofs.YtmpdbcmbchejmaaDoor.Ev
open Go.RowKit Go.Proofs.YtmpdbcmbchejmaaDoor.X Go.Proofs.YtmpdbcmbchejmaaDoor.Wp Go.Proofs.YtmpdbcmbchejmaaDoorW.PrintWords
set_option linter.unusedVariables false
set_option linter.unusedSimpArgs false

def okB (c : Int) : Prop := c = 10 ∨ (32 ≤ c ∧ c ≤ 126)
instance (c : Int) : Decidable (okB c) := by unfold okB; infer_instance
/-- A valid text. -/
def VT (s : ByteArray) : Prop := s.size ≤ 120 ∧ ∀ j : Int, 0 ≤ j → j < s.size → okB (bt s j)

noncomputable instance (s : ByteArray) : Decidable (VT s) := Classical.propDecidable _

theorem isByte_eq (c : Int) : impl_isByte.f c = some (decide (okB c)) := by
  unfold impl_isByte.f okB
  by_cases h1 : c = 10
  · simp [h1]
  · by_cases h2 : c ≥ 32
    · simp [h1, h2]
    · have : ¬ 32 ≤ c := h2
      simp [h1, this]
theorem l1In_eq (a b c : Int) : spec_l1In.f a b c = some (decide (b ≤ a ∧ a ≤ c)) := by
  unfold spec_l1In.f
  by_cases h : b ≤ a
  · simp [h]
  · have : ¬ a ≥ b := h
    simp [h]
theorem implTV (s : ByteArray) (hs : s.size ≤ 140737488351232) : W (fun k => impl_TextValid.f k s) (fun b => b = true ↔ VT s) := by
  unfold impl_TextValid.f
  refine W.loop (l := fun i k => impl_TextValid.l0 k s s.size i) (P := fun _ b => b = true ↔ VT s) (fun i => 0 ≤ i ∧ i ≤ s.size ∧ ∀ j, 0 ≤ j → j < i → okB (bt s j)) (fun i => (s.size - i).toNat) ?_ 0 ⟨by omega, by omega, fun j h0 h1 => by omega⟩
  intro i ⟨h0, h1, h2⟩ ih
  refine W.step (fun k => impl_TextValid.l0.eq_2 ..) ?_
  by_cases hlt : i < s.size
  · simp (disch := omega) only [if_pos, w64, isByte_eq, Option.bind_some]
    by_cases hb : okB (bt s i)
    · simp only [hb, decide_true, if_true]
      exact ih (i + 1) ⟨by omega, by omega, fun j h3 h4 => by
        by_cases e : j = i
        · subst e; exact hb
        · exact h2 j h3 (by omega)⟩ (by omega)
    · simp only [hb, decide_false]
      exact W.ret ⟨fun h => by simp at h, fun h => absurd (h.2 i h0 hlt) hb⟩
  · simp (disch := omega) only [if_neg]
    refine W.ret ?_
    simp only [decide_eq_true_eq]
    exact ⟨fun h => ⟨by omega, fun j h3 h4 => h2 j h3 (by omega)⟩, fun h => by have := h.1; omega⟩

theorem specPlain (s : ByteArray) (hs : s.size ≤ 140737488351232) : W (fun k => spec_l1Plain.f k s) (fun b => b = true ↔ ∀ j : Int, 0 ≤ j → j < s.size → okB (bt s j)) := by
  unfold spec_l1Plain.f
  refine W.loop (l := fun i k => spec_l1Plain.l0 k s i) (P := fun _ b => b = true ↔ ∀ j : Int, 0 ≤ j → j < s.size → okB (bt s j)) (fun i => 0 ≤ i ∧ i ≤ s.size ∧ ∀ j, 0 ≤ j → j < i → okB (bt s j)) (fun i => (s.size - i).toNat) ?_ 0 ⟨by omega, by omega, fun j h0 h1 => by omega⟩
  intro i ⟨h0, h1, h2⟩ ih
  refine W.step (fun k => spec_l1Plain.l0.eq_2 ..) ?_
  have hr := bt_range s i
  by_cases hlt : i < s.size
  · simp (disch := omega) only [if_pos, w64, l1In_eq, Option.bind_some]
    have next : okB (bt s i) → ∀ j, 0 ≤ j → j < i + 1 → okB (bt s j) := fun hb j h3 h4 => by
      by_cases e : j = i
      · subst e; exact hb
      · exact h2 j h3 (by omega)
    refine W.ite (fun hc => ih (i + 1) ⟨by omega, by omega, next (.inl hc)⟩ (by omega)) (fun hc => ?_)
    refine W.ite (fun hd => ih (i + 1) ⟨by omega, by omega, next (.inr (by simpa using hd))⟩ (by omega)) (fun hd => ?_)
    refine W.ret ⟨fun h => by simp at h, fun h => ?_⟩
    rcases h i h0 hlt with h | h
    · exact absurd h hc
    · exact absurd (by simpa using h) hd
  · simp (disch := omega) only [if_neg]
    exact W.ret ⟨fun _ j h3 h4 => h2 j h3 (by omega), fun _ => rfl⟩

theorem specTV (s : ByteArray) (hs : s.size ≤ 140737488351232) : W (fun k => spec_TextValid.f k s) (fun b => b = true ↔ VT s) := by
  unfold spec_TextValid.f
  refine W.ite (fun h => ?_) (fun h => ?_)
  · refine W.bind (specPlain s hs) (fun b hb => W.ret ?_)
    rw [hb]
    exact ⟨fun h' => ⟨by omega, h'⟩, fun h' => h'.2⟩
  · exact W.ret ⟨fun h' => by simp at h', fun h' => by have := h'.1; omega⟩
end Go.Proofs.YtmpdbcmbchejmaaDoor.Ev
/- Texts as bytes: parts, sums, equality. -/
namespace Go.Proofs.YtmpdbcmbchejmaaDoor.Ev
open Go.RowKit Go.Proofs.YtmpdbcmbchejmaaDoorW.PrintWords
set_option linter.unusedVariables false
set_option linter.unusedSimpArgs false

theorem bt_eq (s : ByteArray) {i : Int} (h0 : 0 ≤ i) (h : i < s.size) : ∃ h' : i.toNat < s.size, bt s i = (s[i.toNat]'h').toNat := by
  have h' : i.toNat < s.size := by omega
  exact ⟨h', by unfold bt; rw [dif_pos h']⟩
theorem str_ext {a b : ByteArray} (hl : a.size = b.size) (h : ∀ i : Int, 0 ≤ i → i < a.size → bt a i = bt b i) : a = b := by
  apply ByteArray.ext_getElem hl
  intro i h1 h2
  have := h i (by omega) (by omega)
  unfold bt at this
  rw [dif_pos (by simpa using h1), dif_pos (by simpa using h2)] at this
  exact UInt8.toNat_inj.1 (by exact_mod_cast this)
theorem bt_ext (s : ByteArray) {a b i : Int} (h0 : 0 ≤ a) (h1 : 0 ≤ i) (h2 : i < b - a) (h3 : b ≤ s.size) : bt (s.extract a.toNat b.toNat) i = bt s (a + i) := by
  unfold bt
  rw [dif_pos (by rw [ByteArray.size_extract]; omega), dif_pos (by omega), ByteArray.getElem_extract]
  congr 2
  congr 1
  omega
end Go.Proofs.YtmpdbcmbchejmaaDoor.Ev
/- The plain law of words: the words of a text, words joined by spaces, lines that are as full as can be. No program in sight. -/
namespace Go.Proofs.YtmpdbcmbchejmaaDoor.ThW
set_option linter.unusedVariables false
set_option linter.unusedSimpArgs false

def mk (l : List UInt8) : ByteArray := ⟨l.toArray⟩
theorem mk_data (l : List UInt8) : (mk l).data.toList = l := rfl
theorem data_mk (s : ByteArray) : mk s.data.toList = s := by
  obtain ⟨⟨l⟩⟩ := s; rfl
theorem data_inj {a b : ByteArray} (h : a.data.toList = b.data.toList) : a = b := by rw [← data_mk a, ← data_mk b, h]
theorem data_len (s : ByteArray) : s.data.toList.length = s.size := by rw [Array.length_toList]; rfl
theorem data_cat (a b : ByteArray) : (a ++ b).data.toList = a.data.toList ++ b.data.toList := by simp
theorem size_mk (l : List UInt8) : (mk l).size = l.length := by rw [← data_len]; rfl
end Go.Proofs.YtmpdbcmbchejmaaDoor.ThW
/- What the printed functions answer, part Wa: the bytes of a text, as a list. -/
namespace Go.Proofs.YtmpdbcmbchejmaaDoor.Ev
open Go.RowKit Go.Proofs.YtmpdbcmbchejmaaDoor.X Go.Proofs.YtmpdbcmbchejmaaDoor.Wp Go.Proofs.YtmpdbcmbchejmaaDoorW.PrintWords Go.Proofs.YtmpdbcmbchejmaaDoor.ThW
set_option linter.unusedVariables false
set_option linter.unusedSimpArgs false

theorem data_at (s : ByteArray) {n : Nat} (h : n < s.size) : ∃ c : UInt8, s.data.toList.drop n = c :: s.data.toList.drop (n + 1) ∧ bt s n = c.toNat ∧ s.extract n (n + 1) = mk [c] := by
  have hl := data_len s
  have h1 : n < s.data.toList.length := by omega
  refine ⟨s.data.toList[n], List.drop_eq_getElem_cons h1, ?_, ?_⟩
  · obtain ⟨p, e⟩ := bt_eq s (i := (n : Int)) (by omega) (by omega)
    rw [e]; rfl
  · apply str_ext
    · rw [ByteArray.size_extract, size_mk]; simp only [List.length_cons, List.length_nil]; omega
    · intro i h0 h2
      rw [ByteArray.size_extract] at h2
      have e : i = 0 := by omega
      subst e
      have := bt_ext s (a := (n : Int)) (b := ((n + 1 : Nat) : Int)) (i := 0) (by omega) (by omega) (by omega) (by omega)
      rw [Int.toNat_natCast, Int.toNat_natCast] at this
      rw [this, Int.add_zero]
      obtain ⟨p, e⟩ := bt_eq s (i := (n : Int)) (by omega) (by omega)
      rw [e]; rfl
theorem data_ok {s : ByteArray} (hv : VT s) {b : UInt8} (hb : b ∈ s.data.toList) : okB b.toNat := by
  obtain ⟨n, hn, rfl⟩ := List.getElem_of_mem hb
  rw [data_len] at hn
  have := hv.2 n (by omega) (by omega)
  obtain ⟨p, e⟩ := bt_eq s (i := (n : Int)) (by omega) (by omega)
  rw [e] at this
  exact this
end Go.Proofs.YtmpdbcmbchejmaaDoor.Ev
namespace Go.Proofs.YtmpdbcmbchejmaaDoor.Pure
open Go.RowKit Go.Proofs.YtmpdbcmbchejmaaDoor.X Go.Proofs.YtmpdbcmbchejmaaDoor.Wp Go.Proofs.YtmpdbcmbchejmaaDoor.Ev Go.Proofs.YtmpdbcmbchejmaaDoor.ThW Go.Proofs.YtmpdbcmbchejmaaDoorW.PrintWords
set_option linter.unusedVariables false
set_option linter.unusedSimpArgs false

def keyOf (c : UInt8) : UInt8 := if c = 10 then 64 else c
def badK : List UInt8 := [60, 62, 94, 95, 35, 64]
theorem any_bad (chars : List UInt8) : ∀ l : List UInt8, Lib.containsAny l chars = l.any (fun b => chars.contains b)
  | [] => rfl
  | b :: l => by
    have ih := any_bad chars l
    have hge := Lib.indexAny_ge chars l
    unfold Lib.containsAny at ih ⊢
    rw [Lib.indexAny, List.any_cons, ← ih]
    cases hb : chars.contains b with
    | true => rfl
    | false =>
      simp only [Bool.false_or, Bool.false_eq_true, if_false]
      by_cases h : Lib.indexAny l chars = -1
      · rw [if_pos (by simpa using h), h]
      · rw [if_neg (by simpa using h)]
        rw [decide_eq_decide]
        omega
theorem idx1 (b c : UInt8) (l : List UInt8) : Lib.index (b :: l) [c] = if c = b then 0 else if Lib.index l [c] = -1 then -1 else Lib.index l [c] + 1 := by
  rw [Lib.index]
  have e : ([c] : List UInt8).isPrefixOf (b :: l) = (c == b) := by simp [List.isPrefixOf]
  rw [e]
  by_cases h : c = b
  · rw [if_pos (by simpa using h), if_pos h]
  · rw [if_neg (by simpa using h), if_neg h]
    by_cases h2 : Lib.index l [c] = -1
    · rw [if_pos (by simpa using h2), if_pos h2]
    · rw [if_neg (by simpa using h2), if_neg h2]
theorem repl_cons (b c d : UInt8) (l : List UInt8) (h : c ≠ b) : ∀ k, Lib.replaceK [c] [d] k (b :: l) = b :: Lib.replaceK [c] [d] k l
  | 0 => rfl
  | k + 1 => by
    rw [Lib.replaceK, Lib.replaceK, idx1, if_neg h]
    have hge := Lib.index_ge l [c]
    by_cases h2 : Lib.index l [c] = -1
    · rw [if_pos h2, h2]; rfl
    · rw [if_neg h2, if_neg (by simp; omega), if_neg (by simpa using h2)]
      obtain ⟨i, hi⟩ : ∃ i : Nat, Lib.index l [c] = i := ⟨(Lib.index l [c]).toNat, by omega⟩
      rw [hi, show ((i : Int) + 1).toNat = i + 1 from by omega, Int.toNat_natCast]
      rw [List.take_succ_cons, show i + 1 + ([c] : List UInt8).length = (i + ([c] : List UInt8).length) + 1 from by omega, List.drop_succ_cons]
      rfl
theorem repl_map : ∀ (l : List UInt8) (k : Nat), l.count 10 ≤ k → Lib.replaceK [10] [64] k l = l.map keyOf
  | [], k, _ => by
    cases k with
    | zero => rfl
    | succ k => rw [Lib.replaceK]; rfl
  | b :: l, k, h => by
    by_cases hb : b = 10
    · subst hb
      rw [List.count_cons_self] at h
      obtain ⟨k, rfl⟩ : ∃ m, k = m + 1 := ⟨k - 1, by omega⟩
      rw [Lib.replaceK, idx1, if_pos rfl]
      have ih := repl_map l k (by omega)
      simp only [List.map_cons, keyOf, if_true]
      rw [show ((0 : Int) == -1) = false from rfl]
      simp only [Bool.false_eq_true, if_false]
      rw [show ((0 : Int)).toNat = 0 from rfl, List.take_zero, show 0 + ([10] : List UInt8).length = 1 from rfl, List.drop_one, List.tail_cons, ih]
      rfl
    · rw [List.count_cons_of_ne (fun e => hb (by simpa using e))] at h
      rw [repl_cons b 10 64 l (fun e => hb e.symm), repl_map l k h, List.map_cons]
      congr 1
      unfold keyOf
      rw [if_neg hb]
theorem replAll (l : List UInt8) : Lib.replaceAll l [10] [64] = l.map keyOf := by
  unfold Lib.replaceAll Lib.replace
  rw [if_neg (by decide)]
  refine repl_map l _ ?_
  unfold Lib.replaceNum
  rw [if_pos (.inl (by decide)), Lib.count_one]
  exact Nat.le_refl _
/-- What KeysFor answers. -/
noncomputable def KF (s : ByteArray) : ByteArray × Bool := if VT s ∧ s.size ≤ 60 ∧ s.data.toList.any (fun b => badK.contains b) = false then (mk (s.data.toList.map keyOf), true) else (⟨#[]⟩, false)
theorem implKF (s : ByteArray) (hs : s.size ≤ 140737488351232) : W (fun k => impl_KeysFor.f k s) (· = KF s) := by
  unfold impl_KeysFor.f KF
  refine W.bind (implTV s hs) (fun b hb => W.ite (fun h => ?_) (fun h => W.ret (by rw [if_neg (fun hv => h (hb.2 hv.1))])))
  have hv := hb.1 h
  have hsz := hv.1
  refine W.ite (fun h60 => W.ret (by rw [if_neg (fun hv2 => by omega)])) (fun h60 => ?_)
  have hasc : (s.data.toList.all (fun b => decide (b.toNat < 128))) = true := List.all_eq_true.2 fun b hb => by
    have := data_ok hv hb
    unfold okB at this
    simp only [decide_eq_true_eq]
    omega
  refine W.call (r := s.data.toList.any (fun b => badK.contains b)) ?_ ?_
  · unfold strings_ContainsAny.f
    rw [if_pos ⟨by omega, by decide, hasc, by decide⟩, any_bad]
    rfl
  · refine W.ite (fun hbad => W.ret (by rw [if_neg (fun hv2 => by rw [hv2.2.2] at hbad; cases hbad)])) (fun hbad => ?_)
    rw [if_pos ⟨hv, by omega, by simpa using hbad⟩]
    refine W.call (r := mk (s.data.toList.map keyOf)) ?_ (W.ret rfl)
    unfold strings_ReplaceAll.f
    have h1 : Lib.countB s ⟨#[10]⟩ ≤ s.size := Lib.countB_le ⟨#[10]⟩ (by decide) s.size s (Nat.le_refl _)
    have h2 : (⟨#[64]⟩ : ByteArray).size = 1 := rfl
    rw [if_pos ⟨by omega, by decide, by rw [h2]; omega⟩]
    show some (⟨(Lib.replaceAll s.data.toList [10] [64]).toArray⟩ : ByteArray) = _
    rw [replAll]
    rfl
theorem specKF (s : ByteArray) (hs : s.size ≤ 140737488351232) : W (fun k => spec_KeysFor.f k s) (· = KF s) := by
  unfold spec_KeysFor.f KF
  have no : W (fun k => spec_KeysFor.j0 k s true) (· = (⟨#[]⟩, false)) := W.step (fun k => spec_KeysFor.j0.eq_2 ..) (W.pos rfl (W.ret rfl))
  refine W.bind (specTV s hs) (fun b hb => W.ite (fun h => ?_) (fun h => by rw [if_neg (fun hv => h (hb.2 hv.1))]; exact no))
  have hv := hb.1 h
  have hsz := hv.1
  by_cases h60 : (s.size : Int) > 60
  · rw [decide_eq_true h60, if_neg (fun hv2 => by omega)]; exact no
  rw [decide_eq_false h60]
  refine W.step (fun k => spec_KeysFor.j0.eq_2 ..) (W.neg (by decide) ?_)
  have key := W.loop (l := fun (n : Nat) k => spec_KeysFor.l0 k s (mk ((s.data.toList.take n).map keyOf)) n) (P := fun n r => r = if (s.data.toList.drop n).any (fun b => badK.contains b) = false then (mk (s.data.toList.map keyOf), true) else (⟨#[]⟩, false)) (fun n => n ≤ s.size) (fun n => s.size - n) (by
    intro n hn ih
    refine W.step (fun k => spec_KeysFor.l0.eq_2 ..) ?_
    by_cases hlt : n < s.size
    · obtain ⟨c, e, hbt, hx⟩ := data_at s hlt
      have next := ih (n + 1) (by omega) (by omega)
      have htk : s.data.toList.take (n + 1) = s.data.toList.take n ++ [c] := by
        have hl : n < s.data.toList.length := by rw [data_len]; exact hlt
        rw [List.take_add_one, List.getElem?_eq_getElem hl]
        rw [List.drop_eq_getElem_cons hl] at e
        injection e with e1 e2
        rw [e1]; rfl
      have hzt : (mk ((s.data.toList.take n).map keyOf)).size ≤ n := by rw [size_mk, List.length_map, List.length_take]; omega
      have hcat : ∀ d : UInt8, keyOf c = d → mk ((s.data.toList.take (n + 1)).map keyOf) = mk ((s.data.toList.take n).map keyOf) ++ mk [d] := fun d hd => data_inj (by rw [data_cat, mk_data, mk_data, mk_data, htk, List.map_append, List.map_cons, List.map_nil, hd])
      have cv : ∀ v : UInt8, c = v ↔ bt s n = (v.toNat : Int) := fun v => by
        rw [hbt]
        constructor
        · intro h; rw [h]
        · intro h; exact UInt8.toNat_inj.1 (by exact_mod_cast h)
      have bad : badK.contains c = true → W (fun k => spec_KeysFor.j2 k s (mk ((s.data.toList.take n).map keyOf)) n (bt s n) true) (fun r => r = if (s.data.toList.drop n).any (fun b => badK.contains b) = false then (mk (s.data.toList.map keyOf), true) else (⟨#[]⟩, false)) := fun hc => by
        rw [e, List.any_cons, hc, Bool.true_or, if_neg (by decide)]
        exact W.step (fun k => spec_KeysFor.j2.eq_2 ..) (W.pos rfl (W.ret rfl))
      have good : badK.contains c = false → W (fun k => spec_KeysFor.j2 k s (mk ((s.data.toList.take n).map keyOf)) n (bt s n) false) (fun r => r = if (s.data.toList.drop n).any (fun b => badK.contains b) = false then (mk (s.data.toList.map keyOf), true) else (⟨#[]⟩, false)) := fun hc => by
        rw [e, List.any_cons, hc, Bool.false_or]
        rw [show ((n + 1 : Nat) : Int) = (n : Int) + 1 from by omega] at next
        refine W.step (fun k => spec_KeysFor.j2.eq_2 ..) (W.neg (by decide) ?_)
        rw [w64 (x := (n : Int) + 1) (by omega) (by omega)]
        refine W.ite (fun h10 => ?_) (fun h10 => ?_)
        · rw [hcat 64 (by unfold keyOf; rw [if_pos ((cv 10).2 h10)])] at next
          exact W.pos (by omega) next
        · rw [hcat c (by unfold keyOf; rw [if_neg (fun h => h10 ((cv 10).1 h))])] at next
          rw [show ((n : Int) + 1).toNat = n + 1 from by omega, Int.toNat_natCast, hx]
          have h1 : (mk [c]).size = 1 := rfl
          exact W.pos (by omega) (W.pos (by omega) (W.pos (by omega) (W.pos (by omega) next)))
      refine W.pos (by omega) (W.pos (by omega) ?_)
      have lit : ∀ v : UInt8, badK.contains v = true → bt s n = (v.toNat : Int) → badK.contains c = true := fun v hv h => by rw [(cv v).2 h]; exact hv
      refine W.ite (fun h => ?_) (fun h1 => W.ite (fun h => ?_) (fun h2 => W.ite (fun h => ?_) (fun h3 => W.ite (fun h => ?_) (fun h4 => W.ite (fun h => ?_) (fun h5 => ?_)))))
      · rw [show (bt s n == 60) = true from by simpa using h]; exact bad (lit 60 (by decide) h)
      · rw [show (bt s n == 62) = true from by simpa using h]; exact bad (lit 62 (by decide) h)
      · rw [show (bt s n == 94) = true from by simpa using h]; exact bad (lit 94 (by decide) h)
      · rw [show (bt s n == 95) = true from by simpa using h]; exact bad (lit 95 (by decide) h)
      · rw [show (bt s n == 35) = true from by simpa using h]; exact bad (lit 35 (by decide) h)
      · by_cases h6 : bt s n = 64
        · rw [show (bt s n == 64) = true from by simpa using h6]; exact bad (lit 64 (by decide) h6)
        · rw [show (bt s n == 64) = false from by simpa using h6]
          refine good ?_
          cases hc : badK.contains c with
          | false => rfl
          | true =>
            rw [List.contains_iff_mem] at hc
            simp only [badK, List.mem_cons, List.not_mem_nil, or_false] at hc
            rcases hc with hc | hc | hc | hc | hc | hc
            · exact absurd ((cv 60).1 hc) h1
            · exact absurd ((cv 62).1 hc) h2
            · exact absurd ((cv 94).1 hc) h3
            · exact absurd ((cv 95).1 hc) h4
            · exact absurd ((cv 35).1 hc) h5
            · exact absurd ((cv 64).1 hc) h6
    · have e : n = s.size := by omega
      subst e
      refine W.neg (by omega) (W.ret ?_)
      rw [List.drop_of_length_le (by rw [data_len]; exact Nat.le_refl _), List.take_of_length_le (by rw [data_len]; exact Nat.le_refl _)]
      rfl) 0 (Nat.zero_le _)
  rw [List.take_zero, List.drop_zero] at key
  refine key.mono (fun r hr => ?_)
  rw [hr]
  by_cases hb : s.data.toList.any (fun b => badK.contains b) = false
  · rw [if_pos hb, if_pos ⟨hv, by omega, hb⟩]
  · rw [if_neg hb, if_neg (fun h => hb h.2.2)]
theorem FnExactKeysFor : laws_FnExactKeysFor.Pure := by
  intro s hs
  refine W.rounds (r := true) ?_
  unfold laws_FnExactKeysFor.f
  refine W.ite (fun _ => W.ret rfl) (fun _ => W.bind_eq (specKF s hs) (W.bind_eq (implKF s hs) ?_))
  refine W.pos rfl (W.neg (by simp) (W.ret rfl))
end Go.Proofs.YtmpdbcmbchejmaaDoor.Pure
