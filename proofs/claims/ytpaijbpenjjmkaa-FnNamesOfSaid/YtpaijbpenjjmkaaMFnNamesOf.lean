/- For every code, the law on names answers true: each stands in the text, they ascend, and a text with a name behind it has them all. Conditions: none. -/
import Derived.Test.YtpaijbpenjjmkaaX3
import Derived.Test.YtpaijbpenjjmkaaEvA
import Derived.Test.YtpaijbpenjjmkaaEvS
import Derived.Test.YtpaijbpenjjmkaaThC
import Derived.Test.YtpaijbpenjjmkaaLibN
import Derived.Sort.Walk0
import Derived.Test.YtpaijbpenjjmkaaWMore
import Derived.Test.YtpaijbpenjjmkaaX4
import Derived.Test.YtpaijbpenjjmkaaX5
import Derived.Test.YtpaijbpenjjmkaaWp
import Derived.Test.YtpaijbpenjjmkaaLibT
import Derived.Lib.IndexBytes
import Derived.Lib.RowBridge
/- What the printed functions answer, part N: classes of bytes, names before places. -/
namespace Go.Proofs.Ytpaijbpenjjmkaa.Ev
open Go.RowKit Go.Proofs.Ytpaijbpenjjmkaa.X Go.Proofs.Ytpaijbpenjjmkaa.Wp Go.Proofs.YtpaijbpenjjmkaaW.PrintWords Go.Proofs.Ytpaijbpenjjmkaa.ThC
set_option linter.unusedVariables false
set_option linter.unusedSimpArgs false

theorem kindW (c : Int) : W (fun k => spec_l8Kind.f k c) (· = cls c) := by
  unfold spec_l8Kind.f
  have yes : c = 32 ∨ c = 10 → W (fun k => spec_l8Kind.j0 k c true) (· = cls c) := fun h =>
    W.step (fun k => spec_l8Kind.j0.eq_2 ..) (W.pos rfl (W.ret (by unfold cls; rw [if_pos h])))
  refine W.ite (fun h => yes (.inl h)) (fun h => ?_)
  by_cases h10 : c = 10
  · rw [show (c == 10) = true from by simpa using h10]; exact yes (.inr h10)
  · rw [show (c == 10) = false from by simpa using h10]
    refine W.step (fun k => spec_l8Kind.j0.eq_2 ..) (W.neg (by decide) ?_)
    by_cases a : (48 ≤ c ∧ c ≤ 57) ∨ (97 ≤ c ∧ c ≤ 122) ∨ (65 ≤ c ∧ c ≤ 90)
    · rw [show cls c = 1 from by unfold cls; rw [if_neg (by omega), if_pos a]]
      repeat' (first | exact W.ret rfl | (exfalso; omega) | refine W.ite (fun _ => ?_) (fun _ => ?_))
    · rw [show cls c = 2 from by unfold cls; rw [if_neg (by omega), if_neg a]]
      repeat' (first | exact W.ret rfl | (exfalso; omega) | refine W.ite (fun _ => ?_) (fun _ => ?_))
end Go.Proofs.Ytpaijbpenjjmkaa.Ev
/- The plain law of names: the words of letters and digits of a text; lists that ascend. No program in sight. -/
namespace Go.Proofs.Ytpaijbpenjjmkaa.ThN
open Go.RowKit Go.Proofs.YtpaijbpenjjmkaaW.PrintWords Go.Proofs.Ytpaijbpenjjmkaa.Ev Go.Proofs.Ytpaijbpenjjmkaa.ThC Go.Proofs.Ytpaijbpenjjmkaa.X
set_option linter.unusedVariables false
set_option linter.unusedSimpArgs false

/-- The bytes from a to b are a word of letters and digits, as long as there are any. -/
def isW (s : ByteArray) (a b : Nat) : Prop := a < b ∧ b ≤ s.size ∧ (∀ j : Int, a ≤ j → j < b → cls (bt s j) = 1) ∧ (a = 0 ∨ cls (bt s ((a : Int) - 1)) ≠ 1) ∧ (b = s.size ∨ cls (bt s b) ≠ 1)
theorem run_uniq {s : ByteArray} {a b p : Nat} (ha : a < p) (hb : b < p) (h1 : ∀ j : Int, a ≤ j → j < p → cls (bt s j) = 1) (h2 : a = 0 ∨ cls (bt s ((a : Int) - 1)) ≠ 1) (h3 : ∀ j : Int, b ≤ j → j < p → cls (bt s j) = 1) (h4 : b = 0 ∨ cls (bt s ((b : Int) - 1)) ≠ 1) : a = b := by
  by_cases c : a < b
  · rcases h4 with h4 | h4
    · omega
    · exact absurd (h1 _ (by omega) (by omega)) h4
  · by_cases d : b < a
    · rcases h2 with h2 | h2
      · omega
      · exact absurd (h3 _ (by omega) (by omega)) h2
    · omega
/-- What holds when the bytes before pos are seen. -/
def SI (s : ByteArray) (pos : Nat) (st : Option Nat) (acc : List (Nat × Nat)) : Prop :=
  (∀ x : Nat × Nat, x ∈ acc ↔ isW s x.1 x.2 ∧ x.2 < pos) ∧
  (match st with
   | none => pos = 0 ∨ cls (bt s ((pos : Int) - 1)) ≠ 1
   | some a => a < pos ∧ (∀ j : Int, a ≤ j → j < pos → cls (bt s j) = 1) ∧ (a = 0 ∨ cls (bt s ((a : Int) - 1)) ≠ 1))
theorem decode1 (s : ByteArray) {pos : Nat} (h : pos < s.size) (ha : bt s pos < 128) : Utf8.decode s pos = ((bt s pos).toNat, 1) := by
  obtain ⟨p, e⟩ := bt_eq s (i := (pos : Int)) (by omega) (by omega)
  rw [e] at ha ⊢
  simp only [Int.toNat_natCast] at ha ⊢
  have := decode_ascii s pos h (by omega)
  rw [this]
theorem notName_bt {s : ByteArray} {pos : Nat} (ha : bt s pos < 128) : notName (bt s pos).toNat = (cls (bt s pos) != 1) := by
  unfold notName
  have := bt_range s pos
  rw [Nat.mod_eq_of_lt (by omega), show (((bt s pos).toNat : Nat) : Int) = bt s pos from by omega]
theorem spans_spec (s : ByteArray) (hasc : ∀ j : Nat, j < s.size → bt s j < 128) : ∀ (f pos : Nat) (st : Option Nat) (acc : List (Nat × Nat)), pos + f = s.size → SI s pos st acc → SI s s.size (Lib.spansFromP notName s f pos st acc).2 (Lib.spansFromP notName s f pos st acc).1
  | 0, pos, st, acc, h, hi => by
    have : pos = s.size := by omega
    subst this
    exact hi
  | f + 1, pos, st, acc, h, hi => by
    have ih := fun st acc => spans_spec s hasc f (pos + 1) st acc (by omega)
    have ha := hasc pos (by omega)
    obtain ⟨h1, h2⟩ := hi
    unfold Lib.spansFromP
    rw [if_pos (by omega), decode1 s (by omega) ha]
    dsimp only
    rw [notName_bt ha]
    by_cases hc : cls (bt s pos) = 1
    · rw [hc, if_neg (by decide)]
      have hold : ∀ x : Nat × Nat, x ∈ acc ↔ isW s x.1 x.2 ∧ x.2 < pos + 1 := fun x => by
        rw [h1 x]
        constructor
        · rintro ⟨a, b⟩; exact ⟨a, by omega⟩
        · rintro ⟨a, b⟩
          refine ⟨a, ?_⟩
          by_cases e : x.2 = pos
          · rcases a.2.2.2.2 with h5 | h5
            · omega
            · rw [e] at h5; exact absurd hc h5
          · omega
      cases st with
      | none =>
        refine ih (some pos) acc ⟨hold, by omega, fun j j0 j1 => ?_, h2⟩
        rw [show j = pos from by omega]; exact hc
      | some a =>
        obtain ⟨b1, b2, b3⟩ := h2
        refine ih (some a) acc ⟨hold, by omega, fun j j0 j1 => ?_, b3⟩
        by_cases e : j = pos
        · rw [e]; exact hc
        · exact b2 j j0 (by omega)
    · rw [if_pos (by simpa using hc)]
      cases st with
      | none =>
        refine ih none acc ⟨fun x => ?_, .inr (by rw [show ((pos + 1 : Nat) : Int) - 1 = pos from by omega]; exact hc)⟩
        rw [h1 x]
        constructor
        · rintro ⟨a, b⟩; exact ⟨a, by omega⟩
        · rintro ⟨a, b⟩
          refine ⟨a, ?_⟩
          by_cases e : x.2 = pos
          · have h5 := a.1
            rcases h2 with h2 | h2
            · omega
            · exact absurd (a.2.2.1 ((pos : Int) - 1) (by omega) (by omega)) h2
          · omega
      | some c =>
        obtain ⟨b1, b2, b3⟩ := h2
        refine ih none (acc ++ [(c, pos)]) ⟨fun x => ?_, .inr (by rw [show ((pos + 1 : Nat) : Int) - 1 = pos from by omega]; exact hc)⟩
        rw [List.mem_append, List.mem_singleton, h1 x]
        constructor
        · rintro (⟨a, b⟩ | rfl)
          · exact ⟨a, by omega⟩
          · exact ⟨⟨b1, by omega, b2, b3, .inr hc⟩, by dsimp only; omega⟩
        · rintro ⟨a, b⟩
          by_cases e : x.2 = pos
          · right
            obtain ⟨x1, x2⟩ := x
            dsimp only at a e ⊢
            subst e
            rw [run_uniq a.1 b1 a.2.2.1 a.2.2.2.1 b2 b3]
          · exact .inl ⟨a, by omega⟩
/-- The fields are the words. -/
theorem fields_mem (s : ByteArray) (hasc : ∀ j : Nat, j < s.size → bt s j < 128) (y : ByteArray) : y ∈ Lib.goFieldsP notName s ↔ ∃ a b, isW s a b ∧ y = s.extract a b := by
  unfold Lib.goFieldsP Lib.spansOfP
  have h := spans_spec s hasc s.size 0 none [] (by omega) ⟨fun x => by
    constructor
    · intro h; cases h
    · rintro ⟨_, h⟩; omega, .inl rfl⟩
  obtain ⟨h1, h2⟩ := h
  rw [List.mem_map]
  have key : ∀ x : Nat × Nat, x ∈ Lib.closeSpans s (Lib.spansFromP notName s s.size 0 none []) ↔ isW s x.1 x.2 := by
    intro x
    unfold Lib.closeSpans
    cases hc : (Lib.spansFromP notName s s.size 0 none []).2 with
    | none =>
      rw [hc] at h2
      dsimp only at h2 ⊢
      rw [h1 x]
      refine ⟨fun h => h.1, fun h => ⟨h, ?_⟩⟩
      have hb := h.1
      have hle := h.2.1
      by_cases e : x.2 = s.size
      · rcases h2 with h2 | h2
        · omega
        · exact absurd (h.2.2.1 ((s.size : Int) - 1) (by omega) (by omega)) h2
      · omega
    | some c =>
      rw [hc] at h2
      dsimp only at h2 ⊢
      obtain ⟨b1, b2, b3⟩ := h2
      rw [List.mem_append, List.mem_singleton, h1 x]
      constructor
      · rintro (h | rfl)
        · exact h.1
        · exact ⟨b1, Nat.le_refl _, b2, b3, .inl rfl⟩
      · intro h
        by_cases e : x.2 = s.size
        · right
          obtain ⟨x1, x2⟩ := x
          dsimp only at h e ⊢
          subst e
          rw [run_uniq h.1 b1 h.2.2.1 h.2.2.2.1 b2 b3]
        · exact .inl ⟨h, by have := h.2.1; omega⟩
  constructor
  · rintro ⟨x, hx, rfl⟩; exact ⟨x.1, x.2, (key x).1 hx, rfl⟩
  · rintro ⟨a, b, hab, rfl⟩; exact ⟨(a, b), (key (a, b)).2 hab, rfl⟩

/-! lists that ascend -/
theorem lt_of_not {a b : List UInt8} (h : ¬ a < b) (h2 : a ≠ b) : b < a := Std.lt_of_le_of_ne h (Ne.symm h2)
theorem no_both {a b : List UInt8} (h : a < b) (h2 : b < a) : False := List.lt_irrefl _ (List.lt_trans h h2)
theorem asc_uniq : ∀ a b : List (List UInt8), a.Pairwise (· < ·) → b.Pairwise (· < ·) → (∀ x, x ∈ a ↔ x ∈ b) → a = b
  | [], [], _, _, _ => rfl
  | [], y :: ys, _, _, h => by have := (h y).2 (List.mem_cons_self ..); cases this
  | x :: xs, [], _, _, h => by have := (h x).1 (List.mem_cons_self ..); cases this
  | x :: xs, y :: ys, ha, hb, h => by
    rw [List.pairwise_cons] at ha hb
    have e : x = y := by
      rcases List.mem_cons.1 ((h x).1 (List.mem_cons_self ..)) with h1 | h1
      · exact h1
      · rcases List.mem_cons.1 ((h y).2 (List.mem_cons_self ..)) with h2 | h2
        · exact h2.symm
        · exact (no_both (hb.1 x h1) (ha.1 y h2)).elim
    subst e
    rw [asc_uniq xs ys ha.2 hb.2 (fun z => ?_)]
    constructor
    · intro hz
      rcases List.mem_cons.1 ((h z).1 (List.mem_cons_of_mem _ hz)) with h1 | h1
      · subst h1; exact (List.lt_irrefl _ (ha.1 z hz)).elim
      · exact h1
    · intro hz
      rcases List.mem_cons.1 ((h z).2 (List.mem_cons_of_mem _ hz)) with h1 | h1
      · subst h1; exact (List.lt_irrefl _ (hb.1 z hz)).elim
      · exact h1
theorem compact_spec (ts : List (List UInt8)) (hs : ts.Pairwise fun x y => decide (x ≤ y) = true) : (Lib.compact ts).Pairwise (· < ·) ∧ ∀ x, x ∈ Lib.compact ts ↔ x ∈ ts := by
  have hle : ∀ i j : Nat, i ≤ j → j < ts.length → ts.toArray[i]! ≤ ts.toArray[j]! := by
    intro i j hij hj
    rw [getElem!_pos ts.toArray i (by simp; omega), getElem!_pos ts.toArray j (by simpa using hj)]
    by_cases e : i = j
    · subst e; exact Std.le_refl _
    · have := List.pairwise_iff_getElem.1 hs i j (by omega) hj (by omega)
      simpa using this
  have key : ∀ m, m ≤ ts.length → (Lib.compactUpTo ts.toArray m).Pairwise (· < ·) ∧ (∀ x, x ∈ Lib.compactUpTo ts.toArray m ↔ ∃ j, j < m ∧ x = ts.toArray[j]!) := by
    intro m
    induction m with
    | zero => exact fun _ => ⟨List.Pairwise.nil, fun x => ⟨fun h => (by cases h), fun ⟨j, h, _⟩ => by omega⟩⟩
    | succ m ih =>
      intro hm
      obtain ⟨h1, h2⟩ := ih (by omega)
      rw [Lib.compactUpTo_succ]
      cases hk : Lib.keeps ts.toArray m with
      | true =>
        rw [if_pos rfl]
        have hne : m = 0 ∨ ts.toArray[m]! ≠ ts.toArray[m - 1]! := by
          by_cases e : m = 0
          · exact .inl e
          · right
            intro e2
            rw [Lib.keeps_neg (by omega) e2] at hk
            cases hk
        refine ⟨List.pairwise_append.2 ⟨h1, List.pairwise_singleton _ _, fun x hx y hy => ?_⟩, fun x => ?_⟩
        · rw [List.mem_singleton] at hy
          subst hy
          obtain ⟨j, hj, rfl⟩ := (h2 x).1 hx
          rcases hne with e | e
          · omega
          · have l1 := hle j (m - 1) (by omega) (by omega)
            have l2 := hle (m - 1) m (by omega) (by omega)
            exact Std.lt_of_le_of_lt l1 (Std.lt_of_le_of_ne l2 (Ne.symm e))
        · rw [List.mem_append, List.mem_singleton, h2 x]
          constructor
          · rintro (⟨j, hj, e⟩ | e)
            · exact ⟨j, by omega, e⟩
            · exact ⟨m, by omega, e⟩
          · rintro ⟨j, hj, e⟩
            by_cases ej : j = m
            · subst ej; exact .inr e
            · exact .inl ⟨j, by omega, e⟩
      | false =>
        rw [if_neg (by simp), List.append_nil]
        have heq : 0 < m ∧ ts.toArray[m]! = ts.toArray[m - 1]! := by
          refine ⟨?_, ?_⟩
          · rcases Nat.eq_zero_or_pos m with e | e
            · subst e; simp [Lib.keeps] at hk
            · exact e
          · apply Classical.byContradiction
            intro e
            rw [Lib.keeps_pos e] at hk
            cases hk
        refine ⟨h1, fun x => ?_⟩
        rw [h2 x]
        constructor
        · rintro ⟨j, hj, e⟩; exact ⟨j, by omega, e⟩
        · rintro ⟨j, hj, e⟩
          by_cases ej : j = m
          · subst ej; exact ⟨j - 1, by omega, by rw [e, heq.2]⟩
          · exact ⟨j, by omega, e⟩
  obtain ⟨h1, h2⟩ := key ts.length (Nat.le_refl _)
  refine ⟨h1, fun x => ?_⟩
  show x ∈ Lib.compactUpTo ts.toArray ts.length ↔ _
  rw [h2 x]
  constructor
  · rintro ⟨j, hj, rfl⟩
    rw [getElem!_pos ts.toArray j (by simpa using hj)]
    simp
  · intro h
    obtain ⟨j, hj, rfl⟩ := List.getElem_of_mem h
    exact ⟨j, hj, by rw [getElem!_pos ts.toArray j (by simpa using hj)]; simp⟩
theorem namesL_asc (s : ByteArray) : (namesL s).Pairwise (· < ·) := (compact_spec _ (List.pairwise_mergeSort (fun a b c h1 h2 => by
  simp only [decide_eq_true_eq] at h1 h2 ⊢; exact Std.le_trans h1 h2) (fun a b => by simp only [Bool.or_eq_true, decide_eq_true_eq]; exact List.le_total a b) _)).1
theorem namesL_mem (s : ByteArray) (hasc : ∀ j : Nat, j < s.size → bt s j < 128) (x : List UInt8) : x ∈ namesL s ↔ ∃ a b, isW s a b ∧ x = (s.extract a b).data.toList := by
  unfold namesL
  rw [(compact_spec _ (List.pairwise_mergeSort (fun a b c h1 h2 => by
    simp only [decide_eq_true_eq] at h1 h2 ⊢; exact Std.le_trans h1 h2) (fun a b => by simp only [Bool.or_eq_true, decide_eq_true_eq]; exact List.le_total a b) _)).2 x, List.mem_mergeSort, List.mem_map]
  constructor
  · rintro ⟨y, hy, rfl⟩
    obtain ⟨a, b, h, rfl⟩ := (fields_mem s hasc y).1 hy
    exact ⟨a, b, h, rfl⟩
  · rintro ⟨a, b, h, rfl⟩
    exact ⟨_, (fields_mem s hasc _).2 ⟨a, b, h, rfl⟩, rfl⟩
/-- The names of a text, as texts. -/
def nm (s : ByteArray) : List ByteArray := (namesL s).map fun l => ⟨l.toArray⟩
/-- Texts that ascend. -/
def asc (l : List ByteArray) : Prop := (l.map (·.data.toList)).Pairwise (· < ·)
theorem nm_lists (s : ByteArray) : (nm s).map (·.data.toList) = namesL s := by
  unfold nm
  rw [List.map_map]
  exact List.map_id'' (fun l => rfl) _
theorem nm_asc (s : ByteArray) : asc (nm s) := by unfold asc; rw [nm_lists]; exact namesL_asc s
theorem nm_mem (s : ByteArray) (hasc : ∀ j : Nat, j < s.size → bt s j < 128) (x : ByteArray) : x ∈ nm s ↔ ∃ a b, isW s a b ∧ x = s.extract a b := by
  have h := namesL_mem s hasc x.data.toList
  unfold nm
  rw [List.mem_map]
  constructor
  · rintro ⟨l, hl, rfl⟩
    obtain ⟨a, b, h1, h2⟩ := (namesL_mem s hasc l).1 hl
    refine ⟨a, b, h1, ?_⟩
    subst h2
    rfl
  · rintro ⟨a, b, h1, rfl⟩
    exact ⟨_, (namesL_mem s hasc _).2 ⟨a, b, h1, rfl⟩, rfl⟩
theorem asc_eq {l r : List ByteArray} (hl : asc l) (hr : asc r) (h : ∀ x, x ∈ l ↔ x ∈ r) : l = r := by
  have h1 := asc_uniq _ _ hl hr (fun y => by
    rw [List.mem_map, List.mem_map]
    constructor
    · rintro ⟨x, hx, e⟩; exact ⟨x, (h x).1 hx, e⟩
    · rintro ⟨x, hx, e⟩; exact ⟨x, (h x).2 hx, e⟩)
  have inj : ∀ l r : List ByteArray, l.map (·.data.toList) = r.map (·.data.toList) → l = r := by
    intro l
    induction l with
    | nil => intro r h; cases r with
      | nil => rfl
      | cons y ys => cases h
    | cons x xs ih => intro r h; cases r with
      | nil => cases h
      | cons y ys =>
        simp only [List.map_cons, List.cons.injEq] at h
        have e : x = y := by
          apply toList_inj.1
          rw [toList_data, toList_data]; exact h.1
        rw [e, ih ys h.2]
  exact inj l r h1
end Go.Proofs.Ytpaijbpenjjmkaa.ThN
/- Lists of numbers: read, set, cut. No program in sight. -/
namespace Go.Proofs.Ytpaijbpenjjmkaa.ThB
open Go.RowKit Go.Proofs.YtpaijbpenjjmkaaW.PrintWords
set_option linter.unusedVariables false
set_option linter.unusedSimpArgs false
end Go.Proofs.Ytpaijbpenjjmkaa.ThB
/- Lists as tables. No program in sight. -/
namespace Go.Proofs.Ytpaijbpenjjmkaa.ThT
open Go.RowKit Go.Proofs.YtpaijbpenjjmkaaW.PrintWords Go.Proofs.Ytpaijbpenjjmkaa.ThB
set_option linter.unusedVariables false
set_option linter.unusedSimpArgs false
theorem rdOf_ext {α : Type} (d : α) {a b : List α} (hl : a.length = b.length) (h : ∀ i : Int, 0 ≤ i → i < a.length → rdOf d a i = rdOf d b i) : a = b := by
  apply List.ext_getElem hl
  intro i h1 h2
  have := h i (by omega) (by omega)
  unfold rdOf at this
  simpa [List.getD_eq_getElem?_getD, h1, h2] using this
end Go.Proofs.Ytpaijbpenjjmkaa.ThT
/- What the printed functions answer, part Nm: the names of a text. -/
namespace Go.Proofs.Ytpaijbpenjjmkaa.Ev
open Go.RowKit Go.Proofs.Ytpaijbpenjjmkaa.X Go.Proofs.Ytpaijbpenjjmkaa.Wp Go.Proofs.YtpaijbpenjjmkaaW.PrintWords Go.Proofs.Ytpaijbpenjjmkaa.ThC Go.Proofs.Ytpaijbpenjjmkaa.ThN Go.Proofs.Ytpaijbpenjjmkaa.ThT
set_option linter.unusedVariables false
set_option linter.unusedSimpArgs false

theorem ins_asc (L : List (List UInt8)) (X : List UInt8) (m : Nat) (h : L.Pairwise (· < ·)) (h1 : ∀ y ∈ L.take m, y < X) (h2 : ∀ y ∈ L.drop m, X < y) : (L.take m ++ [X] ++ L.drop m).Pairwise (· < ·) := by
  have hp := h
  rw [← List.take_append_drop m L, List.pairwise_append] at hp
  obtain ⟨p1, p2, p3⟩ := hp
  rw [List.pairwise_append, List.pairwise_append]
  refine ⟨⟨p1, List.pairwise_singleton _ _, fun y hy z hz => ?_⟩, p2, fun y hy z hz => ?_⟩
  · rw [List.mem_singleton] at hz; subst hz; exact h1 y hy
  · rw [List.mem_append, List.mem_singleton] at hy
    rcases hy with hy | hy
    · exact List.lt_trans (h1 y hy) (h2 z hz)
    · subst hy; exact h2 z hz
theorem rd_map (l : List ByteArray) {j : Nat} (h : j < l.length) : (l.map (·.data.toList))[j]'(by simpa using h) = (rdOf ByteArray.empty l j).data.toList := by
  rw [List.getElem_map]
  unfold rdOf
  rw [List.getD_eq_getElem?_getD, Int.toNat_natCast, List.getElem?_eq_getElem h]
  rfl
theorem rd_mem (l : List ByteArray) {j : Int} (h0 : 0 ≤ j) (h : j < l.length) : rdOf ByteArray.empty l j ∈ l := by
  unfold rdOf
  rw [List.getD_eq_getElem?_getD, List.getElem?_eq_getElem (by omega)]
  exact List.getElem_mem _
/-- A text at its place among texts that ascend. -/
theorem ins_spec {l : List ByteArray} {x : ByteArray} {m : Nat} (hm : m ≤ l.length) (hl : asc l) (hge : ∀ j : Nat, m ≤ j → j < l.length → ¬ (rdOf ByteArray.empty l j).data.toList < x.data.toList) (hlt : m = 0 ∨ (rdOf ByteArray.empty l ((m : Int) - 1)).data.toList < x.data.toList) (hne : m < l.length → rdOf ByteArray.empty l m ≠ x) :
    asc (l.take m ++ [x] ++ l.drop m) ∧ ∀ y, y ∈ l.take m ++ [x] ++ l.drop m ↔ y ∈ l ∨ y = x := by
  have hL : (l.map (·.data.toList)).length = l.length := List.length_map ..
  constructor
  · unfold asc at hl ⊢
    rw [List.map_append, List.map_append, List.map_take, List.map_drop]
    refine ins_asc _ _ _ hl (fun y hy => ?_) (fun y hy => ?_)
    · obtain ⟨j, hj, rfl⟩ := List.getElem_of_mem hy
      rw [List.length_take] at hj
      rw [List.getElem_take, rd_map l (by omega)]
      rcases hlt with h | h
      · omega
      · by_cases e : j = m - 1
        · subst e
          rw [show ((m - 1 : Nat) : Int) = (m : Int) - 1 from by omega]; exact h
        · have h2 := List.pairwise_iff_getElem.1 hl j (m - 1) (by omega) (by omega) (by omega)
          rw [rd_map l (by omega), rd_map l (by omega), show ((m - 1 : Nat) : Int) = (m : Int) - 1 from by omega] at h2
          exact List.lt_trans h2 h
    · obtain ⟨j, hj, rfl⟩ := List.getElem_of_mem hy
      rw [List.length_drop] at hj
      rw [List.getElem_drop, rd_map l (by omega)]
      have first : x.data.toList < (rdOf ByteArray.empty l m).data.toList := by
        refine lt_of_not (hge m (Nat.le_refl _) (by omega)) (fun e => hne (by omega) (toList_inj.1 (by rw [toList_data, toList_data]; exact e)))
      by_cases e : j = 0
      · subst e; exact first
      · have h2 := List.pairwise_iff_getElem.1 hl m (m + j) (by omega) (by omega) (by omega)
        rw [rd_map l (by omega), rd_map l (by omega)] at h2
        exact List.lt_trans first h2
  · intro y
    have ht := List.take_append_drop m l
    conv => rhs; rw [← ht]
    simp only [List.mem_append, List.mem_singleton]
    constructor
    · rintro ((h | h) | h)
      · exact .inl (.inl h)
      · exact .inr h
      · exact .inl (.inr h)
    · rintro ((h | h) | h)
      · exact .inl (.inl h)
      · exact .inr h
      · exact .inl (.inr h)

theorem insertW (l : List ByteArray) (x : ByteArray) (hl : asc l) (hn : l.length ≤ 1000000) : W (fun k => spec_l18Insert.f k l x) (fun r => asc r ∧ (∀ y, y ∈ r ↔ y ∈ l ∨ y = x) ∧ r.length ≤ l.length + 1) := by
  unfold spec_l18Insert.f
  have key := W.loop (l := fun (m : Nat) k => spec_l18Insert.l0 k l x m) (P := fun _ r => asc r ∧ (∀ y, y ∈ r ↔ y ∈ l ∨ y = x) ∧ r.length ≤ l.length + 1) (fun m => m ≤ l.length ∧ ∀ j : Nat, m ≤ j → j < l.length → ¬ (rdOf ByteArray.empty l j).data.toList < x.data.toList) (fun m => m) (by
    rintro m ⟨hm, hge⟩ ih
    refine W.step (fun k => spec_l18Insert.l0.eq_2 ..) ?_
    -- what is answered when m is the place
    have same : m < l.length → rdOf ByteArray.empty l m = x → asc l ∧ (∀ y, y ∈ l ↔ y ∈ l ∨ y = x) ∧ l.length ≤ l.length + 1 := fun h e => ⟨hl, fun y => ⟨.inl, fun h2 => h2.elim id (fun h3 => by subst h3; rw [← e]; exact rd_mem l (by omega) (by omega))⟩, by omega⟩
    have put : (m = 0 ∨ (rdOf ByteArray.empty l ((m : Int) - 1)).data.toList < x.data.toList) → (m < l.length → rdOf ByteArray.empty l m ≠ x) → asc (([] ++ l.take (m : Int).toNat) ++ [x] ++ ([] ++ l.drop (m : Int).toNat)) ∧ (∀ y, y ∈ (([] ++ l.take (m : Int).toNat) ++ [x] ++ ([] ++ l.drop (m : Int).toNat)) ↔ y ∈ l ∨ y = x) ∧ (([] ++ l.take (m : Int).toNat) ++ [x] ++ ([] ++ l.drop (m : Int).toNat)).length ≤ l.length + 1 := by
      intro h1 h2
      rw [Int.toNat_natCast, List.nil_append, List.nil_append]
      obtain ⟨a, b⟩ := ins_spec hm hl hge h1 h2
      refine ⟨a, b, ?_⟩
      simp only [List.length_append, List.length_take, List.length_drop, List.length_cons, List.length_nil]; omega
    have fin : (m = 0 ∨ (rdOf ByteArray.empty l ((m : Int) - 1)).data.toList < x.data.toList) → ∀ h : m < l.length → rdOf ByteArray.empty l m ≠ x, True := fun _ _ => trivial
    by_cases h0 : 0 < m
    · refine W.pos (by omega) ?_
      rw [w64 (x := (m : Int) - 1) (by omega) (by omega)]
      refine W.pos (by omega) (W.pos (by omega) (W.ite (fun hless => ?_) (fun hless => ?_)))
      · rw [bytesLess_eq, decide_eq_true_eq, toList_data, toList_data] at hless
        refine W.ite (fun hin => W.pos (by omega) (W.ite (fun he => W.ret (same (by omega) (toList_inj.1 he))) (fun he => ?_))) (fun hin => ?_)
        · have hp := put (.inr hless) (fun _ e => he (by rw [e]))
          refine W.name (W.pos (by omega) (W.name (W.pos (by simp only [List.length_append, List.length_drop, List.length_nil]; omega) (W.name (W.name (W.name (W.pos (by simp only [List.length_append, List.length_take, List.length_nil]; omega) (W.name (W.pos (by simp only [List.length_append, List.length_take, List.length_nil]; omega) (W.name (W.pos (by simp only [List.length_append, List.length_take, List.length_drop, List.length_nil, List.length_cons]; omega) (W.ret hp))))))))))))
        · have hp := put (.inr hless) (fun h => absurd h (by omega))
          refine W.name (W.pos (by omega) (W.pos (by omega) (W.name (W.pos (by simp only [List.length_append, List.length_drop, List.length_nil]; omega) (W.name (W.name (W.name (W.pos (by simp only [List.length_append, List.length_take, List.length_nil]; omega) (W.name (W.pos (by simp only [List.length_append, List.length_take, List.length_nil]; omega) (W.name (W.pos (by simp only [List.length_append, List.length_take, List.length_drop, List.length_nil, List.length_cons]; omega) (W.ret hp)))))))))))))
      · rw [bytesLess_eq, decide_eq_true_eq, toList_data, toList_data] at hless
        have := ih (m - 1) ⟨by omega, fun j h1 h2 => by
          by_cases e : j = m - 1
          · subst e
            rw [show ((m - 1 : Nat) : Int) = (m : Int) - 1 from by omega]; exact hless
          · exact hge j (by omega) h2⟩ (by omega)
        rw [show ((m - 1 : Nat) : Int) = (m : Int) - 1 from by omega] at this
        exact this
    · refine W.neg (by omega) (W.ite (fun hin => W.pos (by omega) (W.ite (fun he => W.ret (same (by omega) (toList_inj.1 he))) (fun he => ?_))) (fun hin => ?_))
      · have hp := put (.inl (by omega)) (fun _ e => he (by rw [e]))
        refine W.name (W.pos (by omega) (W.name (W.pos (by simp only [List.length_append, List.length_drop, List.length_nil]; omega) (W.name (W.name (W.name (W.pos (by simp only [List.length_append, List.length_take, List.length_nil]; omega) (W.name (W.pos (by simp only [List.length_append, List.length_take, List.length_nil]; omega) (W.name (W.pos (by simp only [List.length_append, List.length_take, List.length_drop, List.length_nil, List.length_cons]; omega) (W.ret hp))))))))))))
      · have hp := put (.inl (by omega)) (fun h => absurd h (by omega))
        refine W.name (W.pos (by omega) (W.pos (by omega) (W.name (W.pos (by simp only [List.length_append, List.length_drop, List.length_nil]; omega) (W.name (W.name (W.name (W.pos (by simp only [List.length_append, List.length_take, List.length_nil]; omega) (W.name (W.pos (by simp only [List.length_append, List.length_take, List.length_nil]; omega) (W.name (W.pos (by simp only [List.length_append, List.length_take, List.length_drop, List.length_nil, List.length_cons]; omega) (W.ret hp)))))))))))))) l.length ⟨Nat.le_refl _, fun j h1 h2 => by omega⟩
  exact key

/-- Where the bytes of a class from p on end. -/
def foreA (s : ByteArray) (c : Int) : Nat → Nat → Nat
  | 0, p => p
  | d + 1, p => if cls (bt s p) = c then foreA s c d (p + 1) else p
def fore (s : ByteArray) (c : Int) (p : Nat) : Nat := foreA s c (s.size - p) p
theorem foreA_spec (s : ByteArray) (c : Int) : ∀ d p, p + d = s.size → p ≤ foreA s c d p ∧ foreA s c d p ≤ s.size ∧ (∀ j : Int, p ≤ j → j < foreA s c d p → cls (bt s j) = c) ∧ (foreA s c d p < s.size → cls (bt s (foreA s c d p)) ≠ c)
  | 0, p, h => ⟨Nat.le_refl _, by simp [foreA]; omega, fun j h0 h1 => by simp [foreA] at h1; omega, fun h1 => by simp [foreA] at h1; omega⟩
  | d + 1, p, h => by
    unfold foreA
    by_cases e : cls (bt s p) = c
    · rw [if_pos e]
      obtain ⟨h1, h2, h3, h4⟩ := foreA_spec s c d (p + 1) (by omega)
      refine ⟨by omega, h2, fun j h5 h6 => ?_, h4⟩
      by_cases e2 : j = p
      · subst e2; exact e
      · exact h3 j (by omega) h6
    · rw [if_neg e]; exact ⟨Nat.le_refl _, by omega, fun j h0 h1 => by omega, fun _ => e⟩
theorem fore_spec (s : ByteArray) (c : Int) {p : Nat} (h : p ≤ s.size) : p ≤ fore s c p ∧ fore s c p ≤ s.size ∧ (∀ j : Int, p ≤ j → j < fore s c p → cls (bt s j) = c) ∧ (fore s c p < s.size → cls (bt s (fore s c p)) ≠ c) := foreA_spec s c _ p (by omega)
theorem fore_uniq (s : ByteArray) (c : Int) {p q : Nat} (h : p ≤ s.size) (h1 : p ≤ q) (h2 : q ≤ s.size) (h3 : ∀ j : Int, p ≤ j → j < q → cls (bt s j) = c) (h4 : q < s.size → cls (bt s q) ≠ c) : q = fore s c p := by
  obtain ⟨a, b, e, d⟩ := fore_spec s c h
  by_cases hlt : q < fore s c p
  · exact absurd (e q (by omega) (by omega)) (h4 (by omega))
  · by_cases hgt : fore s c p < q
    · exact absurd (h3 (fore s c p) (by omega) (by omega)) (d (by omega))
    · omega

theorem specWA (s : ByteArray) (p : Int) (hv : VT s) (h0 : 0 ≤ p) (hp : p < s.size) (hc : cls (bt s p) ≠ 0) : W (fun k => spec_WordAround.f k s p) (fun r => r.2 = (fore s (cls (bt s p)) p.toNat : Int)) := by
  have hsz := hv.1
  unfold spec_WordAround.f
  refine W.bind_eq (tv_pos (specTV s (by omega)) hv) (W.pos rfl (W.call (l1In_eq ..) ?_))
  rw [show (!decide (0 ≤ p ∧ p ≤ (s.size : Int))) = false from by rw [decide_eq_true (by omega)]; rfl]
  refine W.step (fun k => spec_WordAround.j0.eq_2 ..) (W.neg (by decide) (W.neg (by omega) (W.pos h0 (W.pos hp (W.bind_eq (kindW _) ?_)))))
  rw [show (cls (bt s p) == 0) = false from by simpa using hc]
  refine W.step (fun k => spec_WordAround.j1.eq_2 ..) (W.neg (by decide) (W.pos h0 (W.pos hp (W.bind_eq (kindW _) ?_))))
  obtain ⟨c, hcc⟩ : ∃ c, c = cls (bt s p) := ⟨_, rfl⟩
  rw [← hcc]
  obtain ⟨a, b, d, e⟩ := fore_spec s c (p := p.toNat) (by omega)
  have fwd : ∀ x6 : Int, W (fun k => spec_WordAround.l1 k s x6 p c) (fun r => r.2 = (fore s c p.toNat : Int)) := by
    intro x6
    have key := W.loop (l := fun (n : Int) k => spec_WordAround.l1 k s x6 n c) (P := fun _ r => r.2 = (fore s c p.toNat : Int)) (fun n => p ≤ n ∧ n ≤ fore s c p.toNat) (fun n => ((fore s c p.toNat : Int) - n).toNat) (by
      intro n ⟨n0, n1⟩ ih
      refine W.step (fun k => spec_WordAround.l1.eq_2 ..) ?_
      by_cases hlt : n < fore s c p.toNat
      · have hd := d n (by omega) hlt
        rw [w64 (x := n + 1) (by omega) (by omega)]
        exact W.pos (by omega) (W.pos (by omega) (W.bind_eq (kindW _) (W.pos hd (ih (n + 1) ⟨by omega, by omega⟩ (by omega)))))
      · have en : n = fore s c p.toNat := by omega
        refine W.ite (fun h1 => W.pos (by omega) (W.bind_eq (kindW _) (W.neg ?_ (W.ret en)))) (fun _ => W.ret en)
        rw [en]; exact e (by omega)) p ⟨by omega, by omega⟩
    exact key
  have bwd := W.loop (l := fun (n : Int) k => spec_WordAround.l0 k s n p c) (P := fun _ r => r.2 = (fore s c p.toNat : Int)) (fun n => 0 ≤ n ∧ n ≤ p) (fun n => n.toNat) (by
    intro n ⟨n0, n1⟩ ih
    refine W.step (fun k => spec_WordAround.l0.eq_2 ..) ?_
    have stop : W (fun k => spec_WordAround.j3 k s n p c) (fun r => r.2 = (fore s c p.toNat : Int)) := W.step (fun k => spec_WordAround.j3.eq_2 ..) (fwd n)
    refine W.ite (fun h1 => ?_) (fun _ => stop)
    rw [w64 (x := n - 1) (by omega) (by omega)]
    exact W.pos (by omega) (W.pos (by omega) (W.bind_eq (kindW _) (W.ite (fun _ => ih (n - 1) ⟨by omega, by omega⟩ (by omega)) (fun _ => stop))))) p ⟨h0, Int.le_refl _⟩
  exact bwd

theorem ascii_of {s : ByteArray} (hv : VT s) (j : Nat) (h : j < s.size) : bt s j < 128 := by
  have := hv.2 j (by omega) (by omega)
  unfold okB at this; omega
theorem implNames (s : ByteArray) (hs : s.size ≤ 4000000000) : impl_NamesOf.f s = some (if VT s then nm s else []) := by
  unfold impl_NamesOf.f
  rw [if_pos hs]
  by_cases hv : VT s
  · rw [if_pos hv, if_pos ((tv_VT s).2 hv)]; rfl
  · rw [if_neg hv, if_neg (fun h => hv ((tv_VT s).1 h))]
theorem specNames (s : ByteArray) (hs : s.size ≤ 140737488351232) : W (fun k => spec_NamesOf.f k s) (fun r => r = if VT s then nm s else []) := by
  unfold spec_NamesOf.f
  have stop : ∀ x3 x4, W (fun k => spec_NamesOf.j1 k s x3 x4 false) (fun r => r = x3) := fun x3 x4 => W.step (fun k => spec_NamesOf.j1.eq_2 ..) (W.neg (by decide) (W.ret rfl))
  by_cases hv : VT s
  · rw [if_pos hv]
    have hsz := hv.1
    refine W.loop (l := fun (z : List ByteArray × Nat) k => spec_NamesOf.l0 k s z.1 z.2) (P := fun _ r => r = nm s) (fun z => z.2 ≤ s.size ∧ asc z.1 ∧ (∀ y, y ∈ z.1 ↔ ∃ a b, isW s a b ∧ a < z.2 ∧ y = s.extract a b) ∧ (z.2 = 0 ∨ z.2 = s.size ∨ cls (bt s ((z.2 : Int) - 1)) ≠ 1 ∨ cls (bt s z.2) ≠ 1) ∧ z.1.length ≤ z.2) (fun z => s.size - z.2) ?_ ([], 0) ⟨by omega, List.Pairwise.nil, fun y => ⟨fun h => (by cases h), fun ⟨a, b, _, h, _⟩ => by dsimp only at h; omega⟩, .inl rfl, by simp⟩
    rintro ⟨l, pos⟩ ⟨hp, hl, hmem, hst, hlen⟩ ih
    dsimp only at hp hl hmem hst hlen ⊢
    refine W.step (fun k => spec_NamesOf.l0.eq_2 ..) ?_
    by_cases hlt : pos < s.size
    · refine W.pos (by omega) (W.bind_eq (tv_pos (specTV s hs) hv) (W.step (fun k => spec_NamesOf.j1.eq_2 ..) (W.pos rfl (W.pos (by omega) (W.pos (by omega) (W.bind_eq (kindW _) (W.ite (fun hc => ?_) (fun hc => ?_))))))))
      · obtain ⟨a, b, d, e⟩ := fore_spec s 1 (p := pos) (by omega)
        have hgt : pos < fore s 1 pos := by
          rcases Nat.lt_or_ge pos (fore s 1 pos) with h | h
          · exact h
          · have : fore s 1 pos = pos := by omega
            rw [this] at e
            exact absurd hc (e hlt)
        have hW : isW s pos (fore s 1 pos) := ⟨hgt, b, d, by
          rcases hst with h | h | h | h
          · exact .inl h
          · omega
          · exact .inr h
          · exact absurd hc h, by
          by_cases h : fore s 1 pos = s.size
          · exact .inl h
          · exact .inr (e (by omega))⟩
        refine W.bind (specWA s pos hv (by omega) (by omega) (by rw [hc]; decide)) (fun r hr => ?_)
        obtain ⟨r1, r2⟩ := r
        dsimp only at hr ⊢
        rw [hc, Int.toNat_natCast] at hr
        subst hr
        refine W.pos (by omega) (W.pos (by omega) (W.bind (insertW l _ hl (by omega)) (fun l2 hl2 => ?_)))
        obtain ⟨q1, q2, q3⟩ := hl2
        refine ih (l2, fore s 1 pos) ⟨by dsimp only; omega, q1, fun y => ?_, ?_, by dsimp only; omega⟩ (by dsimp only; omega)
        · rw [q2 y, hmem y]
          dsimp only
          rw [Int.toNat_natCast, Int.toNat_natCast]
          constructor
          · rintro (⟨u, v, h1, h2, h3⟩ | h)
            · exact ⟨u, v, h1, by omega, h3⟩
            · exact ⟨pos, _, hW, hgt, h⟩
          · rintro ⟨u, v, h1, h2, h3⟩
            by_cases hu : u < pos
            · exact .inl ⟨u, v, h1, hu, h3⟩
            · by_cases eu : u = pos
              · subst eu
                right
                have : v = fore s 1 u := fore_uniq s 1 (by omega) (by have := h1.1; omega) h1.2.1 h1.2.2.1 (fun h => by
                  rcases h1.2.2.2.2 with h5 | h5
                  · omega
                  · exact h5)
                rw [h3, this]
              · rcases h1.2.2.2.1 with h5 | h5
                · omega
                · exact absurd (d ((u : Int) - 1) (by omega) (by omega)) h5
        · dsimp only
          by_cases h : fore s 1 pos = s.size
          · exact .inr (.inl h)
          · exact .inr (.inr (.inr (e (by omega))))
      · rw [w64 (x := (pos : Int) + 1) (by omega) (by omega)]
        have := ih (l, pos + 1) ⟨by dsimp only; omega, hl, fun y => by
          rw [hmem y]
          dsimp only
          constructor
          · rintro ⟨u, v, h1, h2, h3⟩; exact ⟨u, v, h1, by omega, h3⟩
          · rintro ⟨u, v, h1, h2, h3⟩
            refine ⟨u, v, h1, ?_, h3⟩
            by_cases eu : u = pos
            · subst eu; exact absurd (h1.2.2.1 u (by omega) (by have := h1.1; omega)) hc
            · omega, by
          dsimp only
          exact .inr (.inr (.inl (by rw [show ((pos + 1 : Nat) : Int) - 1 = pos from by omega]; exact hc))), by dsimp only; omega⟩ (by dsimp only; omega)
        dsimp only at this
        rw [show ((pos + 1 : Nat) : Int) = (pos : Int) + 1 from by omega] at this
        exact this
    · have e : pos = s.size := by omega
      subst e
      refine W.neg (by omega) ((stop l _).mono fun r hr => ?_)
      rw [hr]
      refine asc_eq hl (nm_asc s) (fun x => ?_)
      rw [hmem x, nm_mem s (fun j hj => ascii_of hv j hj)]
      constructor
      · rintro ⟨u, v, h1, _, h3⟩; exact ⟨u, v, h1, h3⟩
      · rintro ⟨u, v, h1, h3⟩; exact ⟨u, v, h1, by have := h1.1; have := h1.2.1; omega, h3⟩
  · rw [if_neg hv]
    refine W.step (fun k => spec_NamesOf.l0.eq_2 ..) (W.ite (fun _ => W.bind_eq (tv_neg (specTV s hs) hv) (stop _ _)) (fun _ => stop _ _))
end Go.Proofs.Ytpaijbpenjjmkaa.Ev
/- What the printed functions answer, part L: 'alive'. -/
namespace Go.Proofs.Ytpaijbpenjjmkaa.Ev
open Go.RowKit Go.Proofs.Ytpaijbpenjjmkaa.X Go.Proofs.Ytpaijbpenjjmkaa.Wp Go.Proofs.YtpaijbpenjjmkaaW.PrintWords
set_option linter.unusedVariables false
set_option linter.unusedSimpArgs false

theorem aliveW : W (fun k => laws_alive.f k) (· = true) := by
  have hv : VT (⟨#[97, 10, 98]⟩ : ByteArray) := by
    refine ⟨by decide, fun j h0 h1 => ?_⟩
    have h3 : ((⟨#[97, 10, 98]⟩ : ByteArray).size : Int) = 3 := rfl
    have : j = 0 ∨ j = 1 ∨ j = 2 := by omega
    rcases this with rfl | rfl | rfl
    · right; decide
    · left; rfl
    · right; decide
  unfold laws_alive.f impl_LineMany.f
  refine W.bind_eq (a := 2) (W.bind_eq (tv_pos (implTV _ (by decide)) hv) (W.pos rfl (W.call (r := 1) rfl (W.ret ?_)))) (W.ret rfl)
  exact w64 (by omega) (by omega)
theorem alive_then : W (fun k => (laws_alive.f k).bind fun t => some t) (· = true) := W.bind_eq aliveW (W.ret rfl)
end Go.Proofs.Ytpaijbpenjjmkaa.Ev
/- What the printed functions answer, part Sm: lists held against each other. -/
namespace Go.Proofs.Ytpaijbpenjjmkaa.Ev
open Go.RowKit Go.Proofs.Ytpaijbpenjjmkaa.X Go.Proofs.Ytpaijbpenjjmkaa.Wp Go.Proofs.YtpaijbpenjjmkaaW.PrintWords Go.Proofs.Ytpaijbpenjjmkaa.ThB Go.Proofs.Ytpaijbpenjjmkaa.ThT
set_option linter.unusedVariables false
set_option linter.unusedSimpArgs false

theorem sameTextsW (a b : List ByteArray) (ha : a.length ≤ 140737488351232) : W (fun k => laws_sameTexts.f k a b) (fun r => r = true ↔ a = b) := by
  unfold laws_sameTexts.f
  refine W.ite (fun hl => ?_) (fun hl => W.ret ⟨fun h => by simp at h, fun h => absurd (by rw [h]) hl⟩)
  refine W.loop (l := fun i k => laws_sameTexts.l0 k a b i) (P := fun _ r => r = true ↔ a = b) (fun i : Int => 0 ≤ i ∧ i ≤ a.length ∧ ∀ j, 0 ≤ j → j < i → rdOf ByteArray.empty a j = rdOf ByteArray.empty b j) (fun i => (a.length - i).toNat) ?_ 0 ⟨by omega, by omega, fun j h0 h1 => by omega⟩
  intro i ⟨h0, h1, h2⟩ ih
  refine W.step (fun k => laws_sameTexts.l0.eq_2 ..) ?_
  by_cases hlt : i < a.length
  · rw [w64 (x := i + 1) (by omega) (by omega)]
    refine W.pos hlt (W.pos h0 (W.pos (by omega) (W.ite (fun he => ih (i + 1) ⟨by omega, by omega, fun j h3 h4 => ?_⟩ (by omega)) (fun he => W.ret ⟨fun h => by simp at h, fun h => absurd (by rw [h]) he⟩))))
    by_cases e : j = i
    · subst e; exact toList_inj.1 he
    · exact h2 j h3 (by omega)
  · refine W.neg hlt (W.ret ⟨fun _ => rdOf_ext ByteArray.empty (by omega) (fun j h3 h4 => h2 j h3 (by omega)), fun _ => rfl⟩)
end Go.Proofs.Ytpaijbpenjjmkaa.Ev
/- Reading lists. -/
namespace Go.Proofs.Ytpaijbpenjjmkaa.Ev
open Go.RowKit Go.Proofs.YtpaijbpenjjmkaaW.PrintWords
theorem rd_take' (xs : List Int) (n : Nat) {i : Int} (h0 : 0 ≤ i) (h : i < n) : rd (xs.take n) i = rd xs i := by
  unfold rd
  rw [List.getD_eq_getElem?_getD, List.getD_eq_getElem?_getD, List.getElem?_take, if_pos (by omega)]
end Go.Proofs.Ytpaijbpenjjmkaa.Ev
/- What the printed functions answer, part D: drawn texts. They end, and what they draw is short. -/
namespace Go.Proofs.Ytpaijbpenjjmkaa.Ev
open Go.RowKit Go.Proofs.Ytpaijbpenjjmkaa.X Go.Proofs.Ytpaijbpenjjmkaa.Wp Go.Proofs.YtpaijbpenjjmkaaW.PrintWords
set_option linter.unusedVariables false
set_option linter.unusedSimpArgs false

/-- A reader's bytes. -/
def RB (b : List Int) : Prop := ∀ j : Int, 0 ≤ j → j < b.length → 0 ≤ rd b j ∧ rd b j ≤ 255
theorem RB_of {l : List Int} (h : ∀ x ∈ l, (Lit.int .u8 x).wf = true) : RB l := by
  intro j h0 h1
  have hm : rd l j ∈ l := by
    unfold rd
    rw [List.getD_eq_getElem?_getD, List.getElem?_eq_getElem (by omega)]
    exact List.getElem_mem _
  have := h _ hm
  simp [Lit.wf, IntKind.min, IntKind.max, IntKind.signed, IntKind.bits] at this
  omega
theorem RB_take {l : List Int} (h : RB l) (n : Nat) : RB (l.take n) := by
  intro j h0 h1
  rw [List.length_take] at h1
  rw [rd_take' l n h0 (by omega)]
  exact h j h0 (by omega)

theorem xor_nonneg {a b : Int} (a0 : 0 ≤ a) (a1 : a < 4611686018427387904) (b0 : 0 ≤ b) (b1 : b < 4611686018427387904) : 0 ≤ Go.bits .xor .i64 a b := by
  obtain ⟨x, rfl⟩ := Int.eq_ofNat_of_zero_le a0
  obtain ⟨y, rfl⟩ := Int.eq_ofNat_of_zero_le b0
  have hx : x < 2 ^ 62 := by omega
  have hy : y < 2 ^ 62 := by omega
  have h := Nat.xor_lt_two_pow hx hy
  simp only [Go.bits, BitVec.ofInt_natCast, BitVec.toNat_xor, BitVec.toNat_ofNat]
  rw [Nat.mod_eq_of_lt (show x < 2 ^ IntKind.i64.bits from Nat.lt_of_lt_of_le hx (by decide)), Nat.mod_eq_of_lt (show y < 2 ^ IntKind.i64.bits from Nat.lt_of_lt_of_le hy (by decide))]
  show 0 ≤ IntKind.i64.wrap ((x ^^^ y : Nat) : Int)
  rw [IntKind.wrap_i64]
  omega

theorem tmod_in {a n : Int} (h0 : 0 ≤ a) (h1 : 0 < n) : 0 ≤ Int.tmod a n ∧ Int.tmod a n < n := by
  rw [Int.tmod_eq_emod_of_nonneg h0]
  exact ⟨Int.emod_nonneg _ (by omega), Int.emod_lt_of_pos _ h1⟩

theorem pickW {b : List Int} {p n : Int} (hb : RB b) (hp : 0 ≤ p) (hp2 : p ≤ 1000000000) (hn : n ≤ 1000000000) : W (fun k => spec_l20Rd_pick.f k b p n) (fun r => 0 ≤ r.1 ∧ (r.1 < n ∨ r.1 = 0) ∧ r.2 = p + 1) := by
  unfold spec_l20Rd_pick.f
  rw [w64 (x := p + 1) (by omega) (by omega)]
  have zero : W (fun k => spec_l20Rd_pick.j0 k n true b (p + 1)) (fun r => 0 ≤ r.1 ∧ (r.1 < n ∨ r.1 = 0) ∧ r.2 = p + 1) :=
    W.step (fun k => spec_l20Rd_pick.j0.eq_2 ..) (W.pos rfl (W.ret ⟨by simp, .inr rfl, rfl⟩))
  refine W.ite (fun _ => zero) (fun hn1 => ?_)
  by_cases hl : (b.length : Int) = 0
  · rw [show ((b.length : Int) == 0) = true from by simpa using hl]
    exact zero
  · rw [show ((b.length : Int) == 0) = false from by simpa using hl]
    refine W.step (fun k => spec_l20Rd_pick.j0.eq_2 ..) (W.neg (by decide) ?_)
    rw [w64 (x := p + 1 - 1) (by omega) (by omega), show p + 1 - 1 = p from by omega]
    refine W.ite (fun hlt => W.pos hp (W.neg (by omega) ?_)) (fun hge => W.neg hl ?_)
    · have h := hb p hp hlt
      rw [w64 (x := rd b p) (by omega) (by omega)]
      have := tmod_in (a := rd b p) (n := n) h.1 (by omega)
      exact W.ret ⟨this.1, .inl this.2, rfl⟩
    · rw [w64 (x := p * 7) (by omega) (by omega), w64 (x := p * 7 + 3) (by omega) (by omega), w64 (x := p * 29) (by omega) (by omega)]
      have i1 := tmod_in (a := p) (n := (b.length : Int)) hp (by omega)
      have i2 := tmod_in (a := p * 7 + 3) (n := (b.length : Int)) (by omega) (by omega)
      have h1 := hb _ i1.1 i1.2
      have h2 := hb _ i2.1 i2.2
      have q1 : 0 ≤ Int.tdiv p (b.length : Int) ∧ Int.tdiv p (b.length : Int) ≤ p := by
        rw [Int.tdiv_eq_ediv_of_nonneg hp]
        exact ⟨Int.ediv_nonneg hp (by omega), Int.ediv_le_self _ hp⟩
      refine W.pos i1.1 (W.pos i1.2 (W.pos i2.1 (W.pos i2.2 (W.neg (by omega) ?_))))
      obtain ⟨u, hu⟩ : ∃ u, u = rd b (Int.tmod p (b.length : Int)) := ⟨_, rfl⟩
      obtain ⟨v, hv⟩ : ∃ v, v = rd b (Int.tmod (p * 7 + 3) (b.length : Int)) := ⟨_, rfl⟩
      obtain ⟨q, hq⟩ : ∃ q, q = Int.tdiv p (b.length : Int) := ⟨_, rfl⟩
      rw [← hu] at h1
      rw [← hv] at h2
      rw [← hq] at q1
      rw [← hu, ← hv, ← hq]
      rw [w64 (x := u) (by omega) (by omega), w64 (x := v) (by omega) (by omega), w64 (x := q) (by omega) (by omega), w64 (x := u * 131) (by omega) (by omega), w64 (x := v * 1117) (by omega) (by omega), w64 (x := q * 53) (by omega) (by omega),
        w64 (x := u * 131 + v * 1117) (by omega) (by omega), w64 (x := u * 131 + v * 1117 + p * 29) (by omega) (by omega), w64 (x := u * 131 + v * 1117 + p * 29 + q * 53) (by omega) (by omega)]
      obtain ⟨x, hx⟩ : ∃ x, x = u * 131 + v * 1117 + p * 29 + q * 53 := ⟨_, rfl⟩
      have x0 : 0 ≤ x ∧ x ≤ 1000000000000 := by omega
      rw [← hx]
      have x1 : 0 ≤ Int.tdiv x 64 ∧ Int.tdiv x 64 ≤ x := by
        rw [Int.tdiv_eq_ediv_of_nonneg x0.1]
        omega
      rw [w64 (x := Int.tdiv x 64) (by omega) (by omega)]
      have := tmod_in (n := n) (xor_nonneg (a := x) (b := Int.tdiv x 64) (by omega) (by omega) (by omega) (by omega)) (by omega)
      exact W.ret ⟨this.1, .inl this.2, rfl⟩

theorem oddW {b : List Int} {p n : Int} (hb : RB b) (hp : 0 ≤ p) (hp2 : p ≤ 1000000000) (hn : n ≤ 1000000000) : W (fun k => spec_l20Rd_odd.f k b p n) (fun r => p ≤ r.2 ∧ r.2 ≤ p + 1) := by
  unfold spec_l20Rd_odd.f
  refine W.ite (fun _ => W.bind (pickW hb hp hp2 hn) (fun a ha => W.ret ?_)) (fun _ => W.ret (by dsimp only; omega))
  dsimp only; omega

theorem rdOf_size {parts : List ByteArray} {m : Nat} (h : ∀ x ∈ parts, x.size ≤ m) (i : Int) : (rdOf ByteArray.empty parts i).size ≤ m := by
  unfold rdOf
  rw [List.getD_eq_getElem?_getD]
  cases hx : parts[i.toNat]? with
  | none => simp
  | some y => exact h y (List.mem_of_getElem? hx)

theorem textW {b : List Int} {p n : Int} (hb : RB b) (hp : 0 ≤ p) (hp2 : p ≤ 1000000) (hn : n ≤ 1000000000) : W (fun k => spec_l20Text.f k b p n) (fun r => r.1.size ≤ 125 ∧ p ≤ r.2 ∧ r.2 ≤ p + 30) := by
  unfold spec_l20Text.f
  refine W.bind (pickW hb hp (by omega) (by omega)) (fun a ha => ?_)
  obtain ⟨a1, a2⟩ := a
  dsimp only at ha ⊢
  obtain ⟨parts, hparts, hlen, hsz⟩ : ∃ parts : List ByteArray, parts = [(⟨#[97]⟩ : ByteArray), (⟨#[98]⟩ : ByteArray), (⟨#[97, 98]⟩ : ByteArray), (⟨#[119, 111, 114, 100]⟩ : ByteArray), (⟨#[120, 49]⟩ : ByteArray), (⟨#[32]⟩ : ByteArray), (⟨#[32]⟩ : ByteArray), (⟨#[32, 32]⟩ : ByteArray), (⟨#[10]⟩ : ByteArray), (⟨#[10]⟩ : ByteArray), (⟨#[10, 32, 32]⟩ : ByteArray), (⟨#[40]⟩ : ByteArray), (⟨#[41]⟩ : ByteArray), (⟨#[91, 97, 93]⟩ : ByteArray), (⟨#[123, 99, 125]⟩ : ByteArray), (⟨#[123]⟩ : ByteArray), (⟨#[125]⟩ : ByteArray), (⟨#[46]⟩ : ByteArray), (⟨#[34]⟩ : ByteArray), (⟨#[34, 115, 34]⟩ : ByteArray), (⟨#[55]⟩ : ByteArray), (⟨#[102, 111, 111, 32, 98, 97, 114]⟩ : ByteArray), (⟨#[92]⟩ : ByteArray), (⟨#[97, 97]⟩ : ByteArray)] ∧ parts.length = 24 ∧ ∀ x ∈ parts, x.size ≤ 7 := ⟨_, rfl, rfl, by
    intro x hx
    simp only [List.mem_cons, List.mem_nil_iff, or_false] at hx
    rcases hx with rfl | rfl | rfl | rfl | rfl | rfl | rfl | rfl | rfl | rfl | rfl | rfl | rfl | rfl | rfl | rfl | rfl | rfl | rfl | rfl | rfl | rfl | rfl | rfl <;> decide⟩
  rw [← hparts]
  have last : ∀ (s : ByteArray) (q : Int), s.size ≤ 125 → p ≤ q → q ≤ p + 30 → W (fun k => spec_l20Text.l1 k s b q) (fun r => r.1.size ≤ 125 ∧ p ≤ r.2 ∧ r.2 ≤ p + 30) := by
    intro s q hs h0 h1
    refine W.loop (l := fun s k => spec_l20Text.l1 k s b q) (P := fun _ r => r.1.size ≤ 125 ∧ p ≤ r.2 ∧ r.2 ≤ p + 30) (fun s : ByteArray => s.size ≤ 125) (fun s => 121 - s.size) ?_ s hs
    intro s hs ih
    refine W.step (fun k => spec_l20Text.l1.eq_2 ..) (W.ite (fun h => W.pos (by omega) (ih _ ?_ ?_)) (fun h => W.ret ⟨hs, h0, h1⟩))
    · rw [ByteArray.size_append]; show s.size + 5 ≤ 125; omega
    · rw [ByteArray.size_append]; show 121 - (s.size + 5) < 121 - s.size; omega
  refine W.loop (l := fun (z : ByteArray × Int × Int) k => spec_l20Text.l0 k n z.1 parts z.2.1 b z.2.2) (P := fun _ r => r.1.size ≤ 125 ∧ p ≤ r.2 ∧ r.2 ≤ p + 30) (fun z => z.1.size + 7 * z.2.1 ≤ 161 ∧ z.2.1 ≤ 23 ∧ -1 ≤ z.2.1 ∧ p ≤ z.2.2 ∧ z.2.2 + z.2.1 ≤ p + 24) (fun z => z.2.1.toNat) ?_ (⟨#[]⟩, a1, a2) ⟨by show 0 + 7 * a1 ≤ 161; omega, by dsimp only; omega, by dsimp only; omega, by dsimp only; omega, by dsimp only; omega⟩
  rintro ⟨s, c, q⟩ ⟨h1, h2, h3, h4, h5⟩ ih
  dsimp only at h1 h2 h3 h4 h5 ⊢
  refine W.step (fun k => spec_l20Text.l0.eq_2 ..) (W.ite (fun hc => ?_) (fun hc => ?_))
  · refine W.bind (pickW hb (by omega) (by omega) (by omega)) (fun d hd => ?_)
    have hr := rdOf_size hsz d.1
    rw [w64 (x := c - 1) (by omega) (by omega)]
    refine W.pos hd.1 (W.pos (by omega) (W.pos (by omega) (ih (_, c - 1, d.2) ⟨?_, ?_, ?_, ?_, ?_⟩ ?_)))
    · dsimp only; rw [ByteArray.size_append]; omega
    all_goals (dsimp only; omega)
  · have hmn : mn (s.size : Int) 120 ≤ s.size ∧ 0 ≤ mn (s.size : Int) 120 ∧ mn (s.size : Int) 120 ≤ 120 := by unfold mn; split <;> omega
    have hsz2 : (s.extract 0 (mn (s.size : Int) 120).toNat).size ≤ 120 := by rw [ByteArray.size_extract]; omega
    refine W.pos hmn.2.1 (W.pos hmn.1 (W.bind (oddW hb (by omega) (by omega) hn) (fun o ho => W.ite (fun _ => ?_) (fun _ => W.ret ⟨by dsimp only; omega, by dsimp only; omega, by dsimp only; omega⟩))))
    refine W.bind (pickW hb (by omega) (by omega) (by omega)) (fun d hd => W.ite (fun _ => W.pos (by omega) (W.ret ⟨?_, by dsimp only; omega, by dsimp only; omega⟩)) (fun _ => W.ite (fun _ => W.pos (by omega) (W.ret ⟨?_, by dsimp only; omega, by dsimp only; omega⟩)) (fun _ => last _ _ (by omega) (by omega) (by omega))))
    · dsimp only; rw [ByteArray.size_append]; show _ + 1 ≤ 125; omega
    · dsimp only; rw [ByteArray.size_append]; show _ + 1 ≤ 125; omega

theorem openW {l : List Int} (h : RB l) : ∃ b, spec_l20Open.f l = some (b, 0) ∧ RB b := by
  unfold spec_l20Open.f
  by_cases hl : (l.length : Int) > 2000
  · exact ⟨l.take 2000, by rw [if_pos hl, if_pos (by omega)], RB_take h _⟩
  · exact ⟨l, by rw [if_neg hl], h⟩
end Go.Proofs.Ytpaijbpenjjmkaa.Ev
/- What the printed functions answer, part DB: drawn texts with brackets, drawn places. -/
namespace Go.Proofs.Ytpaijbpenjjmkaa.Ev
open Go.RowKit Go.Proofs.Ytpaijbpenjjmkaa.X Go.Proofs.Ytpaijbpenjjmkaa.Wp Go.Proofs.YtpaijbpenjjmkaaW.PrintWords
set_option linter.unusedVariables false
set_option linter.unusedSimpArgs false
end Go.Proofs.Ytpaijbpenjjmkaa.Ev
/- What the printed functions answer, part DS: drawn texts and places. -/
namespace Go.Proofs.Ytpaijbpenjjmkaa.Ev
open Go.RowKit Go.Proofs.Ytpaijbpenjjmkaa.X Go.Proofs.Ytpaijbpenjjmkaa.Wp Go.Proofs.YtpaijbpenjjmkaaW.PrintWords
set_option linter.unusedVariables false
set_option linter.unusedSimpArgs false
theorem drawNm {l : List Int} (hw : ∀ x ∈ l, (Lit.int .u8 x).wf = true) : W (fun k => spec_DrawNamesOf.f k l) (fun s => s.size ≤ 125) := by
  obtain ⟨b, he, hb⟩ := openW (RB_of hw)
  unfold spec_DrawNamesOf.f
  exact W.call he (W.bind (textW hb (Int.le_refl 0) (show (0 : Int) ≤ 1000000 by decide) (by omega)) (fun r hr => W.ret hr.1))
end Go.Proofs.Ytpaijbpenjjmkaa.Ev
namespace Go.Proofs.Ytpaijbpenjjmkaa.Pure
open Go.RowKit Go.Proofs.Ytpaijbpenjjmkaa.X Go.Proofs.Ytpaijbpenjjmkaa.Wp Go.Proofs.Ytpaijbpenjjmkaa.Ev Go.Proofs.Ytpaijbpenjjmkaa.ThN Go.Proofs.Ytpaijbpenjjmkaa.ThC Go.Proofs.Ytpaijbpenjjmkaa.ThT Go.Proofs.YtpaijbpenjjmkaaW.PrintWords
set_option linter.unusedVariables false
set_option linter.unusedSimpArgs false

theorem nmLen (s : ByteArray) : (nm s).length ≤ s.size + 1 := by
  unfold nm namesL
  rw [List.length_map]
  have h1 := Lib.compact_length_le (((Lib.goFieldsP notName s).map (·.data.toList)).mergeSort fun x y => decide (x ≤ y))
  rw [List.length_mergeSort, List.length_map] at h1
  have := fields_len notName s
  omega
theorem bytes_lt (a b : ByteArray) : Op.bytesLess a.toList b.toList = true ↔ a.data.toList < b.data.toList := by
  rw [bytesLess_eq, decide_eq_true_eq, toList_data, toList_data]
theorem index_occ (sub : List UInt8) : ∀ (s : List UInt8) (j : Nat), j ≤ s.length → Lib.occAt s sub j = true → 0 ≤ Lib.index s sub
  | [], j, hj, h => by
    have : j = 0 := by simpa using hj
    subst this
    unfold Lib.occAt at h
    cases sub with
    | nil => simp [Lib.index]
    | cons c l => simp [List.isPrefixOf] at h
  | b :: l, j, hj, h => by
    rw [Lib.index]
    by_cases hp : sub.isPrefixOf (b :: l) = true
    · rw [if_pos hp]; exact Int.le_refl _
    · rw [if_neg hp]
      cases j with
      | zero => exact absurd h hp
      | succ j =>
        have ih := index_occ sub l j (by simpa using hj) h
        rw [if_neg (by simp; omega)]
        omega
theorem ext_data (s : ByteArray) (a b : Nat) : (s.extract a b).data.toList = (s.data.toList.drop a).take (b - a) := by
  rw [ByteArray.data_extract, Array.toList_extract]
theorem asc_len : ∀ (B A : List (List UInt8)), A.Pairwise (· < ·) → B.Pairwise (· < ·) → (∀ x ∈ A, x ∈ B) → A.length ≤ B.length
  | [], A, _, _, h => by
    cases A with
    | nil => exact Nat.le_refl _
    | cons a A => exact absurd (h a (List.mem_cons_self ..)) (by simp)
  | b :: B, A, ha, hb, h => by
    rw [List.pairwise_cons] at hb
    cases A with
    | nil => exact Nat.zero_le _
    | cons a A =>
      rw [List.pairwise_cons] at ha
      by_cases e : a = b
      · have := asc_len B A ha.2 hb.2 (fun x hx => by
          have hm := h x (List.mem_cons_of_mem _ hx)
          rw [List.mem_cons] at hm
          rcases hm with hm | hm
          · have := ha.1 x hx
            rw [hm, e] at this
            exact absurd this (List.lt_irrefl b)
          · exact hm)
        simp only [List.length_cons]; omega
      · have hab : b < a := by
          have hm := h a (List.mem_cons_self ..)
          rw [List.mem_cons] at hm
          rcases hm with hm | hm
          · exact absurd hm e
          · exact hb.1 a hm
        have := asc_len B (a :: A) (List.pairwise_cons.2 ha) hb.2 (fun x hx => by
          have hm := h x hx
          rw [List.mem_cons] at hm hx
          rcases hm with hm | hm
          · subst hm
            rcases hx with hx | hx
            · exact absurd hx.symm e
            · exact absurd (List.lt_trans hab (ha.1 x hx)) (List.lt_irrefl x)
          · exact hm)
        simp only [List.length_cons] at this ⊢; omega
theorem all_ext (s : ByteArray) : s.extract 0 s.size = s := by
  apply str_ext
  · rw [ByteArray.size_extract]; omega
  · intro i h0 h1
    rw [ByteArray.size_extract] at h1
    have := bt_ext s (a := 0) (b := s.size) (i := i) (by omega) h0 (by omega) (by omega)
    rw [show (0 : Int).toNat = 0 from rfl, Int.toNat_natCast, Int.zero_add] at this
    exact this

theorem findW (s x : ByteArray) (hv : VT s) (hx : x ∈ nm s) : W (fun k => impl_FindNext.f k s x 0) (fun r => 0 ≤ r) := by
  have hsz := hv.1
  obtain ⟨a, b, hW, rfl⟩ := (nm_mem s (ascii_of hv) x).1 hx
  unfold impl_FindNext.f
  refine W.bind (implPlace s 0 (by omega)) (fun v hb => W.pos (hb.2 ⟨hv, by omega, by omega⟩) ?_)
  have hne : ((s.extract a b).toList == ([] : List UInt8)) = false := by
    have h1 := hW.1
    have h2 := hW.2.1
    have hz : (s.extract a b).size = b - a := by rw [ByteArray.size_extract]; omega
    have hl : (s.extract a b).toList.length = b - a := by rw [toList_data, Array.length_toList]; exact hz
    cases hc : (s.extract a b).toList with
    | nil => rw [hc, List.length_nil] at hl; omega
    | cons _ _ => rfl
  rw [hne]
  have hocc : Lib.occAt s.data.toList (s.extract a b).data.toList a = true := by
    unfold Lib.occAt
    rw [ext_data, List.isPrefixOf_iff_prefix]
    exact List.take_prefix _ _
  have hi := index_occ _ _ a (by rw [Array.length_toList]; have := hW.1; have := hW.2.1; show a ≤ s.size; omega) hocc
  have hle : Lib.index s.data.toList (s.extract a b).data.toList ≤ s.size := by
    have := Lib.index_le s.data.toList (s.extract a b).data.toList
    rw [Array.length_toList] at this
    exact this
  refine W.step (fun k => impl_FindNext.j0.eq_2 ..) (W.neg (by decide) (W.pos (by omega) (W.pos (by omega) ?_)))
  rw [show (0 : Int).toNat = 0 from rfl, all_ext]
  refine W.call (show strings_Index.f s (s.extract a b) = some (Lib.index s.data.toList (s.extract a b).data.toList) from by unfold strings_Index.f; rw [if_pos (by omega)]) (W.neg (by omega) (W.ret ?_))
  rw [w64 (by omega) (by omega)]; omega

theorem namesW (l : List Int) (hw : ∀ x ∈ l, (Lit.int .u8 x).wf = true) : W (fun k => laws_FnNamesOf.f k l) (· = true) := by
  unfold laws_FnNamesOf.f
  refine W.ite (fun _ => W.ret rfl) (fun _ => W.bind (drawNm hw) (fun s hs => W.call (implNames s (by omega)) (W.bind_eq (specNames s (by omega)) ?_)))
  have hlen : (if VT s then nm s else []).length ≤ 126 := by
    have := nmLen s
    split
    · omega
    · simp
  refine W.bind (sameTextsW _ (if VT s then nm s else []) (by omega)) (fun b hb => W.pos (hb.2 rfl) (W.bind (specTV s (by omega)) (fun v hv => W.ite (fun h => ?_) (fun h => ?_))))
  · have hv := hv.1 h
    rw [if_pos hv] at hlen ⊢
    have hsz := hv.1
    have key := W.loop (l := fun (n : Nat) k => laws_FnNamesOf.l0 k s (nm s) n) (P := fun _ r => r = true) (fun n => n ≤ (nm s).length) (fun n => (nm s).length - n) (by
      intro n hn ih
      refine W.step (fun k => laws_FnNamesOf.l0.eq_2 ..) ?_
      by_cases hlt : n < (nm s).length
      · have next := ih (n + 1) (by omega) (by omega)
        rw [show ((n + 1 : Nat) : Int) = (n : Int) + 1 from by omega] at next
        rw [w64 (x := (n : Int) + 1) (by omega) (by omega)]
        refine W.pos (by omega) (W.pos (by omega) (W.bind (findW s _ hv (rd_mem (nm s) (by omega) (by omega))) (fun r hr => W.neg (by omega) (W.ite (fun hpos => ?_) (fun _ => next)))))
        rw [w64 (x := (n : Int) - 1) (by omega) (by omega)]
        refine W.pos (by omega) (W.pos (by omega) (W.pos ((bytes_lt _ _).2 ?_) next))
        have ha := nm_asc s
        unfold asc at ha
        have h2 := List.pairwise_iff_getElem.1 ha (n - 1) n (by rw [List.length_map]; omega) (by rw [List.length_map]; omega) (by omega)
        rw [rd_map _ (by omega), rd_map _ (by omega), show ((n - 1 : Nat) : Int) = (n : Int) - 1 from by omega] at h2
        exact h2
      · refine W.neg (by omega) (W.ite (fun _ => W.ret rfl) (fun hle => W.pos (by omega) ?_))
        obtain ⟨t, ht⟩ : ∃ t, t = s ++ (⟨#[32, 122, 122]⟩ : ByteArray) := ⟨_, rfl⟩
        have hz3 : (⟨#[32, 122, 122]⟩ : ByteArray).size = 3 := rfl
        have htz : t.size = s.size + 3 := by rw [ht, ByteArray.size_append, hz3]
        have hleft : ∀ j : Int, 0 ≤ j → j < s.size → bt t j = bt s j := fun j h0 h1 => by rw [ht]; exact bt_cat_left s _ (by omega)
        have hright : ∀ j : Int, 0 ≤ j → j < 3 → bt t (s.size + j) = bt (⟨#[32, 122, 122]⟩ : ByteArray) j := fun j h0 h1 => by
          rw [ht, bt_cat_right s _ (by omega)]; congr 1; omega
        have hvt : VT t := by
          refine ⟨by omega, fun j h0 h1 => ?_⟩
          by_cases hj : j < s.size
          · rw [hleft j h0 hj]; exact hv.2 j h0 hj
          · have := hright (j - s.size) (by omega) (by omega)
            rw [show (s.size : Int) + (j - s.size) = j from by omega] at this
            rw [this]
            rcases (by omega : j - s.size = 0 ∨ j - s.size = 1 ∨ j - s.size = 2) with e | e | e <;> rw [e] <;> (right; decide)
        rw [← ht]
        refine W.call (implNames t (by omega)) (W.ret ?_)
        rw [if_pos hvt, decide_eq_true_eq]
        have hsub : ∀ x ∈ nm s, x ∈ nm t := by
          intro x hx
          obtain ⟨a, b, hW, rfl⟩ := (nm_mem s (ascii_of hv) x).1 hx
          obtain ⟨w1, w2, w3, w4, w5⟩ := hW
          refine (nm_mem t (ascii_of hvt) _).2 ⟨a, b, ⟨w1, by omega, fun j h0 h1 => by rw [hleft j (by omega) (by omega)]; exact w3 j h0 h1, ?_, ?_⟩, ?_⟩
          · rcases w4 with w4 | w4
            · exact .inl w4
            · by_cases ha : a = 0
              · exact .inl ha
              · right; rw [hleft _ (by omega) (by omega)]; exact w4
          · right
            by_cases hb : b = s.size
            · have := hright 0 (by omega) (by omega)
              rw [Int.add_zero, ← hb] at this
              rw [this]; decide
            · rcases w5 with w5 | w5
              · exact absurd w5 hb
              · rw [hleft _ (by omega) (by omega)]; exact w5
          · apply str_ext
            · rw [ByteArray.size_extract, ByteArray.size_extract]; omega
            · intro i h0 h1
              rw [ByteArray.size_extract] at h1
              have e1 := bt_ext s (a := a) (b := b) (i := i) (by omega) h0 (by omega) (by omega)
              have e2 := bt_ext t (a := a) (b := b) (i := i) (by omega) h0 (by omega) (by omega)
              rw [Int.toNat_natCast, Int.toNat_natCast] at e1 e2
              rw [e1, e2, hleft _ (by omega) (by omega)]
        have h3 := asc_len ((nm t).map (fun y : ByteArray => y.data.toList)) ((nm s).map (fun y : ByteArray => y.data.toList)) (nm_asc s) (nm_asc t) (fun x hx => by
          rw [List.mem_map] at hx ⊢
          obtain ⟨y, hy, rfl⟩ := hx
          exact ⟨y, hsub y hy, rfl⟩)
        rw [List.length_map, List.length_map] at h3
        omega) 0 (Nat.zero_le _)
    exact key
  · rw [if_neg (fun hv2 => h (hv.2 hv2))]
    exact W.pos rfl alive_then
theorem FnNamesOf : laws_FnNamesOf.Pure := fun l _ _ hw => W.rounds (namesW l hw)
end Go.Proofs.Ytpaijbpenjjmkaa.Pure
