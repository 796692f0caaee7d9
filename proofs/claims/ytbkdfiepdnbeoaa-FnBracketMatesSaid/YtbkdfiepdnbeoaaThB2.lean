/- The plain law of brackets, second part: a text without a fault, put into brackets. No program in sight. -/
import Derived.Test.YtbkdfiepdnbeoaaThB
namespace Go.Proofs.Ytbkdfiepdnbeoaa.ThB
open Go.RowKit Go.Proofs.YtbkdfiepdnbeoaaW.PrintWords
set_option linter.unusedVariables false
set_option linter.unusedSimpArgs false

def isBr (c : Int) : Prop := opens c = true ∨ want c ≠ 0
theorem isBr_iff (c : Int) : isBr c ↔ (c = 40 ∨ c = 41 ∨ c = 91 ∨ c = 93 ∨ c = 123 ∨ c = 125) := by
  unfold isBr opens want
  simp only [Bool.or_eq_true, beq_iff_eq]
  constructor
  · intro h
    rcases h with h | h
    · omega
    · split at h
      · omega
      · split at h
        · omega
        · split at h
          · omega
          · exact absurd rfl h
  · intro h
    by_cases h1 : c = 40 ∨ c = 91 ∨ c = 123
    · left; omega
    · right
      split
      · omega
      · split
        · omega
        · split <;> omega
theorem want_not_open {c : Int} (h : want c ≠ 0) : opens c = false := by
  unfold want at h
  unfold opens
  split at h
  · rename_i e; subst e; rfl
  · split at h
    · rename_i e; subst e; rfl
    · split at h
      · rename_i e; subst e; rfl
      · exact absurd rfl h

/-- A place that holds no opening bracket keeps its mate. -/
theorem stays (s : ByteArray) (i : Nat) (ho : opens (bt s i) = false) : ∀ n : Nat, i + 1 ≤ n → rd (brun s n).1 i = rd (brun s (i + 1)).1 i
  | 0 => fun h => by omega
  | n + 1 => fun h => by
    by_cases e : n = i
    · subst e; rfl
    · rw [← stays s i ho n (by omega)]
      have hi := inv_run s n
      have hl := hi.len
      conv => lhs; unfold brun bstep
      split
      · exact rd_left _ _ (by omega) (by omega)
      · split
        · rename_i hc
          have hp := length_pos hc.2.1
          obtain ⟨t0, t1, _, t3⟩ := hi.vlt ((brun s n).2.length - 1) (by omega) (by omega)
          have hne : (i : Int) ≠ rd (brun s n).2 ((brun s n).2.length - 1) := fun e2 => by rw [← e2, ho] at t3; exact absurd t3 (by decide)
          simp only []
          rw [rd_set_ne _ _ (by omega) t0 hne, rd_set_ne _ _ (by omega) (by omega) (by omega), rd_left _ _ (by omega) (by omega)]
        · exact rd_left _ _ (by omega) (by omega)

def Faultless (s : ByteArray) : Prop := ∀ j : Int, 0 ≤ j → j < s.size → isBr (bt s j) → 0 ≤ rd (mates s) j

theorem matched {s : ByteArray} (hf : Faultless s) {i : Nat} (hi : i < s.size) (hw : want (bt s i) ≠ 0) : (brun s i).2 ≠ [] ∧ bt s (rd (brun s i).2 ((brun s i).2.length - 1)) = want (bt s i) := by
  have h1 := hf i (by omega) (by omega) (.inr hw)
  have ho := want_not_open hw
  unfold mates at h1
  rw [stays s i ho s.size (by omega)] at h1
  have hl := (inv_run s i).len
  unfold brun bstep at h1
  rw [if_neg (by rw [ho]; decide)] at h1
  split at h1
  · rename_i hc; exact hc.2
  · simp only [] at h1
    rw [rd_snoc _ _ (by omega)] at h1
    omega

theorem all_matched {s : ByteArray} (hf : Faultless s) : (brun s s.size).2 = [] := by
  have hi := mates_inv s
  cases h : (brun s s.size).2 with
  | nil => rfl
  | cons v V =>
    have h0 := hi.vlt 0 (by omega) (by rw [h]; simp)
    have := hf _ h0.1 h0.2.1 (.inl h0.2.2.2)
    omega

def sh (M : List Int) : List Int := M.map fun v => if v = -1 then -1 else v + 1
def sv (V : List Int) : List Int := V.map (· + 1)
theorem rd_map (f : Int → Int) (xs : List Int) {i : Int} (h0 : 0 ≤ i) (h : i < xs.length) : rd (xs.map f) i = f (rd xs i) := by
  unfold rd
  rw [List.getD_eq_getElem?_getD, List.getD_eq_getElem?_getD, List.getElem?_map]
  have : xs[i.toNat]? = some xs[i.toNat] := List.getElem?_eq_getElem (by omega)
  rw [this]; rfl
theorem rd_cons (v : Int) (xs : List Int) {i : Int} (h0 : 0 ≤ i) : rd (v :: xs) (i + 1) = rd xs i := by
  unfold rd
  have : (i + 1).toNat = i.toNat + 1 := by omega
  rw [this]; rfl
theorem rd_cons_zero (v : Int) (xs : List Int) : rd (v :: xs) 0 = v := rfl

/-- s2 is s in brackets. -/
structure Wrapped (s s2 : ByteArray) : Prop where
  size : s2.size = s.size + 2
  first : opens (bt s2 0) = true
  mid : ∀ i : Int, 0 ≤ i → i < s.size → bt s2 (i + 1) = bt s i
  last : want (bt s2 (s.size + 1)) = bt s2 0

theorem wrapped_run {s s2 : ByteArray} (hw : Wrapped s s2) (hf : Faultless s) : ∀ i : Nat, i ≤ s.size → brun s2 (i + 1) = (-1 :: sh (brun s i).1, 0 :: sv (brun s i).2)
  | 0 => fun _ => by
    unfold brun bstep
    rw [if_pos (by simpa [brun] using hw.first)]
    simp [brun, sh, sv]
  | i + 1 => fun hle => by
    have ih := wrapped_run hw hf i (by omega)
    have hi := inv_run s i
    have hl := hi.len
    have hc : bt s2 ((i + 1 : Nat) : Int) = bt s i := by
      have := hw.mid i (by omega) (by omega)
      simpa using this
    rw [show brun s2 (i + 1 + 1) = bstep s2 (brun s2 (i + 1)).1 (brun s2 (i + 1)).2 ((i + 1 : Nat) : Int) from rfl, ih, show brun s (i + 1) = bstep s (brun s i).1 (brun s i).2 i from rfl]
    unfold bstep
    dsimp only
    rw [hc]
    by_cases ho : opens (bt s i) = true
    · rw [if_pos ho, if_pos ho]
      simp [sh, sv]
    · rw [if_neg ho, if_neg ho]
      by_cases hwt : want (bt s i) = 0
      · rw [if_neg (fun h => h.1 hwt), if_neg (fun h => h.1 hwt)]
        simp [sh]
      · obtain ⟨hV, hk⟩ := matched hf (i := i) (by omega) hwt
        have hp := length_pos hV
        obtain ⟨t0, t1, t2, t3⟩ := hi.vlt ((brun s i).2.length - 1) (by omega) (by omega)
        obtain ⟨t, ht⟩ : ∃ t, t = rd (brun s i).2 ((brun s i).2.length - 1) := ⟨_, rfl⟩
        have e1 : rd (0 :: sv (brun s i).2) (((0 :: sv (brun s i).2).length : Int) - 1) = t + 1 := by
          have : (((0 :: sv (brun s i).2).length : Int) - 1) = ((brun s i).2.length - 1) + 1 := by simp [sv]
          rw [this, rd_cons _ _ (by omega)]
          unfold sv
          rw [rd_map _ _ (by omega) (by omega), ← ht]
        rw [← ht] at t0 t1 t2 t3 hk ⊢
        have hmid := hw.mid t t0 (by omega)
        rw [if_pos ⟨hwt, by simp, by rw [e1, hmid]; exact hk⟩, if_pos ⟨hwt, hV, hk⟩, e1]
        have e2 : ((i + 1 : Nat) : Int).toNat = i + 1 := by omega
        have e3 : (t + 1).toNat = t.toNat + 1 := by omega
        have e4 : ((i : Nat) : Int).toNat = i := by omega
        rw [e2, e3, e4]
        have hti : t ≠ -1 := by omega
        have hii : ((i : Nat) : Int) ≠ -1 := by omega
        refine Prod.ext ?_ ?_
        · simp [sh, List.map_set, hti, hii]
        · simp only [sv, List.length_cons, List.length_map, Nat.add_sub_cancel]
          obtain ⟨m, hm⟩ : ∃ m, (brun s i).2.length = m + 1 := ⟨(brun s i).2.length - 1, by omega⟩
          rw [hm]
          simp [List.map_take]

theorem wrapped_mates {s s2 : ByteArray} (hw : Wrapped s s2) (hf : Faultless s) :
    rd (mates s2) 0 = s.size + 1 ∧ (∀ j : Int, 0 ≤ j → j < s.size → rd (mates s2) (j + 1) = if rd (mates s) j = -1 then -1 else rd (mates s) j + 1) ∧ rd (mates s2) (s.size + 1) = 0 := by
  have h := wrapped_run hw hf s.size (Nat.le_refl _)
  rw [all_matched hf] at h
  have hl := mates_len s
  have e : mates s2 = ((-1 :: sh (mates s) ++ [-1]).set (s.size + 1) 0).set 0 (s.size + 1) := by
    unfold mates
    rw [hw.size, show brun s2 (s.size + 2) = bstep s2 (brun s2 (s.size + 1)).1 (brun s2 (s.size + 1)).2 ((s.size + 1 : Nat) : Int) from rfl, h]
    unfold bstep
    have hlast : want (bt s2 ((s.size + 1 : Nat) : Int)) = bt s2 0 := by simpa using hw.last
    have hne : want (bt s2 ((s.size + 1 : Nat) : Int)) ≠ 0 := by
      rw [hlast]
      have := hw.first
      intro e
      rw [e] at this
      exact absurd this (by decide)
    rw [if_neg (by rw [want_not_open hne]; decide), if_pos ⟨hne, by simp, by rw [hlast]; rfl⟩]
    simp only [sv, List.map_nil, List.length_cons, List.length_nil]
    have e5 : ((s.size + 1 : Nat) : Int).toNat = s.size + 1 := by omega
    rw [e5]
    rfl
  have len : (sh (mates s)).length = s.size := by simp [sh, hl]
  refine ⟨?_, ?_, ?_⟩
  · rw [e]
    exact rd_set_self (i := 0) _ _ (by omega) (by simp; omega)
  · intro j h0 h1
    rw [e]
    have e6 := rd_set_ne (i := j + 1) (j := 0) ((-1 :: sh (mates s) ++ [-1]).set (s.size + 1) 0) (s.size + 1) (by omega) (by omega) (by omega)
    have e7 := rd_set_ne (i := j + 1) (j := (s.size + 1 : Nat)) (-1 :: sh (mates s) ++ [-1]) 0 (by omega) (by omega) (by omega)
    rw [show ((s.size + 1 : Nat) : Int).toNat = s.size + 1 from by omega] at e7
    rw [show (0 : Int).toNat = 0 from rfl] at e6
    rw [e6, e7, List.cons_append, rd_cons _ _ h0, rd_left _ _ h0 (by rw [len]; omega)]
    unfold sh
    rw [rd_map _ _ h0 (by omega)]
  · rw [e]
    have e6 := rd_set_ne (i := (s.size + 1 : Nat)) (j := 0) ((-1 :: sh (mates s) ++ [-1]).set (s.size + 1) 0) (s.size + 1) (by omega) (by omega) (by omega)
    rw [show (0 : Int).toNat = 0 from rfl] at e6
    have e7 := rd_set_self (i := ((s.size + 1 : Nat) : Int)) (-1 :: sh (mates s) ++ [-1]) 0 (by omega) (by simp [len]; omega)
    rw [show ((s.size + 1 : Nat) : Int).toNat = s.size + 1 from by omega] at e7
    rw [show ((s.size + 1 : Nat) : Int) = (s.size : Int) + 1 from by omega] at e6 e7
    rw [e6, e7]

theorem wrapped_faultless {s s2 : ByteArray} (hw : Wrapped s s2) (hf : Faultless s) : Faultless s2 := by
  obtain ⟨h1, h2, h3⟩ := wrapped_mates hw hf
  intro j h0 hj hb
  have := hw.size
  by_cases e0 : j = 0
  · subst e0; omega
  · by_cases e1 : j = s.size + 1
    · subst e1; omega
    · have hj' := h2 (j - 1) (by omega) (by omega)
      have hm := hw.mid (j - 1) (by omega) (by omega)
      rw [show j - 1 + 1 = j from by omega] at hj' hm
      rw [hm] at hb
      have := hf (j - 1) (by omega) (by omega) hb
      rw [hj', if_neg (by omega)]
      omega

theorem wrapped_count {s s2 : ByteArray} (hw : Wrapped s s2) (hf : Faultless s) (p : Int) (h0 : 0 ≤ p) (hp : p ≤ s.size) : ∀ n : Nat, n ≤ s.size → (aro (mates s2) (p + 1) (n + 1)).length = (aro (mates s) p n).length + 1
  | 0 => fun _ => by
    obtain ⟨h1, h2, h3⟩ := wrapped_mates hw hf
    unfold aro
    rw [if_pos (by simp only [Int.natCast_zero]; omega)]
    simp [aro]
  | n + 1 => fun hn => by
    obtain ⟨h1, h2, h3⟩ := wrapped_mates hw hf
    have ih := wrapped_count hw hf p h0 hp n (by omega)
    have h4 := h2 n (by omega) (by omega)
    rw [show aro (mates s2) (p + 1) (n + 1 + 1) = if rd (mates s2) ((n + 1 : Nat) : Int) ≥ p + 1 then aro (mates s2) (p + 1) (n + 1) ++ [((n + 1 : Nat) : Int)] else aro (mates s2) (p + 1) (n + 1) from rfl,
      show aro (mates s) p (n + 1) = if rd (mates s) n ≥ p then aro (mates s) p n ++ [(n : Int)] else aro (mates s) p n from rfl]
    rw [show ((n + 1 : Nat) : Int) = (n : Int) + 1 from by omega, h4]
    by_cases hc : rd (mates s) n ≥ p
    · rw [if_pos hc, if_pos (by rw [if_neg (by omega)]; omega)]
      simp only [List.length_append, List.length_cons, List.length_nil]
      omega
    · rw [if_neg hc, if_neg (by split <;> omega)]
      exact ih

theorem wrapped_depth {s s2 : ByteArray} (hw : Wrapped s s2) (hf : Faultless s) (p : Int) (h0 : 0 ≤ p) (hp : p ≤ s.size) : depth s2 (p + 1) = depth s p + 1 := by
  have := wrapped_count hw hf p h0 hp p.toNat (by omega)
  unfold depth
  rw [show (p + 1).toNat = p.toNat + 1 from by omega, this]
  omega
end Go.Proofs.Ytbkdfiepdnbeoaa.ThB
