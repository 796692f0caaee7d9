/- The plain law of brackets: which brackets belong together, step by step, and what holds of them. No program in sight. -/
import Derived.Test.YtheglgphknahdaaDoorWMore
namespace Go.Proofs.YtheglgphknahdaaDoor.ThB
open Go.RowKit Go.Proofs.YtheglgphknahdaaDoorW.PrintWords
set_option linter.unusedVariables false
set_option linter.unusedSimpArgs false

theorem rd_left (xs ys : List Int) {i : Int} (h0 : 0 ≤ i) (h : i < xs.length) : rd (xs ++ ys) i = rd xs i := by
  unfold rd
  rw [List.getD_eq_getElem?_getD, List.getD_eq_getElem?_getD, List.getElem?_append_left (by omega)]
theorem rd_snoc (xs : List Int) (v : Int) {i : Int} (h : i = xs.length) : rd (xs ++ [v]) i = v := by
  subst h
  unfold rd
  rw [List.getD_eq_getElem?_getD, List.getElem?_append_right (by simp)]
  simp
theorem rd_set_self (xs : List Int) (v : Int) {i : Int} (h0 : 0 ≤ i) (h : i < xs.length) : rd (xs.set i.toNat v) i = v := by
  unfold rd
  rw [List.getD_eq_getElem?_getD, List.getElem?_set_self (by omega)]
  rfl
theorem rd_set_ne (xs : List Int) (v : Int) {i j : Int} (h0 : 0 ≤ i) (hj : 0 ≤ j) (h : i ≠ j) : rd (xs.set j.toNat v) i = rd xs i := by
  unfold rd
  rw [List.getD_eq_getElem?_getD, List.getD_eq_getElem?_getD, List.getElem?_set_ne (by omega)]
theorem rd_take (xs : List Int) (n : Nat) {i : Int} (h0 : 0 ≤ i) (h : i < n) : rd (xs.take n) i = rd xs i := by
  unfold rd
  rw [List.getD_eq_getElem?_getD, List.getD_eq_getElem?_getD, List.getElem?_take, if_pos (by omega)]
theorem rd_ext {xs ys : List Int} (hl : xs.length = ys.length) (h : ∀ i : Int, 0 ≤ i → i < xs.length → rd xs i = rd ys i) : xs = ys := by
  apply List.ext_getElem hl
  intro i h1 h2
  have := h i (by omega) (by omega)
  unfold rd at this
  simpa [List.getD_eq_getElem?_getD, h1, h2] using this

def opens (c : Int) : Bool := c == 40 || c == 91 || c == 123
def want (c : Int) : Int := if c = 41 then 40 else if c = 93 then 91 else if c = 125 then 123 else 0
/-- One byte more: the mates so far, and the brackets that wait. -/
def bstep (s : ByteArray) (M V : List Int) (i : Int) : List Int × List Int :=
  if opens (bt s i) = true then (M ++ [-1], V ++ [i])
  else if want (bt s i) ≠ 0 ∧ V ≠ [] ∧ bt s (rd V (V.length - 1)) = want (bt s i) then
    (((M ++ [-1]).set i.toNat (rd V (V.length - 1))).set (rd V (V.length - 1)).toNat i, V.take (V.length - 1))
  else (M ++ [-1], V)
def brun (s : ByteArray) : Nat → List Int × List Int
  | 0 => ([], [])
  | n + 1 => bstep s (brun s n).1 (brun s n).2 n
def mates (s : ByteArray) : List Int := (brun s s.size).1

structure BInv (s : ByteArray) (n : Nat) (M V : List Int) : Prop where
  len : M.length = n
  val : ∀ j : Int, 0 ≤ j → j < n → rd M j = -1 ∨ (0 ≤ rd M j ∧ rd M j < n ∧ rd M (rd M j) = j ∧ rd M j ≠ j)
  kind : ∀ j : Int, 0 ≤ j → j < n → j < rd M j → opens (bt s j) = true ∧ want (bt s (rd M j)) = bt s j
  vlt : ∀ k : Int, 0 ≤ k → k < V.length → 0 ≤ rd V k ∧ rd V k < n ∧ rd M (rd V k) = -1 ∧ opens (bt s (rd V k)) = true
  vinc : ∀ k l : Int, 0 ≤ k → k < l → l < V.length → rd V k < rd V l
  apart : ∀ k j : Int, 0 ≤ k → k < V.length → 0 ≤ j → j < rd V k → rd M j < rd V k
  nest : ∀ a b : Int, 0 ≤ a → a < n → a < b → b < rd M a → rd M b = -1 ∨ (a < rd M b ∧ rd M b < rd M a)

theorem length_pos {V : List Int} (h : V ≠ []) : 0 < V.length := List.length_pos_iff.2 h

theorem inv_push {s : ByteArray} {n : Nat} {M V : List Int} (h : BInv s n M V) (ho : opens (bt s n) = true) : BInv s (n + 1) (M ++ [-1]) (V ++ [(n : Int)]) := by
  have hl := h.len
  have old : ∀ j : Int, 0 ≤ j → j < n → rd (M ++ [-1]) j = rd M j := fun j h0 h1 => rd_left M _ h0 (by omega)
  have new : rd (M ++ [-1]) n = -1 := rd_snoc M _ (by omega)
  have vold : ∀ k : Int, 0 ≤ k → k < V.length → rd (V ++ [(n : Int)]) k = rd V k := fun k h0 h1 => rd_left V _ h0 h1
  have vnew : rd (V ++ [(n : Int)]) V.length = n := rd_snoc V _ rfl
  have hvl : ((V ++ [(n : Int)]).length : Int) = V.length + 1 := by simp
  refine ⟨by simp [hl], ?_, ?_, ?_, ?_, ?_, ?_⟩
  · intro j h0 h1
    by_cases hj : j = n
    · subst hj; left; exact new
    · rw [old j h0 (by omega)]
      rcases h.val j h0 (by omega) with h2 | ⟨h2, h3, h4, h5⟩
      · left; exact h2
      · right; rw [old _ h2 h3]; exact ⟨h2, by omega, h4, h5⟩
  · intro j h0 h1 h2
    by_cases hj : j = n
    · subst hj; rw [new] at h2; omega
    · rw [old j h0 (by omega)] at h2 ⊢; exact h.kind j h0 (by omega) h2
  · intro k h0 h1
    by_cases hk : k = V.length
    · subst hk; rw [vnew, new]; exact ⟨by omega, by omega, rfl, ho⟩
    · rw [vold k h0 (by omega)]
      obtain ⟨a, b, c, d⟩ := h.vlt k h0 (by omega)
      rw [old _ a b]; exact ⟨a, by omega, c, d⟩
  · intro k l h0 h1 h2
    rw [vold k h0 (by omega)]
    by_cases hl2 : l = V.length
    · subst hl2; rw [vnew]; exact (h.vlt k h0 (by omega)).2.1
    · rw [vold l (by omega) (by omega)]; exact h.vinc k l h0 h1 (by omega)
  · intro k j h0 h1 h2 h3
    by_cases hk : k = V.length
    · subst hk; rw [vnew] at h3 ⊢
      rw [old j h2 h3]
      rcases h.val j h2 h3 with h4 | ⟨h4, h5, _⟩ <;> omega
    · rw [vold k h0 (by omega)] at h3 ⊢
      have := h.vlt k h0 (by omega)
      rw [old j h2 (by omega)]
      exact h.apart k j h0 (by omega) h2 h3
  · intro a b h0 h1 h2 h3
    by_cases ha : a = n
    · subst ha; rw [new] at h3; omega
    · rw [old a h0 (by omega)] at h3 ⊢
      have hv := h.val a h0 (by omega)
      rw [old b (by omega) (by omega)]
      exact h.nest a b h0 (by omega) h2 h3

theorem inv_skip {s : ByteArray} {n : Nat} {M V : List Int} (h : BInv s n M V) : BInv s (n + 1) (M ++ [-1]) V := by
  have hl := h.len
  have old : ∀ j : Int, 0 ≤ j → j < n → rd (M ++ [-1]) j = rd M j := fun j h0 h1 => rd_left M _ h0 (by omega)
  have new : rd (M ++ [-1]) n = -1 := rd_snoc M _ (by omega)
  refine ⟨by simp [hl], ?_, ?_, ?_, h.vinc, ?_, ?_⟩
  · intro j h0 h1
    by_cases hj : j = n
    · subst hj; left; exact new
    · rw [old j h0 (by omega)]
      rcases h.val j h0 (by omega) with h2 | ⟨h2, h3, h4, h5⟩
      · left; exact h2
      · right; rw [old _ h2 h3]; exact ⟨h2, by omega, h4, h5⟩
  · intro j h0 h1 h2
    by_cases hj : j = n
    · subst hj; rw [new] at h2; omega
    · rw [old j h0 (by omega)] at h2 ⊢; exact h.kind j h0 (by omega) h2
  · intro k h0 h1
    obtain ⟨a, b, c, d⟩ := h.vlt k h0 h1
    rw [old _ a b]; exact ⟨a, by omega, c, d⟩
  · intro k j h0 h1 h2 h3
    have := h.vlt k h0 h1
    rw [old j h2 (by omega)]
    exact h.apart k j h0 h1 h2 h3
  · intro a b h0 h1 h2 h3
    by_cases ha : a = n
    · subst ha; rw [new] at h3; omega
    · rw [old a h0 (by omega)] at h3 ⊢
      have hv := h.val a h0 (by omega)
      rw [old b (by omega) (by omega)]
      exact h.nest a b h0 (by omega) h2 h3

theorem inv_match {s : ByteArray} {n : Nat} {M V : List Int} (h : BInv s n M V) (hV : V ≠ []) (hk : bt s (rd V (V.length - 1)) = want (bt s n)) :
    BInv s (n + 1) (((M ++ [-1]).set n (rd V (V.length - 1))).set (rd V (V.length - 1)).toNat n) (V.take (V.length - 1)) := by
  have hl := h.len
  have hp := length_pos hV
  obtain ⟨t, ht⟩ : ∃ t, t = rd V (V.length - 1) := ⟨_, rfl⟩
  obtain ⟨t0, t1, t2, t3⟩ := h.vlt (V.length - 1) (by omega) (by omega)
  rw [← ht] at t0 t1 t2 t3 hk ⊢
  have hMl : (((M ++ [-1]).length : Nat) : Int) = n + 1 := by simp [hl]
  have atn : rd (((M ++ [-1]).set n t).set t.toNat n) n = t := by
    rw [rd_set_ne _ _ (by omega) t0 (by omega)]
    exact rd_set_self (i := (n : Int)) _ _ (by omega) (by omega)
  have att : rd (((M ++ [-1]).set n t).set t.toNat n) t = n := rd_set_self _ _ t0 (by rw [List.length_set]; omega)
  have old : ∀ j : Int, 0 ≤ j → j < n → j ≠ t → rd (((M ++ [-1]).set n t).set t.toNat n) j = rd M j := by
    intro j h0 h1 h2
    rw [rd_set_ne _ _ h0 t0 h2]
    have : ((M ++ [-1]).set n t) = ((M ++ [-1]).set (n : Int).toNat t) := by simp
    rw [this, rd_set_ne _ _ h0 (by omega) (by omega), rd_left M _ h0 (by omega)]
  obtain ⟨M', hM'⟩ : ∃ M', M' = (((M ++ [-1]).set n t).set t.toNat n) := ⟨_, rfl⟩
  rw [← hM'] at atn att old ⊢
  have hvl : ((V.take (V.length - 1)).length : Int) = V.length - 1 := by rw [List.length_take]; omega
  have vold : ∀ k : Int, 0 ≤ k → k < V.length - 1 → rd (V.take (V.length - 1)) k = rd V k := fun k h0 h1 => rd_take V _ h0 (by omega)
  have vt : ∀ k : Int, 0 ≤ k → k < V.length - 1 → rd V k < t := fun k h0 h1 => by rw [ht]; exact h.vinc k (V.length - 1) h0 h1 (by omega)
  have ap : ∀ j : Int, 0 ≤ j → j < t → rd M j < t := by
    intro j h0 h1
    have := h.apart (V.length - 1) j (by omega) (by omega) h0 (by rw [← ht]; exact h1)
    rw [← ht] at this; exact this
  refine ⟨by rw [hM', List.length_set, List.length_set]; simp [hl], ?_, ?_, ?_, ?_, ?_, ?_⟩
  · intro j h0 h1
    by_cases hj : j = n
    · right; subst hj; rw [atn, att]; exact ⟨t0, by omega, rfl, by omega⟩
    · by_cases hjt : j = t
      · right; subst hjt; rw [att, atn]; exact ⟨by omega, by omega, rfl, by omega⟩
      · rw [old j h0 (by omega) hjt]
        rcases h.val j h0 (by omega) with h2 | ⟨h2, h3, h4, h5⟩
        · left; exact h2
        · right
          have hne : rd M j ≠ t := fun e => by rw [e] at h4; omega
          rw [old _ h2 h3 hne]; exact ⟨h2, by omega, h4, h5⟩
  · intro j h0 h1 h2
    by_cases hj : j = n
    · subst hj; rw [atn] at h2; omega
    · by_cases hjt : j = t
      · subst hjt; rw [att]; exact ⟨t3, hk.symm⟩
      · rw [old j h0 (by omega) hjt] at h2 ⊢; exact h.kind j h0 (by omega) h2
  · intro k h0 h1
    have hk1 : k < V.length - 1 := by omega
    have := vt k h0 hk1
    rw [vold k h0 hk1]
    obtain ⟨a, b, c, d⟩ := h.vlt k h0 (by omega)
    rw [old _ a b (by omega)]; exact ⟨a, by omega, c, d⟩
  · intro k l h0 h1 h2
    rw [vold k h0 (by omega), vold l (by omega) (by omega)]
    exact h.vinc k l h0 h1 (by omega)
  · intro k j h0 h1 h2 h3
    have hk1 : k < V.length - 1 := by omega
    have := vt k h0 hk1
    have hb := h.vlt k h0 (by omega)
    rw [vold k h0 hk1] at h3 ⊢
    rw [old j h2 (by omega) (by omega)]
    exact h.apart k j h0 (by omega) h2 h3
  · intro a b h0 h1 h2 h3
    by_cases ha : a = n
    · subst ha; rw [atn] at h3; omega
    · by_cases hat : a = t
      · subst hat
        rw [att] at h3 ⊢
        rw [old b (by omega) h3 (by omega)]
        rcases h.val b (by omega) h3 with h4 | ⟨h4, h5, h6, h7⟩
        · left; exact h4
        · right
          refine ⟨?_, h5⟩
          have hne : rd M b ≠ a := fun e => by rw [e] at h6; omega
          have := ap (rd M b) h4
          by_cases hlt : rd M b < a
          · have := this hlt; omega
          · omega
      · rw [old a h0 (by omega) hat] at h3 ⊢
        have hv := h.val a h0 (by omega)
        have hbt : b ≠ t := fun e => by subst e; have := ap a h0 h2; omega
        rw [old b (by omega) (by omega) hbt]
        exact h.nest a b h0 (by omega) h2 h3

theorem inv_run (s : ByteArray) : ∀ n : Nat, BInv s n (brun s n).1 (brun s n).2
  | 0 => by
    refine ⟨rfl, ?_, ?_, ?_, ?_, ?_, ?_⟩ <;> (intros; simp [brun] at *; omega)
  | n + 1 => by
    have h := inv_run s n
    unfold brun bstep
    split
    · rename_i ho; exact inv_push h ho
    · split
      · rename_i hc; exact inv_match h hc.2.1 hc.2.2
      · exact inv_skip h

theorem mates_inv (s : ByteArray) : BInv s s.size (mates s) (brun s s.size).2 := inv_run s s.size
theorem mates_len (s : ByteArray) : (mates s).length = s.size := (mates_inv s).len

/-- The first place below n at which p holds, or -1. -/
def First (p : Int → Prop) (n : Int) (r : Int) : Prop := (r = -1 ∧ ∀ j, 0 ≤ j → j < n → ¬ p j) ∨ (0 ≤ r ∧ r < n ∧ p r ∧ ∀ j, 0 ≤ j → j < r → ¬ p j)
theorem First.uniq {p : Int → Prop} {n r r' : Int} (h : First p n r) (h' : First p n r') : r = r' := by
  rcases h with ⟨rfl, h⟩ | ⟨h0, h1, h2, h3⟩
  · rcases h' with ⟨rfl, _⟩ | ⟨h0, h1, h2, _⟩
    · rfl
    · exact absurd h2 (h r' h0 h1)
  · rcases h' with ⟨rfl, h'⟩ | ⟨h0', h1', h2', h3'⟩
    · exact absurd h2 (h' r h0 h1)
    · by_cases hlt : r < r'
      · exact absurd h2 (h3' r h0 hlt)
      · by_cases hgt : r' < r
        · exact absurd h2' (h3 r' h0' hgt)
        · omega

/-- The opening brackets of the pairs around place p, below n. -/
def aro (M : List Int) (p : Int) : Nat → List Int
  | 0 => []
  | n + 1 => if rd M n ≥ p then aro M p n ++ [(n : Int)] else aro M p n
theorem aro_succ (M : List Int) (p : Int) (n : Nat) : aro M p (n + 1) = if rd M n ≥ p then aro M p n ++ [(n : Int)] else aro M p n := rfl
theorem aro_len_le (M : List Int) (p : Int) : ∀ n, (aro M p n).length ≤ n
  | 0 => by simp [aro]
  | n + 1 => by
    have := aro_len_le M p n
    unfold aro
    split
    · simp; exact this
    · omega
/-- Its last one: the greatest below n. -/
theorem aro_last (M : List Int) (p : Int) : ∀ n, aro M p n ≠ [] → ∃ a : Int, rd (aro M p n) ((aro M p n).length - 1) = a ∧ 0 ≤ a ∧ a < n ∧ rd M a ≥ p ∧ ∀ j, a < j → j < n → rd M j < p
  | 0 => fun h => absurd rfl h
  | n + 1 => fun h => by
    unfold aro at h ⊢
    split at h
    · rename_i hc
      rw [if_pos hc]
      refine ⟨n, ?_, by omega, by omega, hc, fun j h1 h2 => by omega⟩
      rw [rd_snoc]
      simp
    · rename_i hc
      rw [if_neg hc]
      obtain ⟨a, h1, h2, h3, h4, h5⟩ := aro_last M p n h
      refine ⟨a, h1, h2, by omega, h4, fun j h6 h7 => ?_⟩
      by_cases hj : j = n
      · subst hj; omega
      · exact h5 j h6 (by omega)
theorem aro_none (M : List Int) (p : Int) : ∀ n, aro M p n = [] ↔ ∀ j : Int, 0 ≤ j → j < n → rd M j < p
  | 0 => by simp [aro]; intros; omega
  | n + 1 => by
    unfold aro
    split
    · rename_i hc
      constructor
      · intro h; simp at h
      · intro h; have := h n (by omega) (by omega); omega
    · rename_i hc
      rw [aro_none M p n]
      constructor
      · intro h j h0 h1
        by_cases hj : j = n
        · subst hj; omega
        · exact h j h0 (by omega)
      · intro h j h0 h1; exact h j h0 (by omega)
/-- Two places around which the same pairs are, below n. -/
theorem aro_congr (M : List Int) (p q : Int) : ∀ n : Nat, (∀ j : Int, 0 ≤ j → j < n → (rd M j ≥ p ↔ rd M j ≥ q)) → aro M p n = aro M q n
  | 0 => fun _ => rfl
  | n + 1 => fun h => by
    unfold aro
    rw [aro_congr M p q n (fun j h0 h1 => h j h0 (by omega))]
    by_cases hc : rd M n ≥ p
    · rw [if_pos hc, if_pos ((h n (by omega) (by omega)).1 hc)]
    · rw [if_neg hc, if_neg (fun h' => hc ((h n (by omega) (by omega)).2 h'))]
/-- Where none of the places from m on counts. -/
theorem aro_cut (M : List Int) (p : Int) (m : Nat) : ∀ n : Nat, m ≤ n → (∀ j : Int, m ≤ j → j < n → rd M j < p) → aro M p n = aro M p m
  | 0 => fun h _ => by have : m = 0 := by omega
                       subst this; rfl
  | n + 1 => fun h hc => by
    by_cases e : m = n + 1
    · subst e; rfl
    · rw [← aro_cut M p m n (by omega) (fun j h0 h1 => hc j h0 (by omega))]
      conv => lhs; unfold aro
      have := hc n (by omega) (by omega)
      rw [if_neg (by omega)]
def depth (s : ByteArray) (p : Int) : Int := (aro (mates s) p p.toNat).length
theorem depth_zero (s : ByteArray) : depth s 0 = 0 := rfl
theorem depth_end (s : ByteArray) : depth s s.size = 0 := by
  have h : aro (mates s) s.size (s.size : Int).toNat = [] := by
    rw [aro_none]
    intro j h0 h1
    rcases (mates_inv s).val j h0 (by omega) with h | ⟨_, h, _⟩ <;> omega
  unfold depth
  rw [h]; rfl
theorem count_step (M : List Int) (p : Int) (n : Nat) (c : Int) (hc : ∀ j : Int, 0 ≤ j → j < n → rd M j = p → j = c) :
    ((aro M (p + 1) n).length : Int) ≤ (aro M p n).length ∧ ((aro M p n).length : Int) ≤ (aro M (p + 1) n).length + (if 0 ≤ c ∧ c < n then 1 else 0) := by
  induction n with
  | zero => simp [aro]; split <;> omega
  | succ n ih =>
    have ih := ih (fun j h0 h1 h2 => hc j h0 (by omega) h2)
    unfold aro
    by_cases h1 : rd M n ≥ p + 1
    · rw [if_pos h1, if_pos (by omega)]
      simp only [List.length_append, List.length_cons, List.length_nil]
      split at ih <;> split <;> omega
    · rw [if_neg h1]
      by_cases h2 : rd M n ≥ p
      · rw [if_pos h2]
        have := hc n (by omega) (by omega) (by omega)
        simp only [List.length_append, List.length_cons, List.length_nil]
        split at ih <;> split <;> omega
      · rw [if_neg h2]
        split at ih <;> split <;> omega
theorem depth_step (s : ByteArray) (p : Int) (h0 : 0 ≤ p) (h1 : p < s.size) : depth s (p + 1) - depth s p ≤ 1 ∧ depth s p - depth s (p + 1) ≤ 1 := by
  have hi := mates_inv s
  have e : (p + 1).toNat = p.toNat + 1 := by omega
  have hp : ((p.toNat : Nat) : Int) = p := by omega
  have hc := count_step (mates s) p p.toNat (rd (mates s) p) (fun j h2 h3 h4 => by
    rcases hi.val j h2 (by omega) with h | ⟨_, _, h, _⟩
    · omega
    · rw [h4] at h; exact h.symm)
  unfold depth
  rw [e, aro_succ, hp]
  split
  · rename_i hge
    simp only [List.length_append, List.length_cons, List.length_nil]
    split at hc <;> omega
  · split at hc <;> omega
/-- Directly behind the innermost opening bracket the same pairs are around. -/
theorem depth_inner (s : ByteArray) (p a : Int) (h0 : 0 ≤ a) (h1 : a < p) (hp : p ≤ s.size) (h2 : rd (mates s) a ≥ p) (h3 : ∀ j, a < j → j < p → rd (mates s) j < p) : depth s (a + 1) = depth s p := by
  have hi := mates_inv s
  unfold depth
  have e : (a + 1).toNat = a.toNat + 1 := by omega
  rw [aro_cut (mates s) p (a + 1).toNat p.toNat (by omega) (fun j h4 h5 => h3 j (by omega) (by omega))]
  rw [aro_congr (mates s) (a + 1) p]
  intro j h4 h5
  constructor
  · intro h6
    by_cases hj : j = a
    · subst hj; exact h2
    · have := hi.nest j a h4 (by omega) (by omega) (by omega)
      omega
  · intro h6; omega
end Go.Proofs.YtheglgphknahdaaDoor.ThB
