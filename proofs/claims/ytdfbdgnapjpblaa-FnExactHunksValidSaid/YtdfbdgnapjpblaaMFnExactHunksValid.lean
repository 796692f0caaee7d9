/- For every text and list of hunks the program's HunksValid returns what the reference's HunksValid returns, and leaves its argument as it was. Conditions: none. -/
import Derived.Test.YtdfbdgnapjpblaaX0
import Derived.Lib.SmallJoins
import Derived.SliceStrings
import Derived.OpenShut
import Derived.Deep.Strs
import Derived.Test.YtdfbdgnapjpblaaWMore
import Derived.Laws.Strings
import Derived.Test.YtdfbdgnapjpblaaX6
import Derived.Test.YtdfbdgnapjpblaaX2
import Derived.Test.YtdfbdgnapjpblaaX4
import Derived.Lib.IndexLaws
import Derived.Test.YtdfbdgnapjpblaaX3
import Derived.Test.YtdfbdgnapjpblaaX5
/- What comes in as a slice of hunks, opened: a list of hunks of which each has its cells. -/
namespace Go.Proofs.Ytdfbdgnapjpblaa.X
open Go.ChangeShapes Go.RowKit Go.Joins Go.Proofs.YtdfbdgnapjpblaaW.PrintWords
set_option linter.unusedVariables false

theorem list_choice {α : Type} {Q : Nat → α → Prop} : ∀ n : Nat, (∀ i, i < n → ∃ y, Q i y) → ∃ l : List α, l.length = n ∧ ∀ j p, l[j]? = some p → Q j p
  | 0, _ => ⟨[], rfl, fun j p h => by simp at h⟩
  | n + 1, h => by
    obtain ⟨l, hl, hq⟩ := list_choice n (fun i hi => h i (by omega))
    obtain ⟨y, hy⟩ := h n (by omega)
    refine ⟨l ++ [y], by simp [hl], fun j p hp => ?_⟩
    by_cases hj : j < n
    · rw [List.getElem?_append_left (by omega)] at hp; exact hq j p hp
    · have hj2 : j < (l ++ [y]).length := by
        rcases Nat.lt_or_ge j (l ++ [y]).length with h1 | h1
        · exact h1
        · rw [List.getElem?_eq_none h1] at hp; cases hp
      simp at hj2
      have e : j = n := by omega
      subst e
      rw [List.getElem?_append_right (by omega), hl, Nat.sub_self] at hp
      simp only [List.getElem?_cons_zero, Option.some.injEq] at hp
      subst hp; exact hy
section
variable {H : Type} {enc : TypeId × Value → H} {w : World} {sp : Nat → Bool} {held : Bool}
theorem strs_C {t e : TypeId} {fuel : Nat} {cs : List Value} {x : DataW H × List MemPlace} (ht : Try.prog.underlying t = some (.slice e)) (he : Try.prog.underlying e = some .string) (hc : Try.prog.cellsOf e = 1)
    (h : DataW.trod enc Try.prog w 0 sp held fuel t cs = some x) : ∃ A c l, cs = [.slice A l.length c] ∧ l.length ≤ c ∧ Kd.string.C w A l.length l ∧ (∀ s ∈ l, s.size ≤ maxLen) ∧ c ≤ maxLen := by
  rcases open_strings ht he hc h with ⟨rfl, _⟩ | ⟨a, len, cap, ss, rfl, _, hl, hm, hss, _, hcell, hsz⟩
  · exact ⟨none, 0, [], rfl, Nat.le_refl _, ⟨rfl, by decide, fun h => by simp at h⟩, fun s hs => (by cases hs), Nat.zero_le _⟩
  · have hle : len ≤ ss.length := by rw [hss]; split <;> omega
    have hlt : (ss.take len).length = len := by rw [List.length_take]; omega
    refine ⟨some a, cap, ss.take len, by rw [hlt], by omega, ⟨rfl, by rw [hlt]; unfold maxLen at hm; omega, fun _ => ⟨a, rfl, fun j p hp => ⟨[.string p], rfl, rfl, fun i u hu => ?_⟩⟩⟩, fun s hs => hsz s (List.mem_of_mem_take hs), hm⟩
    have hj : j < len := by
      have := (List.getElem?_eq_some_iff.1 hp).1
      omega
    rw [List.getElem?_take, if_pos hj] at hp
    have hi : i = 0 := by
      have := (List.getElem?_eq_some_iff.1 hu).1
      simpa using this
    subst hi
    simp only [List.getElem?_cons_zero, Option.some.injEq] at hu
    subst hu
    have := hcell j (by omega)
    rw [List.getD_eq_getElem?_getD, hp] at this
    rw [show j * Kd.string.sz + 0 = j from by show j * 1 + 0 = j; omega]
    exact this
/-- A hunk that came in. -/
structure HkOk (x : S38) : Prop where
  wf0 : (Lit.int .i64 x.f0).wf = true
  wf1 : (Lit.int .i64 x.f1).wf = true
  len : x.f2.length ≤ maxLen
  sz : ∀ s ∈ x.f2, s.size ≤ maxLen
theorem hunks_C {t : TypeId} {fuel : Nat} {cs : List Value} {x : DataW H × List MemPlace} (ht : Try.prog.underlying t = some (.slice 38)) (hC : Try.prog.cellsOf 38 = 3)
    (h : DataW.trod enc Try.prog w 0 sp held fuel t cs = some x) : ∃ A c l, cs = [.slice A l.length c] ∧ l.length ≤ c ∧ Kd.C k38 w A l.length l ∧ (∀ y ∈ l, HkOk y) ∧ c ≤ maxLen := by
  rcases DataW.trod_slice ht h with ⟨rfl, _⟩ | ⟨a, len, cap, elems, rest, n, _, rfl, rfl, hb, hl, hm, hlen, hel, _, _⟩
  · exact ⟨none, 0, [], rfl, Nat.le_refl _, ⟨rfl, by decide, fun h => by simp at h⟩, fun s hs => (by cases hs), Nat.zero_le _⟩
  · obtain ⟨l, hll, hq⟩ := list_choice (Q := fun i (y : S38) => HkOk y ∧ ∃ c, c.length = 3 ∧ k38.K w y c ∧ ∀ k u, c[k]? = some u → w.cell? (a.add (i * 3 + k)) = some u) len (fun i hi => by
      have h1 := hel i hi
      have hi2 : elems[i]? = some (elems[i]'(by omega)) := List.getElem?_eq_getElem (by omega)
      rw [hi2, Option.bind_eq_some_iff, hC] at h1
      obtain ⟨c, h2, h3⟩ := h1
      obtain ⟨_, hcl, hcell⟩ := World.cells?_some h2
      obtain ⟨y0, y1, y2, m, _, _, g0, g1, g2⟩ := Go.Deep.trod_struct3 Try.underlying38 h3
      obtain ⟨c0, c1, c2, rfl⟩ : ∃ c0 c1 c2, c = [c0, c1, c2] := by
        match c, hcl with
        | [c0, c1, c2], _ => exact ⟨c0, c1, c2, rfl⟩
      have k1 : Try.prog.cellsOf 3 = 1 := by kernel_rfl
      have k2 : Try.prog.cellsOf 33 = 1 := by kernel_rfl
      simp only [k1, k2, List.drop_zero, List.drop_succ_cons, List.take_succ_cons, List.take_zero] at g0 g1 g2
      obtain ⟨p, e0, _, wa⟩ := DataW.trod_int Try.underlying3 g0
      obtain ⟨q, e1, _, wb⟩ := DataW.trod_int Try.underlying3 g1
      obtain ⟨A2, cc, l2, e2, hle, hC2, hsz, hcm⟩ := strs_C Try.underlying33 Try.underlying9 (by kernel_rfl) g2
      simp only [List.cons.injEq, and_true] at e0 e1 e2
      subst e0 e1 e2
      refine ⟨⟨p, q, l2⟩, ⟨wa, wb, Nat.le_trans hle hcm, hsz⟩, _, rfl, k38_mk w ⟨p, q, l2⟩ hle hC2, fun k u hu => ?_⟩
      have hk : k < 3 := (List.getElem?_eq_some_iff.1 hu).1
      have h4 := hcell k hk
      rw [Addr.add_add] at h4
      rw [← hu, ← h4])
    refine ⟨some a, cap, l, by rw [hll], by omega, ⟨rfl, by rw [hll]; unfold maxLen at hm; omega, fun _ => ⟨a, rfl, fun j p hp => (hq j p hp).2⟩⟩, fun y hy => ?_, hm⟩
    obtain ⟨j, hj⟩ := List.getElem?_of_mem hy
    exact (hq j y hj).1
end
end Go.Proofs.Ytdfbdgnapjpblaa.X
/- Running the printed functions: 'W g P': from some number of rounds on g answers, and the answer meets P. -/
namespace Go.Proofs.Ytdfbdgnapjpblaa.Wp
open Go.RowKit Go.Proofs.YtdfbdgnapjpblaaW.PrintWords
set_option linter.unusedVariables false
set_option linter.unusedSimpArgs false

def W {α : Type} (g : Nat → Option α) (P : α → Prop) : Prop := ∃ r, P r ∧ ∃ K, ∀ k, K ≤ k → g k = some r

theorem W.ret {α : Type} {r : α} {P : α → Prop} (h : P r) : W (fun _ => some r) P := ⟨r, h, 0, fun _ _ => rfl⟩

theorem W.bind {α β : Type} {g : Nat → Option α} {f : Nat → α → Option β} {P : β → Prop} {Q : α → Prop} (h : W g Q) (hk : ∀ a, Q a → W (fun k => f k a) P) : W (fun k => (g k).bind (f k)) P := by
  obtain ⟨a, ha, K, h⟩ := h
  obtain ⟨r, hr, K', h'⟩ := hk a ha
  refine ⟨r, hr, max K K', fun k hle => ?_⟩
  have h1 := h k (by omega)
  have h2 := h' k (by omega)
  simp only [h1, Option.bind_some]
  exact h2

theorem W.bind_eq {α β : Type} {g : Nat → Option α} {f : Nat → α → Option β} {P : β → Prop} {a : α} (h : W g (· = a)) (hk : W (fun k => f k a) P) : W (fun k => (g k).bind (f k)) P :=
  W.bind h (fun b hb => by subst hb; exact hk)

theorem W.step {α : Type} {g f : Nat → Option α} {P : α → Prop} (h : ∀ k, g (k + 1) = f k) (w : W f P) : W g P := by
  obtain ⟨r, hr, K, w⟩ := w
  refine ⟨r, hr, K + 1, fun k hk => ?_⟩
  obtain ⟨m, rfl⟩ : ∃ m, k = m + 1 := ⟨k - 1, by omega⟩
  rw [h]
  exact w m (by omega)

theorem W.congr {α : Type} {g f : Nat → Option α} {P : α → Prop} (h : ∀ k, g k = f k) (w : W f P) : W g P := by
  obtain ⟨r, hr, K, w⟩ := w
  exact ⟨r, hr, K, fun k hk => (h k).trans (w k hk)⟩

theorem W.ite {α : Type} {c : Prop} [Decidable c] {a b : Nat → Option α} {P : α → Prop} (h1 : c → W a P) (h2 : ¬c → W b P) : W (fun k => if c then a k else b k) P := by
  by_cases h : c
  · simp only [if_pos h]; exact h1 h
  · simp only [if_neg h]; exact h2 h

theorem W.pos {α : Type} {c : Prop} [Decidable c] {a b : Nat → Option α} {P : α → Prop} (h : c) (w : W a P) : W (fun k => if c then a k else b k) P := W.ite (fun _ => w) (fun h' => absurd h h')
theorem W.neg {α : Type} {c : Prop} [Decidable c] {a b : Nat → Option α} {P : α → Prop} (h : ¬ c) (w : W b P) : W (fun k => if c then a k else b k) P := W.ite (fun h' => absurd h' h) (fun _ => w)
theorem W.call {α β : Type} {x : Option α} {r : α} {f : Nat → α → Option β} {P : β → Prop} (h : x = some r) (w : W (fun k => f k r) P) : W (fun k => x.bind (f k)) P := by
  subst h; exact w
theorem W.rounds {α : Type} {g : Nat → Option α} {r : α} (h : W g (· = r)) : ∃ k, g k = some r := by
  obtain ⟨a, rfl, K, h⟩ := h
  exact ⟨K, h K (Nat.le_refl _)⟩

/-- A loop: a measure, an invariant. -/
theorem W.loop {α σ : Type} {l : σ → Nat → Option α} {P : σ → α → Prop} (I : σ → Prop) (m : σ → Nat) (h : ∀ s, I s → (∀ s', I s' → m s' < m s → W (l s') (P s')) → W (l s) (P s)) : ∀ s, I s → W (l s) (P s) := by
  have key : ∀ n s, m s < n → I s → W (l s) (P s) := by
    intro n
    induction n with
    | zero => intro s hs; omega
    | succ n ih => intro s hs hi; exact h s hi (fun s' hi' hm => ih s' (by omega) hi')
  intro s hi
  exact key (m s + 1) s (by omega) hi

theorem w64 {x : Int} (h : -9223372036854775808 ≤ x) (h' : x ≤ 9223372036854775807) : wrap64 x = x := by
  unfold wrap64; omega

end Go.Proofs.Ytdfbdgnapjpblaa.Wp
/- Lists of numbers: read, set, cut. No program in sight. -/
namespace Go.Proofs.Ytdfbdgnapjpblaa.ThB
open Go.RowKit Go.Proofs.YtdfbdgnapjpblaaW.PrintWords
set_option linter.unusedVariables false
set_option linter.unusedSimpArgs false
end Go.Proofs.Ytdfbdgnapjpblaa.ThB
/- Lists as tables. No program in sight. -/
namespace Go.Proofs.Ytdfbdgnapjpblaa.ThT
open Go.RowKit Go.Proofs.YtdfbdgnapjpblaaW.PrintWords Go.Proofs.Ytdfbdgnapjpblaa.ThB
set_option linter.unusedVariables false
set_option linter.unusedSimpArgs false

def tab {α : Type} (f : Nat → α) : Nat → List α
  | 0 => []
  | n + 1 => tab f n ++ [f n]
theorem tab_succ {α : Type} (f : Nat → α) (n : Nat) : tab f (n + 1) = tab f n ++ [f n] := rfl
theorem tab_len {α : Type} (f : Nat → α) : ∀ n, (tab f n).length = n
  | 0 => rfl
  | n + 1 => by rw [tab_succ, List.length_append, tab_len f n]; rfl
theorem tab_get {α : Type} (f : Nat → α) : ∀ (n i : Nat), i < n → (tab f n)[i]? = some (f i)
  | 0, i, h => by omega
  | n + 1, i, h => by
    have hl := tab_len f n
    rw [tab_succ]
    by_cases e : i = n
    · subst e; rw [List.getElem?_append_right (by omega), hl, Nat.sub_self]; rfl
    · rw [List.getElem?_append_left (by omega)]; exact tab_get f n i (by omega)
theorem tab_of {α : Type} (d : α) (l : List α) : l = tab (fun i => rdOf d l i) l.length := by
  apply List.ext_getElem?
  intro i
  by_cases c : i < l.length
  · rw [tab_get _ _ i c]
    unfold rdOf
    rw [List.getD_eq_getElem?_getD, Int.toNat_natCast, List.getElem?_eq_getElem c]
    rfl
  · rw [List.getElem?_eq_none (by omega), List.getElem?_eq_none (by rw [tab_len]; omega)]
/-- A table with n entries, of which the first i are laid. -/
theorem tab_set {α : Type} (d : α) (f : Nat → α) (n i : Nat) (h : i < n) : (tab f i ++ List.replicate (n - i) d).set i (f i) = tab f (i + 1) ++ List.replicate (n - (i + 1)) d := by
  have hl := tab_len f i
  have e : n - i = (n - (i + 1)) + 1 := by omega
  rw [List.set_append_right _ _ (by omega), hl, Nat.sub_self, e, List.replicate_succ, List.set_cons_zero, tab_succ, List.append_assoc]
  rfl
end Go.Proofs.Ytdfbdgnapjpblaa.ThT
/- Texts as bytes: parts, sums, equality. -/
namespace Go.Proofs.Ytdfbdgnapjpblaa.Ev
open Go.RowKit Go.Proofs.YtdfbdgnapjpblaaW.PrintWords
set_option linter.unusedVariables false
set_option linter.unusedSimpArgs false

theorem bt_eq (s : ByteArray) {i : Int} (h0 : 0 ≤ i) (h : i < s.size) : ∃ h' : i.toNat < s.size, bt s i = (s[i.toNat]'h').toNat := by
  have h' : i.toNat < s.size := by omega
  exact ⟨h', by unfold bt; rw [dif_pos h']⟩
end Go.Proofs.Ytdfbdgnapjpblaa.Ev
/- What the printed functions answer, part Hk: lists of hunks measured, copied, compared. -/
namespace Go.Proofs.Ytdfbdgnapjpblaa.Ev
open Go.RowKit Go.Proofs.Ytdfbdgnapjpblaa.X Go.Proofs.Ytdfbdgnapjpblaa.Wp Go.Proofs.YtdfbdgnapjpblaaW.PrintWords Go.Proofs.Ytdfbdgnapjpblaa.ThT
set_option linter.unusedVariables false
set_option linter.unusedSimpArgs false

theorem rdo_mem {l : List ByteArray} {i : Int} (h0 : 0 ≤ i) (h : i < l.length) : rdOf ByteArray.empty l i ∈ l := by
  unfold rdOf
  rw [List.getD_eq_getElem?_getD, List.getElem?_eq_getElem (by omega)]
  exact List.getElem_mem _
theorem rdo_get (l : List ByteArray) {n : Nat} (h : n < l.length) : l[n]? = some (rdOf ByteArray.empty l n) := by
  unfold rdOf
  rw [List.getD_eq_getElem?_getD, Int.toNat_natCast, List.getElem?_eq_getElem h]; rfl
theorem r35_get (l : List S35) {n : Nat} (h : n < l.length) : l[n]? = some (rd_T35 l n) := by
  unfold rd_T35
  rw [List.getD_eq_getElem?_getD, Int.toNat_natCast, List.getElem?_eq_getElem h]; rfl
theorem r38_get (l : List S38) {n : Nat} (h : n < l.length) : l[n]? = some (rd_T38 l n) := by
  unfold rd_T38
  rw [List.getD_eq_getElem?_getD, Int.toNat_natCast, List.getElem?_eq_getElem h]; rfl
theorem r35_drop (l : List S35) {n : Nat} (h : n < l.length) : l.drop n = rd_T35 l n :: l.drop (n + 1) := by
  rw [List.drop_eq_getElem_cons h]
  have := r35_get l h
  rw [List.getElem?_eq_getElem h] at this
  injection this with this
  rw [this]
theorem all_take {α : Type} {P : α → Prop} {l : List α} {n : Nat} {x : α} (h : ∀ y ∈ l.take n, P y) (hx : l[n]? = some x) (hp : P x) : ∀ y ∈ l.take (n + 1), P y := by
  intro y hy
  rw [List.take_add_one, hx, List.mem_append] at hy
  rcases hy with hy | hy
  · exact h y hy
  · have : y = x := by simpa using hy
    subst this; exact hp

theorem szStrings (l : List ByteArray) (a : Int) (h0 : 0 ≤ a) (h1 : a ≤ 1048576) (hl : l.length ≤ maxLen) (hs : ∀ x ∈ l, x.size ≤ maxLen) : W (fun k => laws_szStringS.f k l a) (fun r => r < 0 ∨ (0 ≤ r ∧ r ≤ a ∧ l.length ≤ a ∧ ∀ x ∈ l, (x.size : Int) ≤ a)) := by
  have hm : maxLen = 9223372036854775807 := rfl
  unfold laws_szStringS.f
  rw [w64 (x := a - (l.length : Int)) (by omega) (by omega)]
  refine W.ite (fun h => W.ret (.inl (by decide))) (fun hge => ?_)
  have key := W.loop (σ := Int × Nat) (l := fun x k => laws_szStringS.l0 k l x.1 x.2) (P := fun _ r => r < 0 ∨ (0 ≤ r ∧ r ≤ a ∧ l.length ≤ a ∧ ∀ x ∈ l, (x.size : Int) ≤ a)) (fun x => 0 ≤ x.1 ∧ x.1 ≤ a ∧ x.2 ≤ l.length ∧ ∀ y ∈ l.take x.2, (y.size : Int) ≤ a) (fun x => l.length - x.2) (by
    rintro ⟨b, n⟩ ⟨b0, b1, hn, hy⟩ ih
    dsimp only at b0 b1 hn hy ⊢
    refine W.step (fun k => laws_szStringS.l0.eq_2 ..) ?_
    by_cases hlt : n < l.length
    · have hsz := hs _ (rdo_mem (l := l) (i := n) (by omega) (by omega))
      rw [w64 (x := b - ((rdOf ByteArray.empty l n).size : Int)) (by omega) (by omega), w64 (x := (n : Int) + 1) (by omega) (by omega)]
      refine W.pos (by omega) (W.pos (by omega) (W.ite (fun _ => W.ret (.inl (by decide))) (fun hb => ?_)))
      have next := ih (b - ((rdOf ByteArray.empty l n).size : Int), n + 1) ⟨by dsimp only; omega, by dsimp only; omega, by dsimp only; omega, all_take hy (rdo_get l hlt) (by omega)⟩ (by dsimp only; omega)
      dsimp only at next
      rw [show ((n + 1 : Nat) : Int) = (n : Int) + 1 from by omega] at next
      exact next
    · have e : n = l.length := by omega
      subst e
      rw [List.take_length] at hy
      exact W.neg (by omega) (W.ret (.inr ⟨b0, b1, by omega, hy⟩))) (a - l.length, 0) ⟨by dsimp only; omega, by dsimp only; omega, Nat.zero_le _, fun y hy => by simp at hy⟩
  exact key
/-- A list of hunks of bounded size. -/
def Bnd (l : List S38) : Prop := l.length ≤ 1048576 ∧ ∀ y ∈ l, y.f2.length ≤ 1048576 ∧ ∀ x ∈ y.f2, x.size ≤ 1048576
theorem szHunksW (l : List S38) (hl : l.length ≤ maxLen) (hk : ∀ y ∈ l, HkOk y) : W (fun k => laws_szHunkS.f k l 1048576) (fun r => r < 0 ∨ Bnd l) := by
  have hm : maxLen = 9223372036854775807 := rfl
  unfold laws_szHunkS.f
  rw [w64 (x := 1048576 - (l.length : Int)) (by omega) (by omega)]
  refine W.ite (fun h => W.ret (.inl (by decide))) (fun hge => ?_)
  have key := W.loop (σ := Int × Nat) (l := fun x k => laws_szHunkS.l0 k l x.1 x.2) (P := fun _ r => r < 0 ∨ Bnd l) (fun x => 0 ≤ x.1 ∧ x.1 ≤ 1048576 ∧ x.2 ≤ l.length ∧ ∀ y ∈ l.take x.2, y.f2.length ≤ 1048576 ∧ ∀ x ∈ y.f2, x.size ≤ 1048576) (fun x => l.length - x.2) (by
    rintro ⟨b, n⟩ ⟨b0, b1, hn, hy⟩ ih
    dsimp only at b0 b1 hn hy ⊢
    refine W.step (fun k => laws_szHunkS.l0.eq_2 ..) ?_
    by_cases hlt : n < l.length
    · have hg := r38_get l hlt
      have hok := hk _ (List.mem_of_getElem? hg)
      rw [w64 (x := (n : Int) + 1) (by omega) (by omega)]
      refine W.pos (by omega) (W.pos (by omega) ?_)
      have hone : W (fun k => laws_szHunk.f k (rd_T38 l n).f0 (rd_T38 l n).f1 (rd_T38 l n).f2 b) (fun r => r < 0 ∨ (0 ≤ r ∧ r ≤ b ∧ (rd_T38 l n).f2.length ≤ b ∧ ∀ x ∈ (rd_T38 l n).f2, (x.size : Int) ≤ b)) := by
        unfold laws_szHunk.f
        refine W.bind (szStrings _ b b0 b1 hok.len hok.sz) (fun r hr => W.ite (fun h => W.ret (.inl (by decide))) (fun h => W.ret ?_))
        rcases hr with hr | hr
        · omega
        · exact .inr hr
      refine W.bind hone (fun r hr => W.ite (fun h => W.ret (.inl (by decide))) (fun h => ?_))
      rcases hr with hr | ⟨r0, r1, r2, r3⟩
      · omega
      have next := ih (r, n + 1) ⟨r0, by dsimp only; omega, by dsimp only; omega, all_take hy hg ⟨by omega, fun x hx => by have := r3 x hx; omega⟩⟩ (by dsimp only; omega)
      dsimp only at next
      rw [show ((n + 1 : Nat) : Int) = (n : Int) + 1 from by omega] at next
      exact next
    · have e : n = l.length := by omega
      subst e
      rw [List.take_length] at hy
      exact W.neg (by omega) (W.ret (.inr ⟨by omega, hy⟩))) (1048576 - l.length, 0) ⟨by dsimp only; omega, by dsimp only; omega, Nat.zero_le _, fun y hy => by simp at hy⟩
  exact key
theorem toStrings (l : List ByteArray) (hl : l.length ≤ 1048576) : W (fun k => laws_toStringS.f k l) (· = l) := by
  unfold laws_toStringS.f
  refine W.pos (by omega) (W.pos (by omega) ?_)
  have hof := tab_of ByteArray.empty l
  have key := W.loop (l := fun (n : Nat) k => laws_toStringS.l0 k l (tab (fun i => rdOf ByteArray.empty l i) n ++ List.replicate (l.length - n) ByteArray.empty) n) (P := fun _ r => r = l) (fun n => n ≤ l.length) (fun n => l.length - n) (by
    intro n hn ih
    refine W.step (fun k => laws_toStringS.l0.eq_2 ..) ?_
    by_cases hlt : n < l.length
    · have next := ih (n + 1) (by omega) (by omega)
      have hz : (tab (fun i => rdOf ByteArray.empty l i) n ++ List.replicate (l.length - n) ByteArray.empty).length = l.length := by
        rw [List.length_append, tab_len, List.length_replicate]; omega
      rw [← tab_set ByteArray.empty (fun i => rdOf ByteArray.empty l i) l.length n hlt, show ((n + 1 : Nat) : Int) = (n : Int) + 1 from by omega] at next
      rw [w64 (x := (n : Int) + 1) (by omega) (by omega), Int.toNat_natCast]
      exact W.pos (by omega) (W.pos (by omega) (W.pos (by omega) next))
    · have e : n = l.length := by omega
      subst e
      refine W.neg (by omega) (W.ret ?_)
      rw [Nat.sub_self, List.replicate_zero, List.append_nil, ← hof]) 0 (Nat.zero_le _)
  rw [show (((l.length : Nat) : Int)).toNat = l.length from rfl]
  exact key
/-- A hunk of the law's as one of the program's. -/
def cv (y : S38) : S35 := ⟨y.f0, y.f1, y.f2⟩
theorem toHunksW (l : List S38) (hb : Bnd l) : W (fun k => laws_toHunkS.f k l) (· = l.map cv) := by
  have hl := hb.1
  unfold laws_toHunkS.f
  refine W.pos (by omega) (W.pos (by omega) ?_)
  have hof : l.map cv = tab (fun i => cv (rd_T38 l i)) l.length := by
    apply List.ext_getElem?
    intro i
    by_cases c : i < l.length
    · rw [tab_get _ _ i c, List.getElem?_map, r38_get l c]; rfl
    · rw [List.getElem?_eq_none (by rw [List.length_map]; omega), List.getElem?_eq_none (by rw [tab_len]; omega)]
  have key := W.loop (l := fun (n : Nat) k => laws_toHunkS.l0 k l (tab (fun i => cv (rd_T38 l i)) n ++ List.replicate (l.length - n) z35) n) (P := fun _ r => r = l.map cv) (fun n => n ≤ l.length) (fun n => l.length - n) (by
    intro n hn ih
    refine W.step (fun k => laws_toHunkS.l0.eq_2 ..) ?_
    by_cases hlt : n < l.length
    · have next := ih (n + 1) (by omega) (by omega)
      have hok := hb.2 _ (List.mem_of_getElem? (r38_get l hlt))
      have hz : (tab (fun i => cv (rd_T38 l i)) n ++ List.replicate (l.length - n) z35).length = l.length := by
        rw [List.length_append, tab_len, List.length_replicate]; omega
      rw [← tab_set z35 (fun i => cv (rd_T38 l i)) l.length n hlt, show ((n + 1 : Nat) : Int) = (n : Int) + 1 from by omega] at next
      rw [w64 (x := (n : Int) + 1) (by omega) (by omega), Int.toNat_natCast]
      refine W.pos (by omega) (W.pos (by omega) ?_)
      have hone : W (fun k => laws_toHunk.f k (rd_T38 l n).f0 (rd_T38 l n).f1 (rd_T38 l n).f2) (· = ((rd_T38 l n).f0, (rd_T38 l n).f1, (rd_T38 l n).f2)) := by
        unfold laws_toHunk.f
        exact W.bind_eq (toStrings _ hok.1) (W.ret rfl)
      exact W.bind_eq hone (W.pos (by omega) next)
    · have e : n = l.length := by omega
      subst e
      refine W.neg (by omega) (W.ret ?_)
      rw [Nat.sub_self, List.replicate_zero, List.append_nil, hof]) 0 (Nat.zero_le _)
  rw [show (((l.length : Nat) : Int)).toNat = l.length from rfl]
  exact key
theorem eqStrsW (l : List ByteArray) (hl : l.length ≤ 140737488351232) : W (fun k => laws_eqStringS.f k l l) (· = true) := by
  unfold laws_eqStringS.f
  refine W.pos rfl ?_
  have key := W.loop (l := fun (n : Nat) k => laws_eqStringS.l0 k l l n) (P := fun _ r => r = true) (fun n => n ≤ l.length) (fun n => l.length - n) (by
    intro n hn ih
    refine W.step (fun k => laws_eqStringS.l0.eq_2 ..) ?_
    by_cases hlt : n < l.length
    · have next := ih (n + 1) (by omega) (by omega)
      rw [show ((n + 1 : Nat) : Int) = (n : Int) + 1 from by omega] at next
      rw [w64 (x := (n : Int) + 1) (by omega) (by omega)]
      exact W.pos (by omega) (W.pos (by omega) (W.pos (by omega) (W.pos rfl next)))
    · exact W.neg (by omega) (W.ret rfl)) 0 (Nat.zero_le _)
  exact key
/-- A list of the program's hunks of bounded size. -/
def Bnd5 (l : List S35) : Prop := l.length ≤ 1048576 ∧ ∀ y ∈ l, y.f2.length ≤ 1048576 ∧ ∀ x ∈ y.f2, x.size ≤ 1048576
theorem Bnd.cv {l : List S38} (h : Bnd l) : Bnd5 (l.map cv) := by
  refine ⟨by rw [List.length_map]; exact h.1, fun y hy => ?_⟩
  rw [List.mem_map] at hy
  obtain ⟨z, hz, rfl⟩ := hy
  exact h.2 z hz
theorem eqHunksW (l : List S35) (hb : Bnd5 l) : W (fun k => laws_eqHunkS.f k l l) (· = true) := by
  have hl := hb.1
  unfold laws_eqHunkS.f
  refine W.pos rfl ?_
  have key := W.loop (l := fun (n : Nat) k => laws_eqHunkS.l0 k l l n) (P := fun _ r => r = true) (fun n => n ≤ l.length) (fun n => l.length - n) (by
    intro n hn ih
    refine W.step (fun k => laws_eqHunkS.l0.eq_2 ..) ?_
    by_cases hlt : n < l.length
    · have next := ih (n + 1) (by omega) (by omega)
      have hok := hb.2 _ (List.mem_of_getElem? (r35_get l hlt))
      rw [show ((n + 1 : Nat) : Int) = (n : Int) + 1 from by omega] at next
      rw [w64 (x := (n : Int) + 1) (by omega) (by omega)]
      have hone : W (fun k => laws_eqHunk.f k (rd_T35 l n).f0 (rd_T35 l n).f1 (rd_T35 l n).f2 (rd_T35 l n).f0 (rd_T35 l n).f1 (rd_T35 l n).f2) (· = true) := by
        unfold laws_eqHunk.f
        exact W.pos rfl (W.pos rfl (W.bind_eq (eqStrsW _ (by omega)) (W.pos rfl (W.ret rfl))))
      exact W.pos (by omega) (W.pos (by omega) (W.pos (by omega) (W.bind_eq hone (W.pos rfl next))))
    · exact W.neg (by omega) (W.ret rfl)) 0 (Nat.zero_le _)
  exact key
end Go.Proofs.Ytdfbdgnapjpblaa.Ev
/- What the printed functions answer, part A: valid texts, places, ranges. -/
namespace Go.Proofs.Ytdfbdgnapjpblaa.Ev
open Go.RowKit Go.Proofs.Ytdfbdgnapjpblaa.X Go.Proofs.Ytdfbdgnapjpblaa.Wp Go.Proofs.YtdfbdgnapjpblaaW.PrintWords
set_option linter.unusedVariables false
set_option linter.unusedSimpArgs false

def okB (c : Int) : Prop := c = 10 ∨ (32 ≤ c ∧ c ≤ 126)
instance (c : Int) : Decidable (okB c) := by unfold okB; infer_instance
/-- A valid text. -/
def VT (s : ByteArray) : Prop := s.size ≤ 120 ∧ ∀ j : Int, 0 ≤ j → j < s.size → okB (bt s j)

noncomputable instance (s : ByteArray) : Decidable (VT s) := Classical.propDecidable _

theorem isByte_eq (c : Int) : impl_isByte.f c = some (decide (okB c)) := by
  unfold impl_isByte.f okB
  by_cases h1 : c = 10
  · simp [h1]
  · by_cases h2 : c ≥ 32
    · simp [h1, h2]
    · have : ¬ 32 ≤ c := h2
      simp [h1, this]
theorem in_eq (a b c : Int) : impl_in.f a b c = some (decide (b ≤ a ∧ a ≤ c)) := by
  unfold impl_in.f
  by_cases h : b ≤ a <;> simp [h]
theorem l1In_eq (a b c : Int) : spec_l1In.f a b c = some (decide (b ≤ a ∧ a ≤ c)) := by
  unfold spec_l1In.f
  by_cases h : b ≤ a
  · simp [h]
  · have : ¬ a ≥ b := h
    simp [h]
theorem implTV (s : ByteArray) (hs : s.size ≤ 140737488351232) : W (fun k => impl_TextValid.f k s) (fun b => b = true ↔ VT s) := by
  unfold impl_TextValid.f
  refine W.loop (l := fun i k => impl_TextValid.l0 k s s.size i) (P := fun _ b => b = true ↔ VT s) (fun i => 0 ≤ i ∧ i ≤ s.size ∧ ∀ j, 0 ≤ j → j < i → okB (bt s j)) (fun i => (s.size - i).toNat) ?_ 0 ⟨by omega, by omega, fun j h0 h1 => by omega⟩
  intro i ⟨h0, h1, h2⟩ ih
  refine W.step (fun k => impl_TextValid.l0.eq_2 ..) ?_
  by_cases hlt : i < s.size
  · simp (disch := omega) only [if_pos, w64, isByte_eq, Option.bind_some]
    by_cases hb : okB (bt s i)
    · simp only [hb, decide_true, if_true]
      exact ih (i + 1) ⟨by omega, by omega, fun j h3 h4 => by
        by_cases e : j = i
        · subst e; exact hb
        · exact h2 j h3 (by omega)⟩ (by omega)
    · simp only [hb, decide_false]
      exact W.ret ⟨fun h => by simp at h, fun h => absurd (h.2 i h0 hlt) hb⟩
  · simp (disch := omega) only [if_neg]
    refine W.ret ?_
    simp only [decide_eq_true_eq]
    exact ⟨fun h => ⟨by omega, fun j h3 h4 => h2 j h3 (by omega)⟩, fun h => by have := h.1; omega⟩

theorem specPlain (s : ByteArray) (hs : s.size ≤ 140737488351232) : W (fun k => spec_l1Plain.f k s) (fun b => b = true ↔ ∀ j : Int, 0 ≤ j → j < s.size → okB (bt s j)) := by
  unfold spec_l1Plain.f
  refine W.loop (l := fun i k => spec_l1Plain.l0 k s i) (P := fun _ b => b = true ↔ ∀ j : Int, 0 ≤ j → j < s.size → okB (bt s j)) (fun i => 0 ≤ i ∧ i ≤ s.size ∧ ∀ j, 0 ≤ j → j < i → okB (bt s j)) (fun i => (s.size - i).toNat) ?_ 0 ⟨by omega, by omega, fun j h0 h1 => by omega⟩
  intro i ⟨h0, h1, h2⟩ ih
  refine W.step (fun k => spec_l1Plain.l0.eq_2 ..) ?_
  have hr := bt_range s i
  by_cases hlt : i < s.size
  · simp (disch := omega) only [if_pos, w64, l1In_eq, Option.bind_some]
    have next : okB (bt s i) → ∀ j, 0 ≤ j → j < i + 1 → okB (bt s j) := fun hb j h3 h4 => by
      by_cases e : j = i
      · subst e; exact hb
      · exact h2 j h3 (by omega)
    refine W.ite (fun hc => ih (i + 1) ⟨by omega, by omega, next (.inl hc)⟩ (by omega)) (fun hc => ?_)
    refine W.ite (fun hd => ih (i + 1) ⟨by omega, by omega, next (.inr (by simpa using hd))⟩ (by omega)) (fun hd => ?_)
    refine W.ret ⟨fun h => by simp at h, fun h => ?_⟩
    rcases h i h0 hlt with h | h
    · exact absurd h hc
    · exact absurd (by simpa using h) hd
  · simp (disch := omega) only [if_neg]
    exact W.ret ⟨fun _ j h3 h4 => h2 j h3 (by omega), fun _ => rfl⟩

theorem specTV (s : ByteArray) (hs : s.size ≤ 140737488351232) : W (fun k => spec_TextValid.f k s) (fun b => b = true ↔ VT s) := by
  unfold spec_TextValid.f
  refine W.ite (fun h => ?_) (fun h => ?_)
  · refine W.bind (specPlain s hs) (fun b hb => W.ret ?_)
    rw [hb]
    exact ⟨fun h' => ⟨by omega, h'⟩, fun h' => h'.2⟩
  · exact W.ret ⟨fun h' => by simp at h', fun h' => by have := h'.1; omega⟩
end Go.Proofs.Ytdfbdgnapjpblaa.Ev
/- The plain law of lines: line ends counted, where lines begin and end. No program in sight. -/
namespace Go.Proofs.Ytdfbdgnapjpblaa.ThL
open Go.RowKit Go.Proofs.YtdfbdgnapjpblaaW.PrintWords Go.Proofs.Ytdfbdgnapjpblaa.Ev
set_option linter.unusedVariables false
set_option linter.unusedSimpArgs false

/-- How many line ends stand before place p. -/
def nl (s : ByteArray) : Nat → Nat
  | 0 => 0
  | n + 1 => nl s n + if bt s n = 10 then 1 else 0
theorem nl_step (s : ByteArray) (n : Nat) : nl s (n + 1) = nl s n + if bt s n = 10 then 1 else 0 := rfl
theorem nl_mono (s : ByteArray) {a b : Nat} (h : a ≤ b) : nl s a ≤ nl s b := by
  induction b with
  | zero => have : a = 0 := by omega
            subst this; exact Nat.le_refl _
  | succ b ih =>
    by_cases e : a = b + 1
    · subst e; exact Nat.le_refl _
    · have := ih (by omega)
      rw [nl_step]; omega
theorem nl_le (s : ByteArray) : ∀ n, nl s n ≤ n
  | 0 => Nat.le_refl _
  | n + 1 => by have := nl_le s n; rw [nl_step]; split <;> omega
theorem nl_same (s : ByteArray) {a b : Nat} (h : a ≤ b) (hn : ∀ j : Int, a ≤ j → j < b → bt s j ≠ 10) : nl s b = nl s a := by
  induction b with
  | zero => have : a = 0 := by omega
            subst this; rfl
  | succ b ih =>
    by_cases e : a = b + 1
    · subst e; rfl
    · rw [nl_step, ih (by omega) (fun j h0 h1 => hn j h0 (by omega)), if_neg (hn b (by omega) (by omega))]; omega
theorem nl_lt (s : ByteArray) {a b : Nat} {j : Nat} (h : a ≤ j) (h2 : j < b) (hn : bt s j = 10) : nl s a < nl s b := by
  have h1 := nl_mono s h
  have h3 := nl_mono s (show j + 1 ≤ b from h2)
  rw [nl_step, if_pos hn] at h3
  omega

/-- The first line end from place p on, or the end of the text. -/
def fnlA (s : ByteArray) : Nat → Nat → Nat
  | 0, p => p
  | d + 1, p => if bt s p = 10 then p else fnlA s d (p + 1)
def fnl (s : ByteArray) (p : Nat) : Nat := fnlA s (s.size - p) p
/-- Where line k begins, where it ends. -/
def st (s : ByteArray) : Nat → Nat
  | 0 => 0
  | k + 1 => fnl s (st s k) + 1
def en (s : ByteArray) (k : Nat) : Nat := fnl s (st s k)
/-- Line k. -/
def lineAt (s : ByteArray) (k : Nat) : ByteArray := s.extract (st s k) (en s k)
/-- The first n lines. -/
def lns (s : ByteArray) : Nat → List ByteArray
  | 0 => []
  | n + 1 => lns s n ++ [lineAt s n]
/-- All lines. -/
def lines (s : ByteArray) : List ByteArray := lns s (nl s s.size + 1)
theorem nl_zero_iff (s : ByteArray) : nl s s.size = 0 ↔ ∀ j : Int, 0 ≤ j → j < s.size → bt s j ≠ 10 := by
  constructor
  · intro h j h0 h1 h2
    have := nl_lt s (a := 0) (b := s.size) (j := j.toNat) (by omega) (by omega) (by rw [show ((j.toNat : Nat) : Int) = j from by omega]; exact h2)
    omega
  · intro h
    have := nl_same s (a := 0) (b := s.size) (by omega) (fun j h0 h1 => h j (by omega) h1)
    rw [this]; rfl
end Go.Proofs.Ytdfbdgnapjpblaa.ThL
/- What the printed functions answer, part Ln: the reference's lines. -/
namespace Go.Proofs.Ytdfbdgnapjpblaa.Ev
open Go.RowKit Go.Proofs.Ytdfbdgnapjpblaa.X Go.Proofs.Ytdfbdgnapjpblaa.Wp Go.Proofs.YtdfbdgnapjpblaaW.PrintWords Go.Proofs.Ytdfbdgnapjpblaa.ThL
set_option linter.unusedVariables false
set_option linter.unusedSimpArgs false

theorem specLineMany (s : ByteArray) (hs : s.size ≤ 140737488351232) : W (fun k => spec_LineMany.f k s) (fun r => r = if VT s then (nl s s.size : Int) + 1 else -1) := by
  unfold spec_LineMany.f
  refine W.bind (specTV s hs) (fun b hb => W.ite (fun h => ?_) (fun h => ?_))
  · rw [if_pos (hb.1 h)]
    have key := W.loop (l := fun (n : Nat) k => spec_LineMany.l0 k s ((nl s n : Int) + 1) n) (P := fun _ r => r = (nl s s.size : Int) + 1) (fun n : Nat => n ≤ s.size) (fun n => s.size - n) (by
      intro n hn ih
      refine W.step (fun k => spec_LineMany.l0.eq_2 ..) ?_
      have hle := nl_le s n
      by_cases hlt : n < s.size
      · have next := ih (n + 1) (by omega) (by omega)
        rw [nl_step, show ((n + 1 : Nat) : Int) = (n : Int) + 1 from by omega] at next
        rw [w64 (x := (n : Int) + 1) (by omega) (by omega), w64 (x := (nl s n : Int) + 1 + 1) (by omega) (by omega)]
        refine W.pos (by omega) (W.pos (by omega) (W.ite (fun hc => ?_) (fun hc => ?_)))
        · rw [if_pos hc] at next; exact next
        · rw [if_neg hc] at next; exact next
      · have e : n = s.size := by omega
        subst e
        exact W.neg (by omega) (W.ret rfl)) 0 (by omega)
    exact key
  · rw [if_neg (fun hv => h (hb.2 hv))]
    exact W.ret rfl

end Go.Proofs.Ytdfbdgnapjpblaa.Ev
/- What the printed functions answer, part Sp: a text split at its line ends is its lines. -/

namespace Go.Proofs.Ytdfbdgnapjpblaa.Ev
open Go.RowKit Go.Proofs.Ytdfbdgnapjpblaa.X Go.Proofs.Ytdfbdgnapjpblaa.Wp Go.Proofs.YtdfbdgnapjpblaaW.PrintWords Go.Proofs.Ytdfbdgnapjpblaa.ThL Go.Proofs.Ytdfbdgnapjpblaa.ThT
set_option linter.unusedVariables false
set_option linter.unusedSimpArgs false

theorem data_get (s : ByteArray) (n : Nat) (c : UInt8) : s.data.toList[n]? = some c ↔ n < s.size ∧ bt s n = c.toNat := by
  have hlen : s.data.toList.length = s.size := by rw [Array.length_toList]; rfl
  constructor
  · intro h
    have hn : n < s.data.toList.length := by
      rcases Nat.lt_or_ge n s.data.toList.length with h1 | h1
      · exact h1
      · rw [List.getElem?_eq_none h1] at h; cases h
    rw [List.getElem?_eq_getElem hn] at h
    injection h with h
    refine ⟨by omega, ?_⟩
    obtain ⟨p, e⟩ := bt_eq s (i := (n : Int)) (by omega) (by omega)
    rw [e]
    simp only [Int.toNat_natCast]
    have : s[n]'(by omega) = s.data.toList[n]'hn := rfl
    rw [this, h]
  · rintro ⟨h1, h2⟩
    obtain ⟨p, e⟩ := bt_eq s (i := (n : Int)) (by omega) (by omega)
    rw [e] at h2
    rw [List.getElem?_eq_getElem (by omega)]
    congr 1
    apply UInt8.toNat_inj.1
    simp only [Int.toNat_natCast] at h2
    exact_mod_cast h2
theorem ib_cases (s : ByteArray) (c : UInt8) : (Lib.indexByte s.data.toList c = -1 ∧ ∀ j : Int, 0 ≤ j → j < s.size → bt s j ≠ c.toNat) ∨ ∃ o : Nat, Lib.indexByte s.data.toList c = o ∧ o < s.size ∧ bt s o = c.toNat ∧ ∀ j : Int, 0 ≤ j → j < o → bt s j ≠ c.toNat := by
  have hge := Lib.indexByte_ge s.data.toList c
  by_cases h : Lib.indexByte s.data.toList c = -1
  · refine .inl ⟨h, fun j h0 h1 h2 => ?_⟩
    exact Lib.indexByte_none h j.toNat ((data_get s _ _).2 ⟨by omega, by rw [show ((j.toNat : Nat) : Int) = j from by omega]; exact h2⟩)
  · obtain ⟨o, ho⟩ : ∃ o : Nat, Lib.indexByte s.data.toList c = o := ⟨(Lib.indexByte s.data.toList c).toNat, by omega⟩
    obtain ⟨h1, h2⟩ := Lib.indexByte_some ho
    obtain ⟨h3, h4⟩ := (data_get s _ _).1 h1
    refine .inr ⟨o, ho, h3, h4, fun j h0 h5 h6 => ?_⟩
    exact h2 j.toNat (by omega) ((data_get s _ _).2 ⟨by omega, by rw [show ((j.toNat : Nat) : Int) = j from by omega]; exact h6⟩)
theorem count10 (s : ByteArray) : ∀ n, n ≤ s.size → (s.data.toList.take n).count 10 = nl s n
  | 0, _ => by rw [List.take_zero]; rfl
  | n + 1, h => by
    rw [List.take_add_one, List.count_append, count10 s n (by omega), nl_step]
    have hn : n < s.data.toList.length := by rw [Array.length_toList]; exact h
    rw [List.getElem?_eq_getElem hn]
    have hg : s.data.toList[n]? = some (s.data.toList[n]'hn) := List.getElem?_eq_getElem hn
    by_cases e : bt s n = 10
    · have := (data_get s n 10).2 ⟨by omega, e⟩
      rw [hg] at this
      injection this with this
      rw [this, if_pos e]; rfl
    · rw [if_neg e]
      have hne : s.data.toList[n]'hn ≠ 10 := fun h2 => by
        rw [h2] at hg
        exact e ((data_get s n 10).1 hg).2
      rw [Option.toList_some, List.count_singleton, if_neg (by simpa using hne)]
theorem countNl (s : ByteArray) : Lib.countByte s.data.toList 10 = nl s s.size := by
  rw [← count10 s s.size (Nat.le_refl _)]
  unfold Lib.countByte
  rw [List.take_of_length_le]
  rw [Array.length_toList]; exact Nat.le_refl _

/-- The text from line i's beginning on. -/
def rest (s : ByteArray) (i : Nat) : ByteArray := s.extract (st s i) s.size
end Go.Proofs.Ytdfbdgnapjpblaa.Ev
/- What the printed functions answer, part Li: the program's lines. -/
namespace Go.Proofs.Ytdfbdgnapjpblaa.Ev
open Go.RowKit Go.Proofs.Ytdfbdgnapjpblaa.X Go.Proofs.Ytdfbdgnapjpblaa.Wp Go.Proofs.YtdfbdgnapjpblaaW.PrintWords Go.Proofs.Ytdfbdgnapjpblaa.ThL Go.Proofs.Ytdfbdgnapjpblaa.ThT Go.Proofs.Ytdfbdgnapjpblaa.ThB
set_option linter.unusedVariables false
set_option linter.unusedSimpArgs false

theorem implLineMany (s : ByteArray) (hs : s.size ≤ 140737488351232) : W (fun k => impl_LineMany.f k s) (fun r => r = if VT s then (nl s s.size : Int) + 1 else -1) := by
  unfold impl_LineMany.f
  refine W.bind (implTV s hs) (fun b hb => W.ite (fun h => ?_) (fun h => W.ret (by rw [if_neg (fun hv => h (hb.2 hv))])))
  rw [if_pos (hb.1 h)]
  have fin := nl_le s s.size
  refine W.call (show strings_Count.f s (⟨#[10]⟩ : ByteArray) = some (nl s s.size : Int) from by rw [show strings_Count.f s (⟨#[10]⟩ : ByteArray) = some ((Lib.countByte s.data.toList 10 : Nat) : Int) from rfl, countNl]) (W.ret ?_)
  rw [w64 (x := 1 + (nl s s.size : Int)) (by omega) (by omega)]; omega
end Go.Proofs.Ytdfbdgnapjpblaa.Ev
/- What the printed functions answer, part Hv: hunks that are valid, by the reference and by the program. -/
namespace Go.Proofs.Ytdfbdgnapjpblaa.Ev
open Go.RowKit Go.Proofs.Ytdfbdgnapjpblaa.X Go.Proofs.Ytdfbdgnapjpblaa.Wp Go.Proofs.YtdfbdgnapjpblaaW.PrintWords Go.Proofs.Ytdfbdgnapjpblaa.ThT Go.Proofs.Ytdfbdgnapjpblaa.ThL
set_option linter.unusedVariables false
set_option linter.unusedSimpArgs false

theorem has10 (s : ByteArray) : strings_Contains.f s (⟨#[10]⟩ : ByteArray) = some (decide (nl s s.size ≠ 0)) := by
  have h1 : strings_Contains.f s (⟨#[10]⟩ : ByteArray) = some (decide (0 ≤ Lib.indexByte s.data.toList 10)) := rfl
  rw [h1]
  congr 1
  rw [Bool.eq_iff_iff]
  simp only [decide_eq_true_eq]
  rw [Ne, nl_zero_iff]
  rcases ib_cases s 10 with ⟨e, h⟩ | ⟨o, e, h2, h3, h4⟩
  · rw [e]
    exact ⟨fun h => by omega, fun h2 => absurd h h2⟩
  · rw [e]
    exact ⟨fun _ h => h o (by omega) (by omega) h3, fun _ => by omega⟩
/-- A line. -/
def LnOk (x : ByteArray) : Prop := VT x ∧ nl x x.size = 0
/-- A hunk that may follow what ends at `e`, in a text of `N` lines. -/
def hOk (N : Int) (e : Int) (h : S35) : Prop := e < h.f0 ∧ 0 ≤ h.f0 ∧ h.f0 ≤ N ∧ 0 ≤ h.f1 ∧ h.f1 ≤ N - h.f0 ∧ ¬ (h.f1 = 0 ∧ h.f2.length = 0) ∧ ∀ x ∈ h.f2, LnOk x
def hsOk (N : Int) : Int → List S35 → Prop
  | _, [] => True
  | e, h :: l => hOk N e h ∧ hsOk N (h.f0 + h.f1) l
/-- Hunks that are valid upon a text. -/
def HV (s : ByteArray) (l : List S35) : Prop := VT s ∧ hsOk ((nl s s.size : Int) + 1) (-1) l
/-- Hunks of bounded size. -/
def Bn5 (l : List S35) : Prop := l.length ≤ 1048576 ∧ ∀ y ∈ l, y.f2.length ≤ 1048576 ∧ ∀ x ∈ y.f2, x.size ≤ 1048576

theorem specHLines (s : ByteArray) (l : List S35) (a f0 f1 : Int) (f2 : List ByteArray) (h1 : f2.length ≤ 1048576) (h2 : ∀ x ∈ f2, x.size ≤ 1048576) (Q : Bool → Prop) (bad : ¬ (∀ x ∈ f2, LnOk x) → Q false) (good : (∀ x ∈ f2, LnOk x) → W (fun k => spec_HunksValid.l0 k s l (wrap64 (f0 + f1)) (wrap64 (a + 1))) Q) : W (fun k => spec_HunksValid.l1 k s l a 0 f0 f1 f2) Q := by
  have key := W.loop (l := fun (n : Nat) k => spec_HunksValid.l1 k s l a n f0 f1 f2) (P := fun _ => Q) (fun n => n ≤ f2.length ∧ ∀ x ∈ f2.take n, LnOk x) (fun n => f2.length - n) (by
    intro n ⟨hn, ha⟩ ih
    refine W.step (fun k => spec_HunksValid.l1.eq_2 ..) ?_
    by_cases hlt : n < f2.length
    · have hm := rdo_mem (l := f2) (i := (n : Int)) (by omega) (by omega)
      refine W.pos (by omega) (W.pos (by omega) (W.bind_eq (specLineMany _ (by have := h2 _ hm; omega)) ?_))
      by_cases hv : LnOk (rdOf ByteArray.empty f2 n)
      · have next := ih (n + 1) ⟨by omega, all_take ha (rdo_get f2 hlt) hv⟩ (by omega)
        rw [if_pos hv.1, hv.2, w64 (x := (n : Int) + 1) (by omega) (by omega)]
        rw [show ((n + 1 : Nat) : Int) = (n : Int) + 1 from by omega] at next
        exact W.pos (by decide) next
      · refine W.neg ?_ (W.ret (bad (fun h => hv (h _ hm))))
        by_cases h3 : VT (rdOf ByteArray.empty f2 n)
        · rw [if_pos h3]
          intro h4
          exact hv ⟨h3, by omega⟩
        · rw [if_neg h3]; decide
    · have e : n = f2.length := by omega
      subst e
      rw [List.take_length] at ha
      exact W.neg (by omega) (good ha)) 0 ⟨Nat.zero_le _, fun x hx => by simp at hx⟩
  exact key
theorem specHV (s : ByteArray) (l : List S35) (hs : s.size ≤ 140737488351232) (hb : Bn5 l) : W (fun k => spec_HunksValid.f k s l) (fun b => b = true ↔ HV s l) := by
  unfold spec_HunksValid.f
  have hl := hb.1
  have fin := nl_le s s.size
  have key := W.loop (σ := Int × Nat) (l := fun x k => spec_HunksValid.l0 k s l x.1 x.2) (P := fun _ b => b = true ↔ HV s l) (fun x => x.2 ≤ l.length ∧ (HV s l ↔ VT s ∧ hsOk ((nl s s.size : Int) + 1) x.1 (l.drop x.2))) (fun x => l.length - x.2) (by
    rintro ⟨e, n⟩ ⟨hn, inv⟩ ih
    dsimp only at hn inv ⊢
    refine W.step (fun k => spec_HunksValid.l0.eq_2 ..) ?_
    by_cases hlt : n < l.length
    · rw [r35_drop l hlt] at inv
      obtain ⟨z1, z2⟩ := hb.2 _ (List.mem_of_getElem? (r35_get l hlt))
      revert inv z1 z2
      generalize hh : rd_T35 l n = h
      intro inv z1 z2
      have fail : ¬ (VT s ∧ hOk ((nl s s.size : Int) + 1) e h) → W (fun k => spec_HunksValid.j1 k s l n true h.f0 h.f1 h.f2) (fun b => b = true ↔ HV s l) := fun hno =>
        W.step (fun k => spec_HunksValid.j1.eq_2 ..) (W.pos rfl (W.ret ⟨fun h2 => by simp at h2, fun hv => absurd ⟨(inv.1 hv).1, (inv.1 hv).2.1⟩ hno⟩))
      refine W.pos (by omega) (W.pos (by omega) (W.ite (fun c => fail (fun hv => by have := hv.2.1; omega)) (fun c => ?_)))
      refine W.bind_eq (specLineMany s hs) (W.call (l1In_eq ..) ?_)
      by_cases hv : VT s
      · have hsz := hv.1
        rw [if_pos hv]
        refine W.ite (fun c2 => ?_) (fun c2 => fail (fun hv => c2 (by rw [decide_eq_true_eq]; exact ⟨hv.2.2.1, hv.2.2.2.1⟩)))
        rw [decide_eq_true_eq] at c2
        refine W.bind_eq (specLineMany s hs) (W.call (l1In_eq ..) ?_)
        rw [if_pos hv, w64 (x := (nl s s.size : Int) + 1 - h.f0) (by omega) (by omega)]
        refine W.ite (fun c3 => ?_) (fun c3 => fail (fun hv => c3 (by rw [decide_eq_true_eq]; exact ⟨hv.2.2.2.2.1, hv.2.2.2.2.2.1⟩)))
        rw [decide_eq_true_eq] at c3
        have go : ¬ (h.f1 = 0 ∧ h.f2.length = 0) → W (fun k => spec_HunksValid.j1 k s l n false h.f0 h.f1 h.f2) (fun b => b = true ↔ HV s l) := fun c4 => by
          refine W.step (fun k => spec_HunksValid.j1.eq_2 ..) (W.neg (by decide) (specHLines s l n h.f0 h.f1 h.f2 z1 z2 _ (fun hno => ⟨fun h2 => by simp at h2, fun hv => absurd (inv.1 hv).2.1.2.2.2.2.2.2 hno⟩) (fun hall => ?_)))
          rw [w64 (x := h.f0 + h.f1) (by omega) (by omega), w64 (x := (n : Int) + 1) (by omega) (by omega)]
          have next := ih (h.f0 + h.f1, n + 1) ⟨by dsimp only; omega, inv.trans ⟨fun a => ⟨a.1, a.2.2⟩, fun a => ⟨a.1, ⟨by omega, c2.1, c2.2, c3.1, c3.2, c4, hall⟩, a.2⟩⟩⟩ (by dsimp only; omega)
          dsimp only at next
          rw [show ((n + 1 : Nat) : Int) = (n : Int) + 1 from by omega] at next
          exact next
        refine W.ite (fun c4 => ?_) (fun c4 => go (fun h2 => c4 h2.1))
        by_cases c5 : h.f2.length = 0
        · rw [show ((h.f2.length : Int) == 0) = true from by rw [c5]; rfl]
          exact fail (fun hv => hv.2.2.2.2.2.2.1 ⟨c4, c5⟩)
        · rw [show ((h.f2.length : Int) == 0) = false from by
            rw [beq_eq_false_iff_ne]; omega]
          exact go (fun h2 => c5 h2.2)
      · rw [if_neg hv]
        exact W.neg (by rw [decide_eq_true_eq]; omega) (fail (fun h2 => hv h2.1))
    · have e2 : n = l.length := by omega
      subst e2
      refine W.neg (by omega) (W.bind (specTV s hs) (fun b hb2 => W.ret ?_))
      rw [List.drop_length] at inv
      exact hb2.trans ⟨fun h => inv.2 ⟨h, trivial⟩, fun h => (inv.1 h).1⟩) (-1, 0) ⟨Nat.zero_le _, Iff.rfl⟩
  exact key
theorem implHLines (l : List S35) (N a : Int) (n : Int) (f2 : List ByteArray) (h1 : f2.length ≤ 1048576) (h2 : ∀ x ∈ f2, x.size ≤ 1048576) (Q : Bool → Prop) (bad : ¬ (∀ x ∈ f2, LnOk x) → Q false) (good : (∀ x ∈ f2, LnOk x) → W (fun k => impl_HunksValid.l0 k l N l a (wrap64 (n + 1))) Q) : W (fun k => impl_HunksValid.l1 k l N l a n f2 f2.length 0) Q := by
  have key := W.loop (l := fun (m : Nat) k => impl_HunksValid.l1 k l N l a n f2 f2.length m) (P := fun _ => Q) (fun n => n ≤ f2.length ∧ ∀ x ∈ f2.take n, LnOk x) (fun n => f2.length - n) (by
    intro m ⟨hn, ha⟩ ih
    refine W.step (fun k => impl_HunksValid.l1.eq_2 ..) ?_
    by_cases hlt : m < f2.length
    · have hm := rdo_mem (l := f2) (i := (m : Int)) (by omega) (by omega)
      refine W.pos (by omega) (W.pos (by omega) (W.pos (by omega) (W.bind (implTV _ (by have := h2 _ hm; omega)) (fun b hb => W.ite (fun c => ?_) (fun c => W.ret (bad (fun h => c (hb.2 (h _ hm).1))))))))
      refine W.call (has10 _) (W.ite (fun c2 => W.ret (bad (fun h => ?_))) (fun c2 => ?_))
      · rw [decide_eq_true_eq] at c2
        exact c2 (h _ hm).2
      · have hv : LnOk (rdOf ByteArray.empty f2 m) := ⟨hb.1 c, Classical.byContradiction fun h => c2 (by rw [decide_eq_true_eq]; exact h)⟩
        have next := ih (m + 1) ⟨by omega, all_take ha (rdo_get f2 hlt) hv⟩ (by omega)
        rw [w64 (x := (m : Int) + 1) (by omega) (by omega)]
        rw [show ((m + 1 : Nat) : Int) = (m : Int) + 1 from by omega] at next
        exact next
    · have e : m = f2.length := by omega
      subst e
      rw [List.take_length] at ha
      exact W.neg (by omega) (good ha)) 0 ⟨Nat.zero_le _, fun x hx => by simp at hx⟩
  exact key
theorem implHV (s : ByteArray) (l : List S35) (hs : s.size ≤ 140737488351232) (hb : Bn5 l) : W (fun k => impl_HunksValid.f k s l) (fun b => b = true ↔ HV s l) := by
  unfold impl_HunksValid.f
  refine W.bind (implTV s hs) (fun b hb2 => W.ite (fun h => ?_) (fun h => W.ret ⟨fun h2 => by simp at h2, fun hv => absurd (hb2.2 hv.1) h⟩))
  have hv := hb2.1 h
  have hsz := hv.1
  have hl := hb.1
  have fin := nl_le s s.size
  refine W.bind_eq (implLineMany s hs) ?_
  rw [if_pos hv]
  have key := W.loop (σ := Int × Nat) (l := fun x k => impl_HunksValid.l0 k l ((nl s s.size : Int) + 1) l l.length x.2) (P := fun _ b => b = true ↔ HV s l) (fun x => x.2 ≤ l.length ∧ (HV s l ↔ hsOk ((nl s s.size : Int) + 1) x.1 (l.drop x.2)) ∧ -1 ≤ x.1 ∧ x.1 ≤ (nl s s.size : Int) + 1 ∧ ((x.2 = 0 ∧ x.1 = -1) ∨ (0 < x.2 ∧ x.1 = (rd_T35 l ((x.2 : Int) - 1)).f0 + (rd_T35 l ((x.2 : Int) - 1)).f1))) (fun x => l.length - x.2) (by
    rintro ⟨e, n⟩ ⟨hn, inv, e0, e1, he⟩ ih
    dsimp only at hn inv e0 e1 he ⊢
    refine W.step (fun k => impl_HunksValid.l0.eq_2 ..) ?_
    by_cases hlt : n < l.length
    · rw [r35_drop l hlt] at inv
      obtain ⟨z1, z2⟩ := hb.2 _ (List.mem_of_getElem? (r35_get l hlt))
      have fail : ¬ hOk ((nl s s.size : Int) + 1) e (rd_T35 l n) → W (fun k => impl_HunksValid.j1 k l ((nl s s.size : Int) + 1) l l.length n true (rd_T35 l n).f0 (rd_T35 l n).f1 (rd_T35 l n).f2) (fun b => b = true ↔ HV s l) := fun hno =>
        W.step (fun k => impl_HunksValid.j1.eq_2 ..) (W.pos rfl (W.ret ⟨fun h2 => by simp at h2, fun hv => absurd (inv.1 hv).1 hno⟩))
      refine W.pos (by omega) (W.pos (by omega) (W.pos (by omega) (W.call (in_eq ..) ?_)))
      refine W.ite (fun c2 => ?_) (fun c2 => fail (fun hv => c2 (by rw [decide_eq_true_eq]; exact ⟨hv.2.1, hv.2.2.1⟩)))
      rw [decide_eq_true_eq] at c2
      refine W.call (in_eq ..) ?_
      rw [w64 (x := (nl s s.size : Int) + 1 - (rd_T35 l n).f0) (by omega) (by omega)]
      refine W.ite (fun c3 => ?_) (fun c3 => fail (fun hv => c3 (by rw [decide_eq_true_eq]; exact ⟨hv.2.2.2.1, hv.2.2.2.2.1⟩)))
      rw [decide_eq_true_eq] at c3
      rw [w64 (x := (rd_T35 l n).f1 + ((rd_T35 l n).f2.length : Int)) (by omega) (by omega)]
      refine W.ite (fun c4 => fail (fun hv => hv.2.2.2.2.2.1 ⟨by omega, by omega⟩)) (fun c4 => ?_)
      have go : e < (rd_T35 l n).f0 → W (fun k => impl_HunksValid.j1 k l ((nl s s.size : Int) + 1) l l.length n false (rd_T35 l n).f0 (rd_T35 l n).f1 (rd_T35 l n).f2) (fun b => b = true ↔ HV s l) := fun c5 => by
        refine W.step (fun k => impl_HunksValid.j1.eq_2 ..) (W.neg (by decide) (implHLines l _ _ n (rd_T35 l n).f2 z1 z2 _ (fun hno => ⟨fun h2 => by simp at h2, fun hv => absurd (inv.1 hv).1.2.2.2.2.2.2 hno⟩) (fun hall => ?_)))
        rw [w64 (x := (n : Int) + 1) (by omega) (by omega)]
        have next := ih ((rd_T35 l n).f0 + (rd_T35 l n).f1, n + 1) ⟨by dsimp only; omega, inv.trans ⟨fun a => a.2, fun a => ⟨⟨c5, c2.1, c2.2, c3.1, c3.2, fun c6 => by omega, hall⟩, a⟩⟩, by dsimp only; omega, by dsimp only; omega, .inr ⟨Nat.succ_pos _, by dsimp only; rw [show ((n + 1 : Nat) : Int) - 1 = (n : Int) from by omega]⟩⟩ (by dsimp only; omega)
        dsimp only at next
        rw [show ((n + 1 : Nat) : Int) = (n : Int) + 1 from by omega] at next
        exact next
      rcases he with ⟨he1, he2⟩ | ⟨he1, he2⟩
      · exact W.neg (by omega) (go (by omega))
      · rw [w64 (x := (n : Int) - 1) (by omega) (by omega), ← he2, w64 (x := e) (by omega) (by omega)]
        refine W.pos (by omega) (W.pos (by omega) (W.pos (by omega) ?_))
        by_cases c5 : (rd_T35 l n).f0 ≤ e
        · rw [decide_eq_true c5]
          exact fail (fun hv => by have := hv.1; omega)
        · rw [decide_eq_false c5]
          exact go (by omega)
    · have e2 : n = l.length := by omega
      subst e2
      rw [List.drop_length] at inv
      exact W.neg (by omega) (W.ret ⟨fun _ => inv.2 trivial, fun _ => rfl⟩)) (-1, 0) ⟨Nat.zero_le _, ⟨fun h => h.2, fun h => ⟨hv, h⟩⟩, by decide, by dsimp only; omega, .inl ⟨rfl, rfl⟩⟩
  exact key
end Go.Proofs.Ytdfbdgnapjpblaa.Ev
namespace Go.Proofs.Ytdfbdgnapjpblaa.Pure
open Go.RowKit Go.Proofs.Ytdfbdgnapjpblaa.X Go.Proofs.Ytdfbdgnapjpblaa.Wp Go.Proofs.Ytdfbdgnapjpblaa.Ev Go.Proofs.YtdfbdgnapjpblaaW.PrintWords
set_option linter.unusedVariables false
set_option linter.unusedSimpArgs false

theorem FnExactHunksValid (s : ByteArray) (l : List S38) (hs : s.size ≤ 140737488351232) (hl : l.length ≤ maxLen) (hk : ∀ y ∈ l, HkOk y) : ∃ k, laws_FnExactHunksValid.f k s l = some true := by
  -- the row itself opens its list by hunks_C
  refine W.rounds (r := true) ?_
  unfold laws_FnExactHunksValid.f
  refine W.ite (fun _ => W.ret rfl) (fun hbig => W.bind (szHunksW l hl hk) (fun r hr => W.ite (fun _ => W.ret rfl) (fun h => ?_)))
  have hb : Bnd l := by
    rcases hr with hr | hr
    · exact absurd hr h
    · exact hr
  have h5 := hb.cv
  refine W.bind_eq (toHunksW l hb) (W.bind (specHV s _ hs h5) (fun b hb1 => W.bind_eq (toHunksW l hb) (W.bind (implHV s _ hs h5) (fun c hc => ?_))))
  have e : c = b := by rw [Bool.eq_iff_iff, hb1, hc]
  subst e
  exact W.neg (by simp) (W.bind_eq (toHunksW l hb) (W.bind_eq (eqHunksW _ h5) (W.pos rfl (W.ret rfl))))
end Go.Proofs.Ytdfbdgnapjpblaa.Pure
