/- Running the printed functions: 'W g P': from some number of rounds on g answers, and the answer meets P. -/
import Derived.Test.YtheglgphknahdaaDoorWMore
namespace Go.Proofs.YtheglgphknahdaaDoor.Wp
open Go.RowKit Go.Proofs.YtheglgphknahdaaDoorW.PrintWords
set_option linter.unusedVariables false
set_option linter.unusedSimpArgs false

def W {α : Type} (g : Nat → Option α) (P : α → Prop) : Prop := ∃ r, P r ∧ ∃ K, ∀ k, K ≤ k → g k = some r

theorem W.ret {α : Type} {r : α} {P : α → Prop} (h : P r) : W (fun _ => some r) P := ⟨r, h, 0, fun _ _ => rfl⟩

theorem W.mono {α : Type} {g : Nat → Option α} {P Q : α → Prop} (h : W g Q) (hk : ∀ a, Q a → P a) : W g P := by
  obtain ⟨r, hr, K, h⟩ := h
  exact ⟨r, hk r hr, K, h⟩

theorem W.bind {α β : Type} {g : Nat → Option α} {f : Nat → α → Option β} {P : β → Prop} {Q : α → Prop} (h : W g Q) (hk : ∀ a, Q a → W (fun k => f k a) P) : W (fun k => (g k).bind (f k)) P := by
  obtain ⟨a, ha, K, h⟩ := h
  obtain ⟨r, hr, K', h'⟩ := hk a ha
  refine ⟨r, hr, max K K', fun k hle => ?_⟩
  have h1 := h k (by omega)
  have h2 := h' k (by omega)
  simp only [h1, Option.bind_some]
  exact h2

theorem W.bind_eq {α β : Type} {g : Nat → Option α} {f : Nat → α → Option β} {P : β → Prop} {a : α} (h : W g (· = a)) (hk : W (fun k => f k a) P) : W (fun k => (g k).bind (f k)) P :=
  W.bind h (fun b hb => by subst hb; exact hk)

theorem W.step {α : Type} {g f : Nat → Option α} {P : α → Prop} (h : ∀ k, g (k + 1) = f k) (w : W f P) : W g P := by
  obtain ⟨r, hr, K, w⟩ := w
  refine ⟨r, hr, K + 1, fun k hk => ?_⟩
  obtain ⟨m, rfl⟩ : ∃ m, k = m + 1 := ⟨k - 1, by omega⟩
  rw [h]
  exact w m (by omega)

theorem W.congr {α : Type} {g f : Nat → Option α} {P : α → Prop} (h : ∀ k, g k = f k) (w : W f P) : W g P := by
  obtain ⟨r, hr, K, w⟩ := w
  exact ⟨r, hr, K, fun k hk => (h k).trans (w k hk)⟩

theorem W.ite {α : Type} {c : Prop} [Decidable c] {a b : Nat → Option α} {P : α → Prop} (h1 : c → W a P) (h2 : ¬c → W b P) : W (fun k => if c then a k else b k) P := by
  by_cases h : c
  · simp only [if_pos h]; exact h1 h
  · simp only [if_neg h]; exact h2 h

theorem W.pos {α : Type} {c : Prop} [Decidable c] {a b : Nat → Option α} {P : α → Prop} (h : c) (w : W a P) : W (fun k => if c then a k else b k) P := W.ite (fun _ => w) (fun h' => absurd h h')
theorem W.neg {α : Type} {c : Prop} [Decidable c] {a b : Nat → Option α} {P : α → Prop} (h : ¬ c) (w : W b P) : W (fun k => if c then a k else b k) P := W.ite (fun h' => absurd h' h) (fun _ => w)
theorem W.call {α β : Type} {x : Option α} {r : α} {f : Nat → α → Option β} {P : β → Prop} (h : x = some r) (w : W (fun k => f k r) P) : W (fun k => x.bind (f k)) P := by
  subst h; exact w
theorem W.name {α β : Type} {r : α} {f : Nat → α → Option β} {P : β → Prop} (w : W (fun k => f k r) P) : W (fun k => (some r).bind (f k)) P := w

theorem W.rounds {α : Type} {g : Nat → Option α} {r : α} (h : W g (· = r)) : ∃ k, g k = some r := by
  obtain ⟨a, rfl, K, h⟩ := h
  exact ⟨K, h K (Nat.le_refl _)⟩

theorem W.both {α : Type} {g : Nat → Option α} {P Q : α → Prop} (h : W g P) (h' : W g Q) : W g (fun a => P a ∧ Q a) := by
  obtain ⟨a, ha, K, h⟩ := h
  obtain ⟨b, hb, K', h'⟩ := h'
  have e : some a = some b := (h (max K K') (by omega)).symm.trans (h' (max K K') (by omega))
  injection e with e
  subst e
  exact ⟨a, ⟨ha, hb⟩, K, h⟩

/-- A loop: a measure, an invariant. -/
theorem W.loop {α σ : Type} {l : σ → Nat → Option α} {P : σ → α → Prop} (I : σ → Prop) (m : σ → Nat) (h : ∀ s, I s → (∀ s', I s' → m s' < m s → W (l s') (P s')) → W (l s) (P s)) : ∀ s, I s → W (l s) (P s) := by
  have key : ∀ n s, m s < n → I s → W (l s) (P s) := by
    intro n
    induction n with
    | zero => intro s hs; omega
    | succ n ih => intro s hs hi; exact h s hi (fun s' hi' hm => ih s' (by omega) hi')
  intro s hi
  exact key (m s + 1) s (by omega) hi

theorem w64 {x : Int} (h : -9223372036854775808 ≤ x) (h' : x ≤ 9223372036854775807) : wrap64 x = x := by
  unfold wrap64; omega

end Go.Proofs.YtheglgphknahdaaDoor.Wp
