/- For every code, the law on DeskValid answers true: both forms say the same of a drawn desk, and a desk with the cursor behind its text is invalid, and one with a negative column. Conditions: none. -/
import Derived.Test.YtbkdfiepdnbeoaaX27
import Derived.Test.YtbkdfiepdnbeoaaEvLn
import Derived.Test.YtbkdfiepdnbeoaaEvL
import Derived.Test.YtbkdfiepdnbeoaaEvDB
namespace Go.Proofs.Ytbkdfiepdnbeoaa.Pure
open Go.RowKit Go.Proofs.Ytbkdfiepdnbeoaa.X Go.Proofs.Ytbkdfiepdnbeoaa.Wp Go.Proofs.Ytbkdfiepdnbeoaa.Ev Go.Proofs.Ytbkdfiepdnbeoaa.ThL Go.Proofs.YtbkdfiepdnbeoaaW.PrintWords
set_option linter.unusedVariables false
set_option linter.unusedSimpArgs false

theorem lineOfEnds (s : ByteArray) (p : Int) (hs : s.size ≤ 140737488351232) : W (fun k => spec_LineOf.f k s p) (fun _ => True) := by
  unfold spec_LineOf.f
  refine W.bind (specTV s hs) (fun b hb => W.ite (fun h => W.call (l1In_eq ..) (W.ite (fun h2 => ?_) (fun _ => W.ret trivial))) (fun _ => W.ret trivial))
  rw [decide_eq_true_eq] at h2
  refine W.pos h2.1 (W.pos h2.2 (W.bind (specLineMany (s.extract 0 p.toNat) ?_) (fun _ _ => W.ret trivial)))
  rw [ByteArray.size_extract]; omega
theorem columnOfEnds (s : ByteArray) (p : Int) (hs : s.size ≤ 140737488351232) : W (fun k => spec_ColumnOf.f k s p) (fun _ => True) := by
  unfold spec_ColumnOf.f
  exact W.bind (lineOfEnds s p hs) (fun r _ => W.ite (fun _ => W.ret trivial) (fun _ => W.bind (specLineStart s r hs) (fun _ _ => W.ret trivial)))
theorem drawDesk {l : List Int} (hw : ∀ x ∈ l, (Lit.int .u8 x).wf = true) : W (fun k => spec_DrawDeskValid.f k l) (fun r => r.1.size ≤ 125) := by
  obtain ⟨b, he, hb⟩ := openW (RB_of hw)
  unfold spec_DrawDeskValid.f spec_l20Desk.f
  refine W.call he (W.bind (Q := fun r => r.1.size ≤ 125) (W.bind (textW hb (Int.le_refl 0) (show (0 : Int) ≤ 1000000 by decide) (by omega)) (fun r hr => ?_)) (fun r hr => W.ret hr))
  obtain ⟨s, q⟩ := r
  obtain ⟨hs, q0, q1⟩ := hr
  dsimp only at hs q0 q1 ⊢
  refine W.bind (placeW hb (by omega) (by omega) (by omega) (by omega)) (fun r hr => ?_)
  obtain ⟨p, q2⟩ := r
  obtain ⟨hp, q3, q4⟩ := hr
  dsimp only at hp q3 q4 ⊢
  have j0 : ∀ (x : Int) (q5 : Int), 0 ≤ q5 → q5 ≤ 1000 → W (fun k => spec_l20Desk.j0 k 2 s b q5 s p x) (fun r => r.1.size ≤ 125) := by
    intro x q5 h0 h1
    refine W.step (fun k => spec_l20Desk.j0.eq_2 ..) (W.bind (oddW hb h0 (by omega) (by omega)) (fun o ho => W.ite (fun _ => ?_) (fun _ => W.ret hs)))
    refine W.bind (pickW hb (by omega) (by omega) (by omega)) (fun c hc => W.ite (fun _ => ?_) (fun _ => W.name ?_))
    · exact W.bind (placeW hb (by omega) (by omega) (by omega) (by omega)) (fun r _ => W.ret hs)
    · exact W.bind (pickW hb (by omega) (by omega) (by omega)) (fun d hd => W.pos hd.1 (W.pos (by show d.1 < 2; omega) (W.ret hs)))
  refine W.bind (columnOfEnds s p (by omega)) (fun c _ => W.bind (pickW hb (by omega) (by omega) (by omega)) (fun d hd => W.ite (fun _ => ?_) (fun _ => j0 _ _ (by omega) (by omega))))
  exact W.bind (pickW hb (by omega) (by omega) (by omega)) (fun e he => j0 _ _ (by omega) (by omega))

theorem specDesk (s : ByteArray) (p w : Int) (hs : s.size ≤ 140737488351232) : W (fun k => spec_DeskValid.f k s p w) (fun b => b = true ↔ (VT s ∧ 0 ≤ p ∧ p ≤ s.size) ∧ 0 ≤ w ∧ w ≤ 120) := by
  unfold spec_DeskValid.f
  refine W.bind (specTV s hs) (fun b hb => W.ite (fun h => W.call (l1In_eq ..) (W.ite (fun h2 => W.call (l1In_eq ..) (W.ret ?_)) (fun h2 => W.ret ?_))) (fun h => W.ret ?_))
  · rw [decide_eq_true_eq] at h2 ⊢
    exact ⟨fun h3 => ⟨⟨hb.1 h, h2⟩, h3⟩, fun h3 => h3.2⟩
  · rw [decide_eq_true_eq] at h2
    exact ⟨fun h3 => by simp at h3, fun h3 => absurd h3.1.2 h2⟩
  · exact ⟨fun h3 => by simp at h3, fun h3 => absurd (hb.2 h3.1.1) h⟩
theorem implDesk (s : ByteArray) (p w : Int) (hs : s.size ≤ 140737488351232) : W (fun k => impl_DeskValid.f k s p w) (fun b => b = true ↔ (VT s ∧ 0 ≤ p ∧ p ≤ s.size) ∧ 0 ≤ w ∧ w ≤ 120) := by
  unfold impl_DeskValid.f
  refine W.bind (implPlace s p hs) (fun b hb => W.ite (fun h => W.call (in_eq ..) (W.ret ?_)) (fun h => W.ret ?_))
  · rw [decide_eq_true_eq]
    exact ⟨fun h3 => ⟨hb.1 h, h3⟩, fun h3 => h3.2⟩
  · exact ⟨fun h3 => by simp at h3, fun h3 => absurd (hb.2 h3.1) h⟩

theorem FnDeskValid : laws_FnDeskValid.Pure := by
  intro l _ _ hw
  refine W.rounds (r := true) ?_
  unfold laws_FnDeskValid.f
  refine W.ite (fun _ => W.ret rfl) (fun _ => W.bind (drawDesk hw) (fun r hr => ?_))
  obtain ⟨s, p, w⟩ := r
  dsimp only at hr ⊢
  have hs : s.size ≤ 140737488351232 := by omega
  refine W.bind (implDesk s p w hs) (fun b hb => W.bind (specDesk s p w hs) (fun c hc => ?_))
  have e : b = c := by rw [Bool.eq_iff_iff, hb, hc]
  subst e
  refine W.neg (by simp) ?_
  rw [w64 (x := (s.size : Int) + 1) (by omega) (by omega)]
  refine W.bind (implDesk s _ 0 hs) (fun d hd => W.neg (fun h => by have := hd.1 h; omega) (W.bind (implDesk s 0 _ hs) (fun e he => W.neg (fun h => by have := he.1 h; omega) alive_then)))
end Go.Proofs.Ytbkdfiepdnbeoaa.Pure
