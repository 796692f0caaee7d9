/- What the printed functions answer, part DB: drawn texts with brackets, drawn places. -/
import Derived.Test.YtbkdfiepdnbeoaaX11
import Derived.Test.YtbkdfiepdnbeoaaX8
import Derived.Test.YtbkdfiepdnbeoaaEvD
namespace Go.Proofs.Ytbkdfiepdnbeoaa.Ev
open Go.RowKit Go.Proofs.Ytbkdfiepdnbeoaa.X Go.Proofs.Ytbkdfiepdnbeoaa.Wp Go.Proofs.YtbkdfiepdnbeoaaW.PrintWords
set_option linter.unusedVariables false
set_option linter.unusedSimpArgs false

theorem nestedW {b : List Int} {p n : Int} (hb : RB b) (hp : 0 ≤ p) (hp2 : p ≤ 100000) (hn : n ≤ 1000000000) : W (fun k => spec_l20Nested.f k b p n) (fun r => r.1.size ≤ 125 ∧ p ≤ r.2 ∧ r.2 ≤ p + 60) := by
  unfold spec_l20Nested.f
  refine W.bind (pickW hb hp (by omega) (by omega)) (fun a ha => ?_)
  obtain ⟨a1, a2⟩ := a
  dsimp only at ha ⊢
  refine W.loop (l := fun (z : ByteArray × Int × Int) k => spec_l20Nested.l0 k n z.1 z.2.1 b z.2.2) (P := fun _ r => r.1.size ≤ 125 ∧ p ≤ r.2 ∧ r.2 ≤ p + 60) (fun z => z.1.size + 2 * z.2.1 ≤ 40 ∧ z.2.1 ≤ 19 ∧ -1 ≤ z.2.1 ∧ p ≤ z.2.2 ∧ z.2.2 + z.2.1 ≤ p + 22) (fun z => z.2.1.toNat) ?_ (⟨#[]⟩, a1, a2) ⟨by show 0 + 2 * a1 ≤ 40; omega, by dsimp only; omega, by dsimp only; omega, by dsimp only; omega, by dsimp only; omega⟩
  rintro ⟨s, c, q⟩ ⟨h1, h2, h3, h4, h5⟩ ih
  dsimp only at h1 h2 h3 h4 h5 ⊢
  refine W.step (fun k => spec_l20Nested.l0.eq_2 ..) (W.ite (fun hc => W.name ?_) (fun hc => ?_))
  · obtain ⟨parts, hparts, hlen, hsz⟩ : ∃ parts : List ByteArray, parts = [(⟨#[40]⟩ : ByteArray), (⟨#[41]⟩ : ByteArray), (⟨#[91]⟩ : ByteArray), (⟨#[93]⟩ : ByteArray), (⟨#[123]⟩ : ByteArray), (⟨#[125]⟩ : ByteArray), (⟨#[97]⟩ : ByteArray), (⟨#[40, 41]⟩ : ByteArray), (⟨#[91]⟩ : ByteArray), (⟨#[93]⟩ : ByteArray)] ∧ parts.length = 10 ∧ ∀ x ∈ parts, x.size ≤ 2 := ⟨_, rfl, rfl, by
      intro x hx
      simp only [List.mem_cons, List.mem_nil_iff, or_false] at hx
      rcases hx with rfl | rfl | rfl | rfl | rfl | rfl | rfl | rfl | rfl | rfl <;> decide⟩
    rw [← hparts]
    refine W.bind (pickW hb (by omega) (by omega) (by omega)) (fun d hd => ?_)
    have hr := rdOf_size hsz d.1
    rw [w64 (x := c - 1) (by omega) (by omega)]
    refine W.pos hd.1 (W.pos (by omega) (W.pos (by omega) (ih (_, c - 1, d.2) ⟨?_, ?_, ?_, ?_, ?_⟩ ?_)))
    · dsimp only; rw [ByteArray.size_append]; omega
    all_goals (dsimp only; omega)
  · refine W.bind (oddW hb (by omega) (by omega) hn) (fun o ho => W.ite (fun _ => ?_) (fun _ => W.ret ⟨by dsimp only; omega, by dsimp only; omega, by dsimp only; omega⟩))
    exact W.bind (textW hb (by omega) (by omega) (by omega)) (fun t ht => W.ret ⟨ht.1, by dsimp only; omega, by dsimp only; omega⟩)

theorem placeW {b : List Int} {p n : Int} {s : ByteArray} (hb : RB b) (hp : 0 ≤ p) (hp2 : p ≤ 100000) (hn : n ≤ 1000000000) (hs : s.size ≤ 1000000) : W (fun k => spec_l20Place.f k b p s n) (fun r => (-1 ≤ r.1 ∧ r.1 ≤ s.size + 1) ∧ p ≤ r.2 ∧ r.2 ≤ p + 60) := by
  unfold spec_l20Place.f
  refine W.bind (oddW hb hp (by omega) hn) (fun o ho => W.ite (fun _ => W.name ?_) (fun _ => ?_))
  · rw [w64 (x := (s.size : Int) + 1) (by omega) (by omega)]
    refine W.bind (pickW hb (by omega) (by omega) (by omega)) (fun d hd => W.pos hd.1 (W.pos (by show d.1 < 2; omega) (W.ret ⟨?_, by dsimp only; omega, by dsimp only; omega⟩)))
    have : d.1 = 0 ∨ d.1 = 1 := by omega
    rcases this with e | e <;> rw [e] <;> (simp [rd]; try omega)
  · rw [w64 (x := (s.size : Int) + 1) (by omega) (by omega)]
    have hmn : mn 256 ((s.size : Int) + 1) ≤ s.size + 1 ∧ mn 256 ((s.size : Int) + 1) ≤ 256 := by unfold mn; split <;> omega
    refine W.bind (pickW hb (by omega) (by omega) (by omega)) (fun d hd => W.name (W.name ?_))
    refine W.bind (pickW hb (by omega) (by omega) (by omega)) (fun e he => W.pos he.1 (W.pos (by show e.1 < 6; omega) ?_))
    have h6 : rd [0, 0, 0, 0, 1, 2] e.1 = 0 ∨ rd [0, 0, 0, 0, 1, 2] e.1 = 1 ∨ rd [0, 0, 0, 0, 1, 2] e.1 = 2 := by
      have : e.1 = 0 ∨ e.1 = 1 ∨ e.1 = 2 ∨ e.1 = 3 ∨ e.1 = 4 ∨ e.1 = 5 := by omega
      rcases this with e' | e' | e' | e' | e' | e' <;> rw [e'] <;> simp [rd]
    refine W.pos (by omega) (W.pos (by show rd [0, 0, 0, 0, 1, 2] e.1 < 3; omega) (W.ret ⟨?_, by dsimp only; omega, by dsimp only; omega⟩))
    rcases h6 with e' | e' | e' <;> dsimp only <;> rw [e']
    · show -1 ≤ d.1 ∧ d.1 ≤ s.size + 1; omega
    · show -1 ≤ (0 : Int) ∧ (0 : Int) ≤ s.size + 1; omega
    · show -1 ≤ (s.size : Int) ∧ (s.size : Int) ≤ s.size + 1; omega
end Go.Proofs.Ytbkdfiepdnbeoaa.Ev
