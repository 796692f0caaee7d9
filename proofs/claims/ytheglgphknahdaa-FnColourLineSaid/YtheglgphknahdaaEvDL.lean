/- What the printed functions answer, part DL: drawn lines and states. -/
import Derived.Test.YtheglgphknahdaaX4
import Derived.Test.YtheglgphknahdaaEvD0
import Derived.Test.YtheglgphknahdaaEvLn
namespace Go.Proofs.Ytheglgphknahdaa.Ev
open Go.RowKit Go.Proofs.Ytheglgphknahdaa.X Go.Proofs.Ytheglgphknahdaa.Wp Go.Proofs.YtheglgphknahdaaW.PrintWords Go.Proofs.Ytheglgphknahdaa.ThL
set_option linter.unusedVariables false
set_option linter.unusedSimpArgs false

theorem seven : ∀ i : Int, 0 ≤ i → i < 7 → 0 ≤ rd ([0, 0, 0, 1, 1, 2, 3] : List Int) i ∧ rd ([0, 0, 0, 1, 1, 2, 3] : List Int) i < 4 := by
  intro i h0 h1
  rcases (by omega : i = 0 ∨ i = 1 ∨ i = 2 ∨ i = 3 ∨ i = 4 ∨ i = 5 ∨ i = 6) with rfl | rfl | rfl | rfl | rfl | rfl | rfl <;> decide
theorem drawCL {l : List Int} (hw : ∀ x ∈ l, (Lit.int .u8 x).wf = true) : W (fun k => spec_DrawColourLine.f k l) (fun r => r.2.size ≤ 125) := by
  obtain ⟨b, he, hb⟩ := openW (RB_of hw)
  unfold spec_DrawColourLine.f
  refine W.call he (W.bind (textW0 hb (Int.le_refl 0) (show (0 : Int) ≤ 1000000 by decide) (by omega)) (fun r hr => ?_))
  obtain ⟨s, q⟩ := r
  obtain ⟨hv, q0, q1⟩ := hr
  dsimp only at hv q0 q1 ⊢
  have hsz := hv.1
  refine W.bind_eq (specLinesOf s (by omega)) ?_
  rw [if_pos hv]
  have hl := lines_len s
  have fin := nl_le s s.size
  refine W.bind (pickW hb (by omega) (by omega) (by omega)) (fun c hc => ?_)
  obtain ⟨i, q2⟩ := c
  obtain ⟨i0, i1, hq2⟩ := hc
  dsimp only at i0 i1 hq2 ⊢
  have hi : i < (lines s).length := by rcases i1 with h | h <;> omega
  refine W.pos i0 (W.pos hi ?_)
  rw [lines_get s i0 (by omega)]
  have hls := lineAt_size s (k := i.toNat) (by omega)
  obtain ⟨e1, e2, _⟩ := en_spec s (k := i.toNat) (by omega)
  obtain ⟨L, hL⟩ : ∃ L, L = lineAt s i.toNat := ⟨_, rfl⟩
  rw [← hL] at hls ⊢
  have fin2 : ∀ (x y p : Int) (t : ByteArray), t.size ≤ 125 → 0 ≤ p → p ≤ 1000 → W (fun k => (spec_l20Rd_pick.f k b p 7).bind fun bt176 => (if 0 ≤ bt176.1 then (if bt176.1 < (([0, 0, 0, 1, 1, 2, 3] : List Int).length : Int) then (if 0 ≤ (rd ([0, 0, 0, 1, 1, 2, 3] : List Int) bt176.1) then (if (rd ([0, 0, 0, 1, 1, 2, 3] : List Int) bt176.1) < (([x, y, (-1), 10] : List Int).length : Int) then (some (rd ([x, y, (-1), 10] : List Int) (rd ([0, 0, 0, 1, 1, 2, 3] : List Int) bt176.1), t)) else (none)) else (none)) else (none)) else (none))) (fun r => r.2.size ≤ 125) := by
    intro x y p t ht p0 p1
    refine W.bind (pickW hb p0 (by omega) (by omega)) (fun d hd => ?_)
    obtain ⟨d1, d2⟩ := d
    obtain ⟨d3, d4, d5⟩ := hd
    dsimp only at d3 d4 d5 ⊢
    have hr := seven d1 d3 (by omega)
    exact W.pos d3 (W.pos (by show d1 < 7; omega) (W.pos hr.1 (W.pos (by show _ < (4 : Int); exact hr.2) (W.ret ht))))
  refine W.bind (oddW hb (by omega) (by omega) (by omega)) (fun o ho => W.ite (fun _ => W.name ?_) (fun _ => ?_))
  · refine W.bind (pickW hb (by omega) (by omega) (by omega)) (fun d hd => W.pos hd.1 (W.pos (by show d.1 < 2; omega) ?_))
    have h1 := rdOf_size (parts := [(⟨#[10]⟩ : ByteArray), (⟨#[9]⟩ : ByteArray)]) (m := 1) (by
      intro x hx
      simp only [List.mem_cons, List.mem_nil_iff, or_false] at hx
      rcases hx with rfl | rfl <;> decide) d.1
    refine W.pos (by omega) (W.bind (pickW hb (by omega) (by omega) (by omega)) (fun e he => W.bind (pickW hb (by omega) (by omega) (by omega)) (fun f hf => W.name (W.name (fin2 _ _ _ _ ?_ (by omega) (by omega))))))
    rw [ByteArray.size_append]; omega
  · exact W.bind (pickW hb (by omega) (by omega) (by omega)) (fun e he => W.bind (pickW hb (by omega) (by omega) (by omega)) (fun f hf => W.name (W.name (fin2 _ _ _ _ (by omega) (by omega) (by omega)))))
end Go.Proofs.Ytheglgphknahdaa.Ev
