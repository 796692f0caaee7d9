/- For every code, the law on BracketAround answers true: the innermost pair is around its place, belongs together, and directly behind its opening bracket the depth is that of the place. Conditions: none. -/
import Derived.Test.YtbkdfiepdnbeoaaX25
import Derived.Test.YtbkdfiepdnbeoaaEvB
import Derived.Test.YtbkdfiepdnbeoaaEvL
import Derived.Test.YtbkdfiepdnbeoaaEvDP
namespace Go.Proofs.Ytbkdfiepdnbeoaa.Pure
open Go.RowKit Go.Proofs.Ytbkdfiepdnbeoaa.X Go.Proofs.Ytbkdfiepdnbeoaa.Wp Go.Proofs.Ytbkdfiepdnbeoaa.Ev Go.Proofs.Ytbkdfiepdnbeoaa.ThB Go.Proofs.YtbkdfiepdnbeoaaW.PrintWords

theorem FnBracketAround : laws_FnBracketAround.Pure := by
  intro l _ _ hw
  refine W.rounds (r := true) ?_
  unfold laws_FnBracketAround.f
  have draw : W (fun k => spec_DrawBracketAround.f k l) (fun r => r.1.size ≤ 125 ∧ -1 ≤ r.2 ∧ r.2 ≤ r.1.size + 1) := by
    unfold spec_DrawBracketAround.f
    exact W.bind (drawDepth hw) (fun r hr => W.ret hr)
  refine W.ite (fun _ => W.ret rfl) (fun _ => W.bind draw (fun r hr => ?_))
  obtain ⟨s, p⟩ := r
  obtain ⟨hs, hp0, hp1⟩ := hr
  dsimp only at hs hp0 hp1 ⊢
  have hs2 : s.size ≤ 140737488351232 := by omega
  refine W.bind (implBA s p hs2) (fun a ha => W.bind (specBA s p hs2) (fun b hb => ?_))
  obtain rfl := ha.uniq hb
  refine W.pos rfl ?_
  rw [show (a.2 != a.2) = false from by simp]
  refine W.step (fun k => laws_FnBracketAround.j0.eq_2 ..) (W.neg (by decide) (W.bind_eq (implDepth s p hs2) ?_))
  by_cases hv : VT s ∧ 0 ≤ p ∧ p ≤ s.size
  · rw [if_pos hv]
    have hi : Inner s p a := by
      rcases ha with ⟨_, h⟩ | ⟨h, _⟩
      · exact h
      · exact absurd hv h
    rcases hi with ⟨h0, rfl⟩ | ⟨h0, h1, h2, h3, h4, h5⟩
    · exact W.pos (by omega) (W.pos rfl (W.pos rfl alive_then))
    · have hm := mates_len s
      refine W.neg (by omega) (W.bind_eq (implMates s hs2) ?_)
      rw [if_pos hv.1]
      have hsz := hv.1.1
      have hval := (mates_inv s).val a.1 h1 (by omega)
      have hlt : rd (mates s) a.1 < s.size := by rcases hval with h | ⟨_, h, _⟩ <;> omega
      rw [w64 (x := a.1 + 1) (by omega) (by omega)]
      refine W.pos h1 (W.pos h2 (W.pos (by omega) (W.pos (by omega) (W.pos h1 (W.pos (by omega) (W.pos h5.symm (W.bind_eq (implDepth s (a.1 + 1) hs2) (W.ret ?_))))))))
      rw [if_pos ⟨hv.1, by omega, by omega⟩, depth_inner s p a.1 h1 h2 hv.2.2 h3 h4]
      simp
  · rw [if_neg hv]
    have e : a = (-1, -1) := by
      rcases ha with ⟨h, _⟩ | ⟨_, h⟩
      · exact absurd h hv
      · exact h
    subst e
    exact W.pos (by omega) (W.pos rfl (W.pos rfl alive_then))
end Go.Proofs.Ytbkdfiepdnbeoaa.Pure
