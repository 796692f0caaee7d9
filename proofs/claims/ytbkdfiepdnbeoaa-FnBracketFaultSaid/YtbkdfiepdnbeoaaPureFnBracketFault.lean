/- For every code, the law on BracketFault answers true: the bracket has no mate, and a text without a fault, in brackets, has none either. Conditions: none. -/
import Derived.Test.YtbkdfiepdnbeoaaX22
import Derived.Test.YtbkdfiepdnbeoaaEvB
import Derived.Test.YtbkdfiepdnbeoaaEvW
import Derived.Test.YtbkdfiepdnbeoaaEvL
import Derived.Test.YtbkdfiepdnbeoaaEvDB
namespace Go.Proofs.Ytbkdfiepdnbeoaa.Pure
open Go.RowKit Go.Proofs.Ytbkdfiepdnbeoaa.X Go.Proofs.Ytbkdfiepdnbeoaa.Wp Go.Proofs.Ytbkdfiepdnbeoaa.Ev Go.Proofs.Ytbkdfiepdnbeoaa.ThB Go.Proofs.YtbkdfiepdnbeoaaW.PrintWords

theorem FnBracketFault : laws_FnBracketFault.Pure := by
  intro l _ _ hw
  refine W.rounds (r := true) ?_
  unfold laws_FnBracketFault.f
  refine W.ite (fun _ => W.ret rfl) (fun _ => ?_)
  have draw : W (fun k => spec_DrawBracketFault.f k l) (fun s => s.size ≤ 125) := by
    unfold spec_DrawBracketFault.f
    obtain ⟨b, ho, hb⟩ := openW (RB_of hw)
    exact W.call ho (W.bind (nestedW hb (by simp) (by simp) (by omega)) (fun r hr => W.ret hr.1))
  refine W.bind draw (fun s hs => ?_)
  have hs2 : s.size ≤ 140737488351232 := by omega
  refine W.bind (implFault s hs2) (fun a ha => W.bind (specFault s hs2) (fun b hb => W.pos (ha.uniq hb) ?_))
  refine W.ite (fun hneg => ?_) (fun hpos => ?_)
  · have e : a = -1 := by
      rcases ha with ⟨_, ⟨h, _⟩ | ⟨h, _⟩⟩ | ⟨_, h⟩ <;> omega
    refine W.pos e ?_
    subst e
    refine W.bind (specTV s hs2) (fun v hv => W.ite (fun hvt => W.ite (fun _ => alive_then) (fun hsz => ?_)) (fun _ => alive_then))
    have hvs := hv.1 hvt
    have hf : Faultless s := by
      rcases ha with ⟨_, h⟩ | ⟨h, _⟩
      · exact faultless_of h
      · exact absurd hvs h
    have hwr := wrapped_of s 40 41 (by decide) (by decide)
    have hv2 := vt_wrapped (x := 40) (y := 41) hvs (by omega) (by decide) (by decide)
    have hz2 := hwr.size
    refine W.pos (by omega) (W.pos (by rw [ByteArray.size_append]; show 1 + s.size + 1 ≤ _; omega) ?_)
    refine W.bind (implFault _ (by rw [hz2]; omega)) (fun c hc => ?_)
    have : c = -1 := FaultR.uniq hc (.inl ⟨hv2, first_of (wrapped_faultless hwr hf)⟩)
    exact W.pos this alive_then
  · have hvs : VT s ∧ First (faultB s) s.size a := by
      rcases ha with h | ⟨_, h⟩
      · exact h
      · omega
    rcases hvs.2 with ⟨h, _⟩ | ⟨h0, h1, h2, _⟩
    · omega
    · have hm := mates_len s
      refine W.bind_eq (implMates s hs2) ?_
      rw [if_pos hvs.1]
      have hval := (mates_inv s).val a h0 h1
      have := h2.1
      refine W.pos (by omega) (W.pos h0 (W.pos (by omega) (W.ret ?_)))
      simp [hm]
end Go.Proofs.Ytbkdfiepdnbeoaa.Pure
