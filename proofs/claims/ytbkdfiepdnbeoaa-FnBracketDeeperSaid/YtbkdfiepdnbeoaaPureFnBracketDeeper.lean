/- For every code, the law on brackets around answers true: in a text without a fault, put into brackets, every place is deeper by 1. Conditions: none. -/
import Derived.Test.YtbkdfiepdnbeoaaX24
import Derived.Test.YtbkdfiepdnbeoaaEvW
import Derived.Test.YtbkdfiepdnbeoaaEvL
import Derived.Test.YtbkdfiepdnbeoaaEvDP
namespace Go.Proofs.Ytbkdfiepdnbeoaa.Pure
open Go.RowKit Go.Proofs.Ytbkdfiepdnbeoaa.X Go.Proofs.Ytbkdfiepdnbeoaa.Wp Go.Proofs.Ytbkdfiepdnbeoaa.Ev Go.Proofs.Ytbkdfiepdnbeoaa.ThB Go.Proofs.YtbkdfiepdnbeoaaW.PrintWords

theorem FnBracketDeeper : laws_FnBracketDeeper.Pure := by
  intro l _ _ hw
  refine W.rounds (r := true) ?_
  unfold laws_FnBracketDeeper.f
  refine W.ite (fun _ => W.ret rfl) (fun _ => W.bind (drawDepth hw) (fun r hr => ?_))
  obtain ⟨s, p⟩ := r
  obtain ⟨hs, hp0, hp1⟩ := hr
  dsimp only at hs hp0 hp1 ⊢
  have hs2 : s.size ≤ 140737488351232 := by omega
  refine W.bind_eq (implDepth s p hs2) (W.bind_eq (specDepth s p hs2) (W.pos rfl ?_))
  have out : ∀ n : Int, W (fun k => laws_FnBracketDeeper.j0 k s p n true) (· = true) := fun n =>
    W.step (fun k => laws_FnBracketDeeper.j0.eq_2 ..) (W.pos rfl alive_then)
  by_cases hv : VT s ∧ 0 ≤ p ∧ p ≤ s.size
  · rw [if_pos hv]
    have hd := aro_len_le (mates s) p p.toNat
    have hd2 : 0 ≤ depth s p ∧ depth s p ≤ p.toNat := by unfold depth; omega
    refine W.neg (by omega) (W.bind (implFault s hs2) (fun a ha => W.ite (fun e => ?_) (fun _ => out _)))
    subst e
    by_cases hsz : (s.size : Int) > 118
    · rw [show decide ((s.size : Int) > 118) = true from by simpa using hsz]
      exact out _
    · rw [show decide ((s.size : Int) > 118) = false from by simpa using hsz]
      have hf : Faultless s := by
        rcases ha with ⟨_, h⟩ | ⟨h, _⟩
        · exact faultless_of h
        · exact absurd hv.1 h
      have hwr := wrapped_of s 91 93 (by decide) (by decide)
      have hv2 := vt_wrapped (x := 91) (y := 93) hv.1 (by omega) (by decide) (by decide)
      have hz2 := hwr.size
      refine W.step (fun k => laws_FnBracketDeeper.j0.eq_2 ..) (W.neg (by decide) (W.pos (by omega) (W.pos (by rw [ByteArray.size_append]; show 1 + s.size + 1 ≤ _; omega) ?_)))
      rw [w64 (x := p + 1) (by omega) (by omega), w64 (x := depth s p + 1) (by omega) (by omega)]
      refine W.bind_eq (implDepth _ _ (by rw [hz2]; omega)) (W.ret ?_)
      rw [if_pos ⟨hv2, by omega, by rw [hz2]; omega⟩, wrapped_depth hwr hf p hv.2.1 hv.2.2]
      simp
  · rw [if_neg hv]
    exact W.pos (by omega) (out _)
end Go.Proofs.Ytbkdfiepdnbeoaa.Pure
