/- Drawn texts with brackets and a place. -/
import Derived.Test.YtbkdfiepdnbeoaaX13
import Derived.Test.YtbkdfiepdnbeoaaEvDB
namespace Go.Proofs.Ytbkdfiepdnbeoaa.Ev
open Go.RowKit Go.Proofs.Ytbkdfiepdnbeoaa.X Go.Proofs.Ytbkdfiepdnbeoaa.Wp Go.Proofs.YtbkdfiepdnbeoaaW.PrintWords
set_option linter.unusedVariables false
theorem drawDepth {l : List Int} (hw : ∀ x ∈ l, (Lit.int .u8 x).wf = true) : W (fun k => spec_DrawBracketDepth.f k l) (fun r => r.1.size ≤ 125 ∧ -1 ≤ r.2 ∧ r.2 ≤ r.1.size + 1) := by
  unfold spec_DrawBracketDepth.f
  obtain ⟨b, ho, hb⟩ := openW (RB_of hw)
  exact W.call ho (W.bind (nestedW hb (by simp) (by simp) (by omega)) (fun r hr => W.bind (placeW hb (by dsimp only at hr; omega) (by dsimp only at hr; omega) (by omega) (by omega)) (fun q hq => W.ret ⟨hr.1, hq.1⟩)))
end Go.Proofs.Ytbkdfiepdnbeoaa.Ev
