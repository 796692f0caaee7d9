/- For every text and every place, the program's BracketDepth returns what the reference's BracketDepth returns. Conditions: none. -/
import Derived.Test.YtbkdfiepdnbeoaaX18
import Derived.Test.YtbkdfiepdnbeoaaEvB
namespace Go.Proofs.Ytbkdfiepdnbeoaa.Pure
open Go.RowKit Go.Proofs.Ytbkdfiepdnbeoaa.X Go.Proofs.Ytbkdfiepdnbeoaa.Wp Go.Proofs.Ytbkdfiepdnbeoaa.Ev

theorem FnExactBracketDepth : laws_FnExactBracketDepth.Pure := by
  intro s p hs _
  refine W.rounds (r := true) ?_
  unfold laws_FnExactBracketDepth.f
  exact W.ite (fun _ => W.ret rfl) (fun _ => W.bind_eq (specDepth s p hs) (W.bind_eq (implDepth s p hs) (W.pos rfl (W.ret rfl))))
end Go.Proofs.Ytbkdfiepdnbeoaa.Pure
