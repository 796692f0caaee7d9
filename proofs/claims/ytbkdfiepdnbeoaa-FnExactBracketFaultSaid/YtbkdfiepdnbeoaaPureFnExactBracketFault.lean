/- For every text, the program's BracketFault returns what the reference's BracketFault returns. Conditions: none. -/
import Derived.Test.YtbkdfiepdnbeoaaX17
import Derived.Test.YtbkdfiepdnbeoaaEvB
namespace Go.Proofs.Ytbkdfiepdnbeoaa.Pure
open Go.RowKit Go.Proofs.Ytbkdfiepdnbeoaa.X Go.Proofs.Ytbkdfiepdnbeoaa.Wp Go.Proofs.Ytbkdfiepdnbeoaa.Ev

theorem FnExactBracketFault : laws_FnExactBracketFault.Pure := by
  intro s hs
  refine W.rounds (r := true) ?_
  unfold laws_FnExactBracketFault.f
  exact W.ite (fun _ => W.ret rfl) (fun _ => W.bind (specFault s hs) (fun a ha => W.bind (implFault s hs) (fun b hb => W.pos (hb.uniq ha) (W.ret rfl))))
end Go.Proofs.Ytbkdfiepdnbeoaa.Pure
