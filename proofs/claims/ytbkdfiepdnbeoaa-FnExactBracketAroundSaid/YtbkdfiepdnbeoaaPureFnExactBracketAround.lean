/- For every text and every place, the program's BracketAround returns what the reference's BracketAround returns. Conditions: none. -/
import Derived.Test.YtbkdfiepdnbeoaaX20
import Derived.Test.YtbkdfiepdnbeoaaEvB
namespace Go.Proofs.Ytbkdfiepdnbeoaa.Pure
open Go.RowKit Go.Proofs.Ytbkdfiepdnbeoaa.X Go.Proofs.Ytbkdfiepdnbeoaa.Wp Go.Proofs.Ytbkdfiepdnbeoaa.Ev

theorem FnExactBracketAround : laws_FnExactBracketAround.Pure := by
  intro s p hs _
  refine W.rounds (r := true) ?_
  unfold laws_FnExactBracketAround.f
  exact W.ite (fun _ => W.ret rfl) (fun _ => W.bind (specBA s p hs) (fun a ha => W.bind (implBA s p hs) (fun b hb => by
    obtain rfl := hb.uniq ha
    exact W.pos rfl (W.pos rfl (W.ret rfl)))))
end Go.Proofs.Ytbkdfiepdnbeoaa.Pure
