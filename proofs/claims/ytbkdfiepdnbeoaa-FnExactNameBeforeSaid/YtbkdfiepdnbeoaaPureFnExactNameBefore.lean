/- For every text and every place, the program's NameBefore returns what the reference's NameBefore returns. Conditions: none. -/
import Derived.Test.YtbkdfiepdnbeoaaX28
import Derived.Test.YtbkdfiepdnbeoaaEvN
namespace Go.Proofs.Ytbkdfiepdnbeoaa.Pure
open Go.RowKit Go.Proofs.Ytbkdfiepdnbeoaa.X Go.Proofs.Ytbkdfiepdnbeoaa.Wp Go.Proofs.Ytbkdfiepdnbeoaa.Ev

theorem FnExactNameBefore : laws_FnExactNameBefore.Pure := by
  intro s p hs _
  refine W.rounds (r := true) ?_
  unfold laws_FnExactNameBefore.f
  exact W.ite (fun _ => W.ret rfl) (fun _ => W.bind_eq (specName s p hs) (W.bind_eq (implName s p hs) (W.pos rfl (W.ret rfl))))
end Go.Proofs.Ytbkdfiepdnbeoaa.Pure
