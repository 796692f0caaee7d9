/- For every state and every line, the program's ColourLine returns what the reference's ColourLine returns. Conditions: none. -/
import Derived.Test.YtheglgphknahdaaX6
import Derived.Test.YtheglgphknahdaaEvC
namespace Go.Proofs.Ytheglgphknahdaa.Pure
open Go.RowKit Go.Proofs.Ytheglgphknahdaa.X Go.Proofs.Ytheglgphknahdaa.Wp Go.Proofs.Ytheglgphknahdaa.Ev

theorem FnExactColourLine : laws_FnExactColourLine.Pure := by
  intro a s _ hs
  refine W.rounds (r := true) ?_
  unfold laws_FnExactColourLine.f
  exact W.ite (fun _ => W.ret rfl) (fun _ => W.bind_eq (specCL a s hs) (W.bind_eq (implCL a s hs) (W.pos rfl (W.pos rfl (W.neg (by simp) (W.ret rfl))))))
end Go.Proofs.Ytheglgphknahdaa.Pure
