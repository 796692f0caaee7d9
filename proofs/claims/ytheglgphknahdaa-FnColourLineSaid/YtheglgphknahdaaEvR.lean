/- Reading lists. -/
import Derived.Test.YtheglgphknahdaaWMore
namespace Go.Proofs.Ytheglgphknahdaa.Ev
open Go.RowKit Go.Proofs.YtheglgphknahdaaW.PrintWords
theorem rd_take' (xs : List Int) (n : Nat) {i : Int} (h0 : 0 ≤ i) (h : i < n) : rd (xs.take n) i = rd xs i := by
  unfold rd
  rw [List.getD_eq_getElem?_getD, List.getD_eq_getElem?_getD, List.getElem?_take, if_pos (by omega)]
end Go.Proofs.Ytheglgphknahdaa.Ev
