/- Reading lists. -/
import Derived.Test.YtbkdfiepdnbeoaaWMore
namespace Go.Proofs.Ytbkdfiepdnbeoaa.Ev
open Go.RowKit Go.Proofs.YtbkdfiepdnbeoaaW.PrintWords
theorem rd_take' (xs : List Int) (n : Nat) {i : Int} (h0 : 0 ≤ i) (h : i < n) : rd (xs.take n) i = rd xs i := by
  unfold rd
  rw [List.getD_eq_getElem?_getD, List.getD_eq_getElem?_getD, List.getElem?_take, if_pos (by omega)]
end Go.Proofs.Ytbkdfiepdnbeoaa.Ev
