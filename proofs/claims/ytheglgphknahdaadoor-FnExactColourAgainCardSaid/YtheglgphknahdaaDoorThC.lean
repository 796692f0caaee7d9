/- The plain law of colours: a byte, a line. No program in sight. -/
import Derived.Test.YtheglgphknahdaaDoorWMore
namespace Go.Proofs.YtheglgphknahdaaDoor.ThC
open Go.RowKit Go.Proofs.YtheglgphknahdaaDoorW.PrintWords
set_option linter.unusedVariables false
set_option linter.unusedSimpArgs false

/-- The class of a byte: 0 for spaces and line ends, 1 for letters and digits, 2 for others. -/
def cls (c : Int) : Int := if c = 32 ∨ c = 10 then 0 else if (48 ≤ c ∧ c ≤ 57) ∨ (97 ≤ c ∧ c ≤ 122) ∨ (65 ≤ c ∧ c ≤ 90) then 1 else 2
/-- One byte: the state, whether a string is open, the byte's colour. -/
def cstep (st : Int) (q : Bool) (c : Int) : Int × Bool × UInt8 :=
  if q = true then (st, c != 34, 51)
  else if c = 123 ∧ st < 9 then (st + 1, false, 52)
  else if st > 0 then (if c = 125 then (st - 1, false, 52) else (st, false, 52))
  else if c = 34 then (st, true, 51)
  else if 48 ≤ c ∧ c ≤ 57 then (st, false, 50)
  else if cls c = 1 then (st, false, 49)
  else (st, false, 48)
def crun (st : Int) (s : ByteArray) : Nat → Int × Bool × List UInt8
  | 0 => (st, false, [])
  | n + 1 => ((cstep (crun st s n).1 (crun st s n).2.1 (bt s n)).1, (cstep (crun st s n).1 (crun st s n).2.1 (bt s n)).2.1, (crun st s n).2.2 ++ [(cstep (crun st s n).1 (crun st s n).2.1 (bt s n)).2.2])
theorem cstep_range {st : Int} (q : Bool) (c : Int) (h0 : 0 ≤ st) (h1 : st ≤ 9) : 0 ≤ (cstep st q c).1 ∧ (cstep st q c).1 ≤ 9 := by
  unfold cstep
  repeat' split
  all_goals (dsimp only; omega)
theorem crun_range {st : Int} (s : ByteArray) (h0 : 0 ≤ st) (h1 : st ≤ 9) : ∀ n, 0 ≤ (crun st s n).1 ∧ (crun st s n).1 ≤ 9
  | 0 => ⟨h0, h1⟩
  | n + 1 => by
    have := crun_range s h0 h1 n
    exact cstep_range _ _ this.1 this.2
theorem crun_len (st : Int) (s : ByteArray) : ∀ n, (crun st s n).2.2.length = n
  | 0 => rfl
  | n + 1 => by
    show ((crun st s n).2.2 ++ [_]).length = n + 1
    rw [List.length_append, crun_len st s n]; rfl
end Go.Proofs.YtheglgphknahdaaDoor.ThC
