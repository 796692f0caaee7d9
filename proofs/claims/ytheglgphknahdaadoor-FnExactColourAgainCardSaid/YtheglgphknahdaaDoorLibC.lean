/- The contract of the program's colour, walked by hand: a loop over the bytes of a line, a strings.Builder written in it. -/
import Derived.Test.YtheglgphknahdaaDoorX2
import Derived.Test.YtheglgphknahdaaDoorLibB
import Derived.Test.YtheglgphknahdaaDoorThC
import Derived.Test.YtheglgphknahdaaDoorWp
namespace Go.Proofs.YtheglgphknahdaaDoor.X
open Go.RowKit Go.Proofs.YtheglgphknahdaaDoorW.PrintWords Go.Proofs.YtheglgphknahdaaDoorW.PrintLast Go.Proofs.YtheglgphknahdaaDoorW.PrintMore Go.Proofs.YtheglgphknahdaaDoor.ThC Go.Proofs.YtheglgphknahdaaDoor.Wp
set_option linter.unusedVariables false
set_option linter.unusedSimpArgs false

theorem classC (c : Int) : ∃ k, impl_class.f k c = some (cls c) := by
  refine W.rounds (r := cls c) ?_
  unfold impl_class.f
  have yes : c = 32 ∨ c = 10 → W (fun k => impl_class.j0 k c true) (· = cls c) := fun h =>
    W.step (fun k => impl_class.j0.eq_2 ..) (W.pos rfl (W.ret (by unfold cls; rw [if_pos h])))
  refine W.ite (fun h => yes (.inl h)) (fun h => ?_)
  by_cases h10 : c = 10
  · rw [show (c == 10) = true from by simpa using h10]; exact yes (.inr h10)
  · rw [show (c == 10) = false from by simpa using h10]
    refine W.step (fun k => impl_class.j0.eq_2 ..) (W.neg (by decide) ?_)
    by_cases a : (48 ≤ c ∧ c ≤ 57) ∨ (97 ≤ c ∧ c ≤ 122) ∨ (65 ≤ c ∧ c ≤ 90)
    · rw [show cls c = 1 from by unfold cls; rw [if_neg (by omega), if_pos a]]
      repeat' (first | exact W.ret rfl | (exfalso; omega) | refine W.ite (fun _ => ?_) (fun _ => ?_))
    · rw [show cls c = 2 from by unfold cls; rw [if_neg (by omega), if_neg a]]
      repeat' (first | exact W.ret rfl | (exfalso; omega) | refine W.ite (fun _ => ?_) (fun _ => ?_))

def impl_colour.f (a0 : Int) (a1 : ByteArray) : Option (Int × ByteArray) := if 0 ≤ a0 ∧ a0 ≤ 9 ∧ a1.size ≤ 1000000 then some ((crun a0 a1 a1.size).1, ⟨(crun a0 a1 a1.size).2.2.toArray⟩) else none

theorem isB_drewN {T e : TypeId} {B b : Nat} {bs : List Value} {w : World} (n : Nat) (h : Lib.IsBuilder T e B b bs w) : Lib.IsBuilder T e B b bs (w.drewN n) := by
  induction n with
  | zero => exact h
  | succ n ih => rw [← World.drew_drewN]; exact ih.imp (fun h => h.drew) (fun h => h.drew)
/-- What holds at the head of round x. -/
def CRel (w : World) (st : Int) (s : ByteArray) (a b c : Value) (wr : World) : Prop := ∃ (x A : Int) (Q : Bool) (acc : List UInt8), 0 ≤ x ∧ x ≤ s.size ∧ Aside0 (crun st s x.toNat = (A, Q, acc)) ∧ a = .int .i64 A ∧ b = .bool Q ∧ c = .int .i64 x ∧ Aside0 (Lib.IsBuilder 68 5 w.heap.size w.heap.size (Lib.byteCells acc) wr) ∧ Aside0 (Below w.heap.size w wr)

theorem crel_next {w wr w1 : World} {st : Int} {s : ByteArray} {x A A' : Int} {Q Q' : Bool} {acc : List UInt8} {o : UInt8} {ov : Int} {a b c : Value} (h0 : 0 ≤ x) (h1 : x < s.size) (hz : Aside0 (crun st s x.toNat = (A, Q, acc))) (hs : cstep A Q (bt s x) = (A', Q', o)) (ho : ov = o.toNat)
    (hb : Lib.BuilderAt 68 5 w.heap.size w.heap.size (.pointer (some ⟨w.heap.size, 0, none⟩)) (Lib.byteCells acc ++ [.int .u8 ov]) w1) (hw : Aside0 (Below w.heap.size w wr)) (hw1 : Below w.heap.size wr w1)
    (ha : a = .int .i64 A') (hbb : b = .bool Q') (hc : c = .int .i64 (x + 1)) : CRel w st s a b c w1 := by
  refine ⟨x + 1, A', Q', acc ++ [o], by omega, by omega, ⟨?_⟩, ha, hbb, hc, ⟨?_⟩, ⟨hw.out.trans hw1⟩⟩
  · rw [show (x + 1).toNat = x.toNat + 1 from by omega]
    show (_, _, _) = _
    rw [hz.out]
    dsimp only
    rw [show ((x.toNat : Nat) : Int) = x from by omega, hs]
  · rw [Lib.byteCells_append]
    subst ho
    exact .inr hb

set_option maxHeartbeats 4000000 in
set_option maxRecDepth 100000 in
theorem impl_colour.calls (a0 : Int) (a1 : ByteArray) (r1 : Int) (r2 : ByteArray) (w : World) (h : impl_colour.f a0 a1 = some (r1, r2)) :
    Calls Tryd.prog 39 #[.int .i64 a0, .string a1] w fun e w' => e = .returned (.tuple #[.int .i64 r1, .string r2]) ∧ Below w.heap.size w w' := by
  unfold impl_colour.f at h
  split at h
  · rename_i hd
    obtain ⟨h0, h9, hs⟩ := hd
    have HR := Aside0.mk (Option.some.inj h)
    clear h
    go_enter Tryd.func39, Tryd.ntmps39
    go_wp2
    go_loopw [0, 7, 13] (fun a b c wr => CRel w a0 a1 a b c wr) (fun _ _ c _ => a1.size - (intOf c).toNat)
    case atStart => exact ⟨0, a0, false, [], by omega, by omega, ⟨rfl⟩, rfl, rfl, rfl, ⟨Lib.fresh_isBuilder _ _ w⟩, ⟨(Below.refl _ w).alloc (Nat.le_refl _) _⟩⟩
    case round =>
      obtain ⟨x, A, Q, acc, x0, x1, HZ, rfl, rfl, rfl, HI, HB⟩ := hrel
      have hrg := crun_range a1 h0 h9 x.toNat
      have hln := crun_len a0 a1 x.toNat
      rw [HZ.out] at hrg hln
      dsimp only at hrg hln
      obtain ⟨A0, A9⟩ := hrg
      have HL := Aside0.mk (show acc.length + 1 ≤ 140737488355328 by omega)
      have HW := Aside0.mk (show w.heap.size ≤ wr.heap.size from HB.out.size)
      clear hln
      by_cases hlt : x < (a1.size : Int)
      · have hx := bt_at a1 x
        have p1 := eq_true x0
        have q1 := eq_true hlt
        have cr := bt_range a1 x
        obtain ⟨c, hc⟩ : ∃ c, c = bt a1 x := ⟨_, rfl⟩
        rw [← hc] at hx cr
        have HC0 := Aside0.mk hc
        clear hc
        obtain ⟨kc, hkc⟩ := classC c
        have HC := Aside0.mk hkc
        clear hkc
        -- WAYS
        cases Q
        case true =>
          have hst := Aside0.mk (show cstep A true c = (A, (c != 34), 51) by unfold cstep; rw [if_pos rfl])
          clear cr
          go_wp2_with (first | (go_at_call 60; refine (Tryd.Builder_WriteByte w.heap.size w.heap.size _ _ _ HI.out (by rw [Lib.byteCells_length]; exact HL.out) HW.out).mono ?_; rintro e w1 ⟨rfl, hb1, hw1⟩; have HB1 := Aside0.mk hb1; have HW1 := Aside0.mk hw1; clear hb1 hw1) | (go_at_call 59; refine (impl_class.calls _ _ _ _ HC.out).mono ?_; rintro e w' ⟨rfl, ⟨nd, rfl⟩⟩; have n0_ := Aside0.mk (isB_drewN nd HI.out); have n1_ := Aside0.mk (pw_below_drewN HB.out nd); have n2_ := Aside0.mk (show w.heap.size ≤ (wr.drewN nd).heap.size from n1_.out.size); clear HI HB HW; have HI := n0_; have HB := n1_; have HW := n2_; clear n0_ n1_ n2_))
          go_roundw
          case rel => exact crel_next (o := 51) x0 hlt HZ (by rw [← HC0.out]; exact hst.out) (by decide) HB1.out HB HW1.out (by first | rfl | go_num) rfl (by first | rfl | go_num)
          case measure => simp [intOf]; omega
        case false =>
          by_cases hw2 : c = 123 ∧ A < 9
          · have h1 := hw2.1
            have h2 := hw2.2
            have f1 : (c == 123) = true := beq_iff_eq.mpr h1
            have f2 : decide (A < 9) = true := decide_eq_true h2
            have hst := Aside0.mk (show cstep A false c = (A + 1, false, 52) by unfold cstep; rw [if_neg (by decide), if_pos hw2])
            clear cr
            go_wp2_with (first | (go_at_call 60; refine (Tryd.Builder_WriteByte w.heap.size w.heap.size _ _ _ HI.out (by rw [Lib.byteCells_length]; exact HL.out) HW.out).mono ?_; rintro e w1 ⟨rfl, hb1, hw1⟩; have HB1 := Aside0.mk hb1; have HW1 := Aside0.mk hw1; clear hb1 hw1) | (go_at_call 59; refine (impl_class.calls _ _ _ _ HC.out).mono ?_; rintro e w' ⟨rfl, ⟨nd, rfl⟩⟩; have n0_ := Aside0.mk (isB_drewN nd HI.out); have n1_ := Aside0.mk (pw_below_drewN HB.out nd); have n2_ := Aside0.mk (show w.heap.size ≤ (wr.drewN nd).heap.size from n1_.out.size); clear HI HB HW; have HI := n0_; have HB := n1_; have HW := n2_; clear n0_ n1_ n2_))
            go_roundw
            case rel => exact crel_next (o := 52) x0 hlt HZ (by rw [← HC0.out]; exact hst.out) (by decide) HB1.out HB HW1.out (by first | rfl | go_num) rfl (by first | rfl | go_num)
            case measure => simp [intOf]; omega
          · obtain ⟨b2, hb2⟩ : ∃ b : Bool, b = decide (A < 9) := ⟨_, rfl⟩
            have hor : c ≠ 123 ∨ ¬ A < 9 := by omega
            by_cases hc1 : c ≠ 123
            · skip
              have f1 : (c == 123) = false := beq_eq_false_iff_ne.mpr hc1
              by_cases h0A : 0 < A
              · have f3 : decide (0 < A) = true := decide_eq_true h0A
                by_cases h125 : c = 125
                · have f4 : (c == 125) = true := beq_iff_eq.mpr h125
                  have hst := Aside0.mk (show cstep A false c = (A - 1, false, 52) by unfold cstep; rw [if_neg (by decide), if_neg hw2, if_pos h0A, if_pos h125])
                  clear cr
                  go_wp2_with (first | (go_at_call 60; refine (Tryd.Builder_WriteByte w.heap.size w.heap.size _ _ _ HI.out (by rw [Lib.byteCells_length]; exact HL.out) HW.out).mono ?_; rintro e w1 ⟨rfl, hb1, hw1⟩; have HB1 := Aside0.mk hb1; have HW1 := Aside0.mk hw1; clear hb1 hw1) | (go_at_call 59; refine (impl_class.calls _ _ _ _ HC.out).mono ?_; rintro e w' ⟨rfl, ⟨nd, rfl⟩⟩; have n0_ := Aside0.mk (isB_drewN nd HI.out); have n1_ := Aside0.mk (pw_below_drewN HB.out nd); have n2_ := Aside0.mk (show w.heap.size ≤ (wr.drewN nd).heap.size from n1_.out.size); clear HI HB HW; have HI := n0_; have HB := n1_; have HW := n2_; clear n0_ n1_ n2_))
                  go_roundw
                  case rel => exact crel_next (o := 52) x0 hlt HZ (by rw [← HC0.out]; exact hst.out) (by decide) HB1.out HB HW1.out (by first | rfl | go_num) rfl (by first | rfl | go_num)
                  case measure => simp [intOf]; omega
                · have f4 : (c == 125) = false := beq_eq_false_iff_ne.mpr h125
                  have hst := Aside0.mk (show cstep A false c = (A, false, 52) by unfold cstep; rw [if_neg (by decide), if_neg hw2, if_pos h0A, if_neg h125])
                  clear cr
                  go_wp2_with (first | (go_at_call 60; refine (Tryd.Builder_WriteByte w.heap.size w.heap.size _ _ _ HI.out (by rw [Lib.byteCells_length]; exact HL.out) HW.out).mono ?_; rintro e w1 ⟨rfl, hb1, hw1⟩; have HB1 := Aside0.mk hb1; have HW1 := Aside0.mk hw1; clear hb1 hw1) | (go_at_call 59; refine (impl_class.calls _ _ _ _ HC.out).mono ?_; rintro e w' ⟨rfl, ⟨nd, rfl⟩⟩; have n0_ := Aside0.mk (isB_drewN nd HI.out); have n1_ := Aside0.mk (pw_below_drewN HB.out nd); have n2_ := Aside0.mk (show w.heap.size ≤ (wr.drewN nd).heap.size from n1_.out.size); clear HI HB HW; have HI := n0_; have HB := n1_; have HW := n2_; clear n0_ n1_ n2_))
                  go_roundw
                  case rel => exact crel_next (o := 52) x0 hlt HZ (by rw [← HC0.out]; exact hst.out) (by decide) HB1.out HB HW1.out (by first | rfl | go_num) rfl (by first | rfl | go_num)
                  case measure => simp [intOf]; omega
              · have f3 : decide (0 < A) = false := decide_eq_false h0A
                by_cases h34 : c = 34
                · have f5 : (c == 34) = true := beq_iff_eq.mpr h34
                  have hst := Aside0.mk (show cstep A false c = (A, true, 51) by unfold cstep; rw [if_neg (by decide), if_neg hw2, if_neg h0A, if_pos h34])
                  clear cr
                  go_wp2_with (first | (go_at_call 60; refine (Tryd.Builder_WriteByte w.heap.size w.heap.size _ _ _ HI.out (by rw [Lib.byteCells_length]; exact HL.out) HW.out).mono ?_; rintro e w1 ⟨rfl, hb1, hw1⟩; have HB1 := Aside0.mk hb1; have HW1 := Aside0.mk hw1; clear hb1 hw1) | (go_at_call 59; refine (impl_class.calls _ _ _ _ HC.out).mono ?_; rintro e w' ⟨rfl, ⟨nd, rfl⟩⟩; have n0_ := Aside0.mk (isB_drewN nd HI.out); have n1_ := Aside0.mk (pw_below_drewN HB.out nd); have n2_ := Aside0.mk (show w.heap.size ≤ (wr.drewN nd).heap.size from n1_.out.size); clear HI HB HW; have HI := n0_; have HB := n1_; have HW := n2_; clear n0_ n1_ n2_))
                  go_roundw
                  case rel => exact crel_next (o := 51) x0 hlt HZ (by rw [← HC0.out]; exact hst.out) (by decide) HB1.out HB HW1.out (by first | rfl | go_num) rfl (by first | rfl | go_num)
                  case measure => simp [intOf]; omega
                · have f5 : (c == 34) = false := beq_eq_false_iff_ne.mpr h34
                  by_cases hd : 48 ≤ c ∧ c ≤ 57
                  · have f6 : decide (48 ≤ c) = true := decide_eq_true hd.1
                    have f7 : decide (c ≤ 57) = true := decide_eq_true hd.2
                    have hst := Aside0.mk (show cstep A false c = (A, false, 50) by unfold cstep; rw [if_neg (by decide), if_neg hw2, if_neg h0A, if_neg h34, if_pos hd])
                    clear cr
                    go_wp2_with (first | (go_at_call 60; refine (Tryd.Builder_WriteByte w.heap.size w.heap.size _ _ _ HI.out (by rw [Lib.byteCells_length]; exact HL.out) HW.out).mono ?_; rintro e w1 ⟨rfl, hb1, hw1⟩; have HB1 := Aside0.mk hb1; have HW1 := Aside0.mk hw1; clear hb1 hw1) | (go_at_call 59; refine (impl_class.calls _ _ _ _ HC.out).mono ?_; rintro e w' ⟨rfl, ⟨nd, rfl⟩⟩; have n0_ := Aside0.mk (isB_drewN nd HI.out); have n1_ := Aside0.mk (pw_below_drewN HB.out nd); have n2_ := Aside0.mk (show w.heap.size ≤ (wr.drewN nd).heap.size from n1_.out.size); clear HI HB HW; have HI := n0_; have HB := n1_; have HW := n2_; clear n0_ n1_ n2_))
                    go_roundw
                    case rel => exact crel_next (o := 50) x0 hlt HZ (by rw [← HC0.out]; exact hst.out) (by decide) HB1.out HB HW1.out (by first | rfl | go_num) rfl (by first | rfl | go_num)
                    case measure => simp [intOf]; omega
                  · have stop : ∀ b : Bool, b = (cls c == 1) → True := fun _ _ => trivial
                    by_cases h48 : 48 ≤ c
                    · have f6 : decide (48 ≤ c) = true := decide_eq_true h48
                      have f7 : decide (c ≤ 57) = false := decide_eq_false (by omega)
                      by_cases h1c : cls c = 1
                      · have f8 : (cls c == 1) = true := beq_iff_eq.mpr h1c
                        have hst := Aside0.mk (show cstep A false c = (A, false, 49) by unfold cstep; rw [if_neg (by decide), if_neg hw2, if_neg h0A, if_neg h34, if_neg hd, if_pos h1c])
                        clear cr
                        go_wp2_with (first | (go_at_call 60; refine (Tryd.Builder_WriteByte w.heap.size w.heap.size _ _ _ HI.out (by rw [Lib.byteCells_length]; exact HL.out) HW.out).mono ?_; rintro e w1 ⟨rfl, hb1, hw1⟩; have HB1 := Aside0.mk hb1; have HW1 := Aside0.mk hw1; clear hb1 hw1) | (go_at_call 59; refine (impl_class.calls _ _ _ _ HC.out).mono ?_; rintro e w' ⟨rfl, ⟨nd, rfl⟩⟩; have n0_ := Aside0.mk (isB_drewN nd HI.out); have n1_ := Aside0.mk (pw_below_drewN HB.out nd); have n2_ := Aside0.mk (show w.heap.size ≤ (wr.drewN nd).heap.size from n1_.out.size); clear HI HB HW; have HI := n0_; have HB := n1_; have HW := n2_; clear n0_ n1_ n2_))
                        go_roundw
                        case rel => exact crel_next (o := 49) x0 hlt HZ (by rw [← HC0.out]; exact hst.out) (by decide) HB1.out HB HW1.out (by first | rfl | go_num) rfl (by first | rfl | go_num)
                        case measure => simp [intOf]; omega
                      · have f8 : (cls c == 1) = false := beq_eq_false_iff_ne.mpr h1c
                        have hst := Aside0.mk (show cstep A false c = (A, false, 48) by unfold cstep; rw [if_neg (by decide), if_neg hw2, if_neg h0A, if_neg h34, if_neg hd, if_neg h1c])
                        clear cr
                        go_wp2_with (first | (go_at_call 60; refine (Tryd.Builder_WriteByte w.heap.size w.heap.size _ _ _ HI.out (by rw [Lib.byteCells_length]; exact HL.out) HW.out).mono ?_; rintro e w1 ⟨rfl, hb1, hw1⟩; have HB1 := Aside0.mk hb1; have HW1 := Aside0.mk hw1; clear hb1 hw1) | (go_at_call 59; refine (impl_class.calls _ _ _ _ HC.out).mono ?_; rintro e w' ⟨rfl, ⟨nd, rfl⟩⟩; have n0_ := Aside0.mk (isB_drewN nd HI.out); have n1_ := Aside0.mk (pw_below_drewN HB.out nd); have n2_ := Aside0.mk (show w.heap.size ≤ (wr.drewN nd).heap.size from n1_.out.size); clear HI HB HW; have HI := n0_; have HB := n1_; have HW := n2_; clear n0_ n1_ n2_))
                        go_roundw
                        case rel => exact crel_next (o := 48) x0 hlt HZ (by rw [← HC0.out]; exact hst.out) (by decide) HB1.out HB HW1.out (by first | rfl | go_num) rfl (by first | rfl | go_num)
                        case measure => simp [intOf]; omega
                    · have f6 : decide (48 ≤ c) = false := decide_eq_false h48
                      by_cases h1c : cls c = 1
                      · have f8 : (cls c == 1) = true := beq_iff_eq.mpr h1c
                        have hst := Aside0.mk (show cstep A false c = (A, false, 49) by unfold cstep; rw [if_neg (by decide), if_neg hw2, if_neg h0A, if_neg h34, if_neg hd, if_pos h1c])
                        clear cr
                        go_wp2_with (first | (go_at_call 60; refine (Tryd.Builder_WriteByte w.heap.size w.heap.size _ _ _ HI.out (by rw [Lib.byteCells_length]; exact HL.out) HW.out).mono ?_; rintro e w1 ⟨rfl, hb1, hw1⟩; have HB1 := Aside0.mk hb1; have HW1 := Aside0.mk hw1; clear hb1 hw1) | (go_at_call 59; refine (impl_class.calls _ _ _ _ HC.out).mono ?_; rintro e w' ⟨rfl, ⟨nd, rfl⟩⟩; have n0_ := Aside0.mk (isB_drewN nd HI.out); have n1_ := Aside0.mk (pw_below_drewN HB.out nd); have n2_ := Aside0.mk (show w.heap.size ≤ (wr.drewN nd).heap.size from n1_.out.size); clear HI HB HW; have HI := n0_; have HB := n1_; have HW := n2_; clear n0_ n1_ n2_))
                        go_roundw
                        case rel => exact crel_next (o := 49) x0 hlt HZ (by rw [← HC0.out]; exact hst.out) (by decide) HB1.out HB HW1.out (by first | rfl | go_num) rfl (by first | rfl | go_num)
                        case measure => simp [intOf]; omega
                      · have f8 : (cls c == 1) = false := beq_eq_false_iff_ne.mpr h1c
                        have hst := Aside0.mk (show cstep A false c = (A, false, 48) by unfold cstep; rw [if_neg (by decide), if_neg hw2, if_neg h0A, if_neg h34, if_neg hd, if_neg h1c])
                        clear cr
                        go_wp2_with (first | (go_at_call 60; refine (Tryd.Builder_WriteByte w.heap.size w.heap.size _ _ _ HI.out (by rw [Lib.byteCells_length]; exact HL.out) HW.out).mono ?_; rintro e w1 ⟨rfl, hb1, hw1⟩; have HB1 := Aside0.mk hb1; have HW1 := Aside0.mk hw1; clear hb1 hw1) | (go_at_call 59; refine (impl_class.calls _ _ _ _ HC.out).mono ?_; rintro e w' ⟨rfl, ⟨nd, rfl⟩⟩; have n0_ := Aside0.mk (isB_drewN nd HI.out); have n1_ := Aside0.mk (pw_below_drewN HB.out nd); have n2_ := Aside0.mk (show w.heap.size ≤ (wr.drewN nd).heap.size from n1_.out.size); clear HI HB HW; have HI := n0_; have HB := n1_; have HW := n2_; clear n0_ n1_ n2_))
                        go_roundw
                        case rel => exact crel_next (o := 48) x0 hlt HZ (by rw [← HC0.out]; exact hst.out) (by decide) HB1.out HB HW1.out (by first | rfl | go_num) rfl (by first | rfl | go_num)
                        case measure => simp [intOf]; omega
            · replace hc1 : c = 123 := by omega
              have f1 : (c == 123) = true := beq_iff_eq.mpr hc1
              have f2 : decide (A < 9) = false := decide_eq_false (by omega)
              by_cases h0A : 0 < A
              · have f3 : decide (0 < A) = true := decide_eq_true h0A
                by_cases h125 : c = 125
                · have f4 : (c == 125) = true := beq_iff_eq.mpr h125
                  have hst := Aside0.mk (show cstep A false c = (A - 1, false, 52) by unfold cstep; rw [if_neg (by decide), if_neg hw2, if_pos h0A, if_pos h125])
                  clear cr
                  go_wp2_with (first | (go_at_call 60; refine (Tryd.Builder_WriteByte w.heap.size w.heap.size _ _ _ HI.out (by rw [Lib.byteCells_length]; exact HL.out) HW.out).mono ?_; rintro e w1 ⟨rfl, hb1, hw1⟩; have HB1 := Aside0.mk hb1; have HW1 := Aside0.mk hw1; clear hb1 hw1) | (go_at_call 59; refine (impl_class.calls _ _ _ _ HC.out).mono ?_; rintro e w' ⟨rfl, ⟨nd, rfl⟩⟩; have n0_ := Aside0.mk (isB_drewN nd HI.out); have n1_ := Aside0.mk (pw_below_drewN HB.out nd); have n2_ := Aside0.mk (show w.heap.size ≤ (wr.drewN nd).heap.size from n1_.out.size); clear HI HB HW; have HI := n0_; have HB := n1_; have HW := n2_; clear n0_ n1_ n2_))
                  go_roundw
                  case rel => exact crel_next (o := 52) x0 hlt HZ (by rw [← HC0.out]; exact hst.out) (by decide) HB1.out HB HW1.out (by first | rfl | go_num) rfl (by first | rfl | go_num)
                  case measure => simp [intOf]; omega
                · have f4 : (c == 125) = false := beq_eq_false_iff_ne.mpr h125
                  have hst := Aside0.mk (show cstep A false c = (A, false, 52) by unfold cstep; rw [if_neg (by decide), if_neg hw2, if_pos h0A, if_neg h125])
                  clear cr
                  go_wp2_with (first | (go_at_call 60; refine (Tryd.Builder_WriteByte w.heap.size w.heap.size _ _ _ HI.out (by rw [Lib.byteCells_length]; exact HL.out) HW.out).mono ?_; rintro e w1 ⟨rfl, hb1, hw1⟩; have HB1 := Aside0.mk hb1; have HW1 := Aside0.mk hw1; clear hb1 hw1) | (go_at_call 59; refine (impl_class.calls _ _ _ _ HC.out).mono ?_; rintro e w' ⟨rfl, ⟨nd, rfl⟩⟩; have n0_ := Aside0.mk (isB_drewN nd HI.out); have n1_ := Aside0.mk (pw_below_drewN HB.out nd); have n2_ := Aside0.mk (show w.heap.size ≤ (wr.drewN nd).heap.size from n1_.out.size); clear HI HB HW; have HI := n0_; have HB := n1_; have HW := n2_; clear n0_ n1_ n2_))
                  go_roundw
                  case rel => exact crel_next (o := 52) x0 hlt HZ (by rw [← HC0.out]; exact hst.out) (by decide) HB1.out HB HW1.out (by first | rfl | go_num) rfl (by first | rfl | go_num)
                  case measure => simp [intOf]; omega
              · exfalso; omega
        -- END WAYS
      · have hn := eq_false hlt
        have e : x = a1.size := by omega
        subst e
        obtain ⟨rfl, rfl⟩ : A = r1 ∧ (⟨acc.toArray⟩ : ByteArray) = r2 := by
          have h1 := HR.out
          have h2 := HZ.out
          rw [Int.toNat_natCast] at h2
          rw [h2] at h1
          exact ⟨congrArg Prod.fst h1, congrArg Prod.snd h1⟩
        clear HR HZ
        go_wp2_with (go_at_call 61; refine (Tryd.Builder_String_any w.heap.size w.heap.size acc _ HI.out HW.out).mono ?_; rintro e w1 ⟨rfl, hw1⟩; have HW1 := Aside0.mk hw1; clear hw1)
        go_ret2
        exact ⟨rfl, HB.out.trans HW1.out⟩
  · cases h
end Go.Proofs.YtheglgphknahdaaDoor.X
