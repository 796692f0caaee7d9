/- The row of FnExactDeskValid: for every desk the program's DeskValid returns what the reference's returns; the desk reads behind the call as before. Conditions: none. -/
import Derived.Test.YtbkdfiepdnbeoaaX26
import Derived.Test.YtbkdfiepdnbeoaaRows
import Derived.Test.YtbkdfiepdnbeoaaPureFnDeskValid
import Derived.WalkKit
import Derived.ProofKit
import Derived.OpenShut
import Derived.ShutString
import Derived.ChangeOld
import Derived.Below
import Derived.SizedLaws
import Derived.Lib.SmallJoins
namespace Go.Proofs.Ytbkdfiepdnbeoaa.fnExactDeskValid
open Go.ChangeShapes Go.WideShapes Go.ChangeAt Go.RowKit Go.Joins
open Go.Proofs.Ytbkdfiepdnbeoaa.X Go.Proofs.Ytbkdfiepdnbeoaa.Wp Go.Proofs.Ytbkdfiepdnbeoaa.Ev Go.Proofs.Ytbkdfiepdnbeoaa.Pure Go.Proofs.YtbkdfiepdnbeoaaW.PrintWords
set_option linter.unusedVariables false
set_option linter.unusedSimpArgs false

theorem law (s : ByteArray) (p w : Int) (hs : s.size ≤ maxLen) : ∃ k, laws_FnExactDeskValid.f k s p w = some true := by
  refine W.rounds (r := true) ?_
  have hm : maxLen = 9223372036854775807 := rfl
  unfold laws_FnExactDeskValid.f laws_szDesk.f
  rw [w64 (x := 1048576 - (s.size : Int)) (by omega) (by omega)]
  by_cases hbig : 1048576 - (s.size : Int) < 0
  · rw [if_pos hbig]
    exact W.name (W.pos (by decide) (W.ret rfl))
  · rw [if_neg hbig]
    have hs2 : s.size ≤ 140737488351232 := by omega
    refine W.name (W.neg hbig ?_)
    unfold laws_toDesk.f
    refine W.name (W.bind (specDesk s p w hs2) (fun b hb => W.name (W.bind (implDesk s p w hs2) (fun c hc => ?_))))
    have e : c = b := by rw [Bool.eq_iff_iff, hb, hc]
    subst e
    exact W.neg (by simp) (W.ret rfl)
theorem own : ownKnob Try.prog.godebug = none := by kernel_rfl
theorem cells : Try.prog.cellsOf 39 = 3 := by kernel_rfl
set_option maxRecDepth 100000 in
theorem lifted (os : Os) (started : os.Started) (H : Type) (enc : TypeId × Value → H) :
    ReturnsInHanded {} Try.checked os 12 .any (Rows.fnExactDeskValidSpec.pre6 enc Try.prog Try.f12 Rows.fnExactDeskValidRow.domain false) (Rows.fnExactDeskValidSpec.post enc Try.prog Try.f12 false true false false) := by
  refine returnsInHanded_of_change_sized (C := Try.checked) own started (by kernel_rfl) Try.func12
    (ChangeSpec.witness6 (enc := enc) (C := Try.checked) false ⟨#[], #[.agg #[.string ByteArray.empty, .int .i64 0, .int .i64 0]], []⟩ 8 (by kernel_rfl) (by kernel_rfl) (by kernel_rfl) (by kernel_rfl)) ?_
  intro W base args ds gs before hval0 hW hcnd hsz0 _
  have hval : ∀ (j : Nat) t v, Try.f12.params[j]? = some t → args[j]? = some v → Value.okWide Try.prog W .any base t v := hval0
  have hW' := hW
  obtain ⟨p, q, hA0, hV, rfl, hfz, hnd⟩ := hW
  have hA : DataW.TrodAll enc Try.prog W 0 (fun _ => true) true Try.f12.params.toList args.toList ds p := hA0
  rw [Try.params12] at hA hval
  obtain ⟨v0, d0, rfl, rfl, h0⟩ := trodAll_one hA
  obtain ⟨rfl, rfl⟩ := trodVars_none hV
  obtain ⟨c0, c1, c2, y0, y1, y2, m, rfl, rfl, rfl, hy0, hy1, hy2⟩ := open_agg3 Try.underlying39 (by kernel_rfl) cells (hval 0 39 v0 rfl rfl) h0
  obtain ⟨s, e0, rfl, ws⟩ := DataW.trod_string Try.underlying9 hy0
  obtain ⟨a, e1, rfl, wa⟩ := DataW.trod_int Try.underlying3 hy1
  obtain ⟨b, e2, rfl, wb⟩ := DataW.trod_int Try.underlying3 hy2
  simp at e0 e1 e2
  subst e0 e1 e2
  clear hA0 hval0 hsz0
  obtain ⟨k, hk⟩ := law s a b ws
  have structReads : ∀ (W' : World) (sp : Nat → Bool), DataW.Trod enc Try.prog W' 0 sp true 39 (.agg #[.string s, .int .i64 a, .int .i64 b]) (.agg [.lit (.string s.data.toList), .lit (.int .i64 a), .lit (.int .i64 b)]) [] := fun W' sp =>
    shut_agg3 (y0 := (.lit (.string s.data.toList), [])) (y1 := (.lit (.int .i64 a), [])) (y2 := (.lit (.int .i64 b), [])) Try.underlying39 (by kernel_rfl) cells ⟨1, by simp [DataW.trod, Try.underlying9, ws]⟩ ⟨1, by simp [DataW.trod, Try.underlying3, wa]⟩ ⟨1, by simp [DataW.trod, Try.underlying3, wb]⟩
  refine (X.laws_FnExactDeskValid.calls k s a b true W hk).mono fun e W' ⟨he, bel⟩ => ?_
  subst he
  exact ⟨_, rfl, _, _, _, [], _, [], hW', trodAll_mk1 (shut_bool Try.underlying4 _), (trodAll_cons_mk (structReads _ _) trodAll_mk0), rfl, bel.frame _, fun h => by cases h⟩
theorem over : Rows.fnExactDeskValidRow.holds Try.pinned (OpenSpec.ofChange Rows.fnExactDeskValidSpec) :=
  OpenClaim.holds_of_wide 12 Try.f12 rfl rfl rfl rfl rfl rfl rfl ⟨rfl, rfl, rfl, rfl, rfl⟩ rfl rfl rfl rfl rfl (by kernel_rfl) Try.func12 (by kernel_rfl)
    (of_decide_eq_true (by kernel_rfl)) (by unfold Func.isWrapper; first | (rw [if_pos (by decide +kernel)]; kernel_rfl) | (rw [if_neg (by decide +kernel)]; exact ⟨rfl, rfl⟩))
    (fun os started H enc _ => lifted os started H enc)
theorem proved : Rows.FnExactDeskValidSaid := over
#print axioms proved
end Go.Proofs.Ytbkdfiepdnbeoaa.fnExactDeskValid
namespace Go.Proofs.Ytbkdfiepdnbeoaa
/-- The row, under a short name, for the claim. -/
theorem fnExactDeskValid_holds : Rows.FnExactDeskValidSaid := fnExactDeskValid.proved
end Go.Proofs.Ytbkdfiepdnbeoaa
