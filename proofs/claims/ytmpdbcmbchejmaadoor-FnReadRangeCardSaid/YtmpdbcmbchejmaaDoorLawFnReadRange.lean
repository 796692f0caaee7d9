-- written by a program of this session (wip/xprint.py) out of the translation
import Derived.Test.YtmpdbcmbchejmaaDoorRows
import Derived.Test.YtmpdbcmbchejmaaDoorX3
import Derived.Test.YtmpdbcmbchejmaaDoorMFnReadRange
import Derived.WalkKit
import Derived.ProofKit
import Derived.OpenShut
import Derived.ShutString
import Derived.ChangeOld
import Derived.Below
import Derived.SizedLaws
import Derived.Test.YtmpdbcmbchejmaaDoorLibH
import Derived.LaidMore
import Derived.Lay
import Derived.SevenTiedAt
import Derived.Stop.Joined
import Derived.Test.YtmpdbcmbchejmaaDoorCards
import Derived.Test.YtmpdbcmbchejmaaDoorTie
import Derived.Test.YtmpdbcmbchejmaaDoorWSized
namespace Go.Proofs.YtmpdbcmbchejmaaDoor.fnReadRange
open Go.ChangeShapes Go.WideShapes Go.ChangeAt Go.RowKit
open Go.ChangeMaps (open_string shut_string)
set_option linter.unusedVariables false
theorem pow10_of {W : World} (h : laidMetH Tryd.prog Rows.fnReadRangeRow.laid W) : Lib.TabIs Tryd.prog W "internal/strconv.uint64pow10" .u64 Lib.pow10Tab := by
  rw [MakeChecks.laidMetH_plain _ _ _ (by kernel_rfl)] at h
  obtain ⟨ps, hr, _, _⟩ := h
  obtain ⟨_, _, _, _, _, _, _, _, _, _, hr, _⟩ := hr
  obtain ⟨_, _, _, _, _, _, _, _, _, _, hr, _⟩ := hr
  obtain ⟨g, t, cs, fuel, p, q, hg, ht, hv, hd, _, _⟩ := hr
  obtain rfl := Option.some.inj ((show Tryd.prog.globalNamed "internal/strconv.uint64pow10" = some 5 by kernel_rfl).symm.trans hg)
  obtain rfl := Option.some.inj ((show (Tryd.prog.globals[5]?).map (·.type) = some 105 by kernel_rfl).symm.trans ht)
  have e : (Rows.laid_internal_strconv_uint64pow10 : DataW Unit) = Lib.tabData .u64 Lib.pow10Tab := by kernel_rfl
  rw [e] at hd
  unfold Lib.TabIs
  rw [hv, ← Lib.cells_of_tab (n := 20) Tryd.underlying105 Tryd.underlying81 (by kernel_rfl) (by kernel_rfl) hd]
theorem syn_of {W : World} (h : laidMetH Tryd.prog Rows.fnReadRangeRow.laid W) : ∃ te pe, W.cell? ⟨1, 0, none⟩ = some (.iface te pe) := by
  rw [MakeChecks.laidMetH_plain _ _ _ (by kernel_rfl)] at h
  obtain ⟨ps, hr, _, _⟩ := h
  obtain ⟨_, _, _, _, _, _, _, _, _, _, hr, _⟩ := hr
  obtain ⟨_, _, _, _, _, _, _, _, _, _, hr, _⟩ := hr
  obtain ⟨_, _, _, _, _, _, _, _, _, _, hr, _⟩ := hr
  obtain ⟨_, _, _, _, _, _, _, _, _, _, hr, _⟩ := hr
  obtain ⟨g, t, cs, fuel, p, q, hg, ht, hv, hd, _, _⟩ := hr
  obtain rfl := Option.some.inj ((show Tryd.prog.globalNamed "strconv.ErrSyntax" = some 1 by kernel_rfl).symm.trans hg)
  obtain rfl := Option.some.inj ((show (Tryd.prog.globals[1]?).map (·.type) = some 49 by kernel_rfl).symm.trans ht)
  obtain ⟨u, v, e⟩ := iface_of_trod Tryd.underlying49 hd
  refine ⟨u, v, ?_⟩
  rw [World.var?_cell hg hv 0]
  have h0 := congrArg (fun l => l[0]?) e
  simpa using h0
theorem ran_of {W : World} (h : laidMetH Tryd.prog Rows.fnReadRangeRow.laid W) : ∃ te pe, W.cell? ⟨2, 0, none⟩ = some (.iface te pe) := by
  rw [MakeChecks.laidMetH_plain _ _ _ (by kernel_rfl)] at h
  obtain ⟨ps, hr, _, _⟩ := h
  obtain ⟨_, _, _, _, _, _, _, _, _, _, hr, _⟩ := hr
  obtain ⟨_, _, _, _, _, _, _, _, _, _, hr, _⟩ := hr
  obtain ⟨_, _, _, _, _, _, _, _, _, _, hr, _⟩ := hr
  obtain ⟨g, t, cs, fuel, p, q, hg, ht, hv, hd, _, _⟩ := hr
  obtain rfl := Option.some.inj ((show Tryd.prog.globalNamed "strconv.ErrRange" = some 2 by kernel_rfl).symm.trans hg)
  obtain rfl := Option.some.inj ((show (Tryd.prog.globals[2]?).map (·.type) = some 49 by kernel_rfl).symm.trans ht)
  obtain ⟨u, v, e⟩ := iface_of_trod Tryd.underlying49 hd
  refine ⟨u, v, ?_⟩
  rw [World.var?_cell hg hv 0]
  have h0 := congrArg (fun l => l[0]?) e
  simpa using h0
theorem own : ownKnob Tryd.prog.godebug = none := by kernel_rfl
theorem laidOut : laidOutB Tryd.prog = true := by kernel_rfl
def IsRow (k : IntKind) (w : World) (a : Option Addr) (len cap : Nat) (zs : List Int) : Prop :=
  (a = none ∧ len = 0 ∧ cap = 0 ∧ zs = []) ∨
  ∃ x, a = some x ∧ len ≤ cap ∧ cap ≤ maxLen ∧ zs.length = cap ∧ (∀ i, i < zs.length → w.cell? (x.add i) = some (.int k (zs.getD i 0))) ∧ ∀ n ∈ zs, (Lit.int k n).wf = true
set_option maxRecDepth 100000 in
theorem lifted (os : Os) (started : os.Started) (H : Type) (enc : TypeId × Value → H) :
    ReturnsInHanded {} Tryd.checked os 3 .any (fun w args => (Rows.fnReadRangeSpec.pre enc Tryd.prog Tryd.f3 Rows.fnReadRangeRow.domain false w args ∧ laidMetH Tryd.prog Rows.fnReadRangeRow.laid w) ∧ sizedMet enc Tryd.prog Tryd.f3 (OpenSpec.ofChange Rows.fnReadRangeSpec) false w args) (Rows.fnReadRangeSpec.post enc Tryd.prog Tryd.f3 false true false false) := by
  refine returnsInHanded_of_change_and (C := Tryd.checked) (X := fun w _ => laidMetH Tryd.prog Rows.fnReadRangeRow.laid w) (fun _ _ _ hh h => h.of_heap hh) own started (by kernel_rfl) Tryd.func3
    (ChangeSpec.witness_shaped (enc := enc) (C := Tryd.checked) (os := os) (X := fun w _ => laidMetH Tryd.prog Rows.fnReadRangeRow.laid w) false (World.laidAll Tryd.prog os Rows.fnReadRangeRow.laid) #[.slice none 0 0] 8 (World.laidAll_os _ _ _) (World.shaped_of_ZipB (by kernel_rfl) (by kernel_rfl)) (by kernel_rfl) (by kernel_rfl) (by kernel_rfl)
      (by rw [MakeChecks.laidMetH_plain _ _ _ (by kernel_rfl)]; exact laidMet_laidAll _ (by kernel_rfl) (by kernel_rfl))) ?_
  intro W base args ds gs before hval0 hW hcnd hsz0 hlaid _
  have hsz : (DataW.weightsEach Tryd.prog (Tryd.f3.params.toList ++ Rows.fnReadRangeSpec.plain.varTypes Tryd.prog) (ds ++ gs)).all (· ≤ reachBytes) = true := hsz0
  have hval : ∀ (j : Nat) t v, Tryd.f3.params[j]? = some t → args[j]? = some v → Value.okWide Tryd.prog W .any base t v := hval0
  have hW' := hW
  obtain ⟨p, q, hA0, hV, rfl, hfz, hnd⟩ := hW
  have hA : DataW.TrodAll enc Tryd.prog W 0 (fun _ => true) true Tryd.f3.params.toList args.toList ds p := hA0
  rw [Tryd.params3] at hA hval hsz
  obtain ⟨v0, vs0, d0, ds0, p0, q0, hargs, rfl, rfl, h0, r0⟩ := trodAll_cons hA
  obtain ⟨rfl, rfl, rfl⟩ := trodAll_nil r0
  obtain rfl : args = #[v0] := by cases args; simp_all
  obtain ⟨rfl, rfl⟩ := trodVars_none hV
  obtain ⟨a0, len0, cap0, rfl⟩ := okWide_slice Tryd.underlying22 (hval 0 22 v0 rfl rfl)
  have k0 := h0
  have lt0 : ∀ x ∈ p0, x.block < W.heap.size := by obtain ⟨m, hm⟩ := k0; exact DataW.trod_lt m _ _ _ hm
  obtain ⟨z0, w0⟩ : ∃ zs, IsRow .u8 W a0 len0 cap0 zs := by
    obtain ⟨fuel, hf⟩ := h0
    rcases open_ints Tryd.underlying22 Tryd.underlying5 (by kernel_rfl) hf with ⟨hcs, _⟩ | ⟨x, l, c, zs, hcs, _, hl, hm, hz, _, hcell, hwz⟩
    · simp [Value.cells] at hcs
      obtain ⟨rfl, rfl, rfl⟩ := hcs
      exact ⟨[], .inl ⟨rfl, rfl, rfl, rfl⟩⟩
    · simp [Value.cells] at hcs
      obtain ⟨rfl, rfl, rfl⟩ := hcs
      exact ⟨zs, .inr ⟨_, rfl, hl, hm, by simpa using hz, hcell, hwz⟩⟩
  have y0 : len0 * 1 ≤ 140737488351232 := Go.Proofs.YtmpdbcmbchejmaaDoorW.PrintWords.sized_ints hsz (j := 0) (t := 22) rfl rfl Tryd.underlying22 Tryd.underlying5 (by kernel_rfl) (by kernel_rfl) h0
  clear hA0 hval0 hsz0 hsz
  have hT : X.TW W := { pow10 := pow10_of hlaid, syn := syn_of hlaid, ran := ran_of hlaid, any := trivial }
  refine (X.laws_FnReadRange.walk Pure.FnReadRange a0 len0 cap0 z0 W w0 y0 hT).mono fun e W' ⟨he, bel⟩ => ?_
  subst he
  exact ⟨_, rfl, _, _, _, [], _, [], hW', trodAll_mk1 (shut_bool Tryd.underlying4 _), (trodAll_cons_mk (Below.trod laidOut (by kernel_rfl) (of_decide_eq_true (by kernel_rfl)) k0 bel lt0) trodAll_mk0), rfl, bel.frame _, fun h => by cases h⟩
theorem over : Rows.fnReadRangeRow.holds Tryd.pinned (OpenSpec.ofChange Rows.fnReadRangeSpec) :=
  OpenClaim.holds_of_wide 3 Tryd.f3 rfl rfl rfl rfl rfl rfl rfl ⟨rfl, rfl, rfl, rfl, rfl⟩ rfl rfl rfl rfl rfl (by kernel_rfl) Tryd.func3 (by kernel_rfl)
    (of_decide_eq_true (by kernel_rfl)) (by unfold Func.isWrapper; first | (rw [if_pos (by decide +kernel)]; kernel_rfl) | (rw [if_neg (by decide +kernel)]; exact ⟨rfl, rfl⟩))
    (fun os started H enc _ => lifted os started H enc)
theorem card : Rows.FnReadRangeCardSaid :=
  Claim7.holds_tied_plain_at .later [] [.data, .data, .data, .sentinel, .sentinel] true (true, "3d7e6e49db6da46d51c5f5160d3ce0eadc45d46483226596978bfb88bb7bf165") true over (fun _ h => by cases h) (by kernel_rfl) (fun _ h => by cases h) fnReadRange_row_tie rfl ⟨rfl, rfl⟩ (by kernel_rfl) rfl
    (fun f fn hf hfn => by
      obtain rfl : f = 3 := Option.some.inj ((show Tryd.prog.funcNamed "loop.example/texteditor/laws.FnReadRange" = some 3 by kernel_rfl).symm.trans hf) |>.symm
      obtain rfl : fn = Tryd.f3 := (Option.some.inj (Tryd.func3.symm.trans hfn)).symm
      exact ⟨by kernel_rfl, fun j t ht => by
        rw [Tryd.params3] at ht
        have hm : t ∈ [22] := by simpa using Array.mem_of_getElem? ht
        have hall : ([22].all fun u => !Tryd.prog.wantsStandIn u) = true := by kernel_rfl
        exact (show Tryd.prog.wantsStandIn t = false by simpa using List.all_eq_true.1 hall t hm)⟩)
    (by kernel_rfl)
#print axioms card
end Go.Proofs.YtmpdbcmbchejmaaDoor.fnReadRange
namespace Go.Proofs.YtmpdbcmbchejmaaDoor
/-- The card, under a short name, for the claim. -/
theorem fnReadRange_holds : Rows.FnReadRangeCardSaid := fnReadRange.card
end Go.Proofs.YtmpdbcmbchejmaaDoor
