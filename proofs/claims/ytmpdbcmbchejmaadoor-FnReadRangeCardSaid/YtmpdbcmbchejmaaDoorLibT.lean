/- What a call asks of the world that it begins in (the tables of Go's library that it reads), kept by all that is done to one's own memory; contracts of functions that read them: strings.Fields, strings.Join and others, in the printed functions' form. -/
import Derived.Test.YtmpdbcmbchejmaaDoorLib1
import Derived.Lib.SmallJoins
namespace Go.Proofs.YtmpdbcmbchejmaaDoor.X
open Go.RowKit Go.Proofs.YtmpdbcmbchejmaaDoorW.PrintWords
set_option linter.unusedVariables false

/-- What is asked of the world. -/
structure TW (w : World) : Prop where
  pow10 : Lib.TabIs Tryd.prog w "internal/strconv.uint64pow10" .u64 Lib.pow10Tab
  syn : ∃ te pe, w.cell? ⟨1, 0, none⟩ = some (.iface te pe)
  ran : ∃ te pe, w.cell? ⟨2, 0, none⟩ = some (.iface te pe)
  any : True
theorem cell_on {w w' : World} (hb : ∀ g : Nat, g < w.heap.size → w'.heap[g]? = w.heap[g]?) {a : Addr} {v : Value} (h : w.cell? a = some v) : w'.cell? a = some v := by
  rw [← h]
  exact World.cell?_of_block (hb _ (World.block_lt_of_cell? w a h))
theorem tab_on {w w' : World} (hb : ∀ g : Nat, g < w.heap.size → w'.heap[g]? = w.heap[g]?) {n : String} {k : IntKind} {zs : List Int} (h : Lib.TabIs Tryd.prog w n k zs) : Lib.TabIs Tryd.prog w' n k zs := by
  unfold Lib.TabIs World.var? at *
  cases hg : Tryd.prog.globalNamed n with
  | none => simp [hg] at h
  | some g =>
    simp only [hg, Option.bind_some] at h ⊢
    have hlt : g < w.heap.size := by
      rcases Nat.lt_or_ge g w.heap.size with h' | h'
      · exact h'
      · rw [Array.getElem?_eq_none h'] at h; simp at h
    rw [hb g hlt]
    exact h
theorem TW.on {w w' : World} (h : TW w) (hb : ∀ g : Nat, g < w.heap.size → w'.heap[g]? = w.heap[g]?) : TW w' := {
  pow10 := tab_on hb h.pow10
  syn := h.syn.imp fun te h2 => h2.imp fun pe h3 => cell_on hb h3
  ran := h.ran.imp fun te h2 => h2.imp fun pe h3 => cell_on hb h3
  any := trivial }
theorem TW.below {w w' : World} (h : TW w) (hb : Below w.heap.size w w') : TW w' := h.on hb.block
theorem TW.drewN {w : World} (h : TW w) (k : Nat) : TW (w.drewN k) := h.on fun _ _ => rfl
theorem TW.drew {w : World} (h : TW w) : TW w.drew := h.on fun _ _ => rfl
theorem TW.alloc {w : World} (h : TW w) (o : Obj) : TW (w.alloc o) := h.on fun g hg => Below.heap_alloc w o g hg
theorem TW.of_heap {w w' : World} (h : TW w) (e : w'.heap = w.heap) : TW w' := h.on fun g _ => by rw [e]

/-- A row that was just laid. -/
theorem fresh_strings (w : World) (ls : List ByteArray) (t : TypeId) (hl : ls.length ≤ maxLen) : Kd.R Kd.string t (w.alloc (.cells (ls.map Value.string).toArray t)) w.heap.size (fun _ => True) (.slice (some ⟨w.heap.size, 0, none⟩) ls.length ls.length) ls := by
  refine Kd.R_of_own (h1 := fun _ => rfl) (enc := Value.string) (ok := fun _ => True) ?_ (fun _ _ => trivial)
  refine ⟨by simp [encs], .inr ⟨w.heap.size, ls.length, (ls.map Value.string).toArray, rfl, Nat.le_refl _, heap_alloc_new w _, Nat.le_refl _, hl, by simp, ?_⟩⟩
  rw [List.take_of_length_le (by simp)]
  simp [encs]
end Go.Proofs.YtmpdbcmbchejmaaDoor.X
