/- What a call asks of the world that it begins in (the tables of Go's library that it reads), kept by all that is done to one's own memory; contracts of functions that read them: strings.Fields, strings.Join and others, in the printed functions' form. -/
import Derived.Test.YtmpdbcmbchejmaaDoorLib1
import Derived.Lib.SmallJoins
namespace Go.Proofs.YtmpdbcmbchejmaaDoor.X
open Go.RowKit Go.Proofs.YtmpdbcmbchejmaaDoorW.PrintWords
set_option linter.unusedVariables false

/-- What is asked of the world. -/
structure TW (w : World) : Prop where
  maxLen : ∃ m, w.cell? ⟨0, 0, none⟩ = some (.int .i64 m)
  any : True
theorem cell_on {w w' : World} (hb : ∀ g : Nat, g < w.heap.size → w'.heap[g]? = w.heap[g]?) {a : Addr} {v : Value} (h : w.cell? a = some v) : w'.cell? a = some v := by
  rw [← h]
  exact World.cell?_of_block (hb _ (World.block_lt_of_cell? w a h))
theorem tab_on {w w' : World} (hb : ∀ g : Nat, g < w.heap.size → w'.heap[g]? = w.heap[g]?) {n : String} {k : IntKind} {zs : List Int} (h : Lib.TabIs Tryd.prog w n k zs) : Lib.TabIs Tryd.prog w' n k zs := by
  unfold Lib.TabIs World.var? at *
  cases hg : Tryd.prog.globalNamed n with
  | none => simp [hg] at h
  | some g =>
    simp only [hg, Option.bind_some] at h ⊢
    have hlt : g < w.heap.size := by
      rcases Nat.lt_or_ge g w.heap.size with h' | h'
      · exact h'
      · rw [Array.getElem?_eq_none h'] at h; simp at h
    rw [hb g hlt]
    exact h
theorem TW.on {w w' : World} (h : TW w) (hb : ∀ g : Nat, g < w.heap.size → w'.heap[g]? = w.heap[g]?) : TW w' := {
  maxLen := h.maxLen.imp fun m hm => cell_on hb hm
  any := trivial }
theorem TW.below {w w' : World} (h : TW w) (hb : Below w.heap.size w w') : TW w' := h.on hb.block
theorem TW.drewN {w : World} (h : TW w) (k : Nat) : TW (w.drewN k) := h.on fun _ _ => rfl
theorem TW.drew {w : World} (h : TW w) : TW w.drew := h.on fun _ _ => rfl
theorem TW.alloc {w : World} (h : TW w) (o : Obj) : TW (w.alloc o) := h.on fun g hg => Below.heap_alloc w o g hg
theorem TW.of_heap {w w' : World} (h : TW w) (e : w'.heap = w.heap) : TW w' := h.on fun g _ => by rw [e]

/-- A row that was just laid. -/
theorem fresh_strings (w : World) (ls : List ByteArray) (t : TypeId) (hl : ls.length ≤ maxLen) : Kd.R Kd.string t (w.alloc (.cells (ls.map Value.string).toArray t)) w.heap.size (fun _ => True) (.slice (some ⟨w.heap.size, 0, none⟩) ls.length ls.length) ls := by
  refine Kd.R_of_own (h1 := fun _ => rfl) (enc := Value.string) (ok := fun _ => True) ?_ (fun _ _ => trivial)
  refine ⟨by simp [encs], .inr ⟨w.heap.size, ls.length, (ls.map Value.string).toArray, rfl, Nat.le_refl _, heap_alloc_new w _, Nat.le_refl _, hl, by simp, ?_⟩⟩
  rw [List.take_of_length_le (by simp)]
  simp [encs]
def strings_ContainsAny.f (a0 : ByteArray) (a1 : ByteArray) : Option Bool := if a0.size < 4294967281 ∧ a1.size < 4294967281 ∧ (a0.data.toList.all (fun b => decide (b.toNat < 128))) = true ∧ (a1.data.toList.all (fun b => decide (b.toNat < 128))) = true then some (Lib.containsAny a0.data.toList a1.data.toList) else none
theorem ascii_all {l : List UInt8} (h : (l.all (fun b => decide (b.toNat < 128))) = true) : ∀ (j : Nat) b, l[j]? = some b → b.toNat < 128 := fun j b hb => by
  have := List.all_eq_true.1 h b (List.mem_of_getElem? hb)
  simpa using this
theorem strings_ContainsAny.calls (a0 : ByteArray) (a1 : ByteArray) (r : Bool) (w : World) (h : strings_ContainsAny.f a0 a1 = some r) :
    Calls Tryd.prog 22 #[.string a0, .string a1] w fun e w' => e = .returned (.bool r) ∧ Below w.heap.size w w' := by
  unfold strings_ContainsAny.f at h
  split at h
  · rename_i h1
    obtain ⟨h1, h2, h3, h4⟩ := h1
    obtain rfl := Option.some.inj h
    exact Tryd.strings_ContainsAny_laid a0 a1 w h1 h2 (ascii_all h3) (ascii_all h4)
  · cases h
def strings_ReplaceAll.f (a0 a1 a2 : ByteArray) : Option ByteArray := if a0.size < 4294967281 ∧ 1 ≤ a1.size ∧ a0.size + Lib.countB a0 a1 * a2.size ≤ 140737488355328 then some ⟨(Lib.replaceAll a0.data.toList a1.data.toList a2.data.toList).toArray⟩ else none
theorem strings_ReplaceAll.calls (a0 : ByteArray) (a1 : ByteArray) (a2 : ByteArray) (r : ByteArray) (w : World) (hT : TW w) (h : strings_ReplaceAll.f a0 a1 a2 = some r) :
    Calls Tryd.prog 23 #[.string a0, .string a1, .string a2] w fun e w' => e = .returned (.string r) ∧ Below w.heap.size w w' := by
  unfold strings_ReplaceAll.f at h
  split at h
  · rename_i h1
    obtain ⟨h1, h2, h3⟩ := h1
    obtain rfl := Option.some.inj h
    obtain ⟨m, hm⟩ := hT.maxLen
    exact Tryd.strings_ReplaceAll a0 a1 a2 m w h1 hm h2 h3
  · cases h
end Go.Proofs.YtmpdbcmbchejmaaDoor.X
