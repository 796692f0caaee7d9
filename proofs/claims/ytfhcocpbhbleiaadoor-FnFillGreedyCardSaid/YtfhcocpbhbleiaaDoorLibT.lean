/- What a call asks of the world that it begins in (the tables of Go's library that it reads), kept by all that is done to one's own memory; contracts of functions that read them: strings.Fields, strings.Join and others, in the printed functions' form. -/
import Derived.Test.YtfhcocpbhbleiaaDoorLib1
import Derived.Lib.SmallJoins
namespace Go.Proofs.YtfhcocpbhbleiaaDoor.X
open Go.RowKit Go.Proofs.YtfhcocpbhbleiaaDoorW.PrintWords
set_option linter.unusedVariables false

/-- What is asked of the world. -/
structure TW (w : World) : Prop where
  space : Lib.TabIs Tryd.prog w "strings.asciiSpace" .u8 Lib.asciiSpaceTab
  any : True
theorem cell_on {w w' : World} (hb : ∀ g : Nat, g < w.heap.size → w'.heap[g]? = w.heap[g]?) {a : Addr} {v : Value} (h : w.cell? a = some v) : w'.cell? a = some v := by
  rw [← h]
  exact World.cell?_of_block (hb _ (World.block_lt_of_cell? w a h))
theorem tab_on {w w' : World} (hb : ∀ g : Nat, g < w.heap.size → w'.heap[g]? = w.heap[g]?) {n : String} {k : IntKind} {zs : List Int} (h : Lib.TabIs Tryd.prog w n k zs) : Lib.TabIs Tryd.prog w' n k zs := by
  unfold Lib.TabIs World.var? at *
  cases hg : Tryd.prog.globalNamed n with
  | none => simp [hg] at h
  | some g =>
    simp only [hg, Option.bind_some] at h ⊢
    have hlt : g < w.heap.size := by
      rcases Nat.lt_or_ge g w.heap.size with h' | h'
      · exact h'
      · rw [Array.getElem?_eq_none h'] at h; simp at h
    rw [hb g hlt]
    exact h
theorem TW.on {w w' : World} (h : TW w) (hb : ∀ g : Nat, g < w.heap.size → w'.heap[g]? = w.heap[g]?) : TW w' := {
  space := tab_on hb h.space
  any := trivial }
theorem TW.below {w w' : World} (h : TW w) (hb : Below w.heap.size w w') : TW w' := h.on hb.block
theorem TW.drewN {w : World} (h : TW w) (k : Nat) : TW (w.drewN k) := h.on fun _ _ => rfl
theorem TW.drew {w : World} (h : TW w) : TW w.drew := h.on fun _ _ => rfl
theorem TW.alloc {w : World} (h : TW w) (o : Obj) : TW (w.alloc o) := h.on fun g hg => Below.heap_alloc w o g hg
theorem TW.of_heap {w w' : World} (h : TW w) (e : w'.heap = w.heap) : TW w' := h.on fun g _ => by rw [e]

/-- A row that was just laid. -/
theorem fresh_strings (w : World) (ls : List ByteArray) (t : TypeId) (hl : ls.length ≤ maxLen) : Kd.R Kd.string t (w.alloc (.cells (ls.map Value.string).toArray t)) w.heap.size (fun _ => True) (.slice (some ⟨w.heap.size, 0, none⟩) ls.length ls.length) ls := by
  refine Kd.R_of_own (h1 := fun _ => rfl) (enc := Value.string) (ok := fun _ => True) ?_ (fun _ _ => trivial)
  refine ⟨by simp [encs], .inr ⟨w.heap.size, ls.length, (ls.map Value.string).toArray, rfl, Nat.le_refl _, heap_alloc_new w _, Nat.le_refl _, hl, by simp, ?_⟩⟩
  rw [List.take_of_length_le (by simp)]
  simp [encs]
def strings_Fields.f (a0 : ByteArray) : Option (List ByteArray) := if a0.size < 4294967281 ∧ (a0.data.toList.all (fun b => decide (b.toNat < 128))) = true then some ((Lib.fields a0.data.toList).map fun l => (⟨l.toArray⟩ : ByteArray)) else none
theorem strings_Fields.calls (a0 : ByteArray) (r : List ByteArray) (w : World) (hT : TW w) (h : strings_Fields.f a0 = some r) :
    Calls Tryd.prog 28 #[.string a0] w fun e w' => ∃ v0_ : Value, e = .returned (v0_) ∧ Kd.R Kd.string 9 w' w.heap.size (fun _ => True) v0_ r ∧ Below w.heap.size w w' := by
  unfold strings_Fields.f at h
  split at h
  · rename_i h1
    obtain ⟨h1, h2⟩ := h1
    obtain rfl := Option.some.inj h
    refine (Tryd.strings_Fields a0 w h1 (fun j b hb => ?_) hT.space).mono fun e w' ⟨he, hw⟩ => ?_
    · have := List.all_eq_true.1 h2 b (List.mem_of_getElem? hb)
      simpa using this
    · subst he; subst hw
      have hlen : (Lib.fields a0.data.toList).length ≤ maxLen := by
        have h3 := Lib.fields_length a0.data.toList
        have h4 : ∀ (l : List UInt8) (b : Bool), Lib.cntF b l ≤ l.length := by
          intro l
          induction l with
          | nil => intro b; simp [Lib.cntF]
          | cons c l ih => intro b; have := ih (Lib.isSp c); rw [Lib.cntF, List.length_cons]; split <;> omega
        have h5 := h4 a0.data.toList true
        have h6 : a0.data.toList.length = a0.size := by rw [Array.length_toList]; rfl
        unfold maxLen
        omega
      have hf := fresh_strings w ((Lib.fields a0.data.toList).map fun l => (⟨l.toArray⟩ : ByteArray)) 9 (by rw [List.length_map]; exact hlen)
      rw [List.length_map, List.map_map] at hf
      exact ⟨_, rfl, hf, below_alloc (Below.refl _ _) _⟩
  · cases h
def strings_Join.f (l0 : List ByteArray) (a1 : ByteArray) : Option ByteArray := if l0.length ≤ 140737488355328 ∧ (Lib.join (l0.map (·.data.toList)) a1.data.toList).length ≤ 140737488355328 then some ⟨(Lib.join (l0.map (·.data.toList)) a1.data.toList).toArray⟩ else none
theorem strings_Join.calls (A0 : Option Addr) (c0 : Nat) (l0 : List ByteArray) (a1 : ByteArray) (r : ByteArray) (w : World) (hr0 : Kd.C Kd.string w A0 l0.length l0) (hc0 : l0.length ≤ c0) (h : strings_Join.f l0 a1 = some r) :
    Calls Tryd.prog 37 #[.slice A0 l0.length c0, .string a1] w fun e w' => e = .returned (.string r) ∧ Below w.heap.size w w' := by
  unfold strings_Join.f at h
  split at h
  · rename_i h1
    obtain ⟨h1, h2⟩ := h1
    obtain rfl := Option.some.inj h
    cases l0 with
    | nil => exact (Tryd.strings_Join_none A0 c0 a1 w).mono fun e w' ⟨he, hw⟩ => ⟨he, hw ▸ Below.refl _ _⟩
    | cons x l =>
      obtain ⟨ad, rfl, hc⟩ := hr0.2.2 (by simp)
      have cell : ∀ (j : Nat) y, (x :: l)[j]? = some y → w.cell? (ad.add j) = some (.string y) := by
        intro j y hy
        obtain ⟨c, hs, hk, hcell⟩ := hc j y hy
        have hk2 : c = [Value.string y] := hk
        subst hk2
        have := hcell 0 _ rfl
        rw [show j * Kd.string.sz + 0 = j from by rw [show Kd.string.sz = 1 from rfl]; omega] at this
        exact this
      obtain ⟨bk, o, sp⟩ := ad
      have h0 := cell 0 x rfl
      rw [show (⟨bk, o, sp⟩ : Addr).add 0 = ⟨bk, o, sp⟩ from rfl] at h0
      have hsp : sp = none := by
        cases sp with
        | none => rfl
        | some z =>
          unfold World.cell? at h0
          split at h0
          · simp at h0
          · cases h0
      subst hsp
      have hbk := World.block_lt_of_cell? w _ h0
      refine Tryd.strings_Join bk o c0 (x :: l) a1 w (fun j y hy => ?_) hbk h1 hc0 h2
      have := cell j y hy
      by_cases e : j = 0
      · subst e; exact this
      · rw [show (⟨bk, o, none⟩ : Addr).add j = ⟨bk, o + j, none⟩ from by unfold Addr.add; rw [if_neg e]] at this
        exact this
  · cases h
end Go.Proofs.YtfhcocpbhbleiaaDoor.X
