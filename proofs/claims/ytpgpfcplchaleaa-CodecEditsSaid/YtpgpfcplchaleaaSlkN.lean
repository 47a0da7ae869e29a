import Derived.Test.YtpgpfcplchaleaaSlkM
set_option linter.unusedVariables false
set_option linter.unusedSimpArgs false
namespace Slk
open Go
/-! ### Structs as arguments, field by field -/
theorem fieldAt_out {P : Program} {t i o fz : Nat} {ft : TypeId} (h : fieldAt P t i = some (o, ft, fz)) : ∃ fs f, P.underlying t = some (.struct fs) ∧ fs[i]? = some f ∧ f.offset = o ∧ f.type = ft := by
  unfold fieldAt at h
  split at h
  · rename_i fs hfs
    split at h
    · rename_i f hf
      split at h
      · split at h
        · cases h
        · simp only [Option.some.injEq, Prod.mk.injEq] at h
          exact ⟨fs, f, hfs, hf, h.1, h.2.1⟩
      · cases h
    · cases h
  · cases h
theorem trod_field {P : Program} {t i o fz : Nat} {ft : TypeId} [hf : TyF P t i o ft fz] {H : Type} {enc : TypeId × Value → H} {w : World} {sp : Nat → Bool} {held : Bool} {fuel : Nat} {cs : List Value} {x : DataW H × List MemPlace} (k : DataW.trod enc P w 0 sp held fuel t cs = some x) :
    cs.length = P.cellsOf t ∧ ∃ y n, DataW.trod enc P w 0 sp held n ft ((cs.drop o).take (P.cellsOf ft)) = some y := by
  obtain ⟨fs, f, hu, hi, ho, hft⟩ := fieldAt_out hf.out
  obtain ⟨xs, n, _, rfl, hl, hlen, hx⟩ := DataW.trod_struct hu k
  have hi2 : i < xs.length := by rw [hlen]; exact (Array.getElem?_eq_some_iff.1 hi).1
  have := hx i f hi
  rw [ho, hft, List.getElem?_eq_getElem hi2] at this
  exact ⟨hl, _, n, this⟩
def ReadsG (P : Program) (t : TypeId) (o tot : Nat) (α : Type) [Rep α] : Prop :=
  ∀ {H : Type} (enc : TypeId × Value → H) (w : World) (sp : Nat → Bool) (held : Bool) (fuel : Nat) (cs : List Value) (x : DataW H × List MemPlace), DataW.trod enc P w 0 sp held fuel t cs = some x → cs.length = tot → ∃ y : α, Rep.rep y (cs.drop o) (fun b => w.heap[b]?)
section
variable {P : Program} {t : TypeId}
theorem ReadsG.last (i : Nat) {o tot fz : Nat} {ft : TypeId} {α : Type} [Rep α] [hf : TyF P t i o ft fz] [h : ReadsAs P ft α] (ht : tot ≤ o + Rep.sz α) : ReadsG P t o tot α := by
  intro H enc w sp held fuel cs x k hl
  obtain ⟨_, y, n, hy⟩ := trod_field (hf := hf) k
  rw [h.size, List.take_of_length_le (by rw [List.length_drop]; omega)] at hy
  exact h.of enc w sp held n _ _ hy
theorem ReadsG.cons (i : Nat) {o tot fz : Nat} {ft : TypeId} {α β : Type} [Rep α] [Rep β] [hf : TyF P t i o ft fz] [h : ReadsAs P ft α] (k : ReadsG P t (o + Rep.sz α) tot β) : ReadsG P t o tot (α × β) := by
  intro H enc w sp held fuel cs x hx hl
  obtain ⟨_, y, n, hy⟩ := trod_field (hf := hf) hx
  rw [h.size] at hy
  obtain ⟨y, hy⟩ := h.of enc w sp held n _ _ hy
  obtain ⟨z, hz⟩ := k enc w sp held fuel cs x hx hl
  exact ⟨(y, z), _, _, by rw [← List.drop_drop]; exact (List.take_append_drop _ _).symm, hy, hz⟩
theorem ReadsAs.structG (i : Nat) {o fz tot : Nat} {ft : TypeId} {α : Type} [Rep α] [hf : TyF P t i o ft fz] (ht : P.cellsOf t = tot) (hs : tot = Rep.sz α) (k : ReadsG P t 0 tot α) : ReadsAs P t α where
  of := by
    intro H enc w sp held fuel cs x hx
    obtain ⟨hl, _⟩ := trod_field (hf := hf) hx
    exact k enc w sp held fuel cs x hx (by rw [hl, ht])
  size := by rw [ht, hs]
end
/-- A slice of old memory, element by element, an element of several cells. -/
theorem Old.openX {α : Type} [Rep α] {D : Nat → Prop} {w0 : World} {xs : List α} {v : Value} (hz : 0 < Rep.sz α) (k : Old D w0 (Rep.rep xs [v])) :
    ∃ A cap, v = .slice A xs.length cap ∧ xs.length ≤ cap ∧ cap ≤ 9223372036854775807 ∧ ∀ i (hi : i < xs.length), isA A ∧ ∃ cs, Old D w0 (Rep.rep xs[i] cs) ∧ ∀ m v, cs[m]? = some v → ∀ l, CellIs D w0 l (ab A) (ao A + i * Rep.sz α + m) v := by
  obtain ⟨A, cap, ecs, rfl, h1, h2, HS, hl, _, hel⟩ := k.open
  refine ⟨A, cap, rfl, h1, h2, fun i hi => ?_⟩
  have hpos : i * Rep.sz α + Rep.sz α ≤ ecs.length := by
    rw [hl, ← Nat.succ_mul]; exact Nat.mul_le_mul_right _ hi
  refine ⟨HS.isA (by intro h; rw [h] at hpos; simp at hpos; omega), _, hel i _ (List.getElem?_eq_getElem hi), fun m v hv l => ?_⟩
  have hm : m < Rep.sz α := by
    rcases Nat.lt_or_ge m (Rep.sz α) with h | h
    · exact h
    · rw [List.getElem?_eq_none (by rw [List.length_take]; omega)] at hv; cases hv
  rw [List.getElem?_take_of_lt hm, List.getElem?_drop] at hv
  rw [Nat.add_assoc]
  exact (SrcIs.old HS).cell hv
end Slk
