import Derived.Test.YtpgpfcplchaleaaSlkG
import Derived.WalkKit
import Derived.ProofKit
import Derived.OpenShut
import Derived.ShutString
import Derived.ChangeOld
import Derived.Below
set_option linter.unusedVariables false
set_option linter.unusedSimpArgs false
namespace Slk
open Go
/-- Nothing of what was there is the call's own. -/
abbrev none' : Nat → Prop := fun _ => False
theorem Own.below {w w' : World} {l : List HProp} (H : Own none' w w' l) : Go.RowKit.Below w.heap.size w w' := ⟨H.os, H.tape, H.output, H.size, fun b hb => H.old b hb id⟩
theorem cells_one {P : Program} {t : TypeId} [h : TyOne P t] {w : World} {r : Reach} {base : Nat} {v : Value} (k : Value.okWide P w r base t v) : v.cells = #[v] := by
  have h := h.out
  cases v with
  | agg cs =>
    unfold Value.okWide at k
    cases hu : P.underlying t with
    | none => rw [hu] at h; cases h
    | some d =>
      rw [hu] at h k
      cases d <;> simp_all [Cell.okWide, Cell.ok]
  | _ => rfl
theorem cells_agg {P : Program} {t : TypeId} [h : TyAgg P t] {w : World} {r : Reach} {base : Nat} {v : Value} (k : Value.okWide P w r base t v) : ∃ cs : List Value, v = .agg cs.toArray := by
  have h := h.out
  unfold Value.okWide at k
  cases hu : P.underlying t with
  | none => rw [hu] at h; cases h
  | some d =>
    rw [hu] at h k
    cases d with
    | struct fs => obtain ⟨cs, rfl, _⟩ := k; exact ⟨cs.toList, by simp⟩
    | array n e => obtain ⟨cs, rfl, _⟩ := k; exact ⟨cs.toList, by simp⟩
    | _ => simp at h
theorem arg_rep {P : Program} {t : TypeId} {α : Type} [Rep α] [h : ReadsAs P t α] {H : Type} {enc : TypeId × Value → H} {w : World} {sp : Nat → Bool} {held : Bool} {v : Value} {d : DataW H} {p : List MemPlace} (k : DataW.Trod enc P w 0 sp held t v d p) : ∃ x : α, Old none' w (Rep.rep x v.cells.toList) := by
  obtain ⟨fuel, k⟩ := k
  obtain ⟨x, hx⟩ := h.of enc w sp held fuel _ _ k
  exact ⟨x, _, fun b o hb => ⟨hb, id⟩, hx⟩
end Slk
