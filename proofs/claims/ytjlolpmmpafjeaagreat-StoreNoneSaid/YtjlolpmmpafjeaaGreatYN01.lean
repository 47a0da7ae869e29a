import Derived.WalkKit
import Derived.Deep.LoopGhost
import Derived.Deep.Quiet
import Derived.StillTail
import Derived.KernelRfl
import Derived.Laws.IdiomCopy
import Derived.Laws.BytesArg
import Derived.Laws.Append
import Derived.Deep.OwnRows
import Derived.Lib.SlBytesConst
import Derived.RegionTactic
import Derived.Deep.Slices
import Derived.OpenShut
import Derived.ProofKit
import Derived.ShutString
import Derived.ChangeOld
import Derived.Below
import Derived.Laws.Strings
import Derived.Laws.Cover3
import Derived.DeepKeys
import Derived.Test.YtjlolpmmpafjeaaGreatZ01
import Derived.Test.YtjlolpmmpafjeaaGreatZ02
import Derived.Test.YtjlolpmmpafjeaaGreatZ03
import Derived.Test.YtjlolpmmpafjeaaGreatZ04
import Derived.Test.YtjlolpmmpafjeaaGreatZ05
import Derived.Test.YtjlolpmmpafjeaaGreatZ06
import Derived.Test.YtjlolpmmpafjeaaGreatZ07
import Derived.Test.YtjlolpmmpafjeaaGreatZ08
import Derived.Test.YtjlolpmmpafjeaaGreatZ09
import Derived.Test.YtjlolpmmpafjeaaGreatZ10
import Derived.Test.YtjlolpmmpafjeaaGreatZ11
import Derived.Test.YtjlolpmmpafjeaaGreatZ12
import Derived.Test.YtjlolpmmpafjeaaGreatZ13
import Derived.Test.YtjlolpmmpafjeaaGreatZ14
import Derived.Test.YtjlolpmmpafjeaaGreatZ15
import Derived.Test.YtjlolpmmpafjeaaGreatZ16
import Derived.Test.YtjlolpmmpafjeaaGreatZ17
import Derived.Test.YtjlolpmmpafjeaaGreatZ18
import Derived.Test.YtjlolpmmpafjeaaGreatZ19
import Derived.Test.YtjlolpmmpafjeaaGreatZ20
import Derived.Test.YtjlolpmmpafjeaaGreatZ21
import Derived.Test.YtjlolpmmpafjeaaGreatZ22
import Derived.Test.YtjlolpmmpafjeaaGreatZ23
import Derived.Test.YtjlolpmmpafjeaaGreatZ24
import Derived.Test.YtjlolpmmpafjeaaGreatRows
set_option linter.unusedVariables false
set_option linter.unusedSimpArgs false
namespace Slk
open Go

/-! ### Heaps, assertions, lists of assertions that hold apart -/
/-! ### The world of a call: what was there stays as it was, but for what is owned -/
/-! ### What can be read of old memory, and how a call sees it -/
end Slk

set_option linter.unusedVariables false
set_option linter.unusedSimpArgs false
namespace Slk
open Go

/-! ### Slots -/
/-! ### The judgements -/
section
variable {P : Program} {Q : Post} {D : Nat → Prop} {w0 : World} {n : Nat} {env : Slots} {l : List HProp} {ops : Array Oper}

/-! ### Control -/
/-! ### The end of a function, and its begin -/
/-! ### Regions -/
end

section
variable {P : Program} {Q : Post} {D : Nat → Prop} {w0 : World} {n : Nat} {env : Slots} {l : List HProp} {ops : Array Oper} {r : List Oper} {o : Oper}

/-! guards: a slot is given with its literal; behind the split it is one -/
end
end Slk

set_option linter.unusedVariables false
set_option linter.unusedSimpArgs false
namespace Slk
open Go

/-! ### Facts on types, given once a program -/
section
variable {P : Program}
end

/-! ### wraps -/
/-! ### The cell at an address, in every world that the assertions let in -/
/-! ### Operations that leave the world -/
section
variable {P : Program} {D : Nat → Prop} {w0 : World} {env : Slots} {l : List HProp} {dst : Option Tmp} {ty : TypeId} {pos : String} {after : Array Edge} {g : Option (Nat × Bool)}
/-! arithmetic -/
section
variable {x y : Operand} {t t' : TypeId} {k k' : IntKind} {i j m : Int}
end
/-! bools, strings, pointers and slices against nil -/
section
variable {x y : Operand} {t t' : TypeId}
end
end
end Slk

set_option linter.unusedVariables false
set_option linter.unusedSimpArgs false
namespace Slk
open Go

/-! ### A stretch of cells is written -/
/-! ### Slices by their address -/
section
variable {P : Program} {Q : Post} {D : Nat → Prop} {w0 : World} {n : Nat} {env : Slots} {l : List HProp} {ops : Array Oper}
end

section
variable {P : Program} {D : Nat → Prop} {w0 : World} {env : Slots} {l : List HProp} {dst : Option Tmp} {ty : TypeId} {pos : String} {after : Array Edge} {g : Option (Nat × Bool)}
/-! ### bytes as a string -/
/-! ### New memory -/
/-! literals -/
end
end Slk

set_option linter.unusedVariables false
set_option linter.unusedSimpArgs false
namespace Slk
open Go

section
variable {P : Program} {D : Nat → Prop} {w0 : World} {env : Slots} {l : List HProp} {dst : Option Tmp} {ty : TypeId} {pos : String} {after : Array Edge} {g : Option (Nat × Bool)}

end
end Slk

set_option linter.unusedVariables false
set_option linter.unusedSimpArgs false
namespace Slk
open Go

/-! ### Regions that draw their order -/
section
variable {P : Program} {ops : Array Oper} {Q : Post} {md : Region.Mode} {C : World → Prop}
end
section
variable {P : Program} {Q : Post} {D : Nat → Prop} {w0 : World} {n : Nat} {env : Slots} {l : List HProp} {ops : Array Oper} {r tail : List Oper} {o : Oper}
section
variable {L0 : List HProp} {fuel : Nat} {listed : Array Bool} {rl : List Oper}
end
end
end Slk

set_option linter.unusedVariables false
set_option linter.unusedSimpArgs false
namespace Slk
open Go

/-! ### How Lean's values lie in memory -/
section
variable {α : Type} [Rep α]
end
/-! ### A reading of an argument gives a value -/
section
variable {P : Program} {t : TypeId}
end
end Slk

set_option linter.unusedVariables false
set_option linter.unusedSimpArgs false
namespace Slk
open Go
theorem Own.below {w w' : World} {l : List HProp} (H : Own none' w w' l) : Go.RowKit.Below w.heap.size w w' := ⟨H.os, H.tape, H.output, H.size, fun b hb => H.old b hb id⟩
theorem cells_one {P : Program} {t : TypeId} [h : TyOne P t] {w : World} {r : Reach} {base : Nat} {v : Value} (k : Value.okWide P w r base t v) : v.cells = #[v] := by
  have h := h.out
  cases v with
  | agg cs =>
    unfold Value.okWide at k
    cases hu : P.underlying t with
    | none => rw [hu] at h; cases h
    | some d =>
      rw [hu] at h k
      cases d <;> simp_all [Cell.okWide, Cell.ok]
  | _ => rfl
theorem cells_agg {P : Program} {t : TypeId} [h : TyAgg P t] {w : World} {r : Reach} {base : Nat} {v : Value} (k : Value.okWide P w r base t v) : ∃ cs : List Value, v = .agg cs.toArray := by
  have h := h.out
  unfold Value.okWide at k
  cases hu : P.underlying t with
  | none => rw [hu] at h; cases h
  | some d =>
    rw [hu] at h k
    cases d with
    | struct fs => obtain ⟨cs, rfl, _⟩ := k; exact ⟨cs.toList, by simp⟩
    | array n e => obtain ⟨cs, rfl, _⟩ := k; exact ⟨cs.toList, by simp⟩
    | _ => simp at h
theorem arg_rep {P : Program} {t : TypeId} {α : Type} [Rep α] [h : ReadsAs P t α] {H : Type} {enc : TypeId × Value → H} {w : World} {sp : Nat → Bool} {held : Bool} {v : Value} {d : DataW H} {p : List MemPlace} (k : DataW.Trod enc P w 0 sp held t v d p) : ∃ x : α, Old none' w (Rep.rep x v.cells.toList) := by
  obtain ⟨fuel, k⟩ := k
  obtain ⟨x, hx⟩ := h.of enc w sp held fuel _ _ k
  exact ⟨x, _, fun b o hb => ⟨hb, id⟩, hx⟩
end Slk

set_option linter.unusedVariables false
set_option linter.unusedSimpArgs false
namespace Slk
open Go
section
variable {P : Program} {D : Nat → Prop} {w0 : World} {env : Slots} {l : List HProp} {dst : Option Tmp} {ty : TypeId} {pos : String} {after : Array Edge} {g : Option (Nat × Bool)}
end
section
variable {P : Program} {Q : Post} {D : Nat → Prop} {w0 : World} {n : Nat} {env : Slots} {l : List HProp} {ops : Array Oper} {r : List Oper} {o : Oper}
end
/-! What can be read of assertions that hold apart. -/
section
variable {P : Program} {D : Nat → Prop} {w0 : World} {env : Slots} {l : List HProp} {dst : Option Tmp} {ty : TypeId} {pos : String} {after : Array Edge} {g : Option (Nat × Bool)} {x y : Operand} {t t' : TypeId} {k : IntKind} {i j : Int}
end
section
variable {P : Program} {D : Nat → Prop} {w0 : World} {env : Slots} {l : List HProp} {dst : Option Tmp} {ty : TypeId} {pos : String} {after : Array Edge} {g : Option (Nat × Bool)}
end
end Slk

set_option linter.unusedVariables false
set_option linter.unusedSimpArgs false
namespace Slk
open Go
/-! ### Arrays, structs and strings as arguments -/
section
variable {P : Program} {t : TypeId}
end
end Slk

set_option linter.unusedVariables false
set_option linter.unusedSimpArgs false
namespace Slk
open Go
/-! ### A slice of one's own, found by its address -/
/-! ### Stores into a slice of one's own -/
section
variable {P : Program} {D : Nat → Prop} {w0 : World} {env : Slots} {l : List HProp} {dst : Option Tmp} {ty : TypeId} {pos : String} {after : Array Edge} {g : Option (Nat × Bool)}
end
/-! A slice of one's own is read. -/
end Slk

set_option linter.unusedVariables false
set_option linter.unusedSimpArgs false
namespace Slk
open Go
section
variable {P : Program} {D : Nat → Prop} {w0 : World} {env : Slots} {l : List HProp} {dst : Option Tmp} {ty : TypeId} {pos : String} {after : Array Edge} {g : Option (Nat × Bool)} {x y : Operand} {t t' : TypeId}
/-! ### Texts made of bytes, compared -/
end
/-! ### What a list's cells read as, partly of old memory -/
section
variable {α : Type} [Rep α] {D : Nat → Prop} {w0 : World} {l r : List HProp}
end
section
variable {P : Program} {Q : Post} {D : Nat → Prop} {w0 : World} {n : Nat} {env : Slots} {l : List HProp} {ops : Array Oper} {α : Type} [Rep α] {A : Option Addr} {t : TypeId} {sz m cap : Nat} {xs : List α}
end
end Slk

set_option linter.unusedVariables false
set_option linter.unusedSimpArgs false
namespace Slk
open Go
/-! ### Several assertions in one -/
section
variable {P : Program} {Q : Post} {D : Nat → Prop} {w0 : World} {n : Nat} {env : Slots} {l : List HProp} {ops : Array Oper} {σ : Type} {L : σ → List HProp}
end
/-! ### Lists of bytes of one's own -/
section
variable {t : TypeId} {l : List HProp} {xs : List (List UInt8)} {cs : List Value} {x : List UInt8} {c : Value} {A : Option Addr} {cap : Nat}
end
/-! ### The rest of a slice -/
section
variable {P : Program} {D : Nat → Prop} {w0 : World} {env : Slots} {l : List HProp} {dst : Option Tmp} {ty : TypeId} {pos : String} {after : Array Edge} {g : Option (Nat × Bool)} {x y : Operand} {t t' e : TypeId}
end
end Slk

set_option linter.unusedVariables false
set_option linter.unusedSimpArgs false
namespace Slk
open Go
/-! ### Structs as arguments, field by field -/
section
variable {P : Program} {t : TypeId}
end
end Slk

set_option linter.unusedVariables false
set_option linter.unusedSimpArgs false
namespace Slk
open Go

/-! ### Tests whose outcome is known; slots that are kept -/
section
variable {P : Program} {Q : Post} {D : Nat → Prop} {w0 : World} {n : Nat} {env : Slots} {l : List HProp} {ops : Array Oper} {r tail : List Oper}
end

section
variable {P : Program} {D : Nat → Prop} {w0 : World} {env : Slots} {l : List HProp} {dst : Option Tmp} {ty : TypeId} {pos : String} {after : Array Edge} {g : Option (Nat × Bool)}
end

/-! ### Structs and arrays of plain cells, compared -/
end Slk

set_option linter.unusedVariables false
set_option linter.unusedSimpArgs false
namespace Slk
open Go
section
variable {P : Program} {D : Nat → Prop} {w0 : World} {env : Slots} {l : List HProp} {dst : Option Tmp} {ty : TypeId} {pos : String} {after : Array Edge} {g : Option (Nat × Bool)} {x y : Operand} {t t' : TypeId}
end
end Slk
/- PROVED: the given statement StoreNone: for every input the law returns true, and each argument reads behind the call as it read before; no condition. -/
set_option linter.unusedVariables false
namespace Go.Proofs.YtjlolpmmpafjeaaGreat.storeNone
open Go.ChangeShapes Go.WideShapes Go.ChangeAt Go.RowKit
open Slk
theorem own : ownKnob Tryz.prog.godebug = none := by kernel_rfl
theorem laidOut : laidOutB Tryz.prog = true := by kernel_rfl
set_option maxRecDepth 100000 in
theorem lifted (os : Os) (started : os.Started) (H : Type) (enc : TypeId × Value → H) :
    ReturnsInHanded {} Tryz.checked os 5 .any (Rows.storeNoneSpec.pre6 enc Tryz.prog Tryz.f5 Rows.storeNoneRow.domain false) (Rows.storeNoneSpec.post enc Tryz.prog Tryz.f5 false true false false) := by
  refine returnsInHanded_of_change (C := Tryz.checked) own started (by kernel_rfl) Tryz.func5
    (ChangeSpec.witness6 (enc := enc) (C := Tryz.checked) false ⟨#[], #[.agg #[.int .i64 0, .int .i64 0, .slice none 0 0], .int .u8 0], []⟩ 8 (by kernel_rfl) (by kernel_rfl) (by kernel_rfl) (by kernel_rfl)) ?_
  intro W base args ds gs before hval0 hW hcnd _
  have hval : ∀ (j : Nat) t v, Tryz.f5.params[j]? = some t → args[j]? = some v → Value.okWide Tryz.prog W .any base t v := hval0
  have hW' := hW
  obtain ⟨p, q, hA0, hV, rfl, hfz, hnd⟩ := hW
  have hA : DataW.TrodAll enc Tryz.prog W 0 (fun _ => true) true Tryz.f5.params.toList args.toList ds p := hA0
  rw [Tryz.params5] at hA hval
  obtain ⟨v0, vs0, d0, ds0, p0, q0, hargs, rfl, rfl, h0, r0⟩ := trodAll_cons hA
  obtain ⟨v1, vs1, d1, ds1, p1, q1, rfl, rfl, rfl, h1, r1⟩ := trodAll_cons r0
  obtain ⟨rfl, rfl, rfl⟩ := trodAll_nil r1
  obtain rfl : args = #[v0, v1] := by cases args; simp_all
  obtain ⟨rfl, rfl⟩ := trodVars_none hV
  have k0 := h0
  have lt0 : ∀ x ∈ p0, x.block < W.heap.size := by obtain ⟨m, hm⟩ := k0; exact DataW.trod_lt m _ _ _ hm
  obtain ⟨c0, e0⟩ := cells_agg (hval 0 74 v0 rfl rfl)
  subst e0
  obtain ⟨x0, y0⟩ := arg_rep (α := SStep) h0
  simp only [Value.cells] at y0
  have k1 := h1
  have lt1 : ∀ x ∈ p1, x.block < W.heap.size := by obtain ⟨m, hm⟩ := k1; exact DataW.trod_lt m _ _ _ hm
  have e1 := cells_one (hval 1 5 v1 rfl rfl)
  obtain ⟨x1, y1⟩ := arg_rep (α := UInt8) h1
  rw [e1] at y1
  clear hA0 hval0
  refine (StoreNone_walk W c0 v1 x0 x1 y0 y1).mono fun e W' ⟨he, hO⟩ => ?_
  have bel := hO.below
  subst he
  exact ⟨_, rfl, _, _, _, [], _, [], hW', trodAll_mk1 (shut_bool Tryz.underlying4 _), (trodAll_cons_mk (Below.trod laidOut (by kernel_rfl) (of_decide_eq_true (by kernel_rfl)) k0 bel lt0) (trodAll_cons_mk (Below.trod laidOut (by kernel_rfl) (of_decide_eq_true (by kernel_rfl)) k1 bel lt1) trodAll_mk0)), rfl, bel.frame _, fun h => by cases h⟩
theorem over : Rows.storeNoneRow.holds Tryz.pinned (OpenSpec.ofChange Rows.storeNoneSpec) :=
  OpenClaim.holds_of_wide 5 Tryz.f5 rfl rfl rfl rfl rfl rfl rfl ⟨rfl, rfl, rfl, rfl, rfl⟩ rfl rfl rfl rfl rfl (by kernel_rfl) Tryz.func5 (by kernel_rfl)
    (of_decide_eq_true (by kernel_rfl)) (by unfold Func.isWrapper; first | (rw [if_pos (by decide +kernel)]; kernel_rfl) | (rw [if_neg (by decide +kernel)]; exact ⟨rfl, rfl⟩))
    (fun os started H enc _ => lifted os started H enc)
theorem proved : Rows.StoreNoneSaid := over
#print axioms proved
end Go.Proofs.YtjlolpmmpafjeaaGreat.storeNone
