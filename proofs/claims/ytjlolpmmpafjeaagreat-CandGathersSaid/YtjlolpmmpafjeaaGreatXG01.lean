import Derived.WalkKit
import Derived.Deep.LoopGhost
import Derived.Deep.Quiet
import Derived.StillTail
import Derived.KernelRfl
import Derived.Laws.IdiomCopy
import Derived.Laws.BytesArg
import Derived.Laws.Append
import Derived.Deep.OwnRows
import Derived.Lib.SlBytesConst
import Derived.RegionTactic
import Derived.Deep.Slices
import Derived.OpenShut
import Derived.ProofKit
import Derived.ShutString
import Derived.ChangeOld
import Derived.Below
import Derived.Laws.Strings
import Derived.Laws.Cover3
import Derived.DeepKeys
import Derived.Test.YtjlolpmmpafjeaaGreatW01
import Derived.Test.YtjlolpmmpafjeaaGreatW02
import Derived.Test.YtjlolpmmpafjeaaGreatW03
import Derived.Test.YtjlolpmmpafjeaaGreatW04
import Derived.Test.YtjlolpmmpafjeaaGreatW05
import Derived.Test.YtjlolpmmpafjeaaGreatW06
import Derived.Test.YtjlolpmmpafjeaaGreatW07
import Derived.Test.YtjlolpmmpafjeaaGreatW08
import Derived.Test.YtjlolpmmpafjeaaGreatW09
import Derived.Test.YtjlolpmmpafjeaaGreatW10
import Derived.Test.YtjlolpmmpafjeaaGreatW11
import Derived.Test.YtjlolpmmpafjeaaGreatW12
import Derived.Test.YtjlolpmmpafjeaaGreatW13
import Derived.Test.YtjlolpmmpafjeaaGreatW14
import Derived.Test.YtjlolpmmpafjeaaGreatW15
import Derived.Test.YtjlolpmmpafjeaaGreatW16
import Derived.Test.YtjlolpmmpafjeaaGreatW17
import Derived.Test.YtjlolpmmpafjeaaGreatW18
import Derived.Test.YtjlolpmmpafjeaaGreatW19
import Derived.Test.YtjlolpmmpafjeaaGreatW20
import Derived.Test.YtjlolpmmpafjeaaGreatW21
import Derived.Test.YtjlolpmmpafjeaaGreatW22
import Derived.RangeFuncLeaves
import Derived.RangeFuncRecord
import Derived.Lib.Overlaps
import Derived.Test.YtjlolpmmpafjeaaGreatChecked
set_option linter.unusedVariables false
set_option linter.unusedSimpArgs false
namespace Slk
open Go

/-! ### Heaps, assertions, lists of assertions that hold apart -/
/-! ### The world of a call: what was there stays as it was, but for what is owned -/
/-! ### What can be read of old memory, and how a call sees it -/
end Slk

set_option linter.unusedVariables false
set_option linter.unusedSimpArgs false
namespace Slk
open Go

/-! ### Slots -/
/-! ### The judgements -/
section
variable {P : Program} {Q : Post} {D : Nat → Prop} {w0 : World} {n : Nat} {env : Slots} {l : List HProp} {ops : Array Oper}

/-! ### Control -/
/-! ### The end of a function, and its begin -/
/-! ### Regions -/
end

section
variable {P : Program} {Q : Post} {D : Nat → Prop} {w0 : World} {n : Nat} {env : Slots} {l : List HProp} {ops : Array Oper} {r : List Oper} {o : Oper}

/-! guards: a slot is given with its literal; behind the split it is one -/
end
end Slk

set_option linter.unusedVariables false
set_option linter.unusedSimpArgs false
namespace Slk
open Go

/-! ### Facts on types, given once a program -/
class TyBool (P : Program) (t : TypeId) : Prop where out : P.underlying t = some .bool

section
variable {P : Program}
end

/-! ### wraps -/
/-! ### The cell at an address, in every world that the assertions let in -/
/-! ### Operations that leave the world -/
section
variable {P : Program} {D : Nat → Prop} {w0 : World} {env : Slots} {l : List HProp} {dst : Option Tmp} {ty : TypeId} {pos : String} {after : Array Edge} {g : Option (Nat × Bool)}
/-! arithmetic -/
section
variable {x y : Operand} {t t' : TypeId} {k k' : IntKind} {i j m : Int}
end
/-! bools, strings, pointers and slices against nil -/
section
variable {x y : Operand} {t t' : TypeId}
theorem ov_neqB [h : TyBool P t] {b c : Bool} (hx : evalO env x = some (.bool b)) (hy : evalO env y = some (.bool c)) : OpVal P D w0 env l ⟨dst, .binOp .neq t x y t', ty, pos, after, g⟩ (.bool (decide (¬ b = c))) := .mk fun n a w E H => by
  simp [execOp, E.eval hx, E.eval hy, eqGuard_at_bool, run_neq_bool w t b c h.out]; exact beq_dec b c
end
end
end Slk

set_option linter.unusedVariables false
set_option linter.unusedSimpArgs false
namespace Slk
open Go

/-! ### A stretch of cells is written -/
/-! ### Slices by their address -/
section
variable {P : Program} {Q : Post} {D : Nat → Prop} {w0 : World} {n : Nat} {env : Slots} {l : List HProp} {ops : Array Oper}
end

section
variable {P : Program} {D : Nat → Prop} {w0 : World} {env : Slots} {l : List HProp} {dst : Option Tmp} {ty : TypeId} {pos : String} {after : Array Edge} {g : Option (Nat × Bool)}
/-! ### bytes as a string -/
/-! ### New memory -/
/-! literals -/
end
end Slk

set_option linter.unusedVariables false
set_option linter.unusedSimpArgs false
namespace Slk
open Go

section
variable {P : Program} {D : Nat → Prop} {w0 : World} {env : Slots} {l : List HProp} {dst : Option Tmp} {ty : TypeId} {pos : String} {after : Array Edge} {g : Option (Nat × Bool)}

end
end Slk

set_option linter.unusedVariables false
set_option linter.unusedSimpArgs false
namespace Slk
open Go

/-! ### Regions that draw their order -/
section
variable {P : Program} {ops : Array Oper} {Q : Post} {md : Region.Mode} {C : World → Prop}
end
section
variable {P : Program} {Q : Post} {D : Nat → Prop} {w0 : World} {n : Nat} {env : Slots} {l : List HProp} {ops : Array Oper} {r tail : List Oper} {o : Oper}
section
variable {L0 : List HProp} {fuel : Nat} {listed : Array Bool} {rl : List Oper}
end
end
end Slk

set_option linter.unusedVariables false
set_option linter.unusedSimpArgs false
namespace Slk
open Go

/-! ### How Lean's values lie in memory -/
section
variable {α : Type} [Rep α]
theorem repL_of_at : ∀ {xs : List α} {cs : List Value} {h : Heap}, cs.length = xs.length * Rep.sz α → (∀ i x, xs[i]? = some x → Rep.rep x ((cs.drop (i * Rep.sz α)).take (Rep.sz α)) h) → repL xs cs h
  | [], cs, h, hl, _ => List.eq_nil_of_length_eq_zero (by simpa using hl)
  | x :: r, cs, h, hl, k => by
    refine ⟨cs.take (Rep.sz α), cs.drop (Rep.sz α), (List.take_append_drop _ _).symm, by simpa using k 0 x rfl, repL_of_at ?_ fun i y hy => ?_⟩
    · rw [List.length_drop, hl, List.length_cons, Nat.add_mul]; omega
    · have := k (i + 1) y (by simpa using hy)
      rw [Nat.add_mul, Nat.one_mul, Nat.add_comm, ← List.drop_drop] at this
      exact this
end
instance : Rep UInt16 where
  sz := 1
  rep x cs := pureP (cs = [.int .u16 (x.toNat : Int)])
  len := by intro x cs h k; cases k; rfl
  mono := fun _ k => k
  one := by intro x cs h k v hv; cases k; simp at hv; subst hv; rfl
/-! ### A reading of an argument gives a value -/
section
variable {P : Program} {t : TypeId}
instance ReadsAs.u16 [h : TyInt P t .u16] {b : Nat} {z : List Value} [TyI P t 1 b z] : ReadsAs P t UInt16 where
  of := by
    intro H enc w sp held fuel cs x k
    obtain ⟨n, rfl, _, hw⟩ := DataW.trod_int h.out k
    have hb : 0 ≤ n ∧ n ≤ 65535 := by simpa [Lit.wf, IntKind.min, IntKind.max, IntKind.signed, IntKind.bits] using hw
    refine ⟨UInt16.ofNat n.toNat, ?_⟩
    show [Value.int .u16 n] = [Value.int .u16 _]
    simp only [UInt16.toNat_ofNat', List.cons.injEq, Value.int.injEq, and_true, true_and]
    omega
  size := cellsOf_of
instance ReadsAs.u32 [h : TyInt P t .u32] {b : Nat} {z : List Value} [TyI P t 1 b z] : ReadsAs P t UInt32 where
  of := by
    intro H enc w sp held fuel cs x k
    obtain ⟨n, rfl, _, hw⟩ := DataW.trod_int h.out k
    have hb : 0 ≤ n ∧ n ≤ 4294967295 := by simpa [Lit.wf, IntKind.min, IntKind.max, IntKind.signed, IntKind.bits] using hw
    refine ⟨UInt32.ofNat n.toNat, ?_⟩
    show [Value.int .u32 n] = [Value.int .u32 _]
    simp only [UInt32.toNat_ofNat', List.cons.injEq, Value.int.injEq, and_true, true_and]
    omega
  size := cellsOf_of
instance ReadsAs.bool [h : TyBool P t] {b : Nat} {z : List Value} [TyI P t 1 b z] : ReadsAs P t Bool where
  of := by
    intro H enc w sp held fuel cs x k
    obtain ⟨n, rfl, _⟩ := DataW.trod_bool h.out k
    exact ⟨n, rfl⟩
  size := cellsOf_of
end
end Slk

set_option linter.unusedVariables false
set_option linter.unusedSimpArgs false
namespace Slk
open Go
theorem Own.below {w w' : World} {l : List HProp} (H : Own none' w w' l) : Go.RowKit.Below w.heap.size w w' := ⟨H.os, H.tape, H.output, H.size, fun b hb => H.old b hb id⟩
theorem cells_one {P : Program} {t : TypeId} [h : TyOne P t] {w : World} {r : Reach} {base : Nat} {v : Value} (k : Value.okWide P w r base t v) : v.cells = #[v] := by
  have h := h.out
  cases v with
  | agg cs =>
    unfold Value.okWide at k
    cases hu : P.underlying t with
    | none => rw [hu] at h; cases h
    | some d =>
      rw [hu] at h k
      cases d <;> simp_all [Cell.okWide, Cell.ok]
  | _ => rfl
theorem cells_agg {P : Program} {t : TypeId} [h : TyAgg P t] {w : World} {r : Reach} {base : Nat} {v : Value} (k : Value.okWide P w r base t v) : ∃ cs : List Value, v = .agg cs.toArray := by
  have h := h.out
  unfold Value.okWide at k
  cases hu : P.underlying t with
  | none => rw [hu] at h; cases h
  | some d =>
    rw [hu] at h k
    cases d with
    | struct fs => obtain ⟨cs, rfl, _⟩ := k; exact ⟨cs.toList, by simp⟩
    | array n e => obtain ⟨cs, rfl, _⟩ := k; exact ⟨cs.toList, by simp⟩
    | _ => simp at h
theorem arg_rep {P : Program} {t : TypeId} {α : Type} [Rep α] [h : ReadsAs P t α] {H : Type} {enc : TypeId × Value → H} {w : World} {sp : Nat → Bool} {held : Bool} {v : Value} {d : DataW H} {p : List MemPlace} (k : DataW.Trod enc P w 0 sp held t v d p) : ∃ x : α, Old none' w (Rep.rep x v.cells.toList) := by
  obtain ⟨fuel, k⟩ := k
  obtain ⟨x, hx⟩ := h.of enc w sp held fuel _ _ k
  exact ⟨x, _, fun b o hb => ⟨hb, id⟩, hx⟩
end Slk

set_option linter.unusedVariables false
set_option linter.unusedSimpArgs false
namespace Slk
open Go
section
variable {P : Program} {D : Nat → Prop} {w0 : World} {env : Slots} {l : List HProp} {dst : Option Tmp} {ty : TypeId} {pos : String} {after : Array Edge} {g : Option (Nat × Bool)}
end
section
variable {P : Program} {Q : Post} {D : Nat → Prop} {w0 : World} {n : Nat} {env : Slots} {l : List HProp} {ops : Array Oper} {r : List Oper} {o : Oper}
end
/-! What can be read of assertions that hold apart. -/
section
variable {P : Program} {D : Nat → Prop} {w0 : World} {env : Slots} {l : List HProp} {dst : Option Tmp} {ty : TypeId} {pos : String} {after : Array Edge} {g : Option (Nat × Bool)} {x y : Operand} {t t' : TypeId} {k : IntKind} {i j : Int}
end
section
variable {P : Program} {D : Nat → Prop} {w0 : World} {env : Slots} {l : List HProp} {dst : Option Tmp} {ty : TypeId} {pos : String} {after : Array Edge} {g : Option (Nat × Bool)}
end
end Slk

set_option linter.unusedVariables false
set_option linter.unusedSimpArgs false
namespace Slk
open Go
/-! ### Arrays, structs and strings as arguments -/
instance Rep.str : Rep ByteArray where
  sz := 1
  rep x cs := pureP (cs = [.string x] ∧ x.size ≤ maxLen)
  len := by intro x cs h k; obtain ⟨rfl, _⟩ := k; rfl
  mono := fun _ k => k
  one := by intro x cs h k v hv; obtain ⟨rfl, _⟩ := k; simp at hv; subst hv; rfl
theorem mapM_at {α β : Type} {f : α → Option β} : ∀ {l : List α} {ys : List β}, l.mapM f = some ys → ∀ (i : Nat) (x : α), l[i]? = some x → ∃ y, f x = some y
  | [], _, _, i, x, h => by simp at h
  | a :: r, ys, h, i, x, hi => by
    rw [List.mapM_cons] at h
    cases ha : f a with
    | none => rw [ha] at h; cases h
    | some b =>
      rw [ha] at h
      cases hr : r.mapM f with
      | none => rw [hr] at h; cases h
      | some zs =>
        cases i with
        | zero => simp at hi; subst hi; exact ⟨b, ha⟩
        | succ i => exact mapM_at hr i x (by simpa using hi)
section
variable {P : Program} {t : TypeId}
theorem ReadsAs.arr {e : TypeId} {n : Nat} {α : Type} [Rep α] [h : TyArr P t n e] [he : ReadsAs P e α] (hs : P.cellsOf t = n * Rep.sz α) : ReadsAs P t (Vector α n) where
  of := by
    intro H enc w sp held fuel cs x k
    cases fuel with
    | zero => simp [DataW.trod] at k
    | succ m =>
      rw [DataW.trod_step] at k
      unfold DataW.trodStep at k
      simp only [h.out] at k
      split at k
      · rename_i hl
        obtain ⟨ys, hy, _⟩ := Option.map_eq_some_iff.1 k
        have hz := he.size
        obtain ⟨xs, hxl, hxs⟩ := list_of_at (α := α) (p := fun i y => Rep.rep y ((cs.drop (i * Rep.sz α)).take (Rep.sz α)) (fun b => w.heap[b]?)) n (fun i hi => by
          obtain ⟨y, hy⟩ := mapM_at hy i i (by simp [hi])
          rw [hz] at hy
          exact he.of enc w sp held m _ _ hy)
        refine ⟨⟨xs.toArray, by simpa using hxl⟩, ?_⟩
        show repL xs cs _
        exact repL_of_at (by rw [hl, hs, hxl]) hxs
      · cases k
  size := hs
instance ReadsAs.str [h : TyStr P t] {b : Nat} {z : List Value} [TyI P t 1 b z] : ReadsAs P t ByteArray where
  of := by
    intro H enc w sp held fuel cs x k
    cases fuel with
    | zero => simp [DataW.trod] at k
    | succ m =>
      rw [DataW.trod_step] at k
      unfold DataW.trodStep at k
      simp only [h.out] at k
      split at k
      all_goals simp only [Option.some.injEq, reduceCtorEq] at *
      all_goals rename_i s h1 h2
      split at k
      · rename_i hs
        exact ⟨h1, rfl, hs⟩
      · cases k
  size := cellsOf_of
end
end Slk

set_option linter.unusedVariables false
set_option linter.unusedSimpArgs false
namespace Slk
open Go
/-! ### A slice of one's own, found by its address -/
/-! ### Stores into a slice of one's own -/
section
variable {P : Program} {D : Nat → Prop} {w0 : World} {env : Slots} {l : List HProp} {dst : Option Tmp} {ty : TypeId} {pos : String} {after : Array Edge} {g : Option (Nat × Bool)}
end
/-! A slice of one's own is read. -/
end Slk

set_option linter.unusedVariables false
set_option linter.unusedSimpArgs false
namespace Slk
open Go
section
variable {P : Program} {D : Nat → Prop} {w0 : World} {env : Slots} {l : List HProp} {dst : Option Tmp} {ty : TypeId} {pos : String} {after : Array Edge} {g : Option (Nat × Bool)} {x y : Operand} {t t' : TypeId}
/-! ### Texts made of bytes, compared -/
end
/-! ### What a list's cells read as, partly of old memory -/
section
variable {α : Type} [Rep α] {D : Nat → Prop} {w0 : World} {l r : List HProp}
end
section
variable {P : Program} {Q : Post} {D : Nat → Prop} {w0 : World} {n : Nat} {env : Slots} {l : List HProp} {ops : Array Oper} {α : Type} [Rep α] {A : Option Addr} {t : TypeId} {sz m cap : Nat} {xs : List α}
end
end Slk

set_option linter.unusedVariables false
set_option linter.unusedSimpArgs false
namespace Slk
open Go
/-! ### Several assertions in one -/
section
variable {P : Program} {Q : Post} {D : Nat → Prop} {w0 : World} {n : Nat} {env : Slots} {l : List HProp} {ops : Array Oper} {σ : Type} {L : σ → List HProp}
end
/-! ### Lists of bytes of one's own -/
section
variable {t : TypeId} {l : List HProp} {xs : List (List UInt8)} {cs : List Value} {x : List UInt8} {c : Value} {A : Option Addr} {cap : Nat}
end
/-! ### The rest of a slice -/
section
variable {P : Program} {D : Nat → Prop} {w0 : World} {env : Slots} {l : List HProp} {dst : Option Tmp} {ty : TypeId} {pos : String} {after : Array Edge} {g : Option (Nat × Bool)} {x y : Operand} {t t' e : TypeId}
end
end Slk

set_option linter.unusedVariables false
set_option linter.unusedSimpArgs false
namespace Slk
open Go
/-! ### Structs as arguments, field by field -/
section
variable {P : Program} {t : TypeId}
end
end Slk

set_option linter.unusedVariables false
set_option linter.unusedSimpArgs false
namespace Slk
open Go

/-! ### Tests whose outcome is known; slots that are kept -/
section
variable {P : Program} {Q : Post} {D : Nat → Prop} {w0 : World} {n : Nat} {env : Slots} {l : List HProp} {ops : Array Oper} {r tail : List Oper}
end

section
variable {P : Program} {D : Nat → Prop} {w0 : World} {env : Slots} {l : List HProp} {dst : Option Tmp} {ty : TypeId} {pos : String} {after : Array Edge} {g : Option (Nat × Bool)}
end

/-! ### Structs and arrays of plain cells, compared -/
end Slk

set_option linter.unusedVariables false
set_option linter.unusedSimpArgs false
namespace Slk
open Go
section
variable {P : Program} {D : Nat → Prop} {w0 : World} {env : Slots} {l : List HProp} {dst : Option Tmp} {ty : TypeId} {pos : String} {after : Array Edge} {g : Option (Nat × Bool)} {x y : Operand} {t t' : TypeId}
end
end Slk
set_option linter.unusedVariables false
namespace Go.Proofs.YtjlolpmmpafjeaaGreat
open Slk



instance : TyBool Tryz.prog 4 := ⟨by kernel_rfl⟩




instance : TySlice Tryz.prog 22 23 := ⟨by kernel_rfl⟩

instance : TyU Tryz.prog 23 (.slice 81) := ⟨by kernel_rfl⟩































instance : TyFlat Tryz.prog 81 ([.i .i64, .i .i64, .i .i64, .i .i64, .i .u8, .i .u8, .i .u64]) := ⟨by kernel_rfl, by kernel_rfl, by kernel_rfl, by kernel_rfl⟩



instance : TyPtr Tryz.prog 90 157 := ⟨by kernel_rfl⟩


instance : TyF Tryz.prog 97 0 0 3 1 := ⟨by kernel_rfl⟩
instance : TyF Tryz.prog 97 1 1 23 1 := ⟨by kernel_rfl⟩


instance : TyU Tryz.prog 101 (.array 2 5) := ⟨by kernel_rfl⟩
instance : TyArr Tryz.prog 101 2 5 := ⟨by kernel_rfl⟩
instance : TyAgg Tryz.prog 101 := ⟨by kernel_rfl⟩
instance : TyI Tryz.prog 101 2 2 ([.int .u8 0, .int .u8 0]) := ⟨by kernel_rfl, by kernel_rfl⟩
instance : TyFlat Tryz.prog 101 ([.i .u8, .i .u8]) := ⟨by kernel_rfl, by kernel_rfl, by kernel_rfl, by kernel_rfl⟩























instance : TyI Tryz.prog 157 1 24 ([.slice none 0 0]) := ⟨by kernel_rfl, by kernel_rfl⟩
instance : TyF Tryz.prog 157 0 0 23 1 := ⟨by kernel_rfl⟩
instance : TyS Tryz.prog 157 [(0, 1)] := ⟨by kernel_rfl⟩









































end Go.Proofs.YtjlolpmmpafjeaaGreat

set_option linter.unusedVariables false
set_option linter.unusedSimpArgs false
namespace Slk
open Go

/-! ### What one owns and never writes again is old from now on -/
section
variable {P : Program} {Q : Post} {D : Nat → Prop} {w0 : World} {n : Nat} {env : Slots} {l r : List HProp} {ops : Array Oper}
end
/-! ### Readings that one owns -/
section
variable {α : Type} [Rep α] {l r : List HProp} {xs ys : List α} {cs ds : List Value} {A : Option Addr} {t : TypeId} {n cap : Nat}
end
end Slk

set_option linter.unusedVariables false
set_option linter.unusedSimpArgs false
namespace Slk
open Go
/-! ### Bits, in Lean's own words -/
section
variable {P : Program} {D : Nat → Prop} {w0 : World} {env : Slots} {l : List HProp} {dst : Option Tmp} {ty : TypeId} {pos : String} {after : Array Edge} {g : Option (Nat × Bool)} {x y : Operand} {t t' : TypeId}
end
section
variable {P : Program} {D : Nat → Prop} {w0 : World} {env : Slots} {l : List HProp} {dst : Option Tmp} {ty : TypeId} {pos : String} {after : Array Edge} {g : Option (Nat × Bool)} {x y : Operand} {t t' : TypeId}
end
section
variable {P : Program} {Q : Post} {D : Nat → Prop} {w0 : World} {n : Nat} {env : Slots} {l : List HProp} {ops : Array Oper}
end
end Slk

set_option linter.unusedVariables false
set_option linter.unusedSimpArgs false
namespace Slk
open Go
/-! ### Function values that are called -/
section
variable {P : Program} {Q : Post} {D : Nat → Prop} {w0 : World} {n : Nat} {env : Slots} {l : List HProp} {ops : Array Oper} {r : List Oper}
/-! ### Results that lie in memory -/
end
section
variable {P : Program} {D : Nat → Prop} {w0 : World} {env : Slots} {l : List HProp} {dst : Option Tmp} {ty : TypeId} {pos : String} {after : Array Edge} {g : Option (Nat × Bool)}
end
/-! ### Lists whose elements have as many cells each -/
section
variable {α β : Type} {f : α → List β} {sz : Nat}
end
end Slk

set_option linter.unusedVariables false
set_option linter.unusedSimpArgs false
namespace Slk
open Go
/-! ### Any one object of one's own -/
/-! ### Code under a fence that lets all through -/
section
variable {F : Fence} {ds : List Deferred} {P : Program} {Q : Post} {D : Nat → Prop} {w0 : World} {n : Nat} {env : Slots} {l : List HProp} {ops : Array Oper} {r : List Oper} {o : Oper}
/-! ### The statement itself -/
/-! ### The end of a function that holds such a statement -/
end
end Slk

set_option linter.unusedVariables false
set_option linter.unusedSimpArgs false
namespace Slk
open Go
section
variable {P : Program} {D : Nat → Prop} {w0 : World} {env : Slots} {l : List HProp} {dst : Option Tmp} {ty : TypeId} {pos : String} {after : Array Edge} {g : Option (Nat × Bool)}
end
section
variable {σ : Type} {L : σ → List HProp} {F : Fence} {ds : List Deferred} {P : Program} {Q : Post} {D : Nat → Prop} {w0 : World} {n : Nat} {env : Slots} {l : List HProp}
end
end Slk

set_option linter.unusedVariables false
set_option linter.unusedSimpArgs false
namespace Slk
open Go
/-! ### The same rules, shorter to write: what kernel or a fixed tactic shows is not written -/
section
variable {P : Program} {Q : Post} {D : Nat → Prop} {w0 : World} {n : Nat} {env : Slots} {l : List HProp} {ops : Array Oper} {r tail : List Oper} {o : Oper}
variable {L0 : List HProp} {fuel : Nat} {listed : Array Bool} {rl : List Oper}
end
end Slk

set_option linter.unusedVariables false
set_option linter.unusedSimpArgs false
namespace Slk
open Go
/-! ### Plain memory: a new block that was never frozen -/
section
variable {P : Program} {Q : Post} {D : Nat → Prop} {w0 : World} {n : Nat} {env : Slots} {l r : List HProp} {ops : Array Oper} {A : Option Addr} {t : TypeId} {sz m cap : Nat} {cs : List Value}
end
section
variable {P : Program} {D : Nat → Prop} {w0 : World} {env : Slots} {l : List HProp} {dst : Option Tmp} {ty : TypeId} {pos : String} {after : Array Edge} {g : Option (Nat × Bool)}
end
section
variable {P : Program} {Q : Post} {D : Nat → Prop} {w0 : World} {n : Nat} {env : Slots} {l L0 : List HProp} {fuel : Nat} {listed : Array Bool} {rl : List Oper}
end
end Slk

namespace Go.Proofs.YtjlolpmmpafjeaaGreat
open Slk
end Go.Proofs.YtjlolpmmpafjeaaGreat

set_option linter.unusedVariables false
set_option linter.unusedSimpArgs false
namespace Go.Proofs.YtjlolpmmpafjeaaGreat
open Slk
end Go.Proofs.YtjlolpmmpafjeaaGreat

set_option linter.unusedVariables false
set_option linter.unusedSimpArgs false
namespace Go.Proofs.YtjlolpmmpafjeaaGreat
open Slk
end Go.Proofs.YtjlolpmmpafjeaaGreat
set_option linter.unusedVariables false
set_option linter.unusedSimpArgs false
namespace Go.Proofs.YtjlolpmmpafjeaaGreat
open Slk
/-! ### Lists of flat things -/
section
variable {α : Type} [Rep α] [F : Flat α]
end
/-! ### Comparisons -/
end Go.Proofs.YtjlolpmmpafjeaaGreat

set_option linter.unusedVariables false
set_option linter.unusedSimpArgs false
namespace Go.Proofs.YtjlolpmmpafjeaaGreat
open Slk
end Go.Proofs.YtjlolpmmpafjeaaGreat

set_option linter.unusedVariables false
set_option linter.unusedSimpArgs false
namespace Go.Proofs.YtjlolpmmpafjeaaGreat
open Slk
end Go.Proofs.YtjlolpmmpafjeaaGreat

set_option linter.unusedVariables false
set_option linter.unusedSimpArgs false
namespace Go.Proofs.YtjlolpmmpafjeaaGreat
open Slk
end Go.Proofs.YtjlolpmmpafjeaaGreat

set_option linter.unusedVariables false
set_option linter.unusedSimpArgs false
namespace Go.Proofs.YtjlolpmmpafjeaaGreat
open Slk
section
variable {P : Program} {D : Nat → Prop} {w0 : World} {env : Slots} {l : List HProp} {dst : Option Tmp} {ty : TypeId} {pos : String} {after : Array Edge} {g : Option (Nat × Bool)} {x y : Operand} {t t' : TypeId}
end
end Go.Proofs.YtjlolpmmpafjeaaGreat

set_option linter.unusedVariables false
set_option linter.unusedSimpArgs false
namespace Go.Proofs.YtjlolpmmpafjeaaGreat
open Slk
end Go.Proofs.YtjlolpmmpafjeaaGreat

set_option linter.unusedVariables false
set_option linter.unusedSimpArgs false
namespace Go.Proofs.YtjlolpmmpafjeaaGreat
open Slk
theorem editV_one (x : EditC) : ∀ v ∈ editV x, v.oneCell' = true := by simp [Value.oneCell', u8v]
end Go.Proofs.YtjlolpmmpafjeaaGreat
set_option linter.unusedVariables false
set_option linter.unusedSimpArgs false
namespace Go.Proofs.YtjlolpmmpafjeaaGreat
open Slk
/-! ### Numbers as bytes -/
end Go.Proofs.YtjlolpmmpafjeaaGreat

set_option linter.unusedVariables false
set_option linter.unusedSimpArgs false
namespace Go.Proofs.YtjlolpmmpafjeaaGreat
open Slk
/-! ### Edits are written -/
end Go.Proofs.YtjlolpmmpafjeaaGreat

set_option linter.unusedVariables false
set_option linter.unusedSimpArgs false
namespace Go.Proofs.YtjlolpmmpafjeaaGreat
open Slk
end Go.Proofs.YtjlolpmmpafjeaaGreat

set_option linter.unusedVariables false
set_option linter.unusedSimpArgs false
namespace Go.Proofs.YtjlolpmmpafjeaaGreat
open Slk
/-! ### The first configuration -/
/-! ### What the keep's functions say -/
theorem okC {k : CK} {ks : List CK} {v : Value} {cs : List Value} (h : (cellOk k v).isSome = true) (t : (cellsOk ks cs).isSome = true) : (cellsOk (k :: ks) (v :: cs)).isSome = true := by
  obtain ⟨a, ha⟩ := Option.isSome_iff_exists.1 h
  obtain ⟨b, hb⟩ := Option.isSome_iff_exists.1 t
  simp only [cellsOk, ha, hb]; rfl
theorem ok8 (b : UInt8) : (cellOk (.i .u8) (u8v b)).isSome = true := by
  have h := b.toNat_lt
  simp only [u8v, cellOk]
  rw [if_pos (by simp [Lit.wf, IntKind.min, IntKind.max, IntKind.signed, IntKind.bits]; omega)]; rfl
theorem ok64 (b : UInt64) : (cellOk (.i .u64) (.int .u64 (b.toNat : Int))).isSome = true := by
  have h := b.toNat_lt
  simp only [cellOk]
  rw [if_pos (by simp [Lit.wf, IntKind.min, IntKind.max, IntKind.signed, IntKind.bits]; omega)]; rfl
theorem okI {x : Int} (h : inI64 x) : (cellOk (.i .i64) (.int .i64 x)).isSome = true := by
  unfold inI64 at h
  simp only [cellOk]
  rw [if_pos (by simp [Lit.wf, IntKind.min, IntKind.max, IntKind.signed, IntKind.bits]; omega)]; rfl
theorem toNat_inj8 {a b : UInt8} : (a.toNat : Int) = b.toNat ↔ a = b := ⟨fun h => UInt8.toNat_inj.1 (by omega), fun h => by rw [h]⟩
theorem toNat_inj64 {a b : UInt64} : (a.toNat : Int) = b.toNat ↔ a = b := ⟨fun h => UInt64.toNat_inj.1 (by omega), fun h => by rw [h]⟩
theorem vlanV_inj {s t : VlanC} : vlanV s = vlanV t ↔ s = t := by
  obtain ⟨a, b, c⟩ := s; obtain ⟨a', b', c'⟩ := t
  simp only [vlanV, u8v, List.cons.injEq, Value.bool.injEq, Value.int.injEq, true_and, and_true, Prod.mk.injEq, toNat_inj8]
theorem statV_inj {s t : StatC} : statV s = statV t ↔ s = t := by
  obtain ⟨a, b, c⟩ := s; obtain ⟨a', b', c'⟩ := t
  simp only [statV, List.cons.injEq, Value.bool.injEq, Value.int.injEq, true_and, and_true, Prod.mk.injEq, toNat_inj64]
theorem editV_inj {s t : EditC} : editV s = editV t ↔ s = t := by
  obtain ⟨a, b, c, d, e, f, g⟩ := s; obtain ⟨a', b', c', d', e', f', g'⟩ := t
  simp only [editV, u8v, List.cons.injEq, Value.int.injEq, true_and, and_true, Prod.mk.injEq, toNat_inj8, toNat_inj64]
theorem editOk {x : EditC} (h : Flat.ok x) : (cellsOk [.i .i64, .i .i64, .i .i64, .i .i64, .i .u8, .i .u8, .i .u64] (editV x)).isSome = true :=
  okC (okI h.1) (okC (okI h.2.1) (okC (okI h.2.2.1) (okC (okI h.2.2.2) (okC (ok8 _) (okC (ok8 _) (okC (ok64 _) rfl))))))
theorem keepE_spec (D : Nat → Prop) (w : World) (v1 v2 : Value) (S T : List EditC) (HA : Old D w (Rep.rep S [v1])) (HB : Old D w (Rep.rep T [v2])) :
    Calls Tryz.prog 43 #[v1, v2] w fun e w' => ∃ b : BIff (S = T), e = .returned (.bool b.1) ∧ Own D w w' [] := by
  obtain ⟨A, c1, rfl, hA1, hA2, HS, oS⟩ := HA.openF
  obtain ⟨B, c2, rfl, hB1, hB2, HT, oT⟩ := HB.openF
  have HS : OldS D w A (S.flatMap editV) := HS
  have HT : OldS D w B (T.flatMap editV) := HT
  refine hc_enter (vs := [.slice A S.length c1, .slice B T.length c2]) Tryz.func43 rfl _ Tryz.ntmps43 rfl (Own.start D w) ?_
  simp only [argSlots, Nat.zero_add]
  refine zg <| hl_v (ov_assign rfl) rfl <| zn <| hc_seq <| ?_
  refine zg <| hl_v (ov_move rfl) rfl <| hl_v za15 rfl <| ?_
  refine hl_v (ov_move rfl) rfl <| hl_v za15 rfl <| ?_
  refine hl_v (ov_neq rfl rfl) rfl <| zn <| ?_
  refine hc_cond rfl (fun h => ?_) (fun h => ?_)
  · have hne : ¬ S = T := fun e => by subst e; exact h rfl
    refine zg <| hl_v (ov_assign rfl) rfl <| zn <| hc_ret <| ?_
    refine hx_then_ret <| ?_
    exact results_1 (.inr rfl) rfl rfl fun w' H' => ⟨bF hne, rfl, H'⟩
  have hl : S.length = T.length := by omega
  refine zk <| hc_seq <| zg <| hl_v (ov_assign rfl) rfl <| ?_
  refine zn <| hc_block <| ?_
  refine hc_loops1 (σ := Nat) [0, 1] rfl 5 (fun k => .int .i64 (k : Int)) (fun k => k ≤ S.length ∧ S.take k = T.take k) (fun k => S.length - k) (0) (⟨Nat.zero_le _, by simp⟩) rfl ?_
  rintro k ⟨hk, hkt⟩ K1 hK1
  refine hc_seq <| zg <| hl_v (ov_move rfl) rfl <| hl_v (ov_move rfl) rfl <| hl_v za15 rfl <| ?_
  refine hl_v (ov_lss rfl rfl) rfl <| zn <| ?_
  refine hc_cond rfl (fun h2 => ?_) (fun h2 => ?_)
  · have hlt : k < S.length := by omega
    have hlt2 : k < T.length := by omega
    obtain ⟨hA, hc1⟩ := OldS.cells_flat (D := D) (w0 := w) (f := editV) (sz := 7) (fun _ => rfl) (by decide) HS hlt []
    obtain ⟨hB, hc2⟩ := OldS.cells_flat (D := D) (w0 := w) (f := editV) (sz := 7) (fun _ => rfl) (by decide) HT hlt2 []
    have hs1 := List.take_succ_eq_append_getElem hlt
    have hs2 := List.take_succ_eq_append_getElem hlt2
    have hat : S = T → S[k] = T[k] := fun e => by subst e; rfl
    have os := editOk (oS S[k] (List.getElem_mem hlt))
    have ot := editOk (oT T[k] (List.getElem_mem hlt2))
    generalize S[k] = s at *
    generalize T[k] = t at *
    refine zk <| hc_seq <| hc_block <| hc_seq <| hc_quiet mixed (by kernel_rfl) <| ?_
    refine hq_v (ov_move rfl) rfl <| hq_v (ov_move rfl) rfl <| hq_v (ov_idxS rfl (by assumption) rfl _ rfl (by omega)) rfl <| ?_
    refine hq_v (ov_loadG (cs := editV s) rfl rfl hc1) rfl ?_
    refine hq_v (ov_move rfl) rfl <| hq_v (ov_move rfl) rfl <| hq_v (ov_idxS rfl (by assumption) rfl _ rfl (by omega)) rfl <| ?_
    refine hq_v (ov_loadG (cs := editV t) rfl rfl hc2) rfl ?_
    refine hq_v (ov_neqG rfl rfl os ot editV_inj) rfl ?_
    refine hq_nil <| hx_then_normal <| ?_
    refine hc_cond rfl (fun h3 => ?_) (fun h3 => ?_)
    · have hne : ¬ S = T := fun e => h3 (hat e)
      refine zg <| hl_v (ov_assign rfl) rfl <| zn <| hc_ret <| ?_
      refine hx_block_ret <| hx_then_ret <| hx_then_ret <| hx_block_ret <| hx_then_ret <| ?_
      exact results_1 (.inr rfl) rfl rfl fun w' H' => ⟨bF hne, rfl, H'⟩
    have hst : s = t := Classical.not_not.1 h3
    refine hc_skip <| hx_block_normal <| hx_then_normal <| hc_region <| hl_v (ov_move rfl) rfl <| hl_v (ov_add rfl rfl za18) rfl <| ?_
    refine hl_v (ov_assign rfl) rfl <| hl_nil <| ?_
    refine hx_next hK1 (k + 1) (⟨hlt, by rw [hs1, hs2, hkt, hst]⟩) (by omega) za9 za6
  have hk' : k = S.length := by omega
  have he : S = T := by rw [← List.take_length (l := S), ← hk', hkt, hk', hl, List.take_length]
  refine hc_exit <| hx_then_exit <| hx_then_exit <| hx_block_out <| hx_then_normal <| hc_seq <| ?_
  refine hc_region <| hl_v (ov_assign rfl) rfl <| zn <| hc_ret <| ?_
  exact results_1 (.inr rfl) rfl rfl fun w' H' => ⟨bT he, rfl, H'⟩
end Go.Proofs.YtjlolpmmpafjeaaGreat
set_option linter.unusedVariables false
set_option linter.unusedSimpArgs false
namespace Go.Proofs.YtjlolpmmpafjeaaGreat
open Slk
instance : ReadsAs Tryz.prog 83 PortC := ReadsAs.structG 0 (by kernel_rfl) rfl (ReadsG.cons 0 (ReadsG.cons 1 (ReadsG.last 2 (by decide))))
instance : ReadsAs Tryz.prog 147 VlanC := ReadsAs.structG 0 (by kernel_rfl) rfl (ReadsG.cons 0 (ReadsG.cons 1 (ReadsG.last 2 (by decide))))
instance : ReadsAs Tryz.prog 149 StatC := ReadsAs.structG 0 (by kernel_rfl) rfl (ReadsG.cons 0 (ReadsG.cons 1 (ReadsG.last 2 (by decide))))
instance : ReadsAs Tryz.prog 49 ConfC := ReadsAs.structG 0 (by kernel_rfl) rfl (ReadsG.cons 0 (ReadsG.cons 1 (ReadsG.cons 2 (ReadsG.cons 3 (ReadsG.cons 4 (ReadsG.last 5 (by decide)))))))
end Go.Proofs.YtjlolpmmpafjeaaGreat
set_option linter.unusedVariables false
namespace Slk
open Go
theorem Own.callp3 (A B C : HProp) {P : Program} {f : Nat} {args : Array Value} {D : Nat → Prop} {w0 w : World} {l r r2 r3 post : List HProp} {v : Value} [hp : Pick l A r] [hq : Pick r B r2] [hs : Pick r2 C r3] (H : Own D w0 w l)
    (hc : ∀ D', (∀ A, Old D w0 A → Old D' w A) → (∀ B : HProp, (∀ h, stars r3 h → (∀ A, Old D w0 A → ∃ h1, A h1 ∧ Hsub h1 h) → B h) → Old D' w B) → Own D' w w [A, B, C] → Calls P f args w fun e w' => e = .returned v ∧ Own D' w w' post) :
    Calls P f args w fun e w' => e = .returned v ∧ Own D w0 w' (post ++ r3) := Own.call (pre := [A, B, C]) (H.ent (Ent.perm (hp.out.trans (List.Perm.cons _ (hq.out.trans (List.Perm.cons _ hs.out)))))) hc
end Slk
set_option linter.unusedVariables false
set_option linter.unusedSimpArgs false
namespace Go.Proofs.YtjlolpmmpafjeaaGreat
open Slk
theorem ClnE_spec (D : Nat → Prop) (w : World) (v : Value) (l : List EditC) (hl : l.length ≤ 100000) (HA : Old D w (Rep.rep l [v])) :
    Calls Tryz.prog 72 #[v] w fun e w' => ∃ q : Option Addr × Nat, e = .returned (.slice q.1 l.length q.2) ∧ Own D w w' [row q.1 81 7 l.length q.2 (l.flatMap editV)] := by
  obtain ⟨A, cap, rfl, hc1, hc2, HS, hok⟩ := HA.openF
  have HS : OldS D w A (l.flatMap editV) := HS
  refine hc_enter (vs := [.slice A l.length cap]) Tryz.func72 rfl _ Tryz.ntmps72 rfl (Own.start D w) ?_
  simp only [argSlots, Nat.zero_add]
  refine zg <| hl_v (ov_assign rfl) rfl <| zn <| hc_seq <| ?_
  refine zg <| hl_v (ov_move rfl) rfl <| hl_v (ov_eqlN rfl rfl) rfl <| zn <| ?_
  refine hc_cond_bool rfl (fun h => ?_) (fun h => ?_)
  · have hnil : l = [] := by
      cases l with
      | nil => rfl
      | cons x r =>
        have h1 := HS.isA (by intro h; have := congrArg List.length h; rw [List.flatMap_cons, List.length_append] at this; simp [editV] at this)
        have : A = none := by simpa using h
        rw [this] at h1; cases h1
    subst hnil
    refine zg <| hl_v (ov_assign rfl) rfl <| zn <| hc_ret <| ?_
    refine hx_then_ret <| ?_
    exact results_1 (.inr rfl) rfl rfl fun w' H' => ⟨(none, 0), rfl, H'.ent (Ent.nil_row _ _)⟩
  refine zk <| zg <| hl_new (on_buildSliceN rfl rfl rfl) rfl rfl rfl fun b5 =>
    hl_v (ov_move rfl) rfl <| ?_
  refine HL.ent (Ent.blk_row (b := b5) 7 0 rfl (by decide)) ?_
  refine hl_new (on_appendR (A := some ⟨b5, 0, none⟩) (news := l.flatMap editV) rfl rfl (SrcIs.old HS) (flat_len (f := editV) (sz := 7) (fun _ => rfl) l) (flat_one editV_one l) (by decide) (by omega)) rfl rfl rfl (fun q1 => ?_)
  rw [List.nil_append, Nat.zero_add]
  refine hl_v (ov_assign rfl) rfl <| zn <| hc_ret <| ?_
  exact results_1 (.inr rfl) rfl rfl fun w' H' => ⟨q1, rfl, H'.ent za4⟩
/-! ### A session -/
def sesL (b : Nat) (l : List EditC) (q : Option Addr × Nat) : List HProp := [blk b 157 [.slice q.1 l.length q.2], row q.1 81 7 l.length q.2 (l.flatMap editV)]
def ses (b : Nat) (l : List EditC) : HProp := exS (sesL b l)
theorem ses_mk {b : Nat} {l : List EditC} {r : List HProp} (q : Option Addr × Nat) : Ent (blk b 157 [.slice q.1 l.length q.2] :: row q.1 81 7 l.length q.2 (l.flatMap editV) :: r) (ses b l :: r) := Ent.exS (L := sesL b l) (l := r) q
theorem CNew_spec (D : Nat → Prop) (w : World) : Calls Tryz.prog 37 #[] w fun e w' => ∃ b : Nat, e = .returned (.pointer (some ⟨b, 0, none⟩)) ∧ Own D w w' [ses b []] := by
  refine hc_enter (vs := []) Tryz.func37 rfl _ Tryz.ntmps37 rfl (Own.start D w) ?_
  simp only [argSlots, Nat.zero_add]
  refine zg <| hl_v (ov_assign rfl) rfl <| zn <| hc_seq <| ?_
  refine hc_region <| hl_v (ov_buildSN rfl rfl) rfl <| ?_
  refine hl_new (on_boxN rfl rfl) rfl rfl rfl fun b2 =>  ?_
  refine hl_v (ov_assign rfl) rfl <| zn <| hc_ret <| ?_
  exact results_1 (.inr rfl) rfl rfl fun w' H' => ⟨b2, rfl, H'.ent (Ent.trans (b := [blk b2 157 [.slice none 0 0], row none 81 7 0 0 []]) (Ent.trans (Ent.nil_row 81 7) za4) (ses_mk (l := []) (r := []) (none, 0)))⟩
theorem CAdd_spec (D : Nat → Prop) (w : World) (b : Nat) (l x : List EditC) (v : Value) (hl : l.length ≤ 32) (hx : x.length ≤ 100000) (HA : Old D w (Rep.rep x [v])) (H : Own D w w [ses b l]) :
    Calls Tryz.prog 38 #[.pointer (some ⟨b, 0, none⟩), v] w fun e w' => e = .returned (.int .i64 (if l.length + x.length ≤ 32 then 0 else 3)) ∧ Own D w w' [ses b (if l.length + x.length ≤ 32 then l ++ x else l)] := by
  obtain ⟨Ax, cx, rfl, hc1, hc2, HS, hok⟩ := HA.openF
  have HS : OldS D w Ax (x.flatMap editV) := HS
  refine hc_enter (vs := [.pointer (some ⟨b, 0, none⟩), .slice Ax x.length cx]) Tryz.func38 rfl _ Tryz.ntmps38 rfl H ?_
  simp only [argSlots, Nat.zero_add]
  refine HC.exs ?_
  rintro ⟨A, c⟩
  refine HC.ent (l' := [blk b 157 [.slice A l.length c], row A 81 7 l.length c (l.flatMap editV)]) (fun _ h => h) ?_
  refine zg <| hl_v (ov_assign rfl) rfl <| zn <| hc_seq <| ?_
  refine hc_block <| zg <| hl_v (ov_move rfl) rfl <| hl_v (ov_eqlP rfl rfl) rfl <| hl_v (ov_assign rfl) rfl <| ?_
  refine zn <| ?_
  refine hc_cond_false rfl ?_
  refine zg <| hl_v (ov_move rfl) rfl <| hl_v za15 rfl <| ?_
  refine hl_v (ov_move rfl) rfl <| hl_v (ov_nil rfl) rfl <| hl_v (ov_fieldA rfl) rfl <| hl_v (ov_load rfl (CellIs.blk rfl)) rfl <| hl_v za15 rfl <| ?_
  refine hl_v (ov_sub rfl rfl za18) rfl <| ?_
  refine hl_v (ov_gtr rfl rfl) rfl <| hl_v (ov_assign rfl) rfl <| zn <| ?_
  refine hc_cond rfl (fun h => ?_) (fun h => ?_)
  · have hn : ¬ l.length + x.length ≤ 32 := by omega
    rw [if_neg hn, if_neg hn]
    refine zg <| hl_v (ov_assign rfl) rfl <| zn <| hc_ret <| ?_
    refine hx_block_ret <| hx_then_ret <| ?_
    exact results_1 (.inr rfl) rfl rfl fun w' H' => ⟨rfl, H'.ent (ses_mk (r := []) (A, c))⟩
  have hn : l.length + x.length ≤ 32 := by omega
  rw [if_pos hn, if_pos hn]
  have hf : (l ++ x).flatMap editV = l.flatMap editV ++ x.flatMap editV := List.flatMap_append
  refine hc_skip <| hx_block_normal <| hx_then_normal <| zg <| hl_v (ov_move rfl) rfl <| ?_
  refine hl_v (ov_move rfl) rfl <| hl_v (ov_nil rfl) rfl <| hl_v (ov_fieldA rfl) rfl <| hl_v (ov_load rfl (CellIs.blk rfl)) rfl <| hl_v (ov_move rfl) rfl <| ?_
  refine hl_new (on_appendR (A := A) (news := x.flatMap editV) rfl rfl (SrcIs.old HS) (flat_len (f := editV) (sz := 7) (fun _ => rfl) x) (flat_one editV_one x) (by decide) (by omega)) rfl rfl rfl (fun q1 => ?_)
  rw [← hf, show l.length + x.length = (l ++ x).length from (List.length_append).symm]
  refine hl_v (ov_nil rfl) rfl <| hl_v (ov_fieldA rfl) rfl <| hl_u0 (on_storeN rfl rfl rfl rfl rfl) rfl rfl <| zn <| hc_seq <| ?_
  refine hc_region <| hl_v (ov_assign rfl) rfl <| zn <| hc_ret <| ?_
  exact results_1 (.inr rfl) rfl rfl fun w' H' => ⟨rfl, H'.ent (Ent.trans (b := [blk b 157 [.slice q1.1 (l ++ x).length q1.2], row q1.1 81 7 (l ++ x).length q1.2 ((l ++ x).flatMap editV)]) za4 (ses_mk (r := []) q1))⟩
theorem CAll_spec (D : Nat → Prop) (w : World) (b : Nat) (l : List EditC) (hl : l.length ≤ 32) (hf : ∀ x ∈ l, Flat.ok x) (H : Own D w w [ses b l]) :
    Calls Tryz.prog 40 #[.pointer (some ⟨b, 0, none⟩)] w fun e w' => ∃ q : Option Addr × Nat, e = .returned (.slice q.1 l.length q.2) ∧ Own D w w' [ses b l, row q.1 81 7 l.length q.2 (l.flatMap editV)] := by
  refine hc_enter (vs := [.pointer (some ⟨b, 0, none⟩)]) Tryz.func40 rfl _ Tryz.ntmps40 rfl H ?_
  simp only [argSlots, Nat.zero_add]
  refine HC.exs ?_
  rintro ⟨A, c⟩
  refine HC.ent (l' := [blk b 157 [.slice A l.length c], row A 81 7 l.length c (l.flatMap editV)]) (fun _ h => h) ?_
  refine zg <| hl_v (ov_assign rfl) rfl <| zn <| hc_seq <| ?_
  refine zg <| hl_v (ov_move rfl) rfl <| hl_v (ov_eqlP rfl rfl) rfl <| zn <| ?_
  refine hc_cond_false rfl ?_
  refine zk <| zg <| hl_v (ov_move rfl) rfl <| hl_v (ov_nil rfl) rfl <| ?_
  refine hl_v (ov_fieldA rfl) rfl <| hl_v (ov_load rfl (CellIs.blk rfl)) rfl <| ?_
  refine hl_call (σ := Option Addr × Nat) Tryz.call72 rfl rfl (fun w1 H1 => Own.callx0 H1 fun D' hold hin H2 => ClnE_spec D' w1 _ l (by omega) (hin _ fun h hs ho => rep_row (A := A) hs l rfl (repL_F.2 ⟨rfl, hf⟩))) ?_
  intro q
  try rw [List.nil_append]
  refine hl_v (ov_assign rfl) rfl <| zn <| hc_ret <| ?_
  exact results_1 (.inr rfl) rfl rfl fun w' H' => ⟨q, rfl, H'.ent (Ent.trans (b := [blk b 157 [.slice A l.length c], row A 81 7 l.length c (l.flatMap editV), row q.1 81 7 l.length q.2 (l.flatMap editV)]) za4 (ses_mk (A, c)))⟩
theorem CDrop_spec (D : Nat → Prop) (w : World) (b : Nat) (l : List EditC) (H : Own D w w [ses b l]) :
    Calls Tryz.prog 42 #[.pointer (some ⟨b, 0, none⟩)] w fun e w' => e = .returned (.int .i64 (l.length : Int)) ∧ Own D w w' [ses b []] := by
  refine hc_enter (vs := [.pointer (some ⟨b, 0, none⟩)]) Tryz.func42 rfl _ Tryz.ntmps42 rfl H ?_
  simp only [argSlots, Nat.zero_add]
  refine HC.exs ?_
  rintro ⟨A, c⟩
  refine HC.ent (l' := [blk b 157 [.slice A l.length c], row A 81 7 l.length c (l.flatMap editV)]) (fun _ h => h) ?_
  refine zg <| hl_v (ov_assign rfl) rfl <| zn <| hc_seq <| ?_
  refine zg <| hl_v (ov_move rfl) rfl <| hl_v (ov_eqlP rfl rfl) rfl <| zn <| ?_
  refine hc_cond_false rfl ?_
  refine zk <| zg <| hl_v (ov_move rfl) rfl <| hl_v (ov_nil rfl) rfl <| ?_
  refine hl_v (ov_fieldA rfl) rfl <| hl_v (ov_load rfl (CellIs.blk rfl)) rfl <| hl_v za15 rfl <| ?_
  refine hl_v (ov_assign rfl) rfl <| zn <| zg <| hl_v (ov_move rfl) rfl <| ?_
  refine hl_v (ov_nil rfl) rfl <| hl_v (ov_fieldA rfl) rfl <| hl_u0 (on_storeN rfl rfl rfl rfl rfl) rfl rfl <| zn <| hc_seq <| ?_
  refine hc_region <| hl_v (ov_move rfl) rfl <| hl_v (ov_assign rfl) rfl <| zn <| hc_ret <| ?_
  exact results_1 (.inr rfl) rfl rfl fun w' H' => ⟨rfl, H'.ent (Ent.trans (b := [blk b 157 [.slice none 0 0], row none 81 7 0 0 []]) (Ent.trans (Ent.nil_row 81 7) za4) (ses_mk (l := []) (r := []) (none, 0)))⟩
def ccomR (m : Nat) (s : SSt) (l : List EditC) : Int × Int × SSt :=
  if l.length = 0 then (0, 0, s) else if (commR m s l).1 ≠ 0 then (0, commR m s l) else ((l.length : Int), commR m s l)
theorem CCommit_spec (D : Nat → Prop) (w : World) (b sb g m : Nat) (s : SSt) (l : List EditC) (h : SI m s) (hm2 : m ≤ 100000) (hep : s.ep < 4294967290) (hl : l.length ≤ 32) (hf : ∀ x ∈ l, Flat.ok x) (H : Own D w w [ses b l, sto sb g m s, dsk g s.S []]) :
    Calls Tryz.prog 39 #[.pointer (some ⟨b, 0, none⟩), .pointer (some ⟨sb, 0, none⟩)] w fun e w' => e = .returned (.tuple #[.int .i64 (ccomR m s l).1, .int .i64 (ccomR m s l).2.1]) ∧ Own D w w' [ses b [], sto sb g m (ccomR m s l).2.2, dsk g (ccomR m s l).2.2.S []] := by
  obtain ⟨er, s', hc⟩ : ∃ er s', commR m s l = (er, s') := ⟨_, _, rfl⟩
  refine hc_enter (vs := [.pointer (some ⟨b, 0, none⟩), .pointer (some ⟨sb, 0, none⟩)]) Tryz.func39 rfl _ Tryz.ntmps39 rfl H ?_
  simp only [argSlots, Nat.zero_add]
  refine zg <| hl_v (ov_assign rfl) rfl <| hl_v (ov_assign rfl) rfl <| zn <| ?_
  refine hc_seq <| zg <| hl_v (ov_move rfl) rfl <| hl_v (ov_eqlP rfl rfl) rfl <| hl_v (ov_move rfl) rfl <| ?_
  refine hl_on rfl rfl <| hl_v (ov_move rfl) rfl <| hl_on rfl rfl <| hl_v (ov_eqlP rfl rfl) rfl <| hl_v (ov_pickF rfl rfl) rfl <| zn <| ?_
  refine hc_cond_false rfl ?_
  refine zk <| zg <| hl_v (ov_move rfl) rfl <| ?_
  refine hl_call (σ := Option Addr × Nat) Tryz.call40 rfl rfl (fun w1 H1 => Own.callpx (ses b l) H1 fun D' hold hin H2 => CAll_spec D' w1 b l hl hf H2) ?_
  intro q
  refine hl_v (ov_assign rfl) rfl <| zn <| zg <| hl_v (ov_move rfl) rfl <| ?_
  refine hl_c Tryz.call42 rfl rfl (fun w1 H1 => Own.callp (ses b l) H1 fun D' hold hin H2 => CDrop_spec D' w1 b l H2) ?_
  refine hl_v (ov_assign rfl) rfl <| zn <| hc_seq <| zg <| ?_
  refine hl_v (ov_move rfl) rfl <| hl_v (ov_eql rfl rfl) rfl <| zn <| ?_
  refine hc_cond rfl (fun h0 => ?_) (fun h0 => ?_)
  · have h0 : l.length = 0 := by omega
    have hcc : ccomR m s l = (0, 0, s) := by unfold ccomR; rw [if_pos h0]
    rw [hcc]
    refine zg <| hl_v (ov_assign rfl) rfl <| hl_v (ov_assign rfl) rfl <| zn <| ?_
    refine hc_ret <| hx_then_ret <| ?_
    exact results_2 (.inr rfl) rfl rfl rfl fun w' H' => ⟨rfl, H'.ent za4⟩
  have h0 : ¬ l.length = 0 := by omega
  refine zk <| hc_seq <| zg <| hl_v (ov_move rfl) rfl <| ?_
  refine hl_v (ov_move rfl) rfl <| ?_
  refine hl_c Tryz.call19 rfl rfl (fun w1 H1 => Own.callp2 (sto sb g m s) (dsk g s.S []) H1 fun D' hold hin H2 => (Commit_spec D' w1 sb g m s _ l h hm2 hep (by omega) (hin _ fun h hs ho => rep_row (A := q.1) hs l rfl (repL_F.2 ⟨rfl, hf⟩)) H2).mono fun e w' ⟨he, H'⟩ => ⟨(by rw [hc] at he; exact he : e = .returned (.int .i64 er)), show Own D' w1 w' [sto sb g m s', dsk g s'.S []] by rw [hc] at H'; exact H'⟩) ?_
  refine hl_v (ov_assign rfl) rfl <| zn <| zg <| hl_v (ov_move rfl) rfl <| ?_
  refine hl_v (ov_neq rfl rfl) rfl <| zn <| ?_
  refine hc_cond rfl (fun he => ?_) (fun he => ?_)
  · have hcc : ccomR m s l = (0, er, s') := by unfold ccomR; rw [if_neg h0, hc, if_pos he]
    rw [hcc]
    refine zg <| hl_v (ov_move rfl) rfl <| hl_v (ov_assign rfl) rfl <| hl_v (ov_assign rfl) rfl <| hl_nil <| ?_
    refine hx_then_normal <| hc_ret <| hx_then_ret <| ?_
    exact results_2 (.inr rfl) rfl rfl rfl fun w' H' => ⟨rfl, H'.ent za4⟩
  have he : er = 0 := Classical.not_not.1 he
  have hcc : ccomR m s l = ((l.length : Int), er, s') := by unfold ccomR; rw [if_neg h0, hc, if_neg (fun k => k he)]
  rw [hcc]
  subst he
  refine zk <| zg <| hl_v (ov_move rfl) rfl <| hl_v (ov_assign rfl) rfl <| ?_
  refine hl_v (ov_assign rfl) rfl <| zn <| hc_ret <| ?_
  exact results_2 (.inr rfl) rfl rfl rfl fun w' H' => ⟨rfl, H'.ent za4⟩
end Go.Proofs.YtjlolpmmpafjeaaGreat
