import Derived.WalkKit
import Derived.Deep.LoopGhost
import Derived.Deep.Quiet
import Derived.StillTail
import Derived.KernelRfl
import Derived.Laws.IdiomCopy
import Derived.Laws.BytesArg
import Derived.Laws.Append
import Derived.Deep.OwnRows
import Derived.Lib.SlBytesConst
import Derived.RegionTactic
import Derived.Deep.Slices
import Derived.OpenShut
import Derived.ProofKit
import Derived.ShutString
import Derived.ChangeOld
import Derived.Below
import Derived.Laws.Strings
import Derived.Laws.Cover3
import Derived.DeepKeys
import Derived.Test.YtjlolpmmpafjeaaGreatW01
import Derived.Test.YtjlolpmmpafjeaaGreatW02
import Derived.Test.YtjlolpmmpafjeaaGreatW03
import Derived.Test.YtjlolpmmpafjeaaGreatW04
import Derived.Test.YtjlolpmmpafjeaaGreatW05
import Derived.Test.YtjlolpmmpafjeaaGreatW06
import Derived.Test.YtjlolpmmpafjeaaGreatW07
import Derived.Test.YtjlolpmmpafjeaaGreatW08
import Derived.Test.YtjlolpmmpafjeaaGreatW09
import Derived.Test.YtjlolpmmpafjeaaGreatW10
import Derived.Test.YtjlolpmmpafjeaaGreatW11
import Derived.Test.YtjlolpmmpafjeaaGreatW12
import Derived.Test.YtjlolpmmpafjeaaGreatW13
import Derived.Test.YtjlolpmmpafjeaaGreatW14
import Derived.Test.YtjlolpmmpafjeaaGreatW15
import Derived.Test.YtjlolpmmpafjeaaGreatW16
import Derived.Test.YtjlolpmmpafjeaaGreatW17
import Derived.Test.YtjlolpmmpafjeaaGreatW18
import Derived.Test.YtjlolpmmpafjeaaGreatW19
import Derived.Test.YtjlolpmmpafjeaaGreatW20
import Derived.Test.YtjlolpmmpafjeaaGreatW21
import Derived.Test.YtjlolpmmpafjeaaGreatW22
import Derived.RangeFuncLeaves
import Derived.RangeFuncRecord
import Derived.Lib.Overlaps
import Derived.Test.YtjlolpmmpafjeaaGreatChecked
set_option linter.unusedVariables false
set_option linter.unusedSimpArgs false
namespace Slk
open Go

/-! ### Heaps, assertions, lists of assertions that hold apart -/
/-! ### The world of a call: what was there stays as it was, but for what is owned -/
/-! ### What can be read of old memory, and how a call sees it -/
end Slk

set_option linter.unusedVariables false
set_option linter.unusedSimpArgs false
namespace Slk
open Go

/-! ### Slots -/
/-! ### The judgements -/
section
variable {P : Program} {Q : Post} {D : Nat → Prop} {w0 : World} {n : Nat} {env : Slots} {l : List HProp} {ops : Array Oper}

/-! ### Control -/
/-! ### The end of a function, and its begin -/
/-! ### Regions -/
end

section
variable {P : Program} {Q : Post} {D : Nat → Prop} {w0 : World} {n : Nat} {env : Slots} {l : List HProp} {ops : Array Oper} {r : List Oper} {o : Oper}

/-! guards: a slot is given with its literal; behind the split it is one -/
end
end Slk

set_option linter.unusedVariables false
set_option linter.unusedSimpArgs false
namespace Slk
open Go

/-! ### Facts on types, given once a program -/
class TyBool (P : Program) (t : TypeId) : Prop where out : P.underlying t = some .bool

section
variable {P : Program}
end

/-! ### wraps -/
/-! ### The cell at an address, in every world that the assertions let in -/
/-! ### Operations that leave the world -/
section
variable {P : Program} {D : Nat → Prop} {w0 : World} {env : Slots} {l : List HProp} {dst : Option Tmp} {ty : TypeId} {pos : String} {after : Array Edge} {g : Option (Nat × Bool)}
/-! arithmetic -/
section
variable {x y : Operand} {t t' : TypeId} {k k' : IntKind} {i j m : Int}
end
/-! bools, strings, pointers and slices against nil -/
section
variable {x y : Operand} {t t' : TypeId}
end
end
end Slk

set_option linter.unusedVariables false
set_option linter.unusedSimpArgs false
namespace Slk
open Go

/-! ### A stretch of cells is written -/
/-! ### Slices by their address -/
section
variable {P : Program} {Q : Post} {D : Nat → Prop} {w0 : World} {n : Nat} {env : Slots} {l : List HProp} {ops : Array Oper}
end

section
variable {P : Program} {D : Nat → Prop} {w0 : World} {env : Slots} {l : List HProp} {dst : Option Tmp} {ty : TypeId} {pos : String} {after : Array Edge} {g : Option (Nat × Bool)}
/-! ### bytes as a string -/
/-! ### New memory -/
/-! literals -/
end
end Slk

set_option linter.unusedVariables false
set_option linter.unusedSimpArgs false
namespace Slk
open Go

section
variable {P : Program} {D : Nat → Prop} {w0 : World} {env : Slots} {l : List HProp} {dst : Option Tmp} {ty : TypeId} {pos : String} {after : Array Edge} {g : Option (Nat × Bool)}

end
end Slk

set_option linter.unusedVariables false
set_option linter.unusedSimpArgs false
namespace Slk
open Go

/-! ### Regions that draw their order -/
section
variable {P : Program} {ops : Array Oper} {Q : Post} {md : Region.Mode} {C : World → Prop}
end
section
variable {P : Program} {Q : Post} {D : Nat → Prop} {w0 : World} {n : Nat} {env : Slots} {l : List HProp} {ops : Array Oper} {r tail : List Oper} {o : Oper}
theorem hq_partb {t : Nat} {b : Bool} (hv : Slots.get env t = some (.bool b)) (ht : b = true → HQ P ops Q D w0 n ((t, .bool true) :: env) l r) (hf : b = false → HQ P ops Q D w0 n ((t, .bool false) :: env) l r) : HQ P ops Q D w0 n env l r := .mk fun a E => by
  cases b
  · exact (hf rfl).run a (E.sub (Slots.sub_cons hv (Slots.sub_refl _)))
  · exact (ht rfl).run a (E.sub (Slots.sub_cons hv (Slots.sub_refl _)))
section
variable {L0 : List HProp} {fuel : Nat} {listed : Array Bool} {rl : List Oper}
end
end
end Slk

set_option linter.unusedVariables false
set_option linter.unusedSimpArgs false
namespace Slk
open Go

/-! ### How Lean's values lie in memory -/
section
variable {α : Type} [Rep α]
end
instance : Rep UInt16 where
  sz := 1
  rep x cs := pureP (cs = [.int .u16 (x.toNat : Int)])
  len := by intro x cs h k; cases k; rfl
  mono := fun _ k => k
  one := by intro x cs h k v hv; cases k; simp at hv; subst hv; rfl
/-! ### A reading of an argument gives a value -/
section
variable {P : Program} {t : TypeId}
instance ReadsAs.u16 [h : TyInt P t .u16] {b : Nat} {z : List Value} [TyI P t 1 b z] : ReadsAs P t UInt16 where
  of := by
    intro H enc w sp held fuel cs x k
    obtain ⟨n, rfl, _, hw⟩ := DataW.trod_int h.out k
    have hb : 0 ≤ n ∧ n ≤ 65535 := by simpa [Lit.wf, IntKind.min, IntKind.max, IntKind.signed, IntKind.bits] using hw
    refine ⟨UInt16.ofNat n.toNat, ?_⟩
    show [Value.int .u16 n] = [Value.int .u16 _]
    simp only [UInt16.toNat_ofNat', List.cons.injEq, Value.int.injEq, and_true, true_and]
    omega
  size := cellsOf_of
instance ReadsAs.u32 [h : TyInt P t .u32] {b : Nat} {z : List Value} [TyI P t 1 b z] : ReadsAs P t UInt32 where
  of := by
    intro H enc w sp held fuel cs x k
    obtain ⟨n, rfl, _, hw⟩ := DataW.trod_int h.out k
    have hb : 0 ≤ n ∧ n ≤ 4294967295 := by simpa [Lit.wf, IntKind.min, IntKind.max, IntKind.signed, IntKind.bits] using hw
    refine ⟨UInt32.ofNat n.toNat, ?_⟩
    show [Value.int .u32 n] = [Value.int .u32 _]
    simp only [UInt32.toNat_ofNat', List.cons.injEq, Value.int.injEq, and_true, true_and]
    omega
  size := cellsOf_of
instance ReadsAs.bool [h : TyBool P t] {b : Nat} {z : List Value} [TyI P t 1 b z] : ReadsAs P t Bool where
  of := by
    intro H enc w sp held fuel cs x k
    obtain ⟨n, rfl, _⟩ := DataW.trod_bool h.out k
    exact ⟨n, rfl⟩
  size := cellsOf_of
end
end Slk

set_option linter.unusedVariables false
set_option linter.unusedSimpArgs false
namespace Slk
open Go
theorem Own.below {w w' : World} {l : List HProp} (H : Own none' w w' l) : Go.RowKit.Below w.heap.size w w' := ⟨H.os, H.tape, H.output, H.size, fun b hb => H.old b hb id⟩
theorem cells_one {P : Program} {t : TypeId} [h : TyOne P t] {w : World} {r : Reach} {base : Nat} {v : Value} (k : Value.okWide P w r base t v) : v.cells = #[v] := by
  have h := h.out
  cases v with
  | agg cs =>
    unfold Value.okWide at k
    cases hu : P.underlying t with
    | none => rw [hu] at h; cases h
    | some d =>
      rw [hu] at h k
      cases d <;> simp_all [Cell.okWide, Cell.ok]
  | _ => rfl
theorem arg_rep {P : Program} {t : TypeId} {α : Type} [Rep α] [h : ReadsAs P t α] {H : Type} {enc : TypeId × Value → H} {w : World} {sp : Nat → Bool} {held : Bool} {v : Value} {d : DataW H} {p : List MemPlace} (k : DataW.Trod enc P w 0 sp held t v d p) : ∃ x : α, Old none' w (Rep.rep x v.cells.toList) := by
  obtain ⟨fuel, k⟩ := k
  obtain ⟨x, hx⟩ := h.of enc w sp held fuel _ _ k
  exact ⟨x, _, fun b o hb => ⟨hb, id⟩, hx⟩
end Slk

set_option linter.unusedVariables false
set_option linter.unusedSimpArgs false
namespace Slk
open Go
section
variable {P : Program} {D : Nat → Prop} {w0 : World} {env : Slots} {l : List HProp} {dst : Option Tmp} {ty : TypeId} {pos : String} {after : Array Edge} {g : Option (Nat × Bool)}
end
section
variable {P : Program} {Q : Post} {D : Nat → Prop} {w0 : World} {n : Nat} {env : Slots} {l : List HProp} {ops : Array Oper} {r : List Oper} {o : Oper}
end
/-! What can be read of assertions that hold apart. -/
section
variable {P : Program} {D : Nat → Prop} {w0 : World} {env : Slots} {l : List HProp} {dst : Option Tmp} {ty : TypeId} {pos : String} {after : Array Edge} {g : Option (Nat × Bool)} {x y : Operand} {t t' : TypeId} {k : IntKind} {i j : Int}
end
section
variable {P : Program} {D : Nat → Prop} {w0 : World} {env : Slots} {l : List HProp} {dst : Option Tmp} {ty : TypeId} {pos : String} {after : Array Edge} {g : Option (Nat × Bool)}
end
end Slk

set_option linter.unusedVariables false
set_option linter.unusedSimpArgs false
namespace Slk
open Go
/-! ### Arrays, structs and strings as arguments -/
instance Rep.str : Rep ByteArray where
  sz := 1
  rep x cs := pureP (cs = [.string x] ∧ x.size ≤ maxLen)
  len := by intro x cs h k; obtain ⟨rfl, _⟩ := k; rfl
  mono := fun _ k => k
  one := by intro x cs h k v hv; obtain ⟨rfl, _⟩ := k; simp at hv; subst hv; rfl
section
variable {P : Program} {t : TypeId}
instance ReadsAs.str [h : TyStr P t] {b : Nat} {z : List Value} [TyI P t 1 b z] : ReadsAs P t ByteArray where
  of := by
    intro H enc w sp held fuel cs x k
    cases fuel with
    | zero => simp [DataW.trod] at k
    | succ m =>
      rw [DataW.trod_step] at k
      unfold DataW.trodStep at k
      simp only [h.out] at k
      split at k
      all_goals simp only [Option.some.injEq, reduceCtorEq] at *
      all_goals rename_i s h1 h2
      split at k
      · rename_i hs
        exact ⟨h1, rfl, hs⟩
      · cases k
  size := cellsOf_of
end
end Slk

set_option linter.unusedVariables false
set_option linter.unusedSimpArgs false
namespace Slk
open Go
/-! ### A slice of one's own, found by its address -/
/-! ### Stores into a slice of one's own -/
section
variable {P : Program} {D : Nat → Prop} {w0 : World} {env : Slots} {l : List HProp} {dst : Option Tmp} {ty : TypeId} {pos : String} {after : Array Edge} {g : Option (Nat × Bool)}
end
/-! A slice of one's own is read. -/
end Slk

set_option linter.unusedVariables false
set_option linter.unusedSimpArgs false
namespace Slk
open Go
section
variable {P : Program} {D : Nat → Prop} {w0 : World} {env : Slots} {l : List HProp} {dst : Option Tmp} {ty : TypeId} {pos : String} {after : Array Edge} {g : Option (Nat × Bool)} {x y : Operand} {t t' : TypeId}
/-! ### Texts made of bytes, compared -/
end
/-! ### What a list's cells read as, partly of old memory -/
section
variable {α : Type} [Rep α] {D : Nat → Prop} {w0 : World} {l r : List HProp}
end
section
variable {P : Program} {Q : Post} {D : Nat → Prop} {w0 : World} {n : Nat} {env : Slots} {l : List HProp} {ops : Array Oper} {α : Type} [Rep α] {A : Option Addr} {t : TypeId} {sz m cap : Nat} {xs : List α}
end
end Slk

set_option linter.unusedVariables false
set_option linter.unusedSimpArgs false
namespace Slk
open Go
/-! ### Several assertions in one -/
section
variable {P : Program} {Q : Post} {D : Nat → Prop} {w0 : World} {n : Nat} {env : Slots} {l : List HProp} {ops : Array Oper} {σ : Type} {L : σ → List HProp}
end
/-! ### Lists of bytes of one's own -/
section
variable {t : TypeId} {l : List HProp} {xs : List (List UInt8)} {cs : List Value} {x : List UInt8} {c : Value} {A : Option Addr} {cap : Nat}
end
/-! ### The rest of a slice -/
section
variable {P : Program} {D : Nat → Prop} {w0 : World} {env : Slots} {l : List HProp} {dst : Option Tmp} {ty : TypeId} {pos : String} {after : Array Edge} {g : Option (Nat × Bool)} {x y : Operand} {t t' e : TypeId}
end
end Slk

set_option linter.unusedVariables false
set_option linter.unusedSimpArgs false
namespace Slk
open Go
/-! ### Structs as arguments, field by field -/
section
variable {P : Program} {t : TypeId}
end
end Slk

set_option linter.unusedVariables false
set_option linter.unusedSimpArgs false
namespace Slk
open Go

/-! ### Tests whose outcome is known; slots that are kept -/
section
variable {P : Program} {Q : Post} {D : Nat → Prop} {w0 : World} {n : Nat} {env : Slots} {l : List HProp} {ops : Array Oper} {r tail : List Oper}
theorem hl_offU {o : Oper} {j t d : Nat} {want : Bool} {vs : Array Value} (hg : o.guard = some (j, want)) (hj : guardSlot ops j = some t) (hv : Slots.get env t = some (.tuple vs)) (hd : o.dst = some d) (hn : Nat.blt d n = true) (k : HL P ops Q D w0 n ((d, undef) :: env) l r) : HL P ops Q D w0 n env l (o :: r) := .mk fun a w S => by
  have hw := wanted_undef hg hj S.env hv
  unfold wpList
  rw [if_neg (by rw [hw]; simp), hd]
  exact k.run _ w ⟨S.env.put hn _, S.own⟩
theorem hc_loopK3 {c : Code} {σ : Type} (ks : List Nat) {kl : Slots} (hk : keepL env ks = some kl) (m0 : Nat) (v0 : σ → Value) (m1 : Nat) (v1 : σ → Value) (m2 : Nat) (v2 : σ → Value) (l' : σ → List HProp) (p : σ → Prop) (μ : σ → Nat) (s0 : σ) (h0 : p s0) (e0 : Slots.get env m0 = some (v0 s0)) (e1 : Slots.get env m1 = some (v1 s0)) (e2 : Slots.get env m2 = some (v2 s0)) (hl : Ent l (l' s0))
    (h : ∀ s, p s → ∀ K : Act → World → Prop, (∀ s' a w, p s' → μ s' < μ s → St D w0 n ((m0, v0 s') :: (m1, v1 s') :: (m2, v2 s') :: kl) (l' s') a w → K a w) → HC P (Exit.then K Q) D w0 n ((m0, v0 s) :: (m1, v1 s) :: (m2, v2 s) :: kl) (l' s) c) : HC P Q D w0 n env l (.loop c) :=
  hc_loop (fun s => (m0, v0 s) :: (m1, v1 s) :: (m2, v2 s) :: kl) l' p μ s0 h0 (Slots.sub_cons e0 (Slots.sub_cons e1 (Slots.sub_cons e2 (keepL_sub hk)))) hl h
theorem hc_loopK4 {c : Code} {σ : Type} (ks : List Nat) {kl : Slots} (hk : keepL env ks = some kl) (m0 : Nat) (v0 : σ → Value) (m1 : Nat) (v1 : σ → Value) (m2 : Nat) (v2 : σ → Value) (m3 : Nat) (v3 : σ → Value) (l' : σ → List HProp) (p : σ → Prop) (μ : σ → Nat) (s0 : σ) (h0 : p s0) (e0 : Slots.get env m0 = some (v0 s0)) (e1 : Slots.get env m1 = some (v1 s0)) (e2 : Slots.get env m2 = some (v2 s0)) (e3 : Slots.get env m3 = some (v3 s0)) (hl : Ent l (l' s0))
    (h : ∀ s, p s → ∀ K : Act → World → Prop, (∀ s' a w, p s' → μ s' < μ s → St D w0 n ((m0, v0 s') :: (m1, v1 s') :: (m2, v2 s') :: (m3, v3 s') :: kl) (l' s') a w → K a w) → HC P (Exit.then K Q) D w0 n ((m0, v0 s) :: (m1, v1 s) :: (m2, v2 s) :: (m3, v3 s) :: kl) (l' s) c) : HC P Q D w0 n env l (.loop c) :=
  hc_loop (fun s => (m0, v0 s) :: (m1, v1 s) :: (m2, v2 s) :: (m3, v3 s) :: kl) l' p μ s0 h0 (Slots.sub_cons e0 (Slots.sub_cons e1 (Slots.sub_cons e2 (Slots.sub_cons e3 (keepL_sub hk))))) hl h
theorem hc_cuts1 {x : Code} {σ : Type} (ks : List Nat) {kl : Slots} (hk : keepL env ks = some kl) (m0 : Nat) (v0 : σ → Value)
    (h : ∀ K : Act → World → Prop, (∀ (s : σ) a w, St D w0 n ((m0, v0 s) :: kl) l a w → K a w) → HC P (Exit.then K Q) D w0 n env l x)
    (k : ∀ s : σ, HX Q .normal D w0 n ((m0, v0 s) :: kl) l) : HC P Q D w0 n env l x := hc_cutn (fun s => (m0, v0 s) :: kl) (fun _ => l) h k
theorem hc_cutK2 {x : Code} {σ : Type} (ks : List Nat) {kl : Slots} (hk : keepL env ks = some kl) (m0 : Nat) (v0 : σ → Value) (m1 : Nat) (v1 : σ → Value) (l' : σ → List HProp)
    (h : ∀ K : Act → World → Prop, (∀ (s : σ) a w, St D w0 n ((m0, v0 s) :: (m1, v1 s) :: kl) (l' s) a w → K a w) → HC P (Exit.then K Q) D w0 n env l x)
    (k : ∀ s : σ, HX Q .normal D w0 n ((m0, v0 s) :: (m1, v1 s) :: kl) (l' s)) : HC P Q D w0 n env l x := hc_cutn (fun s => (m0, v0 s) :: (m1, v1 s) :: kl) l' h k
end

section
variable {P : Program} {D : Nat → Prop} {w0 : World} {env : Slots} {l : List HProp} {dst : Option Tmp} {ty : TypeId} {pos : String} {after : Array Edge} {g : Option (Nat × Bool)}
end

/-! ### Structs and arrays of plain cells, compared -/
end Slk

set_option linter.unusedVariables false
set_option linter.unusedSimpArgs false
namespace Slk
open Go
section
variable {P : Program} {D : Nat → Prop} {w0 : World} {env : Slots} {l : List HProp} {dst : Option Tmp} {ty : TypeId} {pos : String} {after : Array Edge} {g : Option (Nat × Bool)} {x y : Operand} {t t' : TypeId}
end
end Slk
set_option linter.unusedVariables false
namespace Go.Proofs.YtjlolpmmpafjeaaGreat
open Slk



instance : TyBool Tryz.prog 4 := ⟨by kernel_rfl⟩































instance : TyU Tryz.prog 69 (.slice 74) := ⟨by kernel_rfl⟩
instance : TyOne Tryz.prog 69 := ⟨by kernel_rfl⟩
instance : TyI Tryz.prog 69 1 24 ([.slice none 0 0]) := ⟨by kernel_rfl, by kernel_rfl⟩







instance : TyFlat Tryz.prog 83 ([.b, .i .u32, .i .i64]) := ⟨by kernel_rfl, by kernel_rfl, by kernel_rfl, by kernel_rfl⟩






















instance : TyFlat Tryz.prog 147 ([.i .i64, .i .u8, .i .u8]) := ⟨by kernel_rfl, by kernel_rfl, by kernel_rfl, by kernel_rfl⟩


instance : TyFlat Tryz.prog 149 ([.i .u64, .i .i64, .i .i64]) := ⟨by kernel_rfl, by kernel_rfl, by kernel_rfl, by kernel_rfl⟩













































end Go.Proofs.YtjlolpmmpafjeaaGreat

set_option linter.unusedVariables false
set_option linter.unusedSimpArgs false
namespace Slk
open Go

/-! ### What one owns and never writes again is old from now on -/
section
variable {P : Program} {Q : Post} {D : Nat → Prop} {w0 : World} {n : Nat} {env : Slots} {l r : List HProp} {ops : Array Oper}
end
/-! ### Readings that one owns -/
section
variable {α : Type} [Rep α] {l r : List HProp} {xs ys : List α} {cs ds : List Value} {A : Option Addr} {t : TypeId} {n cap : Nat}
end
end Slk

set_option linter.unusedVariables false
set_option linter.unusedSimpArgs false
namespace Slk
open Go
/-! ### Bits, in Lean's own words -/
section
variable {P : Program} {D : Nat → Prop} {w0 : World} {env : Slots} {l : List HProp} {dst : Option Tmp} {ty : TypeId} {pos : String} {after : Array Edge} {g : Option (Nat × Bool)} {x y : Operand} {t t' : TypeId}
end
section
variable {P : Program} {D : Nat → Prop} {w0 : World} {env : Slots} {l : List HProp} {dst : Option Tmp} {ty : TypeId} {pos : String} {after : Array Edge} {g : Option (Nat × Bool)} {x y : Operand} {t t' : TypeId}
end
section
variable {P : Program} {Q : Post} {D : Nat → Prop} {w0 : World} {n : Nat} {env : Slots} {l : List HProp} {ops : Array Oper}
end
end Slk

set_option linter.unusedVariables false
set_option linter.unusedSimpArgs false
namespace Slk
open Go
/-! ### Function values that are called -/
section
variable {P : Program} {Q : Post} {D : Nat → Prop} {w0 : World} {n : Nat} {env : Slots} {l : List HProp} {ops : Array Oper} {r : List Oper}
/-! ### Results that lie in memory -/
end
section
variable {P : Program} {D : Nat → Prop} {w0 : World} {env : Slots} {l : List HProp} {dst : Option Tmp} {ty : TypeId} {pos : String} {after : Array Edge} {g : Option (Nat × Bool)}
end
/-! ### Lists whose elements have as many cells each -/
section
variable {α β : Type} {f : α → List β} {sz : Nat}
end
end Slk

set_option linter.unusedVariables false
set_option linter.unusedSimpArgs false
namespace Slk
open Go
/-! ### Any one object of one's own -/
/-! ### Code under a fence that lets all through -/
section
variable {F : Fence} {ds : List Deferred} {P : Program} {Q : Post} {D : Nat → Prop} {w0 : World} {n : Nat} {env : Slots} {l : List HProp} {ops : Array Oper} {r : List Oper} {o : Oper}
/-! ### The statement itself -/
/-! ### The end of a function that holds such a statement -/
end
end Slk

set_option linter.unusedVariables false
set_option linter.unusedSimpArgs false
namespace Slk
open Go
section
variable {P : Program} {D : Nat → Prop} {w0 : World} {env : Slots} {l : List HProp} {dst : Option Tmp} {ty : TypeId} {pos : String} {after : Array Edge} {g : Option (Nat × Bool)}
end
section
variable {σ : Type} {L : σ → List HProp} {F : Fence} {ds : List Deferred} {P : Program} {Q : Post} {D : Nat → Prop} {w0 : World} {n : Nat} {env : Slots} {l : List HProp}
end
end Slk

set_option linter.unusedVariables false
set_option linter.unusedSimpArgs false
namespace Slk
open Go
/-! ### The same rules, shorter to write: what kernel or a fixed tactic shows is not written -/
section
variable {P : Program} {Q : Post} {D : Nat → Prop} {w0 : World} {n : Nat} {env : Slots} {l : List HProp} {ops : Array Oper} {r tail : List Oper} {o : Oper}
variable {L0 : List HProp} {fuel : Nat} {listed : Array Bool} {rl : List Oper}
end
end Slk

set_option linter.unusedVariables false
set_option linter.unusedSimpArgs false
namespace Slk
open Go
/-! ### Plain memory: a new block that was never frozen -/
section
variable {P : Program} {Q : Post} {D : Nat → Prop} {w0 : World} {n : Nat} {env : Slots} {l r : List HProp} {ops : Array Oper} {A : Option Addr} {t : TypeId} {sz m cap : Nat} {cs : List Value}
end
section
variable {P : Program} {D : Nat → Prop} {w0 : World} {env : Slots} {l : List HProp} {dst : Option Tmp} {ty : TypeId} {pos : String} {after : Array Edge} {g : Option (Nat × Bool)}
end
section
variable {P : Program} {Q : Post} {D : Nat → Prop} {w0 : World} {n : Nat} {env : Slots} {l L0 : List HProp} {fuel : Nat} {listed : Array Bool} {rl : List Oper}
end
end Slk

namespace Go.Proofs.YtjlolpmmpafjeaaGreat
open Slk
end Go.Proofs.YtjlolpmmpafjeaaGreat

set_option linter.unusedVariables false
set_option linter.unusedSimpArgs false
namespace Go.Proofs.YtjlolpmmpafjeaaGreat
open Slk
theorem Mod_spec (D : Nat → Prop) (w : World) (k n : Int) (hk : inI64 k) (hn : inI64 n) (hn2 : n ≤ 4611686018427387903) :
    Calls Tryz.prog 14 #[.int .i64 k, .int .i64 n] w fun e w' => e = .returned (.int .i64 (if n < 1 then 0 else k % n)) ∧ Own D w w' [] := by
  unfold inI64 at hk hn
  refine hc_enter (vs := [.int .i64 k, .int .i64 n]) Tryz.func14 rfl _ Tryz.ntmps14 rfl (Own.start D w) ?_
  simp only [argSlots, Nat.zero_add]
  repeat (first | refine hc_seq ?_ | refine hc_region ?_ | refine hx_then_normal ?_ | refine hc_block ?_ | refine hc_skip ?_ | refine hc_ret ?_ | refine hc_exit ?_ | refine hx_then_ret ?_ | refine hx_then_exit ?_ | refine hx_block_normal ?_ | refine hx_block_ret ?_ | refine hx_block_out ?_ | refine hx_block_on rfl ?_ | refine hl_nil ?_ | refine hl_val za0 rfl rfl rfl ?_ | refine hl_new (on_alloc) rfl rfl rfl (fun _ => ?_) | refine hl_new (on_buildSliceN rfl rfl rfl) rfl rfl rfl (fun _ => ?_) | refine hl_u0 (on_storeN rfl rfl rfl rfl rfl) rfl rfl ?_ | refine hl_u0 (on_storeGN rfl rfl rfl rfl rfl rfl) rfl rfl ?_ | refine hl_u (on_mark rfl) rfl rfl rfl ?_ | refine hl_on rfl rfl ?_ | refine hl_off rfl rfl rfl rfl rfl rfl ?_)
  refine hc_cond rfl (fun h => ?_) (fun h => ?_)
  · repeat (first | refine hc_seq ?_ | refine hc_region ?_ | refine hx_then_normal ?_ | refine hc_block ?_ | refine hc_skip ?_ | refine hc_ret ?_ | refine hc_exit ?_ | refine hx_then_ret ?_ | refine hx_then_exit ?_ | refine hx_block_normal ?_ | refine hx_block_ret ?_ | refine hx_block_out ?_ | refine hx_block_on rfl ?_ | refine hl_nil ?_ | refine hl_val za0 rfl rfl rfl ?_ | refine hl_new (on_alloc) rfl rfl rfl (fun _ => ?_) | refine hl_new (on_buildSliceN rfl rfl rfl) rfl rfl rfl (fun _ => ?_) | refine hl_u0 (on_storeN rfl rfl rfl rfl rfl) rfl rfl ?_ | refine hl_u0 (on_storeGN rfl rfl rfl rfl rfl rfl) rfl rfl ?_ | refine hl_u (on_mark rfl) rfl rfl rfl ?_ | refine hl_on rfl rfl ?_ | refine hl_off rfl rfl rfl rfl rfl rfl ?_)
    exact results_1 (.inr rfl) rfl rfl fun w' H' => ⟨by rw [if_pos h], H'⟩
  · have h1 : 0 < n := by omega
    have e1 : k.tmod n = if 0 ≤ k then k % n else -((-k) % n) := tmod_eq_if k n
    have b1 := Int.emod_nonneg k (show n ≠ 0 by omega)
    have b2 := Int.emod_lt_of_pos k h1
    have b3 := Int.emod_nonneg (-k) (show n ≠ 0 by omega)
    have b4 := Int.emod_lt_of_pos (-k) h1
    repeat (first | refine hc_seq ?_ | refine hc_region ?_ | refine hx_then_normal ?_ | refine hc_block ?_ | refine hc_skip ?_ | refine hc_ret ?_ | refine hc_exit ?_ | refine hx_then_ret ?_ | refine hx_then_exit ?_ | refine hx_block_normal ?_ | refine hx_block_ret ?_ | refine hx_block_out ?_ | refine hx_block_on rfl ?_ | refine hl_nil ?_ | refine hl_val za0 rfl rfl rfl ?_ | refine hl_new (on_alloc) rfl rfl rfl (fun _ => ?_) | refine hl_new (on_buildSliceN rfl rfl rfl) rfl rfl rfl (fun _ => ?_) | refine hl_u0 (on_storeN rfl rfl rfl rfl rfl) rfl rfl ?_ | refine hl_u0 (on_storeGN rfl rfl rfl rfl rfl rfl) rfl rfl ?_ | refine hl_u (on_mark rfl) rfl rfl rfl ?_ | refine hl_on rfl rfl ?_ | refine hl_off rfl rfl rfl rfl rfl rfl ?_)
    refine hl_val (ov_rem (m := k.tmod n) rfl rfl (by omega) rfl) rfl rfl rfl ?_
    have b5 : -n < k.tmod n ∧ k.tmod n < n := by rw [e1]; split <;> omega
    repeat (first | refine hc_seq ?_ | refine hc_region ?_ | refine hx_then_normal ?_ | refine hc_block ?_ | refine hc_skip ?_ | refine hc_ret ?_ | refine hc_exit ?_ | refine hx_then_ret ?_ | refine hx_then_exit ?_ | refine hx_block_normal ?_ | refine hx_block_ret ?_ | refine hx_block_out ?_ | refine hx_block_on rfl ?_ | refine hl_nil ?_ | refine hl_val za0 rfl rfl rfl ?_ | refine hl_new (on_alloc) rfl rfl rfl (fun _ => ?_) | refine hl_new (on_buildSliceN rfl rfl rfl) rfl rfl rfl (fun _ => ?_) | refine hl_u0 (on_storeN rfl rfl rfl rfl rfl) rfl rfl ?_ | refine hl_u0 (on_storeGN rfl rfl rfl rfl rfl rfl) rfl rfl ?_ | refine hl_u (on_mark rfl) rfl rfl rfl ?_ | refine hl_on rfl rfl ?_ | refine hl_off rfl rfl rfl rfl rfl rfl ?_)
    refine hl_val (ov_rem (m := k % n) rfl rfl (by omega) ?_) rfl rfl rfl ?_
    · have hx : (k.tmod n + n).tmod n = (k.tmod n + n) % n := Int.tmod_eq_emod_of_nonneg (by omega)
      rw [hx, Int.add_emod_right]
      rw [Int.tmod_eq_emod]
      split
      · simp
      · rw [Int.sub_emod, Int.emod_emod]
        have : ((n.natAbs : Int)) % n = 0 := by rw [Int.natAbs_of_nonneg (by omega)]; exact Int.emod_self
        rw [this]; simp
    repeat (first | refine hc_seq ?_ | refine hc_region ?_ | refine hx_then_normal ?_ | refine hc_block ?_ | refine hc_skip ?_ | refine hc_ret ?_ | refine hc_exit ?_ | refine hx_then_ret ?_ | refine hx_then_exit ?_ | refine hx_block_normal ?_ | refine hx_block_ret ?_ | refine hx_block_out ?_ | refine hx_block_on rfl ?_ | refine hl_nil ?_ | refine hl_val za0 rfl rfl rfl ?_ | refine hl_new (on_alloc) rfl rfl rfl (fun _ => ?_) | refine hl_new (on_buildSliceN rfl rfl rfl) rfl rfl rfl (fun _ => ?_) | refine hl_u0 (on_storeN rfl rfl rfl rfl rfl) rfl rfl ?_ | refine hl_u0 (on_storeGN rfl rfl rfl rfl rfl rfl) rfl rfl ?_ | refine hl_u (on_mark rfl) rfl rfl rfl ?_ | refine hl_on rfl rfl ?_ | refine hl_off rfl rfl rfl rfl rfl rfl ?_)
    exact results_1 (.inr rfl) rfl rfl fun w' H' => ⟨by rw [if_neg h], H'⟩
end Go.Proofs.YtjlolpmmpafjeaaGreat

set_option linter.unusedVariables false
set_option linter.unusedSimpArgs false
namespace Go.Proofs.YtjlolpmmpafjeaaGreat
open Slk
end Go.Proofs.YtjlolpmmpafjeaaGreat
set_option linter.unusedVariables false
set_option linter.unusedSimpArgs false
namespace Go.Proofs.YtjlolpmmpafjeaaGreat
open Slk
/-! ### Numbers as bytes -/
end Go.Proofs.YtjlolpmmpafjeaaGreat

set_option linter.unusedVariables false
set_option linter.unusedSimpArgs false
namespace Go.Proofs.YtjlolpmmpafjeaaGreat
open Slk
/-! ### Edits are written -/
end Go.Proofs.YtjlolpmmpafjeaaGreat

set_option linter.unusedVariables false
set_option linter.unusedSimpArgs false
namespace Go.Proofs.YtjlolpmmpafjeaaGreat
open Slk
end Go.Proofs.YtjlolpmmpafjeaaGreat

set_option linter.unusedVariables false
set_option linter.unusedSimpArgs false
namespace Go.Proofs.YtjlolpmmpafjeaaGreat
open Slk
/-! ### The first configuration -/
/-! ### What the keep's functions say -/
theorem okC {k : CK} {ks : List CK} {v : Value} {cs : List Value} (h : (cellOk k v).isSome = true) (t : (cellsOk ks cs).isSome = true) : (cellsOk (k :: ks) (v :: cs)).isSome = true := by
  obtain ⟨a, ha⟩ := Option.isSome_iff_exists.1 h
  obtain ⟨b, hb⟩ := Option.isSome_iff_exists.1 t
  simp only [cellsOk, ha, hb]; rfl
theorem ok8 (b : UInt8) : (cellOk (.i .u8) (u8v b)).isSome = true := by
  have h := b.toNat_lt
  simp only [u8v, cellOk]
  rw [if_pos (by simp [Lit.wf, IntKind.min, IntKind.max, IntKind.signed, IntKind.bits]; omega)]; rfl
theorem ok32 (b : UInt32) : (cellOk (.i .u32) (.int .u32 (b.toNat : Int))).isSome = true := by
  have h := b.toNat_lt
  simp only [cellOk]
  rw [if_pos (by simp [Lit.wf, IntKind.min, IntKind.max, IntKind.signed, IntKind.bits]; omega)]; rfl
theorem ok64 (b : UInt64) : (cellOk (.i .u64) (.int .u64 (b.toNat : Int))).isSome = true := by
  have h := b.toNat_lt
  simp only [cellOk]
  rw [if_pos (by simp [Lit.wf, IntKind.min, IntKind.max, IntKind.signed, IntKind.bits]; omega)]; rfl
theorem okI {x : Int} (h : inI64 x) : (cellOk (.i .i64) (.int .i64 x)).isSome = true := by
  unfold inI64 at h
  simp only [cellOk]
  rw [if_pos (by simp [Lit.wf, IntKind.min, IntKind.max, IntKind.signed, IntKind.bits]; omega)]; rfl
theorem toNat_inj8 {a b : UInt8} : (a.toNat : Int) = b.toNat ↔ a = b := ⟨fun h => UInt8.toNat_inj.1 (by omega), fun h => by rw [h]⟩
theorem toNat_inj32 {a b : UInt32} : (a.toNat : Int) = b.toNat ↔ a = b := ⟨fun h => UInt32.toNat_inj.1 (by omega), fun h => by rw [h]⟩
theorem toNat_inj64 {a b : UInt64} : (a.toNat : Int) = b.toNat ↔ a = b := ⟨fun h => UInt64.toNat_inj.1 (by omega), fun h => by rw [h]⟩
theorem portV_inj {s t : PortC} : portV s = portV t ↔ s = t := by
  obtain ⟨a, b, c⟩ := s; obtain ⟨a', b', c'⟩ := t
  simp only [portV, List.cons.injEq, Value.bool.injEq, Value.int.injEq, true_and, and_true, Prod.mk.injEq, toNat_inj32]
theorem vlanV_inj {s t : VlanC} : vlanV s = vlanV t ↔ s = t := by
  obtain ⟨a, b, c⟩ := s; obtain ⟨a', b', c'⟩ := t
  simp only [vlanV, u8v, List.cons.injEq, Value.bool.injEq, Value.int.injEq, true_and, and_true, Prod.mk.injEq, toNat_inj8]
theorem statV_inj {s t : StatC} : statV s = statV t ↔ s = t := by
  obtain ⟨a, b, c⟩ := s; obtain ⟨a', b', c'⟩ := t
  simp only [statV, List.cons.injEq, Value.bool.injEq, Value.int.injEq, true_and, and_true, Prod.mk.injEq, toNat_inj64]
theorem portOk' {x : PortC} (h : Flat.ok x) : (cellsOk [.b, .i .u32, .i .i64] (portV x)).isSome = true := okC rfl (okC (ok32 _) (okC (okI h) rfl))
theorem vlanOk' {x : VlanC} (h : Flat.ok x) : (cellsOk [.i .i64, .i .u8, .i .u8] (vlanV x)).isSome = true := okC (okI h) (okC (ok8 _) (okC (ok8 _) rfl))
theorem statOk' {x : StatC} (h : Flat.ok x) : (cellsOk [.i .u64, .i .i64, .i .i64] (statV x)).isSome = true := okC (ok64 _) (okC (okI h.1) (okC (okI h.2) rfl))
end Go.Proofs.YtjlolpmmpafjeaaGreat
set_option linter.unusedVariables false
set_option linter.unusedSimpArgs false
namespace Go.Proofs.YtjlolpmmpafjeaaGreat
open Slk
instance : ReadsAs Tryz.prog 83 PortC := ReadsAs.structG 0 (by kernel_rfl) rfl (ReadsG.cons 0 (ReadsG.cons 1 (ReadsG.last 2 (by decide))))
instance : ReadsAs Tryz.prog 147 VlanC := ReadsAs.structG 0 (by kernel_rfl) rfl (ReadsG.cons 0 (ReadsG.cons 1 (ReadsG.last 2 (by decide))))
instance : ReadsAs Tryz.prog 149 StatC := ReadsAs.structG 0 (by kernel_rfl) rfl (ReadsG.cons 0 (ReadsG.cons 1 (ReadsG.last 2 (by decide))))
instance : ReadsAs Tryz.prog 49 ConfC := ReadsAs.structG 0 (by kernel_rfl) rfl (ReadsG.cons 0 (ReadsG.cons 1 (ReadsG.cons 2 (ReadsG.cons 3 (ReadsG.cons 4 (ReadsG.last 5 (by decide)))))))
end Go.Proofs.YtjlolpmmpafjeaaGreat
set_option linter.unusedVariables false
set_option linter.unusedSimpArgs false
namespace Go.Proofs.YtjlolpmmpafjeaaGreat
open Slk
def modN (k : Int) (n : Nat) : Nat := (k % (n : Int)).toNat
theorem modN_lt (k : Int) {n : Nat} (h : 0 < n) : modN k n < n := by
  unfold modN
  have := Int.emod_nonneg k (show (n : Int) ≠ 0 by omega)
  have := Int.emod_lt_of_pos k (show (0 : Int) < n by omega)
  omega
section
variable {D : Nat → Prop} {w0 : World} {env : Slots} {l : List HProp} {dst : Option Tmp} {ty : TypeId} {pos : String} {after : Array Edge} {g : Option (Nat × Bool)} {x y : Operand} {t' : TypeId} {s t : Sec}
end
end Go.Proofs.YtjlolpmmpafjeaaGreat
set_option linter.unusedVariables false
set_option linter.unusedSimpArgs false
namespace Go.Proofs.YtjlolpmmpafjeaaGreat
open Slk
/-! ### Edits, as one answers -/
theorem oneC_ports (c : ConfC) (e : EditC) : (oneC c e).1.2.2.2.1.length = c.2.2.2.1.length := by
  unfold oneC
  dsimp only
  split; · rfl
  split; · rfl
  split; · rfl
  split
  · split; · rfl
    split
    · split; · rfl
      exact List.length_set
    · split
      · split; · rfl
        exact List.length_set
      · exact List.length_set
  split; · rfl
  split; · rfl
  split
  · split <;> rfl
  split
  · split <;> rfl
  · rfl
theorem foldC_ports : ∀ (l : List EditC) (c : ConfC), (foldC c l).1.2.2.2.1.length = c.2.2.2.1.length
  | [], c => rfl
  | e :: r, c => by
    unfold foldC
    split
    · rw [foldC_ports r, oneC_ports]
    · exact oneC_ports c e
theorem edF_ports {c : ConfC} {l : List EditC} (h : (edF c l).2 = 0) : (edF c l).1.2.2.2.1.length = c.2.2.2.1.length := by
  rw [(edF_ok h).2.2.2.2, foldC_ports]
theorem replF_ports : ∀ (Ls : List (List EditC)) (c d : ConfC), replF c Ls = some d → d.2.2.2.1.length = c.2.2.2.1.length
  | [], c, d, h => by
    have h : some c = some d := h
    injection h with h; subst h; rfl
  | x :: r, c, d, h => by
    have h : (if (edF c x).2 = 0 then replF (edF c x).1 r else none) = some d := h
    split at h
    · rename_i h0
      rw [replF_ports r _ d h, edF_ports h0]
    · cases h
/-! ### Snapshots on a larger disk -/
end Go.Proofs.YtjlolpmmpafjeaaGreat
set_option linter.unusedVariables false
set_option linter.unusedSimpArgs false
namespace Go.Proofs.YtjlolpmmpafjeaaGreat
open Slk
/-! ### What a store is (plain) -/
theorem SI.ports {m : Nat} {s : SSt} (h : SI m s) : s.c.2.2.2.1.length = s.c0.2.2.2.1.length := replF_ports _ _ _ h.rep
theorem commR_ports {m : Nat} {s : SSt} (h : SI m s) {l : List EditC} (hf : ∀ x ∈ l, Flat.ok x) (hep : s.ep < 4294967290) : (commR m s l).2.c.2.2.2.1.length = s.c.2.2.2.1.length := by
  obtain ⟨_, _, _, h4, h5⟩ := commR_ok h hf hep
  rw [h4]
  split
  · rename_i h0
    exact edF_ports (h5 h0).1
  · rfl
end Go.Proofs.YtjlolpmmpafjeaaGreat
