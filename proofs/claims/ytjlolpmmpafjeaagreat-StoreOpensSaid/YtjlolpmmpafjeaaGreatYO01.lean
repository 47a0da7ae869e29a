import Derived.WalkKit
import Derived.Deep.LoopGhost
import Derived.Deep.Quiet
import Derived.StillTail
import Derived.KernelRfl
import Derived.Laws.IdiomCopy
import Derived.Laws.BytesArg
import Derived.Laws.Append
import Derived.Deep.OwnRows
import Derived.Lib.SlBytesConst
import Derived.RegionTactic
import Derived.Deep.Slices
import Derived.OpenShut
import Derived.ProofKit
import Derived.ShutString
import Derived.ChangeOld
import Derived.Below
import Derived.Laws.Strings
import Derived.Laws.Cover3
import Derived.DeepKeys
import Derived.Test.YtjlolpmmpafjeaaGreatZ01
import Derived.Test.YtjlolpmmpafjeaaGreatZ02
import Derived.Test.YtjlolpmmpafjeaaGreatZ03
import Derived.Test.YtjlolpmmpafjeaaGreatZ04
import Derived.Test.YtjlolpmmpafjeaaGreatZ05
import Derived.Test.YtjlolpmmpafjeaaGreatZ06
import Derived.Test.YtjlolpmmpafjeaaGreatZ07
import Derived.Test.YtjlolpmmpafjeaaGreatZ08
import Derived.Test.YtjlolpmmpafjeaaGreatZ09
import Derived.Test.YtjlolpmmpafjeaaGreatZ10
import Derived.Test.YtjlolpmmpafjeaaGreatZ11
import Derived.Test.YtjlolpmmpafjeaaGreatZ12
import Derived.Test.YtjlolpmmpafjeaaGreatZ13
import Derived.Test.YtjlolpmmpafjeaaGreatZ14
import Derived.Test.YtjlolpmmpafjeaaGreatZ15
import Derived.Test.YtjlolpmmpafjeaaGreatZ16
import Derived.Test.YtjlolpmmpafjeaaGreatZ17
import Derived.Test.YtjlolpmmpafjeaaGreatZ18
import Derived.Test.YtjlolpmmpafjeaaGreatZ19
import Derived.Test.YtjlolpmmpafjeaaGreatZ20
import Derived.Test.YtjlolpmmpafjeaaGreatZ21
import Derived.Test.YtjlolpmmpafjeaaGreatZ22
import Derived.Test.YtjlolpmmpafjeaaGreatZ23
import Derived.Test.YtjlolpmmpafjeaaGreatZ24
set_option linter.unusedVariables false
set_option linter.unusedSimpArgs false
namespace Slk
open Go

/-! ### Heaps, assertions, lists of assertions that hold apart -/
/-! ### The world of a call: what was there stays as it was, but for what is owned -/
/-! ### What can be read of old memory, and how a call sees it -/
end Slk

set_option linter.unusedVariables false
set_option linter.unusedSimpArgs false
namespace Slk
open Go

/-! ### Slots -/
/-! ### The judgements -/
section
variable {P : Program} {Q : Post} {D : Nat → Prop} {w0 : World} {n : Nat} {env : Slots} {l : List HProp} {ops : Array Oper}

/-! ### Control -/
/-! ### The end of a function, and its begin -/
/-! ### Regions -/
end

section
variable {P : Program} {Q : Post} {D : Nat → Prop} {w0 : World} {n : Nat} {env : Slots} {l : List HProp} {ops : Array Oper} {r : List Oper} {o : Oper}

/-! guards: a slot is given with its literal; behind the split it is one -/
end
end Slk

set_option linter.unusedVariables false
set_option linter.unusedSimpArgs false
namespace Slk
open Go

/-! ### Facts on types, given once a program -/
section
variable {P : Program}
end

/-! ### wraps -/
/-! ### The cell at an address, in every world that the assertions let in -/
/-! ### Operations that leave the world -/
section
variable {P : Program} {D : Nat → Prop} {w0 : World} {env : Slots} {l : List HProp} {dst : Option Tmp} {ty : TypeId} {pos : String} {after : Array Edge} {g : Option (Nat × Bool)}
/-! arithmetic -/
section
variable {x y : Operand} {t t' : TypeId} {k k' : IntKind} {i j m : Int}
end
/-! bools, strings, pointers and slices against nil -/
section
variable {x y : Operand} {t t' : TypeId}
end
end
end Slk

set_option linter.unusedVariables false
set_option linter.unusedSimpArgs false
namespace Slk
open Go

/-! ### A stretch of cells is written -/
/-! ### Slices by their address -/
section
variable {P : Program} {Q : Post} {D : Nat → Prop} {w0 : World} {n : Nat} {env : Slots} {l : List HProp} {ops : Array Oper}
end

section
variable {P : Program} {D : Nat → Prop} {w0 : World} {env : Slots} {l : List HProp} {dst : Option Tmp} {ty : TypeId} {pos : String} {after : Array Edge} {g : Option (Nat × Bool)}
/-! ### bytes as a string -/
/-! ### New memory -/
/-! literals -/
end
end Slk

set_option linter.unusedVariables false
set_option linter.unusedSimpArgs false
namespace Slk
open Go

section
variable {P : Program} {D : Nat → Prop} {w0 : World} {env : Slots} {l : List HProp} {dst : Option Tmp} {ty : TypeId} {pos : String} {after : Array Edge} {g : Option (Nat × Bool)}

end
end Slk

set_option linter.unusedVariables false
set_option linter.unusedSimpArgs false
namespace Slk
open Go

/-! ### Regions that draw their order -/
section
variable {P : Program} {ops : Array Oper} {Q : Post} {md : Region.Mode} {C : World → Prop}
end
section
variable {P : Program} {Q : Post} {D : Nat → Prop} {w0 : World} {n : Nat} {env : Slots} {l : List HProp} {ops : Array Oper} {r tail : List Oper} {o : Oper}
section
variable {L0 : List HProp} {fuel : Nat} {listed : Array Bool} {rl : List Oper}
end
end
end Slk

set_option linter.unusedVariables false
set_option linter.unusedSimpArgs false
namespace Slk
open Go

/-! ### How Lean's values lie in memory -/
section
variable {α : Type} [Rep α]
end
/-! ### A reading of an argument gives a value -/
section
variable {P : Program} {t : TypeId}
end
end Slk

set_option linter.unusedVariables false
set_option linter.unusedSimpArgs false
namespace Slk
open Go
theorem Own.below {w w' : World} {l : List HProp} (H : Own none' w w' l) : Go.RowKit.Below w.heap.size w w' := ⟨H.os, H.tape, H.output, H.size, fun b hb => H.old b hb id⟩
theorem cells_one {P : Program} {t : TypeId} [h : TyOne P t] {w : World} {r : Reach} {base : Nat} {v : Value} (k : Value.okWide P w r base t v) : v.cells = #[v] := by
  have h := h.out
  cases v with
  | agg cs =>
    unfold Value.okWide at k
    cases hu : P.underlying t with
    | none => rw [hu] at h; cases h
    | some d =>
      rw [hu] at h k
      cases d <;> simp_all [Cell.okWide, Cell.ok]
  | _ => rfl
theorem arg_rep {P : Program} {t : TypeId} {α : Type} [Rep α] [h : ReadsAs P t α] {H : Type} {enc : TypeId × Value → H} {w : World} {sp : Nat → Bool} {held : Bool} {v : Value} {d : DataW H} {p : List MemPlace} (k : DataW.Trod enc P w 0 sp held t v d p) : ∃ x : α, Old none' w (Rep.rep x v.cells.toList) := by
  obtain ⟨fuel, k⟩ := k
  obtain ⟨x, hx⟩ := h.of enc w sp held fuel _ _ k
  exact ⟨x, _, fun b o hb => ⟨hb, id⟩, hx⟩
end Slk

set_option linter.unusedVariables false
set_option linter.unusedSimpArgs false
namespace Slk
open Go
section
variable {P : Program} {D : Nat → Prop} {w0 : World} {env : Slots} {l : List HProp} {dst : Option Tmp} {ty : TypeId} {pos : String} {after : Array Edge} {g : Option (Nat × Bool)}
end
section
variable {P : Program} {Q : Post} {D : Nat → Prop} {w0 : World} {n : Nat} {env : Slots} {l : List HProp} {ops : Array Oper} {r : List Oper} {o : Oper}
end
/-! What can be read of assertions that hold apart. -/
section
variable {P : Program} {D : Nat → Prop} {w0 : World} {env : Slots} {l : List HProp} {dst : Option Tmp} {ty : TypeId} {pos : String} {after : Array Edge} {g : Option (Nat × Bool)} {x y : Operand} {t t' : TypeId} {k : IntKind} {i j : Int}
end
section
variable {P : Program} {D : Nat → Prop} {w0 : World} {env : Slots} {l : List HProp} {dst : Option Tmp} {ty : TypeId} {pos : String} {after : Array Edge} {g : Option (Nat × Bool)}
end
end Slk

set_option linter.unusedVariables false
set_option linter.unusedSimpArgs false
namespace Slk
open Go
/-! ### Arrays, structs and strings as arguments -/
section
variable {P : Program} {t : TypeId}
end
end Slk

set_option linter.unusedVariables false
set_option linter.unusedSimpArgs false
namespace Slk
open Go
/-! ### A slice of one's own, found by its address -/
/-! ### Stores into a slice of one's own -/
section
variable {P : Program} {D : Nat → Prop} {w0 : World} {env : Slots} {l : List HProp} {dst : Option Tmp} {ty : TypeId} {pos : String} {after : Array Edge} {g : Option (Nat × Bool)}
end
/-! A slice of one's own is read. -/
end Slk

set_option linter.unusedVariables false
set_option linter.unusedSimpArgs false
namespace Slk
open Go
section
variable {P : Program} {D : Nat → Prop} {w0 : World} {env : Slots} {l : List HProp} {dst : Option Tmp} {ty : TypeId} {pos : String} {after : Array Edge} {g : Option (Nat × Bool)} {x y : Operand} {t t' : TypeId}
/-! ### Texts made of bytes, compared -/
end
/-! ### What a list's cells read as, partly of old memory -/
section
variable {α : Type} [Rep α] {D : Nat → Prop} {w0 : World} {l r : List HProp}
end
section
variable {P : Program} {Q : Post} {D : Nat → Prop} {w0 : World} {n : Nat} {env : Slots} {l : List HProp} {ops : Array Oper} {α : Type} [Rep α] {A : Option Addr} {t : TypeId} {sz m cap : Nat} {xs : List α}
end
end Slk

set_option linter.unusedVariables false
set_option linter.unusedSimpArgs false
namespace Slk
open Go
/-! ### Several assertions in one -/
section
variable {P : Program} {Q : Post} {D : Nat → Prop} {w0 : World} {n : Nat} {env : Slots} {l : List HProp} {ops : Array Oper} {σ : Type} {L : σ → List HProp}
end
/-! ### Lists of bytes of one's own -/
section
variable {t : TypeId} {l : List HProp} {xs : List (List UInt8)} {cs : List Value} {x : List UInt8} {c : Value} {A : Option Addr} {cap : Nat}
end
/-! ### The rest of a slice -/
section
variable {P : Program} {D : Nat → Prop} {w0 : World} {env : Slots} {l : List HProp} {dst : Option Tmp} {ty : TypeId} {pos : String} {after : Array Edge} {g : Option (Nat × Bool)} {x y : Operand} {t t' e : TypeId}
end
end Slk

set_option linter.unusedVariables false
set_option linter.unusedSimpArgs false
namespace Slk
open Go
/-! ### Structs as arguments, field by field -/
section
variable {P : Program} {t : TypeId}
end
end Slk

set_option linter.unusedVariables false
set_option linter.unusedSimpArgs false
namespace Slk
open Go

/-! ### Tests whose outcome is known; slots that are kept -/
section
variable {P : Program} {Q : Post} {D : Nat → Prop} {w0 : World} {n : Nat} {env : Slots} {l : List HProp} {ops : Array Oper} {r tail : List Oper}
theorem ha_partF {t fuel : Nat} {listed : Array Bool} {L0 : List HProp} {p : Prop} [Decidable p] (hv : Slots.get env t = some (.bool (decide p))) (hp : ¬ p) (k : HA P ops Q D w0 n ((t, .bool false) :: env) l L0 fuel listed) : HA P ops Q D w0 n env l L0 fuel listed := ha_part hv (fun h => absurd h hp) (fun _ => k)
end

section
variable {P : Program} {D : Nat → Prop} {w0 : World} {env : Slots} {l : List HProp} {dst : Option Tmp} {ty : TypeId} {pos : String} {after : Array Edge} {g : Option (Nat × Bool)}
end

/-! ### Structs and arrays of plain cells, compared -/
end Slk

set_option linter.unusedVariables false
set_option linter.unusedSimpArgs false
namespace Slk
open Go
section
variable {P : Program} {D : Nat → Prop} {w0 : World} {env : Slots} {l : List HProp} {dst : Option Tmp} {ty : TypeId} {pos : String} {after : Array Edge} {g : Option (Nat × Bool)} {x y : Operand} {t t' : TypeId}
end
end Slk
set_option linter.unusedVariables false
set_option linter.unusedSimpArgs false
namespace Go.Proofs.YtjlolpmmpafjeaaGreat
open Slk
/-! ### Numbers as bytes -/
end Go.Proofs.YtjlolpmmpafjeaaGreat

set_option linter.unusedVariables false
set_option linter.unusedSimpArgs false
namespace Go.Proofs.YtjlolpmmpafjeaaGreat
open Slk
/-! ### Edits are written -/
end Go.Proofs.YtjlolpmmpafjeaaGreat

set_option linter.unusedVariables false
set_option linter.unusedSimpArgs false
namespace Go.Proofs.YtjlolpmmpafjeaaGreat
open Slk
end Go.Proofs.YtjlolpmmpafjeaaGreat

set_option linter.unusedVariables false
set_option linter.unusedSimpArgs false
namespace Go.Proofs.YtjlolpmmpafjeaaGreat
open Slk
/-! ### The first configuration -/
/-! ### What the keep's functions say -/
theorem ok8 (b : UInt8) : (cellOk (.i .u8) (u8v b)).isSome = true := by
  have h := b.toNat_lt
  simp only [u8v, cellOk]
  rw [if_pos (by simp [Lit.wf, IntKind.min, IntKind.max, IntKind.signed, IntKind.bits]; omega)]; rfl
theorem ok32 (b : UInt32) : (cellOk (.i .u32) (.int .u32 (b.toNat : Int))).isSome = true := by
  have h := b.toNat_lt
  simp only [cellOk]
  rw [if_pos (by simp [Lit.wf, IntKind.min, IntKind.max, IntKind.signed, IntKind.bits]; omega)]; rfl
theorem ok64 (b : UInt64) : (cellOk (.i .u64) (.int .u64 (b.toNat : Int))).isSome = true := by
  have h := b.toNat_lt
  simp only [cellOk]
  rw [if_pos (by simp [Lit.wf, IntKind.min, IntKind.max, IntKind.signed, IntKind.bits]; omega)]; rfl
theorem okI {x : Int} (h : inI64 x) : (cellOk (.i .i64) (.int .i64 x)).isSome = true := by
  unfold inI64 at h
  simp only [cellOk]
  rw [if_pos (by simp [Lit.wf, IntKind.min, IntKind.max, IntKind.signed, IntKind.bits]; omega)]; rfl
theorem toNat_inj8 {a b : UInt8} : (a.toNat : Int) = b.toNat ↔ a = b := ⟨fun h => UInt8.toNat_inj.1 (by omega), fun h => by rw [h]⟩
theorem toNat_inj32 {a b : UInt32} : (a.toNat : Int) = b.toNat ↔ a = b := ⟨fun h => UInt32.toNat_inj.1 (by omega), fun h => by rw [h]⟩
theorem toNat_inj64 {a b : UInt64} : (a.toNat : Int) = b.toNat ↔ a = b := ⟨fun h => UInt64.toNat_inj.1 (by omega), fun h => by rw [h]⟩
theorem portV_inj {s t : PortC} : portV s = portV t ↔ s = t := by
  obtain ⟨a, b, c⟩ := s; obtain ⟨a', b', c'⟩ := t
  simp only [portV, List.cons.injEq, Value.bool.injEq, Value.int.injEq, true_and, and_true, Prod.mk.injEq, toNat_inj32]
theorem vlanV_inj {s t : VlanC} : vlanV s = vlanV t ↔ s = t := by
  obtain ⟨a, b, c⟩ := s; obtain ⟨a', b', c'⟩ := t
  simp only [vlanV, u8v, List.cons.injEq, Value.bool.injEq, Value.int.injEq, true_and, and_true, Prod.mk.injEq, toNat_inj8]
theorem statV_inj {s t : StatC} : statV s = statV t ↔ s = t := by
  obtain ⟨a, b, c⟩ := s; obtain ⟨a', b', c'⟩ := t
  simp only [statV, List.cons.injEq, Value.bool.injEq, Value.int.injEq, true_and, and_true, Prod.mk.injEq, toNat_inj64]
theorem portOk' {x : PortC} (h : Flat.ok x) : (cellsOk [.b, .i .u32, .i .i64] (portV x)).isSome = true := okC rfl (okC (ok32 _) (okC (okI h) rfl))
theorem vlanOk' {x : VlanC} (h : Flat.ok x) : (cellsOk [.i .i64, .i .u8, .i .u8] (vlanV x)).isSome = true := okC (okI h) (okC (ok8 _) (okC (ok8 _) rfl))
theorem statOk' {x : StatC} (h : Flat.ok x) : (cellsOk [.i .u64, .i .i64, .i .i64] (statV x)).isSome = true := okC (ok64 _) (okC (okI h.1) (okC (okI h.2) rfl))
end Go.Proofs.YtjlolpmmpafjeaaGreat
set_option linter.unusedVariables false
set_option linter.unusedSimpArgs false
namespace Go.Proofs.YtjlolpmmpafjeaaGreat
open Slk
theorem Pending_spec (D : Nat → Prop) (w : World) (g : Nat) (S : List Sec) (P : List (Nat × Sec)) (H : Own D w w [dsk g S P]) : Calls Tryz.prog 34 #[.pointer (some ⟨g, 0, none⟩)] w fun e w' => e = .returned (.int .i64 P.length) ∧ Own D w w' [dsk g S P] := by
  refine hc_enter (vs := [.pointer (some ⟨g, 0, none⟩)]) Tryz.func34 rfl _ Tryz.ntmps34 rfl H ?_
  simp only [argSlots, Nat.zero_add]
  refine HC.exs ?_
  rintro ⟨⟨A0, c0⟩, A1, c1⟩
  refine HC.ent (l' := [blk g 107 [.slice A0 S.length c0, .slice A1 P.length c1], row A0 61 64 S.length c0 (S.flatMap secC), row A1 143 65 P.length c1 (P.flatMap latC)]) (fun _ h => h) ?_
  refine hc_seq <| hc_region <| hl_v (ov_assign rfl) rfl <| hl_nil <| hx_then_normal <| hc_seq <| ?_
  refine hc_seq <| hc_region <| hl_v (ov_move rfl) rfl <| hl_v (ov_eqlP rfl rfl) rfl <| hl_nil <| hx_then_normal <| ?_
  refine hc_cond_false rfl ?_
  refine hc_skip <| hx_then_normal <| hc_seq <| hc_region <| hl_v (ov_move rfl) rfl <| hl_v (ov_nil rfl) rfl <| ?_
  refine hl_v (ov_fieldA rfl) rfl <| hl_v (ov_load rfl (CellIs.blk rfl)) rfl <| hl_v (by first | exact ov_len rfl | exact ov_lenS rfl) rfl <| ?_
  refine hl_v (ov_assign rfl) rfl <| hl_nil <| hx_then_normal <| hc_ret <| ?_
  exact results_1 (.inr rfl) rfl rfl fun w' H' => ⟨rfl, H'.ent (Ent.trans (by first | assumption | exact Ent.refl _ | exact Ent.nil _ | exact Ent.row_any (Ent.refl _) | (repeat (first | exact Ent.refl _ | exact Ent.nil _ | refine Ent.pick ?_))) (dsk_mk (A0 := A0) (c0 := c0) (A1 := A1) (c1 := c1)))⟩
end Go.Proofs.YtjlolpmmpafjeaaGreat
set_option linter.unusedVariables false
set_option linter.unusedSimpArgs false
namespace Go.Proofs.YtjlolpmmpafjeaaGreat
open Slk
/-! ### Edits, as one answers -/
theorem oneC_ports (c : ConfC) (e : EditC) : (oneC c e).1.2.2.2.1.length = c.2.2.2.1.length := by
  unfold oneC
  dsimp only
  split; · rfl
  split; · rfl
  split; · rfl
  split
  · split; · rfl
    split
    · split; · rfl
      exact List.length_set
    · split
      · split; · rfl
        exact List.length_set
      · exact List.length_set
  split; · rfl
  split; · rfl
  split
  · split <;> rfl
  split
  · split <;> rfl
  · rfl
theorem foldC_ports : ∀ (l : List EditC) (c : ConfC), (foldC c l).1.2.2.2.1.length = c.2.2.2.1.length
  | [], c => rfl
  | e :: r, c => by
    unfold foldC
    split
    · rw [foldC_ports r, oneC_ports]
    · exact oneC_ports c e
theorem edF_ports {c : ConfC} {l : List EditC} (h : (edF c l).2 = 0) : (edF c l).1.2.2.2.1.length = c.2.2.2.1.length := by
  rw [(edF_ok h).2.2.2.2, foldC_ports]
theorem replF_ports : ∀ (Ls : List (List EditC)) (c d : ConfC), replF c Ls = some d → d.2.2.2.1.length = c.2.2.2.1.length
  | [], c, d, h => by
    have h : some c = some d := h
    injection h with h; subst h; rfl
  | x :: r, c, d, h => by
    have h : (if (edF c x).2 = 0 then replF (edF c x).1 r else none) = some d := h
    split at h
    · rename_i h0
      rw [replF_ports r _ d h, edF_ports h0]
    · cases h
/-! ### Snapshots on a larger disk -/
end Go.Proofs.YtjlolpmmpafjeaaGreat
set_option linter.unusedVariables false
set_option linter.unusedSimpArgs false
namespace Go.Proofs.YtjlolpmmpafjeaaGreat
open Slk
/-! ### What a store is (plain) -/
theorem SI.ports {m : Nat} {s : SSt} (h : SI m s) : s.c.2.2.2.1.length = s.c0.2.2.2.1.length := replF_ports _ _ _ h.rep
theorem commR_ports {m : Nat} {s : SSt} (h : SI m s) {l : List EditC} (hf : ∀ x ∈ l, Flat.ok x) (hep : s.ep < 4294967290) : (commR m s l).2.c.2.2.2.1.length = s.c.2.2.2.1.length := by
  obtain ⟨_, _, _, h4, h5⟩ := commR_ok h hf hep
  rw [h4]
  split
  · rename_i h0
    exact edF_ports (h5 h0).1
  · rfl
end Go.Proofs.YtjlolpmmpafjeaaGreat
set_option linter.unusedVariables false
set_option linter.unusedSimpArgs false
namespace Go.Proofs.YtjlolpmmpafjeaaGreat
open Slk
theorem keepC_spec (D : Nat → Prop) (w : World) (c d : ConfC) (vp vv vs wp wv ws : Value) (H1 : ConfOld D w c vp vv vs) (H2 : ConfOld D w d wp wv ws) :
    Calls Tryz.prog 27 #[.agg (cfgV c vp vv vs).toArray, .agg (cfgV d wp wv ws).toArray] w fun e w' => ∃ b : BIff (c = d), e = .returned (.bool b.1) ∧ Own D w w' [] := by
  obtain ⟨Ap, cp, hvp, _, _, Sp, op⟩ := H1.p.openF
  obtain ⟨Av, cv, hvv, _, _, Sv, ov⟩ := H1.v.openF
  obtain ⟨As, cs, hvs, _, _, Ss, os⟩ := H1.s.openF
  obtain ⟨Bp, dp, hwp, _, _, Tp, qp⟩ := H2.p.openF
  obtain ⟨Bv, dv, hwv, _, _, Tv, qv⟩ := H2.v.openF
  obtain ⟨Bs, ds, hws, _, _, Ts, qs⟩ := H2.s.openF
  have l1 := H1.lp; have l2 := H1.lv; have l3 := H1.ls
  have Sp : OldS D w Ap (c.2.2.2.1.flatMap portV) := Sp
  have Sv : OldS D w Av (c.2.2.2.2.1.flatMap vlanV) := Sv
  have Ss : OldS D w As (c.2.2.2.2.2.flatMap statV) := Ss
  have Tp : OldS D w Bp (d.2.2.2.1.flatMap portV) := Tp
  have Tv : OldS D w Bv (d.2.2.2.2.1.flatMap vlanV) := Tv
  have Ts : OldS D w Bs (d.2.2.2.2.2.flatMap statV) := Ts
  subst hvp; subst hvv; subst hvs; subst hwp; subst hwv; subst hws
  obtain ⟨c1, c2, c3, P, V, S⟩ := c
  obtain ⟨d1, d2, d3, P', V', S'⟩ := d
  dsimp only at *
  have hceq : ((c1, c2, c3, P, V, S) : ConfC) = (d1, d2, d3, P', V', S') ↔ c1 = d1 ∧ c2 = d2 ∧ c3 = d3 ∧ P = P' ∧ V = V' ∧ S = S' := by simp only [Prod.mk.injEq]
  refine hc_enter (vs := [.agg #[.int .i64 c1, .int .i64 c2, .int .i64 c3, .slice Ap P.length cp, .slice Av V.length cv, .slice As S.length cs], .agg #[.int .i64 d1, .int .i64 d2, .int .i64 d3, .slice Bp P'.length dp, .slice Bv V'.length dv, .slice Bs S'.length ds]]) Tryz.func27 rfl _ Tryz.ntmps27 rfl (Own.start D w) ?_
  simp only [argSlots, Nat.zero_add]
  refine hc_seq <| hc_region <| hl_new (on_boxN rfl rfl) rfl rfl rfl fun b2 =>  ?_
  refine hl_new (on_boxN rfl rfl) rfl rfl rfl fun b3 =>  ?_
  refine hl_v (ov_assign rfl) rfl <| hl_nil <| hx_then_normal <| hc_seq <| hc_seq <| hc_region <| ?_
  refine hl_v (ov_fieldA rfl) rfl <| hl_v (ov_load rfl (CellIs.blk rfl)) rfl <| hl_v (ov_fieldA rfl) rfl <| hl_v (ov_load rfl (CellIs.blk rfl)) rfl <| hl_v (ov_neq rfl rfl) rfl <| hl_v (ov_move rfl) rfl <| ?_
  refine hl_part (t := 13) rfl (fun g0 => ?_) (fun g0 => ?_)
  · have hno : ¬ ((c1, c2, c3, P, V, S) : ConfC) = (d1, d2, d3, P', V', S') := fun h => g0 ((hceq.1 h).1)
    refine hl_off rfl rfl rfl rfl rfl rfl <| hl_off rfl rfl rfl rfl rfl rfl <| hl_off rfl rfl rfl rfl rfl rfl <| hl_off rfl rfl rfl rfl rfl rfl <| hl_off rfl rfl rfl rfl rfl rfl <| hl_v (ov_pickT rfl rfl) rfl <| ?_
    refine hl_v (ov_move rfl) rfl <| hl_off rfl rfl rfl rfl rfl rfl <| hl_off rfl rfl rfl rfl rfl rfl <| hl_off rfl rfl rfl rfl rfl rfl <| hl_off rfl rfl rfl rfl rfl rfl <| hl_off rfl rfl rfl rfl rfl rfl <| ?_
    refine hl_v (ov_pickT rfl rfl) rfl <| hl_v (ov_move rfl) rfl <| hl_off rfl rfl rfl rfl rfl rfl <| hl_off rfl rfl rfl rfl rfl rfl <| hl_off rfl rfl rfl rfl rfl rfl <| hl_off rfl rfl rfl rfl rfl rfl <| ?_
    refine hl_off rfl rfl rfl rfl rfl rfl <| hl_off rfl rfl rfl rfl rfl rfl <| hl_off rfl rfl rfl rfl rfl rfl <| hl_v (ov_pickT rfl rfl) rfl <| hl_v (ov_move rfl) rfl <| hl_off rfl rfl rfl rfl rfl rfl <| ?_
    refine hl_off rfl rfl rfl rfl rfl rfl <| hl_off rfl rfl rfl rfl rfl rfl <| hl_off rfl rfl rfl rfl rfl rfl <| hl_off rfl rfl rfl rfl rfl rfl <| hl_off rfl rfl rfl rfl rfl rfl <| hl_off rfl rfl rfl rfl rfl rfl <| ?_
    refine hl_v (ov_pickT rfl rfl) rfl <| hl_v (ov_move rfl) rfl <| hl_off rfl rfl rfl rfl rfl rfl <| hl_off rfl rfl rfl rfl rfl rfl <| hl_off rfl rfl rfl rfl rfl rfl <| hl_off rfl rfl rfl rfl rfl rfl <| ?_
    refine hl_off rfl rfl rfl rfl rfl rfl <| hl_off rfl rfl rfl rfl rfl rfl <| hl_off rfl rfl rfl rfl rfl rfl <| hl_v (ov_pickT rfl rfl) rfl <| hl_nil <| hx_then_normal <| ?_
    refine hc_cond_true rfl <| hc_seq <| hc_region <| hl_v (ov_assign rfl) rfl <| hl_nil <| hx_then_normal <| ?_
    refine hc_ret <| hx_then_ret <| ?_
    exact results_1 (.inr rfl) rfl rfl fun w' H' => ⟨bF hno, rfl, H'.ent (Ent.nil _)⟩
  skip
  have g0 := Classical.not_not.1 g0
  refine hl_on rfl rfl <| hl_v (ov_fieldA rfl) rfl <| hl_on rfl rfl <| hl_v (ov_load rfl (CellIs.blk rfl)) rfl <| hl_on rfl rfl <| hl_v (ov_fieldA rfl) rfl <| hl_on rfl rfl <| hl_v (ov_load rfl (CellIs.blk rfl)) rfl <| hl_on rfl rfl <| hl_v (ov_neq rfl rfl) rfl <| hl_v (ov_pickF rfl rfl) rfl <| ?_
  refine hl_v (ov_move rfl) rfl <| ?_
  refine hl_part (t := 20) rfl (fun g1 => ?_) (fun g1 => ?_)
  · have hno : ¬ ((c1, c2, c3, P, V, S) : ConfC) = (d1, d2, d3, P', V', S') := fun h => g1 ((hceq.1 h).2.1)
    refine hl_off rfl rfl rfl rfl rfl rfl <| hl_off rfl rfl rfl rfl rfl rfl <| hl_off rfl rfl rfl rfl rfl rfl <| hl_off rfl rfl rfl rfl rfl rfl <| hl_off rfl rfl rfl rfl rfl rfl <| hl_v (ov_pickT rfl rfl) rfl <| ?_
    refine hl_v (ov_move rfl) rfl <| hl_off rfl rfl rfl rfl rfl rfl <| hl_off rfl rfl rfl rfl rfl rfl <| hl_off rfl rfl rfl rfl rfl rfl <| hl_off rfl rfl rfl rfl rfl rfl <| hl_off rfl rfl rfl rfl rfl rfl <| ?_
    refine hl_off rfl rfl rfl rfl rfl rfl <| hl_off rfl rfl rfl rfl rfl rfl <| hl_v (ov_pickT rfl rfl) rfl <| hl_v (ov_move rfl) rfl <| hl_off rfl rfl rfl rfl rfl rfl <| hl_off rfl rfl rfl rfl rfl rfl <| ?_
    refine hl_off rfl rfl rfl rfl rfl rfl <| hl_off rfl rfl rfl rfl rfl rfl <| hl_off rfl rfl rfl rfl rfl rfl <| hl_off rfl rfl rfl rfl rfl rfl <| hl_off rfl rfl rfl rfl rfl rfl <| hl_v (ov_pickT rfl rfl) rfl <| ?_
    refine hl_v (ov_move rfl) rfl <| hl_off rfl rfl rfl rfl rfl rfl <| hl_off rfl rfl rfl rfl rfl rfl <| hl_off rfl rfl rfl rfl rfl rfl <| hl_off rfl rfl rfl rfl rfl rfl <| hl_off rfl rfl rfl rfl rfl rfl <| ?_
    refine hl_off rfl rfl rfl rfl rfl rfl <| hl_off rfl rfl rfl rfl rfl rfl <| hl_v (ov_pickT rfl rfl) rfl <| hl_nil <| hx_then_normal <| hc_cond_true rfl <| ?_
    refine hc_seq <| hc_region <| hl_v (ov_assign rfl) rfl <| hl_nil <| hx_then_normal <| hc_ret <| ?_
    refine hx_then_ret <| ?_
    exact results_1 (.inr rfl) rfl rfl fun w' H' => ⟨bF hno, rfl, H'.ent (Ent.nil _)⟩
  skip
  have g1 := Classical.not_not.1 g1
  refine hl_on rfl rfl <| hl_v (ov_fieldA rfl) rfl <| hl_on rfl rfl <| hl_v (ov_load rfl (CellIs.blk rfl)) rfl <| hl_on rfl rfl <| hl_v (ov_fieldA rfl) rfl <| hl_on rfl rfl <| hl_v (ov_load rfl (CellIs.blk rfl)) rfl <| hl_on rfl rfl <| hl_v (ov_neq rfl rfl) rfl <| hl_v (ov_pickF rfl rfl) rfl <| ?_
  refine hl_v (ov_move rfl) rfl <| ?_
  refine hl_part (t := 27) rfl (fun g2 => ?_) (fun g2 => ?_)
  · have hno : ¬ ((c1, c2, c3, P, V, S) : ConfC) = (d1, d2, d3, P', V', S') := fun h => g2 ((hceq.1 h).2.2.1)
    refine hl_off rfl rfl rfl rfl rfl rfl <| hl_off rfl rfl rfl rfl rfl rfl <| hl_off rfl rfl rfl rfl rfl rfl <| hl_off rfl rfl rfl rfl rfl rfl <| hl_off rfl rfl rfl rfl rfl rfl <| hl_off rfl rfl rfl rfl rfl rfl <| ?_
    refine hl_off rfl rfl rfl rfl rfl rfl <| hl_v (ov_pickT rfl rfl) rfl <| hl_v (ov_move rfl) rfl <| hl_off rfl rfl rfl rfl rfl rfl <| hl_off rfl rfl rfl rfl rfl rfl <| hl_off rfl rfl rfl rfl rfl rfl <| ?_
    refine hl_off rfl rfl rfl rfl rfl rfl <| hl_off rfl rfl rfl rfl rfl rfl <| hl_off rfl rfl rfl rfl rfl rfl <| hl_off rfl rfl rfl rfl rfl rfl <| hl_v (ov_pickT rfl rfl) rfl <| hl_v (ov_move rfl) rfl <| ?_
    refine hl_off rfl rfl rfl rfl rfl rfl <| hl_off rfl rfl rfl rfl rfl rfl <| hl_off rfl rfl rfl rfl rfl rfl <| hl_off rfl rfl rfl rfl rfl rfl <| hl_off rfl rfl rfl rfl rfl rfl <| hl_off rfl rfl rfl rfl rfl rfl <| ?_
    refine hl_off rfl rfl rfl rfl rfl rfl <| hl_v (ov_pickT rfl rfl) rfl <| hl_nil <| hx_then_normal <| hc_cond_true rfl <| hc_seq <| ?_
    refine hc_region <| hl_v (ov_assign rfl) rfl <| hl_nil <| hx_then_normal <| hc_ret <| hx_then_ret <| ?_
    exact results_1 (.inr rfl) rfl rfl fun w' H' => ⟨bF hno, rfl, H'.ent (Ent.nil _)⟩
  skip
  have g2 := Classical.not_not.1 g2
  refine hl_on rfl rfl <| hl_v (ov_fieldA rfl) rfl <| hl_on rfl rfl <| hl_v (ov_load rfl (CellIs.blk rfl)) rfl <| hl_on rfl rfl <| hl_v (by first | exact ov_len rfl | exact ov_lenS rfl) rfl <| ?_
  refine hl_on rfl rfl <| hl_v (ov_fieldA rfl) rfl <| hl_on rfl rfl <| hl_v (ov_load rfl (CellIs.blk rfl)) rfl <| hl_on rfl rfl <| hl_v (by first | exact ov_len rfl | exact ov_lenS rfl) rfl <| ?_
  refine hl_on rfl rfl <| hl_v (ov_neq rfl rfl) rfl <| hl_v (ov_pickF rfl rfl) rfl <| hl_v (ov_move rfl) rfl <| ?_
  refine hl_part (t := 36) rfl (fun g3 => ?_) (fun g3 => ?_)
  · have hno : ¬ ((c1, c2, c3, P, V, S) : ConfC) = (d1, d2, d3, P', V', S') := fun h => g3 (by rw [(hceq.1 h).2.2.2.1])
    refine hl_off rfl rfl rfl rfl rfl rfl <| hl_off rfl rfl rfl rfl rfl rfl <| hl_off rfl rfl rfl rfl rfl rfl <| hl_off rfl rfl rfl rfl rfl rfl <| hl_off rfl rfl rfl rfl rfl rfl <| hl_off rfl rfl rfl rfl rfl rfl <| ?_
    refine hl_off rfl rfl rfl rfl rfl rfl <| hl_v (ov_pickT rfl rfl) rfl <| hl_v (ov_move rfl) rfl <| hl_off rfl rfl rfl rfl rfl rfl <| hl_off rfl rfl rfl rfl rfl rfl <| hl_off rfl rfl rfl rfl rfl rfl <| ?_
    refine hl_off rfl rfl rfl rfl rfl rfl <| hl_off rfl rfl rfl rfl rfl rfl <| hl_off rfl rfl rfl rfl rfl rfl <| hl_off rfl rfl rfl rfl rfl rfl <| hl_v (ov_pickT rfl rfl) rfl <| hl_nil <| ?_
    refine hx_then_normal <| hc_cond_true rfl <| hc_seq <| hc_region <| hl_v (ov_assign rfl) rfl <| hl_nil <| ?_
    refine hx_then_normal <| hc_ret <| hx_then_ret <| ?_
    exact results_1 (.inr rfl) rfl rfl fun w' H' => ⟨bF hno, rfl, H'.ent (Ent.nil _)⟩
  skip
  refine hl_on rfl rfl <| hl_v (ov_fieldA rfl) rfl <| hl_on rfl rfl <| hl_v (ov_load rfl (CellIs.blk rfl)) rfl <| hl_on rfl rfl <| hl_v (by first | exact ov_len rfl | exact ov_lenS rfl) rfl <| ?_
  refine hl_on rfl rfl <| hl_v (ov_fieldA rfl) rfl <| hl_on rfl rfl <| hl_v (ov_load rfl (CellIs.blk rfl)) rfl <| hl_on rfl rfl <| hl_v (by first | exact ov_len rfl | exact ov_lenS rfl) rfl <| ?_
  refine hl_on rfl rfl <| hl_v (ov_neq rfl rfl) rfl <| hl_v (ov_pickF rfl rfl) rfl <| hl_v (ov_move rfl) rfl <| ?_
  refine hl_part (t := 45) rfl (fun g4 => ?_) (fun g4 => ?_)
  · have hno : ¬ ((c1, c2, c3, P, V, S) : ConfC) = (d1, d2, d3, P', V', S') := fun h => g4 (by rw [(hceq.1 h).2.2.2.2.1])
    refine hl_off rfl rfl rfl rfl rfl rfl <| hl_off rfl rfl rfl rfl rfl rfl <| hl_off rfl rfl rfl rfl rfl rfl <| hl_off rfl rfl rfl rfl rfl rfl <| hl_off rfl rfl rfl rfl rfl rfl <| hl_off rfl rfl rfl rfl rfl rfl <| ?_
    refine hl_off rfl rfl rfl rfl rfl rfl <| hl_v (ov_pickT rfl rfl) rfl <| hl_nil <| hx_then_normal <| hc_cond_true rfl <| hc_seq <| ?_
    refine hc_region <| hl_v (ov_assign rfl) rfl <| hl_nil <| hx_then_normal <| hc_ret <| hx_then_ret <| ?_
    exact results_1 (.inr rfl) rfl rfl fun w' H' => ⟨bF hno, rfl, H'.ent (Ent.nil _)⟩
  skip
  refine hl_on rfl rfl <| hl_v (ov_fieldA rfl) rfl <| hl_on rfl rfl <| hl_v (ov_load rfl (CellIs.blk rfl)) rfl <| hl_on rfl rfl <| hl_v (by first | exact ov_len rfl | exact ov_lenS rfl) rfl <| ?_
  refine hl_on rfl rfl <| hl_v (ov_fieldA rfl) rfl <| hl_on rfl rfl <| hl_v (ov_load rfl (CellIs.blk rfl)) rfl <| hl_on rfl rfl <| hl_v (by first | exact ov_len rfl | exact ov_lenS rfl) rfl <| ?_
  refine hl_on rfl rfl <| hl_v (ov_neq rfl rfl) rfl <| hl_v (ov_pickF rfl rfl) rfl <| hl_nil <| hx_then_normal <| ?_
  refine hc_cond rfl (fun g5 => ?_) (fun g5 => ?_)
  · have hno : ¬ ((c1, c2, c3, P, V, S) : ConfC) = (d1, d2, d3, P', V', S') := fun h => g5 (by rw [(hceq.1 h).2.2.2.2.2])
    refine hc_seq <| hc_region <| hl_v (ov_assign rfl) rfl <| hl_nil <| hx_then_normal <| hc_ret <| ?_
    refine hx_then_ret <| ?_
    exact results_1 (.inr rfl) rfl rfl fun w' H' => ⟨bF hno, rfl, H'.ent (Ent.nil _)⟩
  skip
  refine hc_skip <| hx_then_normal <| hc_seq <| hc_seq <| hc_region <| hl_v (ov_assign rfl) rfl <| ?_
  refine hl_nil <| hx_then_normal <| hc_block <| ?_
  have hPl : P.length = P'.length := by omega
  have hVl : V.length = V'.length := by omega
  have hSl : S.length = S'.length := by omega
  refine hc_loops1 (σ := Nat) [2, 3] rfl 5 (fun k => .int .i64 (k : Int)) (fun k => k ≤ P.length ∧ P.take k = P'.take k) (fun k => P.length - k) (0) (⟨Nat.zero_le _, by simp⟩) rfl ?_
  rintro k ⟨hk, hkt⟩ K1 hK1
  refine hc_seq <| hc_seq <| hc_region <| hl_v (ov_move rfl) rfl <| hl_v (ov_fieldA rfl) rfl <| hl_v (ov_load rfl (CellIs.blk rfl)) rfl <| ?_
  refine hl_v (by first | exact ov_len rfl | exact ov_lenS rfl) rfl <| ?_
  refine hl_v (ov_lss rfl rfl) rfl <| hl_nil <| hx_then_normal <| ?_
  refine hc_cond rfl (fun h2 => ?_) (fun h2 => ?_)
  · have hlt : k < P.length := by omega
    have hlt2 : k < P'.length := by omega
    obtain ⟨hA, _⟩ := OldS.cells_flat (D := D) (w0 := w) (f := portV) (sz := 3) (fun _ => rfl) (by decide) Sp hlt []
    obtain ⟨hB, _⟩ := OldS.cells_flat (D := D) (w0 := w) (f := portV) (sz := 3) (fun _ => rfl) (by decide) Tp hlt2 []
    have hc1 := fun l => (OldS.cells_flat (D := D) (w0 := w) (f := portV) (sz := 3) (fun _ => rfl) (by decide) Sp hlt l).2
    have hc2 := fun l => (OldS.cells_flat (D := D) (w0 := w) (f := portV) (sz := 3) (fun _ => rfl) (by decide) Tp hlt2 l).2
    have hs1 := List.take_succ_eq_append_getElem hlt
    have hs2 := List.take_succ_eq_append_getElem hlt2
    have hat : P = P' → P[k] = P'[k] := fun e => by subst e; rfl
    have k1 := portOk' (op P[k] (List.getElem_mem hlt))
    have k2 := portOk' (qp P'[k] (List.getElem_mem hlt2))
    generalize P[k] = s at *
    generalize P'[k] = t at *
    refine hc_skip <| hx_then_normal <| hc_seq <| hc_block <| hc_seq <| hc_quiet mixed (by kernel_rfl) <| ?_
    refine hq_v (ov_fieldA rfl) rfl <| hq_v (ov_load rfl (CellIs.blk rfl)) rfl <| hq_v (ov_move rfl) rfl <| hq_v (ov_idxS rfl (by assumption) rfl _ rfl (by omega)) rfl <| ?_
    refine hq_v (ov_loadG (cs := portV s) rfl rfl (hc1 _)) rfl ?_
    refine hq_v (ov_fieldA rfl) rfl <| hq_v (ov_load rfl (CellIs.blk rfl)) rfl <| hq_v (ov_move rfl) rfl <| hq_v (ov_idxS rfl (by assumption) rfl _ rfl (by omega)) rfl <| ?_
    refine hq_v (ov_loadG (cs := portV t) rfl rfl (hc2 _)) rfl ?_
    refine hq_v (ov_neqG rfl rfl k1 k2 portV_inj) rfl ?_
    refine hq_nil <| hx_then_normal <| ?_
    refine hc_cond rfl (fun h3 => ?_) (fun h3 => ?_)
    · have hno : ¬ ((c1, c2, c3, P, V, S) : ConfC) = (d1, d2, d3, P', V', S') := fun h => h3 (hat (hceq.1 h).2.2.2.1)
      refine hc_seq <| hc_region <| hl_v (ov_assign rfl) rfl <| hl_nil <| hx_then_normal <| hc_ret <| ?_
      refine hx_block_ret <| hx_then_ret <| hx_then_ret <| hx_block_ret <| hx_then_ret <| ?_
      exact results_1 (.inr rfl) rfl rfl fun w' H' => ⟨bF hno, rfl, H'.ent (Ent.nil _)⟩
    have hst : s = t := Classical.not_not.1 h3
    refine hc_skip <| hx_block_normal <| hx_then_normal <| hc_region <| hl_v (ov_move rfl) rfl <| hl_v (ov_add rfl rfl (by first | exact wrap_i64 (by omega) | rfl)) rfl <| ?_
    refine hl_v (ov_assign rfl) rfl <| hl_nil <| ?_
    refine hx_next hK1 (k + 1) (⟨hlt, by rw [hs1, hs2, hkt, hst]⟩) (by omega) (by repeat (first | exact Slots.sub_nil _ | refine Slots.sub_cons rfl ?_)) (by first | assumption | exact Ent.refl _ | exact Ent.nil _ | (repeat (first | exact Ent.refl _ | exact Ent.nil _ | refine Ent.pick ?_)))
  have hk' : k = P.length := by omega
  have eP : P = P' := by rw [← List.take_length (l := P), ← hk', hkt, hk', hPl, List.take_length]
  refine hc_exit <| hx_then_exit <| hx_then_exit <| hx_block_out <| hx_then_normal <| hc_seq <| ?_
  refine hc_seq <| hc_region <| hl_v (ov_assign rfl) rfl <| hl_nil <| hx_then_normal <| hc_block <| ?_
  refine hc_loops1 (σ := Nat) [2, 3] rfl 6 (fun k => .int .i64 (k : Int)) (fun k => k ≤ V.length ∧ V.take k = V'.take k) (fun k => V.length - k) (0) (⟨Nat.zero_le _, by simp⟩) rfl ?_
  rintro k ⟨hk, hkt⟩ K2 hK2
  refine hc_seq <| hc_seq <| hc_region <| hl_v (ov_move rfl) rfl <| hl_v (ov_fieldA rfl) rfl <| hl_v (ov_load rfl (CellIs.blk rfl)) rfl <| ?_
  refine hl_v (by first | exact ov_len rfl | exact ov_lenS rfl) rfl <| ?_
  refine hl_v (ov_lss rfl rfl) rfl <| hl_nil <| hx_then_normal <| ?_
  refine hc_cond rfl (fun h2 => ?_) (fun h2 => ?_)
  · have hlt : k < V.length := by omega
    have hlt2 : k < V'.length := by omega
    obtain ⟨hA, _⟩ := OldS.cells_flat (D := D) (w0 := w) (f := vlanV) (sz := 3) (fun _ => rfl) (by decide) Sv hlt []
    obtain ⟨hB, _⟩ := OldS.cells_flat (D := D) (w0 := w) (f := vlanV) (sz := 3) (fun _ => rfl) (by decide) Tv hlt2 []
    have hc1 := fun l => (OldS.cells_flat (D := D) (w0 := w) (f := vlanV) (sz := 3) (fun _ => rfl) (by decide) Sv hlt l).2
    have hc2 := fun l => (OldS.cells_flat (D := D) (w0 := w) (f := vlanV) (sz := 3) (fun _ => rfl) (by decide) Tv hlt2 l).2
    have hs1 := List.take_succ_eq_append_getElem hlt
    have hs2 := List.take_succ_eq_append_getElem hlt2
    have hat : V = V' → V[k] = V'[k] := fun e => by subst e; rfl
    have k1 := vlanOk' (ov V[k] (List.getElem_mem hlt))
    have k2 := vlanOk' (qv V'[k] (List.getElem_mem hlt2))
    generalize V[k] = s at *
    generalize V'[k] = t at *
    refine hc_skip <| hx_then_normal <| hc_seq <| hc_block <| hc_seq <| hc_quiet mixed (by kernel_rfl) <| ?_
    refine hq_v (ov_fieldA rfl) rfl <| hq_v (ov_load rfl (CellIs.blk rfl)) rfl <| hq_v (ov_move rfl) rfl <| hq_v (ov_idxS rfl (by assumption) rfl _ rfl (by omega)) rfl <| ?_
    refine hq_v (ov_loadG (cs := vlanV s) rfl rfl (hc1 _)) rfl ?_
    refine hq_v (ov_fieldA rfl) rfl <| hq_v (ov_load rfl (CellIs.blk rfl)) rfl <| hq_v (ov_move rfl) rfl <| hq_v (ov_idxS rfl (by assumption) rfl _ rfl (by omega)) rfl <| ?_
    refine hq_v (ov_loadG (cs := vlanV t) rfl rfl (hc2 _)) rfl ?_
    refine hq_v (ov_neqG rfl rfl k1 k2 vlanV_inj) rfl ?_
    refine hq_nil <| hx_then_normal <| ?_
    refine hc_cond rfl (fun h3 => ?_) (fun h3 => ?_)
    · have hno : ¬ ((c1, c2, c3, P, V, S) : ConfC) = (d1, d2, d3, P', V', S') := fun h => h3 (hat (hceq.1 h).2.2.2.2.1)
      refine hc_seq <| hc_region <| hl_v (ov_assign rfl) rfl <| hl_nil <| hx_then_normal <| hc_ret <| ?_
      refine hx_block_ret <| hx_then_ret <| hx_then_ret <| hx_block_ret <| hx_then_ret <| ?_
      exact results_1 (.inr rfl) rfl rfl fun w' H' => ⟨bF hno, rfl, H'.ent (Ent.nil _)⟩
    have hst : s = t := Classical.not_not.1 h3
    refine hc_skip <| hx_block_normal <| hx_then_normal <| hc_region <| hl_v (ov_move rfl) rfl <| hl_v (ov_add rfl rfl (by first | exact wrap_i64 (by omega) | rfl)) rfl <| ?_
    refine hl_v (ov_assign rfl) rfl <| hl_nil <| ?_
    refine hx_next hK2 (k + 1) (⟨hlt, by rw [hs1, hs2, hkt, hst]⟩) (by omega) (by repeat (first | exact Slots.sub_nil _ | refine Slots.sub_cons rfl ?_)) (by first | assumption | exact Ent.refl _ | exact Ent.nil _ | (repeat (first | exact Ent.refl _ | exact Ent.nil _ | refine Ent.pick ?_)))
  have hk' : k = V.length := by omega
  have eV : V = V' := by rw [← List.take_length (l := V), ← hk', hkt, hk', hVl, List.take_length]
  refine hc_exit <| hx_then_exit <| hx_then_exit <| hx_block_out <| hx_then_normal <| hc_seq <| ?_
  refine hc_seq <| hc_region <| hl_v (ov_assign rfl) rfl <| hl_nil <| hx_then_normal <| hc_block <| ?_
  refine hc_loops1 (σ := Nat) [2, 3] rfl 7 (fun k => .int .i64 (k : Int)) (fun k => k ≤ S.length ∧ S.take k = S'.take k) (fun k => S.length - k) (0) (⟨Nat.zero_le _, by simp⟩) rfl ?_
  rintro k ⟨hk, hkt⟩ K3 hK3
  refine hc_seq <| hc_seq <| hc_region <| hl_v (ov_move rfl) rfl <| hl_v (ov_fieldA rfl) rfl <| hl_v (ov_load rfl (CellIs.blk rfl)) rfl <| ?_
  refine hl_v (by first | exact ov_len rfl | exact ov_lenS rfl) rfl <| ?_
  refine hl_v (ov_lss rfl rfl) rfl <| hl_nil <| hx_then_normal <| ?_
  refine hc_cond rfl (fun h2 => ?_) (fun h2 => ?_)
  · have hlt : k < S.length := by omega
    have hlt2 : k < S'.length := by omega
    obtain ⟨hA, _⟩ := OldS.cells_flat (D := D) (w0 := w) (f := statV) (sz := 3) (fun _ => rfl) (by decide) Ss hlt []
    obtain ⟨hB, _⟩ := OldS.cells_flat (D := D) (w0 := w) (f := statV) (sz := 3) (fun _ => rfl) (by decide) Ts hlt2 []
    have hc1 := fun l => (OldS.cells_flat (D := D) (w0 := w) (f := statV) (sz := 3) (fun _ => rfl) (by decide) Ss hlt l).2
    have hc2 := fun l => (OldS.cells_flat (D := D) (w0 := w) (f := statV) (sz := 3) (fun _ => rfl) (by decide) Ts hlt2 l).2
    have hs1 := List.take_succ_eq_append_getElem hlt
    have hs2 := List.take_succ_eq_append_getElem hlt2
    have hat : S = S' → S[k] = S'[k] := fun e => by subst e; rfl
    have k1 := statOk' (os S[k] (List.getElem_mem hlt))
    have k2 := statOk' (qs S'[k] (List.getElem_mem hlt2))
    generalize S[k] = s at *
    generalize S'[k] = t at *
    refine hc_skip <| hx_then_normal <| hc_seq <| hc_block <| hc_seq <| hc_quiet mixed (by kernel_rfl) <| ?_
    refine hq_v (ov_fieldA rfl) rfl <| hq_v (ov_load rfl (CellIs.blk rfl)) rfl <| hq_v (ov_move rfl) rfl <| hq_v (ov_idxS rfl (by assumption) rfl _ rfl (by omega)) rfl <| ?_
    refine hq_v (ov_loadG (cs := statV s) rfl rfl (hc1 _)) rfl ?_
    refine hq_v (ov_fieldA rfl) rfl <| hq_v (ov_load rfl (CellIs.blk rfl)) rfl <| hq_v (ov_move rfl) rfl <| hq_v (ov_idxS rfl (by assumption) rfl _ rfl (by omega)) rfl <| ?_
    refine hq_v (ov_loadG (cs := statV t) rfl rfl (hc2 _)) rfl ?_
    refine hq_v (ov_neqG rfl rfl k1 k2 statV_inj) rfl ?_
    refine hq_nil <| hx_then_normal <| ?_
    refine hc_cond rfl (fun h3 => ?_) (fun h3 => ?_)
    · have hno : ¬ ((c1, c2, c3, P, V, S) : ConfC) = (d1, d2, d3, P', V', S') := fun h => h3 (hat (hceq.1 h).2.2.2.2.2)
      refine hc_seq <| hc_region <| hl_v (ov_assign rfl) rfl <| hl_nil <| hx_then_normal <| hc_ret <| ?_
      refine hx_block_ret <| hx_then_ret <| hx_then_ret <| hx_block_ret <| hx_then_ret <| ?_
      exact results_1 (.inr rfl) rfl rfl fun w' H' => ⟨bF hno, rfl, H'.ent (Ent.nil _)⟩
    have hst : s = t := Classical.not_not.1 h3
    refine hc_skip <| hx_block_normal <| hx_then_normal <| hc_region <| hl_v (ov_move rfl) rfl <| hl_v (ov_add rfl rfl (by first | exact wrap_i64 (by omega) | rfl)) rfl <| ?_
    refine hl_v (ov_assign rfl) rfl <| hl_nil <| ?_
    refine hx_next hK3 (k + 1) (⟨hlt, by rw [hs1, hs2, hkt, hst]⟩) (by omega) (by repeat (first | exact Slots.sub_nil _ | refine Slots.sub_cons rfl ?_)) (by first | assumption | exact Ent.refl _ | exact Ent.nil _ | (repeat (first | exact Ent.refl _ | exact Ent.nil _ | refine Ent.pick ?_)))
  have hk' : k = S.length := by omega
  have eS : S = S' := by rw [← List.take_length (l := S), ← hk', hkt, hk', hSl, List.take_length]
  refine hc_exit <| hx_then_exit <| hx_then_exit <| hx_block_out <| hx_then_normal <| hc_seq <| ?_
  refine hc_region <| hl_v (ov_assign rfl) rfl <| hl_nil <| hx_then_normal <| hc_ret <| ?_
  exact results_1 (.inr rfl) rfl rfl fun w' H' => ⟨bT (hceq.2 ⟨g0, g1, g2, eP, eV, eS⟩), rfl, H'.ent (Ent.nil _)⟩
end Go.Proofs.YtjlolpmmpafjeaaGreat
