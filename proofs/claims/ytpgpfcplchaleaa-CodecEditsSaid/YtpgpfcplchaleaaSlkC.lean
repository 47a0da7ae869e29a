import Derived.Test.YtpgpfcplchaleaaSlkB
set_option linter.unusedVariables false
set_option linter.unusedSimpArgs false
namespace Slk
open Go

/-! ### Facts on types, given once a program -/
class TyU (P : Program) (t : TypeId) (d : outParam TypeDesc) : Prop where out : P.underlying t = some d
/-- size in cells, size in bytes, the zero value's cells -/
class TyI (P : Program) (t : TypeId) (s b : outParam Nat) (z : outParam (List Value)) : Prop where
  out : (P.info? t).map (fun i => (i.size, i.bytes, i.zero.map (fun v => v.cells.toList))) = some (s, b, some z)
  len : z.length = s
class TyOne (P : Program) (t : TypeId) : Prop where out : (match P.underlying t with | some (.struct _) | some (.array _ _) | none => false | _ => true) = true
class TyAgg (P : Program) (t : TypeId) : Prop where out : (match P.underlying t with | some (.struct _) | some (.array _ _) => true | _ => false) = true
def fieldAt (P : Program) (s f : Nat) : Option (Nat × TypeId × Nat) :=
  match P.underlying s with
  | some (.struct fs) => match fs[f]? with
    | some fl => match P.info? fl.type with
      | some i => if i.size = 0 then none else some (fl.offset, fl.type, i.size)
      | none => none
    | none => none
  | _ => none
class TyF (P : Program) (s f : Nat) (o : outParam Nat) (ft : outParam TypeId) (fz : outParam Nat) : Prop where out : fieldAt P s f = some (o, ft, fz)
class TySlice (P : Program) (t : TypeId) (e : outParam TypeId) : Prop where out : P.underlying t = some (.slice e)
class TyArr (P : Program) (t : TypeId) (n : outParam Nat) (e : outParam TypeId) : Prop where out : P.underlying t = some (.array n e)
class TyInt (P : Program) (t : TypeId) (k : outParam IntKind) : Prop where out : P.underlying t = some (.int k)
class TyPtr (P : Program) (t : TypeId) (e : outParam TypeId) : Prop where out : P.underlying t = some (.pointer e)
class TyStr (P : Program) (t : TypeId) : Prop where out : P.underlying t = some .string
class TyBool (P : Program) (t : TypeId) : Prop where out : P.underlying t = some .bool

section
variable {P : Program}
theorem run_info {t : TypeId} {s b : Nat} {z : List Value} [h : TyI P t s b z] : ∃ i : TypeInfo, P.info? t = some i ∧ i.size = s ∧ i.bytes = b ∧ ∃ v : Value, i.zero = some v ∧ v.cells.toList = z := by
  have := h.out
  obtain ⟨i, hi, he⟩ := Option.map_eq_some_iff.1 this
  simp only [Prod.mk.injEq] at he
  obtain ⟨h1, h2, h3⟩ := he
  obtain ⟨v, hv, hz⟩ := Option.map_eq_some_iff.1 h3
  exact ⟨i, hi, h1, h2, v, hv, hz⟩
theorem run_sizeOf {t : TypeId} {s b : Nat} {z : List Value} [h : TyI P t s b z] (w : World) : (Go.sizeOf t).run P w = .ok s w := by
  obtain ⟨i, hi, hs, _⟩ := run_info (P := P) (t := t)
  simp [Go.sizeOf, typeInfo, hi, hs]
theorem run_zero {t : TypeId} {s b : Nat} {z : List Value} [h : TyI P t s b z] (w : World) : ∃ v : Value, (zeroValue t).run P w = .ok v w ∧ v.cells.toList = z := by
  obtain ⟨i, hi, _, _, v, hv, hz⟩ := run_info (P := P) (t := t)
  exact ⟨v, by simp [zeroValue, typeInfo, hi, hv], hz⟩
theorem run_one {t : TypeId} [h : TyOne P t] (w : World) : (isAgg t).run P w = .ok false w := by
  have := h.out
  cases hu : P.underlying t with
  | none => rw [hu] at this; cases this
  | some d =>
    rw [hu] at this
    unfold isAgg
    rw [Sem.run_bind, run_underlying hu w]
    cases d <;> simp_all
theorem run_agg {t : TypeId} [h : TyAgg P t] (w : World) : (isAgg t).run P w = .ok true w := by
  have := h.out
  cases hu : P.underlying t with
  | none => rw [hu] at this; cases this
  | some d =>
    rw [hu] at this
    unfold isAgg
    rw [Sem.run_bind, run_underlying hu w]
    cases d <;> simp_all
theorem add_lit' (b o n : Nat) : Addr.add ⟨b, o, none⟩ n = ⟨b, o + n, none⟩ := Addr.add_lit b o n
end

theorem beq_dec {α : Type} [DecidableEq α] (a b : α) : (a == b) = decide (a = b) := rfl
theorem beq_dec' {α : Type} [BEq α] [LawfulBEq α] [DecidableEq α] (a b : α) : (a == b) = decide (a = b) := by
  by_cases h : a = b <;> simp [h]
/-! ### wraps -/
theorem wrap_i64 {x : Int} (h : -9223372036854775808 ≤ x ∧ x ≤ 9223372036854775807) : IntKind.i64.wrap x = x := IntWalk.i64_in x h
theorem wrap_u64 {x : Int} (h : 0 ≤ x ∧ x ≤ 18446744073709551615) : IntKind.u64.wrap x = x := by
  simp only [IntKind.wrap, IntKind.bits, IntKind.signed]
  simp only [Bool.false_and, Bool.false_eq_true, if_false]
  omega
theorem wrap_u32 {x : Int} (h : 0 ≤ x ∧ x ≤ 4294967295) : IntKind.u32.wrap x = x := by
  simp only [IntKind.wrap, IntKind.bits, IntKind.signed]
  simp only [Bool.false_and, Bool.false_eq_true, if_false]
  omega
theorem wrap_u16 {x : Int} (h : 0 ≤ x ∧ x ≤ 65535) : IntKind.u16.wrap x = x := by
  simp only [IntKind.wrap, IntKind.bits, IntKind.signed]
  simp only [Bool.false_and, Bool.false_eq_true, if_false]
  omega
theorem wrap_u8 {x : Int} (h : 0 ≤ x ∧ x ≤ 255) : IntKind.u8.wrap x = x := by
  simp only [IntKind.wrap, IntKind.bits, IntKind.signed]
  simp only [Bool.false_and, Bool.false_eq_true, if_false]
  omega
theorem wrap_u8_mod (x : Int) : IntKind.u8.wrap x = x % 256 := by
  simp [IntKind.wrap, IntKind.bits, IntKind.signed]
theorem wrap_u16_mod (x : Int) : IntKind.u16.wrap x = x % 65536 := by
  simp [IntKind.wrap, IntKind.bits, IntKind.signed]
theorem wrap_u32_mod (x : Int) : IntKind.u32.wrap x = x % 4294967296 := by
  simp [IntKind.wrap, IntKind.bits, IntKind.signed]
theorem wrap_u64_mod (x : Int) : IntKind.u64.wrap x = x % 18446744073709551616 := by
  simp [IntKind.wrap, IntKind.bits, IntKind.signed]

/-! ### The cell at an address, in every world that the assertions let in -/
def CellIs (D : Nat → Prop) (w0 : World) (l : List HProp) (b off : Nat) (v : Value) : Prop := ∀ w, Own D w0 w l → w.cell? ⟨b, off, none⟩ = some v
def CellsAre (D : Nat → Prop) (w0 : World) (l : List HProp) (b off : Nat) (cs : List Value) : Prop := ∀ w, Own D w0 w l → ∀ i v, cs[i]? = some v → w.cell? ⟨b, off + i, none⟩ = some v
/-- An assertion is taken out of the list. -/
class Pick (l : List HProp) (A : HProp) (r : outParam (List HProp)) : Prop where out : l.Perm (A :: r)
instance (priority := 2000) Pick.here (A : HProp) (r : List HProp) : Pick (A :: r) A r := ⟨List.Perm.refl _⟩
instance (priority := 1000) Pick.there (A B : HProp) (l r : List HProp) [h : Pick l A r] : Pick (B :: l) A (B :: r) := ⟨(List.Perm.cons B h.out).trans (List.Perm.swap A B r)⟩
/-- A block is found by its number. -/
class PickB (l : List HProp) (b : Nat) (t : outParam TypeId) (cs : outParam (List Value)) (r : outParam (List HProp)) : Prop where out : l.Perm (blk b t cs :: r)
instance (priority := 2000) PickB.here (b : Nat) (t : TypeId) (cs : List Value) (r : List HProp) : PickB (blk b t cs :: r) b t cs r := ⟨List.Perm.refl _⟩
instance (priority := 1000) PickB.there (b : Nat) (t : TypeId) (cs : List Value) (B : HProp) (l r : List HProp) [h : PickB l b t cs r] : PickB (B :: l) b t cs (B :: r) := ⟨(List.Perm.cons B h.out).trans (List.Perm.swap (blk b t cs) B r)⟩
theorem CellIs.blk {D : Nat → Prop} {w0 : World} {l : List HProp} {b off : Nat} {t : TypeId} {cs : List Value} {r : List HProp} [h : PickB l b t cs r] {v : Value} (hv : cs[off]? = some v) : CellIs D w0 l b off v := fun w H => by
  rw [(H.ent (Ent.perm h.out)).cell, hv]
theorem CellsAre.blk {D : Nat → Prop} {w0 : World} {l : List HProp} {b off : Nat} {t : TypeId} {cs : List Value} {r : List HProp} [h : PickB l b t cs r] {vs : List Value} (hv : ∀ i v, vs[i]? = some v → cs[off + i]? = some v) : CellsAre D w0 l b off vs := fun w H i v hi => by
  rw [(H.ent (Ent.perm h.out)).cell, hv i v hi]
def OldCells (D : Nat → Prop) (w0 : World) (b off : Nat) (cs : List Value) : Prop := ¬ D b ∧ b < w0.heap.size ∧ ∀ i v, cs[i]? = some v → w0.cell? ⟨b, off + i, none⟩ = some v
theorem CellsAre.old {D : Nat → Prop} {w0 : World} {l : List HProp} {b off : Nat} {cs : List Value} (h : OldCells D w0 b off cs) : CellsAre D w0 l b off cs := fun w H i v hi => by
  rw [World.cell?_of_block (w := w0) (w' := w) (a := ⟨b, off + i, none⟩) (H.old b h.2.1 h.1)]
  exact h.2.2 i v hi
theorem CellsAre.cell {D : Nat → Prop} {w0 : World} {l : List HProp} {b off : Nat} {cs : List Value} (h : CellsAre D w0 l b off cs) {i : Nat} {v : Value} (hv : cs[i]? = some v) : CellIs D w0 l b (off + i) v := fun w H => h w H i v hv
theorem CellIs.old {D : Nat → Prop} {w0 : World} {l : List HProp} {b off : Nat} {v : Value} (h : OldCells D w0 b off [v]) : CellIs D w0 l b off v := (CellsAre.old (l := l) h).cell (i := 0) rfl

/-! ### Operations that leave the world -/
section
variable {P : Program} {D : Nat → Prop} {w0 : World} {env : Slots} {l : List HProp} {dst : Option Tmp} {ty : TypeId} {pos : String} {after : Array Edge} {g : Option (Nat × Bool)}
theorem ov_move {x : Operand} {v : Value} (hx : evalO env x = some v) : OpVal P D w0 env l ⟨dst, .move x, ty, pos, after, g⟩ v := .mk fun n a w E _ => by
  simp [execOp, E.eval hx]
theorem ov_assign {x : Operand} {v : Value} (hx : evalO env x = some v) : OpVal P D w0 env l ⟨dst, .assign x, ty, pos, after, g⟩ v := .mk fun n a w E _ => by
  simp [execOp, E.eval hx]
theorem ov_pickT {c x y : Operand} {v : Value} (hc : evalO env c = some (.bool true)) (hx : evalO env x = some v) : OpVal P D w0 env l ⟨dst, .pick c x y, ty, pos, after, g⟩ v := .mk fun n a w E _ => by
  simp [execOp, E.eval hc, E.eval hx, asBool]
theorem ov_pickF {c x y : Operand} {v : Value} (hc : evalO env c = some (.bool false)) (hy : evalO env y = some v) : OpVal P D w0 env l ⟨dst, .pick c x y, ty, pos, after, g⟩ v := .mk fun n a w E _ => by
  simp [execOp, E.eval hc, E.eval hy, asBool]
theorem ov_nil {x : Operand} {a0 : Addr} (hx : evalO env x = some (.pointer (some a0))) : OpVal P D w0 env l ⟨dst, .nilCheck x, ty, pos, after, g⟩ (.pointer (some a0)) := .mk fun n a w E _ => by
  simp [execOp, E.eval hx]
theorem run_fieldAt' {s f o fz : Nat} {ft : TypeId} (h : fieldAt P s f = some (o, ft, fz)) (b off : Nat) (w : World) : (Instr.fieldAt s (.pointer (some ⟨b, off, none⟩)) f).run P w = .ok (.pointer (some ⟨b, off + o, none⟩)) w := by
  unfold fieldAt at h
  split at h
  · rename_i fs hu
    split at h
    · rename_i fl hf
      split at h
      · rename_i i hi
        split at h
        · cases h
        · rename_i hz
          simp only [Option.some.injEq, Prod.mk.injEq] at h
          obtain ⟨rfl, rfl, rfl⟩ := h
          simp [Instr.fieldAt, run_underlying hu, hf, Instr.sureAddr, fieldPlace, Go.sizeOf, typeInfo, hi, hz, add_lit']
      · cases h
    · cases h
  · cases h
theorem ov_fieldA {s f o fz : Nat} {ft : TypeId} [h : TyF P s f o ft fz] {x : Operand} {b off : Nat} (hx : evalO env x = some (.pointer (some ⟨b, off, none⟩))) : OpVal P D w0 env l ⟨dst, .fieldAddr s x f, ty, pos, after, g⟩ (.pointer (some ⟨b, off + o, none⟩)) := .mk fun n a w E _ => by
  simp [execOp, E.eval hx, run_fieldAt' h.out b off w]
/-- A field of a struct's value: one cell. -/
theorem ov_field {s f o fz : Nat} {ft : TypeId} [h : TyF P s f o ft fz] [h1 : TyOne P ft] {x : Operand} {cs : Array Value} {v : Value} (hx : evalO env x = some (.agg cs)) (hv : cs[o]? = some v) : OpVal P D w0 env l ⟨dst, .field s x f, ty, pos, after, g⟩ v := .mk fun n a w E _ => by
  have h := h.out
  unfold fieldAt at h
  split at h
  · rename_i fs hu
    split at h
    · rename_i fl hf
      split at h
      · rename_i i hi
        split at h
        · cases h
        · rename_i hz
          simp only [Option.some.injEq, Prod.mk.injEq] at h
          obtain ⟨rfl, rfl, rfl⟩ := h
          simp [execOp, E.eval hx, Instr.field, run_underlying hu, hf, asAgg, part, run_one (P := P) (t := fl.type), hv]
      · cases h
    · cases h
  · cases h
theorem ov_fieldG {s f o fz : Nat} {ft : TypeId} [h : TyF P s f o ft fz] [h1 : TyAgg P ft] {x : Operand} {cs : Array Value} (hx : evalO env x = some (.agg cs)) : OpVal P D w0 env l ⟨dst, .field s x f, ty, pos, after, g⟩ (.agg (cs.extract o (o + fz))) := .mk fun n a w E _ => by
  have h := h.out
  unfold fieldAt at h
  split at h
  · rename_i fs hu
    split at h
    · rename_i fl hf
      split at h
      · rename_i i hi
        split at h
        · cases h
        · rename_i hz
          simp only [Option.some.injEq, Prod.mk.injEq] at h
          obtain ⟨rfl, rfl, rfl⟩ := h
          simp [execOp, E.eval hx, Instr.field, run_underlying hu, hf, asAgg, part, run_agg (P := P) (t := fl.type), Go.sizeOf, typeInfo, hi]
      · cases h
    · cases h
  · cases h
/-- An element's address: of a slice. -/
theorem ov_idxA {t e : TypeId} {s bb : Nat} {z : List Value} [h : TySlice P t e] [hs : TyI P e s bb z] {x i : Operand} {b off n cap : Nat} {k : IntKind} {j : Int} (hx : evalO env x = some (.slice (some ⟨b, off, none⟩) n cap)) (hi : evalO env i = some (.int k j)) (j' : Nat) (hj : j = (j' : Int)) (hn : j' < n) :
    OpVal P D w0 env l ⟨dst, .indexAddr t x i, ty, pos, after, g⟩ (.pointer (some ⟨b, off + j' * s, none⟩)) := .mk fun n' a w E _ => by
  subst hj
  have : (0 : Int) ≤ (j' : Int) ∧ (j' : Int) < (n : Int) := by omega
  simp [execOp, E.eval hx, E.eval hi, Instr.indexAt, run_underlying h.out, asIntOf, hn, run_sizeOf (P := P) (t := e), add_lit']
/-- Of an array. -/
theorem ov_idxP {t e : TypeId} {n s bb : Nat} {z : List Value} [h : TyArr P t n e] [hs : TyI P e s bb z] {x i : Operand} {b off : Nat} {k : IntKind} {j : Int} (hx : evalO env x = some (.pointer (some ⟨b, off, none⟩))) (hi : evalO env i = some (.int k j)) (j' : Nat) (hj : j = (j' : Int)) (hn : j' < n) :
    OpVal P D w0 env l ⟨dst, .indexAddr t x i, ty, pos, after, g⟩ (.pointer (some ⟨b, off + j' * s, none⟩)) := .mk fun n' a w E _ => by
  subst hj
  simp [execOp, E.eval hx, E.eval hi, Instr.indexAt, run_underlying h.out, Instr.sureAddr, asIntOf, hn, run_sizeOf (P := P) (t := e), add_lit']
/-- An element of an array's value, of one cell. -/
theorem ov_idx {t e : TypeId} {n s bb : Nat} {z : List Value} [h : TyArr P t n e] [hs : TyI P e s bb z] [h1 : TyOne P e] {x i : Operand} {cs : Array Value} {k : IntKind} {j : Int} {v : Value} (hx : evalO env x = some (.agg cs)) (hi : evalO env i = some (.int k j)) (j' : Nat) (hj : j = (j' : Int)) (hn : j' < n) (hv : cs[j' * s]? = some v) :
    OpVal P D w0 env l ⟨dst, .index t x i, ty, pos, after, g⟩ v := .mk fun n' a w E _ => by
  subst hj
  simp [execOp, E.eval hx, E.eval hi, Instr.index, run_underlying h.out, asIntOf, hn, run_sizeOf (P := P) (t := e), part, run_one (P := P) (t := e), hv]
theorem run_loadVar_one {t : TypeId} [h : TyOne P t] {b off : Nat} {v : Value} {w : World} (hc : w.cell? ⟨b, off, none⟩ = some v) : (loadVar t ⟨b, off, none⟩).run P w = .ok v w := by
  simp [loadVar, run_one (P := P) (t := t), hc]
theorem run_loadVar_agg {t : TypeId} {s bb : Nat} {z : List Value} [h : TyAgg P t] [hs : TyI P t s bb z] {b off : Nat} {cs : List Value} {w : World} (hl : cs.length = s) (hc : ∀ i v, cs[i]? = some v → w.cell? ⟨b, off + i, none⟩ = some v) : (loadVar t ⟨b, off, none⟩).run P w = .ok (.agg cs.toArray) w := by
  have h2 := run_loadCells_list (P := P) w ⟨b, off, none⟩ cs (fun j v hj => by rw [add_lit']; exact hc j v hj)
  rw [hl] at h2
  simp [loadVar, run_agg (P := P) (t := t), run_sizeOf (P := P) (t := t), h2]
theorem ov_load {t : TypeId} [h : TyOne P t] {x : Operand} {b off : Nat} {v : Value} (hx : evalO env x = some (.pointer (some ⟨b, off, none⟩))) (hc : CellIs D w0 l b off v) : OpVal P D w0 env l ⟨dst, .load t x, ty, pos, after, g⟩ v := .mk fun n a w E H => by
  simp [execOp, E.eval hx, Instr.loadAt, Instr.sureAddr, run_loadVar_one (P := P) (t := t) (hc w H)]
theorem ov_loadG {t : TypeId} {s bb : Nat} {z : List Value} [h : TyAgg P t] [hs : TyI P t s bb z] {x : Operand} {b off : Nat} {cs : List Value} (hx : evalO env x = some (.pointer (some ⟨b, off, none⟩))) (hl : cs.length = s) (hc : CellsAre D w0 l b off cs) : OpVal P D w0 env l ⟨dst, .load t x, ty, pos, after, g⟩ (.agg cs.toArray) := .mk fun n a w E H => by
  simp [execOp, E.eval hx, Instr.loadAt, Instr.sureAddr, run_loadVar_agg (P := P) (t := t) hl (hc w H)]
theorem ov_extract {x : Operand} {i : Nat} {vs : Array Value} {v : Value} (hx : evalO env x = some (.tuple vs)) (hv : vs[i]? = some v) : OpVal P D w0 env l ⟨dst, .extract x i, ty, pos, after, g⟩ v := .mk fun n a w E H => by
  simp [execOp, E.eval hx, Instr.extract, hv]
theorem ov_func {fn : Fn} {first captured : List Operand} {fs cs : List Value} (hf : evalL env first = some fs) (hc : evalL env captured = some cs) : OpVal P D w0 env l ⟨dst, .makeFunc fn first.toArray captured.toArray, ty, pos, after, g⟩ (.func fn fs.toArray cs.toArray) := .mk fun n a w E H => by
  simp [execOp, Instr.makeFunc, E.evals hf, E.evals hc]

/-! arithmetic -/
section
variable {x y : Operand} {t t' : TypeId} {k k' : IntKind} {i j m : Int}
theorem ov_add (hx : evalO env x = some (.int k i)) (hy : evalO env y = some (.int k j)) (hw : k.wrap (i + j) = m) : OpVal P D w0 env l ⟨dst, .binOp .add t x y t', ty, pos, after, g⟩ (.int k m) := .mk fun n a w E H => by
  subst hw; simp [execOp, E.eval hx, E.eval hy, eqGuard_add, binOp_add, Op.intArith]
theorem ov_sub (hx : evalO env x = some (.int k i)) (hy : evalO env y = some (.int k j)) (hw : k.wrap (i - j) = m) : OpVal P D w0 env l ⟨dst, .binOp .sub t x y t', ty, pos, after, g⟩ (.int k m) := .mk fun n a w E H => by
  subst hw; simp [execOp, E.eval hx, E.eval hy, eqGuard_sub, binOp_sub, Op.intArith]
theorem ov_mul (hx : evalO env x = some (.int k i)) (hy : evalO env y = some (.int k j)) (hw : k.wrap (i * j) = m) : OpVal P D w0 env l ⟨dst, .binOp .mul t x y t', ty, pos, after, g⟩ (.int k m) := .mk fun n a w E H => by
  subst hw; simp [execOp, E.eval hx, E.eval hy, eqGuard_mul, binOp_mul, Op.intArith]
theorem ov_quo (hx : evalO env x = some (.int k i)) (hy : evalO env y = some (.int k j)) (h0 : j ≠ 0) (hw : k.wrap (i.tdiv j) = m) : OpVal P D w0 env l ⟨dst, .binOp .quo t x y t', ty, pos, after, g⟩ (.int k m) := .mk fun n a w E H => by
  subst hw; simp [execOp, E.eval hx, E.eval hy, eqGuard_quo, binOp_quo, Op.intDiv, h0]
theorem ov_rem (hx : evalO env x = some (.int k i)) (hy : evalO env y = some (.int k j)) (h0 : j ≠ 0) (hw : i.tmod j = m) : OpVal P D w0 env l ⟨dst, .binOp .rem t x y t', ty, pos, after, g⟩ (.int k m) := .mk fun n a w E H => by
  subst hw; simp [execOp, E.eval hx, E.eval hy, eqGuard_rem, binOp_rem, Op.intDiv, h0]
theorem ov_shl (hx : evalO env x = some (.int k i)) (hy : evalO env y = some (.int k' j)) (h0 : 0 ≤ j) (hw : k.wrap (i * 2 ^ (min j.toNat k.bits)) = m) : OpVal P D w0 env l ⟨dst, .binOp .shl t x y t', ty, pos, after, g⟩ (.int k m) := .mk fun n a w E H => by
  subst hw; simp [execOp, E.eval hx, E.eval hy, eqGuard_shl, binOp_shl, Op.shift, show ¬ j < 0 from by omega]
theorem ov_shr (hx : evalO env x = some (.int k i)) (hy : evalO env y = some (.int k' j)) (h0 : 0 ≤ j) (hw : i.fdiv (2 ^ (min j.toNat k.bits)) = m) : OpVal P D w0 env l ⟨dst, .binOp .shr t x y t', ty, pos, after, g⟩ (.int k m) := .mk fun n a w E H => by
  subst hw; simp [execOp, E.eval hx, E.eval hy, eqGuard_shr, binOp_shr, Op.shift, show ¬ j < 0 from by omega]
theorem ov_and (hx : evalO env x = some (.int k i)) (hy : evalO env y = some (.int k j)) (hw : k.wrap (BitVec.ofInt k.bits i &&& BitVec.ofInt k.bits j).toNat = m) : OpVal P D w0 env l ⟨dst, .binOp .and t x y t', ty, pos, after, g⟩ (.int k m) := .mk fun n a w E H => by
  subst hw; simp [execOp, E.eval hx, E.eval hy, eqGuard_and, binOp_and, Op.intBits]
theorem ov_or (hx : evalO env x = some (.int k i)) (hy : evalO env y = some (.int k j)) (hw : k.wrap (BitVec.ofInt k.bits i ||| BitVec.ofInt k.bits j).toNat = m) : OpVal P D w0 env l ⟨dst, .binOp .or t x y t', ty, pos, after, g⟩ (.int k m) := .mk fun n a w E H => by
  subst hw; simp [execOp, E.eval hx, E.eval hy, eqGuard_or, binOp_or, Op.intBits]
theorem ov_xor (hx : evalO env x = some (.int k i)) (hy : evalO env y = some (.int k j)) (hw : k.wrap (BitVec.ofInt k.bits i ^^^ BitVec.ofInt k.bits j).toNat = m) : OpVal P D w0 env l ⟨dst, .binOp .xor t x y t', ty, pos, after, g⟩ (.int k m) := .mk fun n a w E H => by
  subst hw; simp [execOp, E.eval hx, E.eval hy, eqGuard_xor, binOp_xor, Op.intBits]
theorem ov_andNot (hx : evalO env x = some (.int k i)) (hy : evalO env y = some (.int k j)) (hw : k.wrap (BitVec.ofInt k.bits i &&& ~~~ BitVec.ofInt k.bits j).toNat = m) : OpVal P D w0 env l ⟨dst, .binOp .andNot t x y t', ty, pos, after, g⟩ (.int k m) := .mk fun n a w E H => by
  subst hw; simp [execOp, E.eval hx, E.eval hy, eqGuard_andNot, binOp_andNot, Op.intBits]
theorem ov_lss (hx : evalO env x = some (.int k i)) (hy : evalO env y = some (.int k j)) : OpVal P D w0 env l ⟨dst, .binOp .lss t x y t', ty, pos, after, g⟩ (.bool (decide (i < j))) := .mk fun n a w E H => by
  simp [execOp, E.eval hx, E.eval hy, eqGuard_lss, binOp_lss]
theorem ov_leq (hx : evalO env x = some (.int k i)) (hy : evalO env y = some (.int k j)) : OpVal P D w0 env l ⟨dst, .binOp .leq t x y t', ty, pos, after, g⟩ (.bool (decide (i ≤ j))) := .mk fun n a w E H => by
  simp [execOp, E.eval hx, E.eval hy, eqGuard_leq, binOp_leq]
theorem ov_gtr (hx : evalO env x = some (.int k i)) (hy : evalO env y = some (.int k j)) : OpVal P D w0 env l ⟨dst, .binOp .gtr t x y t', ty, pos, after, g⟩ (.bool (decide (j < i))) := .mk fun n a w E H => by
  simp [execOp, E.eval hx, E.eval hy, eqGuard_gtr, binOp_gtr]
theorem ov_geq (hx : evalO env x = some (.int k i)) (hy : evalO env y = some (.int k j)) : OpVal P D w0 env l ⟨dst, .binOp .geq t x y t', ty, pos, after, g⟩ (.bool (decide (j ≤ i))) := .mk fun n a w E H => by
  simp [execOp, E.eval hx, E.eval hy, eqGuard_geq, binOp_geq]
theorem ov_eql (hx : evalO env x = some (.int k i)) (hy : evalO env y = some (.int k j)) : OpVal P D w0 env l ⟨dst, .binOp .eql t x y t', ty, pos, after, g⟩ (.bool (decide (i = j))) := .mk fun n a w E H => by
  simp [execOp, E.eval hx, E.eval hy, eqGuard_at_int, binOp_eql]; exact beq_dec i j
theorem ov_neq (hx : evalO env x = some (.int k i)) (hy : evalO env y = some (.int k j)) : OpVal P D w0 env l ⟨dst, .binOp .neq t x y t', ty, pos, after, g⟩ (.bool (decide (¬ i = j))) := .mk fun n a w E H => by
  simp [execOp, E.eval hx, E.eval hy, eqGuard_at_int, binOp_neq, bne]; exact beq_dec i j
end
/-! bools, strings, pointers and slices against nil -/
section
variable {x y : Operand} {t t' : TypeId}
theorem ov_eqlB [h : TyBool P t] {b c : Bool} (hx : evalO env x = some (.bool b)) (hy : evalO env y = some (.bool c)) : OpVal P D w0 env l ⟨dst, .binOp .eql t x y t', ty, pos, after, g⟩ (.bool (decide (b = c))) := .mk fun n a w E H => by
  simp [execOp, E.eval hx, E.eval hy, eqGuard_at_bool, run_eql_bool w t b c h.out]; exact beq_dec b c
theorem ov_neqB [h : TyBool P t] {b c : Bool} (hx : evalO env x = some (.bool b)) (hy : evalO env y = some (.bool c)) : OpVal P D w0 env l ⟨dst, .binOp .neq t x y t', ty, pos, after, g⟩ (.bool (decide (¬ b = c))) := .mk fun n a w E H => by
  simp [execOp, E.eval hx, E.eval hy, eqGuard_at_bool, run_neq_bool w t b c h.out]; exact beq_dec b c
theorem ov_eqlS {s u : ByteArray} (hx : evalO env x = some (.string s)) (hy : evalO env y = some (.string u)) : OpVal P D w0 env l ⟨dst, .binOp .eql t x y t', ty, pos, after, g⟩ (.bool (decide (s.toList = u.toList))) := .mk fun n a w E H => by
  simp [execOp, E.eval hx, E.eval hy, eqGuard_at_string, binOp, Op.stringOp]; exact beq_dec' s.toList u.toList
theorem ov_neqS {s u : ByteArray} (hx : evalO env x = some (.string s)) (hy : evalO env y = some (.string u)) : OpVal P D w0 env l ⟨dst, .binOp .neq t x y t', ty, pos, after, g⟩ (.bool (decide (¬ s.toList = u.toList))) := .mk fun n a w E H => by
  simp [execOp, E.eval hx, E.eval hy, eqGuard_at_string, binOp, Op.stringOp, bne]; exact beq_dec' s.toList u.toList
theorem run_equalIn_ptr_nil (d : Nat) {e : TypeId} [h : TyPtr P t e] (a : Option Addr) (w : World) : (Op.equalIn (d + 1) t (.pointer a) (.pointer none)).run P w = .ok a.isNone w := by
  cases a <;> simp [Op.equalIn, run_underlying h.out]
theorem run_equalIn_nil_ptr (d : Nat) {e : TypeId} [h : TyPtr P t e] (a : Option Addr) (w : World) : (Op.equalIn (d + 1) t (.pointer none) (.pointer a)).run P w = .ok a.isNone w := by
  cases a <;> simp [Op.equalIn, run_underlying h.out]
theorem run_equal_ptr_nil {e : TypeId} [h : TyPtr P t e] (a : Option Addr) (w : World) : (Op.equal t (.pointer a) (.pointer none)).run P w = .ok a.isNone w := run_equalIn_ptr_nil 9999 a w
theorem run_equal_nil_ptr {e : TypeId} [h : TyPtr P t e] (a : Option Addr) (w : World) : (Op.equal t (.pointer none) (.pointer a)).run P w = .ok a.isNone w := run_equalIn_nil_ptr 9999 a w
theorem ov_eqlP {e : TypeId} [h : TyPtr P t e] {p : Option Addr} (hx : evalO env x = some (.pointer p)) (hy : evalO env y = some (.pointer none)) : OpVal P D w0 env l ⟨dst, .binOp .eql t x y t', ty, pos, after, g⟩ (.bool p.isNone) := .mk fun n a w E H => by
  simp [execOp, E.eval hx, E.eval hy, eqGuard_at_pointer, binOp, run_equal_ptr_nil (P := P) (t := t)]
theorem ov_neqP {e : TypeId} [h : TyPtr P t e] {p : Option Addr} (hx : evalO env x = some (.pointer p)) (hy : evalO env y = some (.pointer none)) : OpVal P D w0 env l ⟨dst, .binOp .neq t x y t', ty, pos, after, g⟩ (.bool (!p.isNone)) := .mk fun n a w E H => by
  simp [execOp, E.eval hx, E.eval hy, eqGuard_at_pointer, binOp, run_equal_ptr_nil (P := P) (t := t)]
theorem ov_not {b : Bool} (hx : evalO env x = some (.bool b)) : OpVal P D w0 env l ⟨dst, .unOp .not t x, ty, pos, after, g⟩ (.bool (!b)) := .mk fun n a w E H => by
  simp [execOp, E.eval hx, Op.unary]
theorem ov_notd {p : Prop} [Decidable p] (hx : evalO env x = some (.bool (decide p))) : OpVal P D w0 env l ⟨dst, .unOp .not t x, ty, pos, after, g⟩ (.bool (decide (¬ p))) := .mk fun n a w E H => by
  simp [execOp, E.eval hx, Op.unary]
theorem ov_neg {k : IntKind} {i m : Int} (hx : evalO env x = some (.int k i)) (hw : k.wrap (0 - i) = m) : OpVal P D w0 env l ⟨dst, .unOp .neg t x, ty, pos, after, g⟩ (.int k m) := .mk fun n a w E H => by
  subst hw; simp [execOp, E.eval hx, Op.unary, Op.intArith]
/-- A conversion between kinds of numbers. -/
theorem ov_conv {src dt : TypeId} {d : TypeDesc} {k k' : IntKind} [h : TyU P src d] [h' : TyInt P dt k'] {i m : Int} (hx : evalO env x = some (.int k i)) (hw : k'.wrap i = m) : OpVal P D w0 env l ⟨dst, .convert src dt x, ty, pos, after, g⟩ (.int k' m) := .mk fun n a w E H => by
  subst hw; simp [execOp, E.eval hx, convert, run_underlying h.out, run_underlying h'.out, Conv.intToInt]
/-- len, min, max, cap -/
theorem ov_len {t e : TypeId} [h : TySlice P t e] {b : Option Addr} {n cap : Nat} (hx : evalO env x = some (.slice b n cap)) : OpVal P D w0 env l ⟨dst, .call ⟨.builtin .len, #[x], #[t]⟩, ty, pos, after, g⟩ (.int .i64 n) := .mk fun n' a w E H => by
  simp [execOp, resolve, invoke, builtin, E.eval hx, Builtin.len_, run_underlying h.out, goInt]
theorem ov_lenS {t : TypeId} [h : TyStr P t] {s : ByteArray} (hx : evalO env x = some (.string s)) : OpVal P D w0 env l ⟨dst, .call ⟨.builtin .len, #[x], #[t]⟩, ty, pos, after, g⟩ (.int .i64 s.size) := .mk fun n' a w E H => by
  simp [execOp, resolve, invoke, builtin, E.eval hx, Builtin.len_, run_underlying h.out, goInt]
theorem ov_min {ts : Array TypeId} {k : IntKind} {i j m : Int} (hx : evalO env x = some (.int k i)) (hy : evalO env y = some (.int k j)) (hm : (if j < i then j else i) = m) : OpVal P D w0 env l ⟨dst, .call ⟨.builtin .min, #[x, y], ts⟩, ty, pos, after, g⟩ (.int k m) := .mk fun n' a w E H => by
  subst hm; simp [execOp, resolve, invoke, builtin, E.eval hx, E.eval hy, run_min_int2]
theorem ov_max {ts : Array TypeId} {k : IntKind} {i j m : Int} (hx : evalO env x = some (.int k i)) (hy : evalO env y = some (.int k j)) (hm : (if j > i then j else i) = m) : OpVal P D w0 env l ⟨dst, .call ⟨.builtin .max, #[x, y], ts⟩, ty, pos, after, g⟩ (.int k m) := .mk fun n' a w E H => by
  subst hm; simp [execOp, resolve, invoke, builtin, E.eval hx, E.eval hy, run_max_int2]
end
end
end Slk
