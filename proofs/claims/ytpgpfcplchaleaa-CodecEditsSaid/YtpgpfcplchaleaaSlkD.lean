import Derived.Test.YtpgpfcplchaleaaSlkC
import Derived.Laws.IdiomCopy
import Derived.Laws.BytesArg
import Derived.Laws.Append
import Derived.Deep.OwnRows
set_option linter.unusedVariables false
set_option linter.unusedSimpArgs false
namespace Slk
open Go

/-! ### A stretch of cells is written -/
def setSeg : List Value → Nat → List Value → List Value
  | cs, _, [] => cs
  | cs, o, v :: r => setSeg (cs.set o v) (o + 1) r
theorem setSeg_length : ∀ (vs : List Value) (cs : List Value) (o : Nat), (setSeg cs o vs).length = cs.length
  | [], _, _ => rfl
  | v :: r, cs, o => by rw [setSeg, setSeg_length r]; simp
theorem setSeg_eq : ∀ (vs : List Value) (cs : List Value) (o : Nat), o + vs.length ≤ cs.length → setSeg cs o vs = cs.take o ++ vs ++ cs.drop (o + vs.length)
  | [], cs, o, _ => by simp [setSeg]
  | v :: r, cs, o, h => by
    simp only [List.length_cons] at h
    rw [setSeg, setSeg_eq r _ _ (by simp; omega)]
    rw [List.take_set, List.drop_set_of_lt (by omega)]
    have h1 : o < cs.length := by omega
    rw [List.take_succ_eq_append_getElem h1]
    rw [List.set_append_right _ _ (by simp; omega)]
    have h2 : o - (cs.take o).length = 0 := by simp; omega
    rw [h2]
    simp [List.append_assoc]
    congr 1
    omega
theorem setSeg_mid (a b c vs : List Value) (o : Nat) (ho : o = a.length) (h : vs.length = b.length) : setSeg (a ++ b ++ c) o vs = a ++ vs ++ c := by
  subst ho
  rw [setSeg_eq _ _ _ (by simp; omega)]
  simp [List.append_assoc, List.drop_append, h]
theorem Own.setCells {D : Nat → Prop} {w0 : World} {l : List HProp} {b : Nat} {t : TypeId} : ∀ (vs : List Value) (o : Nat) {w : World} {cs : List Value}, Own D w0 w (blk b t cs :: l) → Own D w0 (w.setCells b o vs) (blk b t (setSeg cs o vs) :: l)
  | [], _, _, _, H => H
  | v :: r, o, w, cs, H => Own.setCells r (o + 1) (H.setCell o v)
theorem run_store_blk {P : Program} {D : Nat → Prop} {w0 w : World} {l : List HProp} {b : Nat} {t : TypeId} {cs : List Value} (H : Own D w0 w (blk b t cs :: l)) (o : Nat) (vs : List Value) (hl : o + vs.length ≤ cs.length) (h1 : ∀ v ∈ vs, v.oneCell' = true) :
    (storeCells ⟨b, o, none⟩ vs).run P w = .ok () (w.setCells b o vs) := by
  have := run_storeCells_cells (P := P) b o vs 0 w (fun j hj => by rw [Nat.add_zero, H.cell]; simp; omega) (fun j hj => by rw [Nat.add_zero]; exact H.frozen _ (by omega)) h1
  simpa using this

/-! ### Slices by their address -/
def ab (A : Option Addr) : Nat := (A.map (·.block)).getD 0
def ao (A : Option Addr) : Nat := (A.map (·.off)).getD 0
@[simp] theorem ab_some (b o : Nat) (s : Option Nat) : ab (some ⟨b, o, s⟩) = b := rfl
@[simp] theorem ao_some (b o : Nat) (s : Option Nat) : ao (some ⟨b, o, s⟩) = o := rfl
/-- Is it an address of a cell? -/
def isA (A : Option Addr) : Prop := A = some ⟨ab A, ao A, none⟩
theorem isA_some (b o : Nat) : isA (some ⟨b, o, none⟩) := rfl
/-- Cells that can be read. -/
def rdA (A : Option Addr) (cs : List Value) : HProp := fun h => cs = [] ∨ ∃ b off t cs0 fr, A = some ⟨b, off, none⟩ ∧ h b = some (.cells cs0 t fr) ∧ ∀ i v, cs[i]? = some v → cs0[off + i]? = some v
/-- A slice of one's own: n elements of sz cells each, of a capacity. -/
def row (A : Option Addr) (t : TypeId) (sz n cap : Nat) (cs : List Value) : HProp := fun h => cs.length = n * sz ∧ n ≤ cap ∧ cap ≤ 9223372036854775807 ∧ ((A = none ∧ cap = 0) ∨ ∃ b pre rest, A = some ⟨b, pre.length, none⟩ ∧ (cap - n) * sz ≤ rest.length ∧ blk b t (pre ++ cs ++ rest) h)
theorem row_nil (t : TypeId) (sz : Nat) : ∀ h, row none t sz 0 0 [] h := fun h => ⟨by simp, Nat.le_refl _, Nat.zero_le _, .inl ⟨rfl, rfl⟩⟩
theorem row_rd {A : Option Addr} {t : TypeId} {sz n cap : Nat} {cs : List Value} : Imp (row A t sz n cap cs) (rdA A cs) := by
  rintro h ⟨h1, h2, _, ⟨rfl, h3⟩ | ⟨b, pre, rest, rfl, h3, fr, h4, _⟩⟩
  · left
    have : n = 0 := by omega
    subst this
    exact List.eq_nil_of_length_eq_zero (by simpa using h1)
  · refine .inr ⟨b, pre.length, t, _, fr, rfl, h4, fun i v hv => ?_⟩
    have hi : i < cs.length := by
      rcases Nat.lt_or_ge i cs.length with h | h
      · exact h
      · simp [List.getElem?_eq_none h] at hv
    simp only [List.getElem?_toArray]
    rw [List.append_assoc, List.getElem?_append_right (by omega), Nat.add_sub_cancel_left, List.getElem?_append_left hi]
    exact hv
/-- A block that is a row. -/
theorem row_of_blk {b : Nat} {t : TypeId} {sz n : Nat} {cs : List Value} (h : cs.length = n * sz) (hn : n ≤ 9223372036854775807) : Imp (blk b t cs) (row (some ⟨b, 0, none⟩) t sz n n cs) := by
  rintro h' hb
  exact ⟨h, Nat.le_refl _, hn, .inr ⟨b, [], [], rfl, by simp, by simpa using hb⟩⟩

/-- What a slice's cells are, of old memory. -/
structure OldS (D : Nat → Prop) (w0 : World) (A : Option Addr) (cs : List Value) : Prop where
  isA : cs ≠ [] → isA A
  cells : cs ≠ [] → OldCells D w0 (ab A) (ao A) cs
theorem OldS.of_old {D : Nat → Prop} {w0 : World} {A : Option Addr} {cs : List Value} (h : Old D w0 (rdA A cs)) : OldS D w0 A cs := by
  obtain ⟨x, hx, h | ⟨b, off, t, cs0, fr, rfl, h2, h3⟩⟩ := h
  · exact ⟨fun k => absurd h k, fun k => absurd h k⟩
  · obtain ⟨k1, k2⟩ := hx b _ h2
    refine ⟨fun _ => rfl, fun _ => ⟨k2, (Array.getElem?_eq_some_iff.1 k1).1, fun i v hv => ?_⟩⟩
    simp only [ab_some, ao_some, World.cell?, k1, Option.isSome_none, Bool.false_eq_true, if_false]
    exact h3 i v hv
/-- What is copied out of a slice. -/
structure SrcIs (D : Nat → Prop) (w0 : World) (l : List HProp) (A : Option Addr) (cs : List Value) : Prop where
  isA : cs ≠ [] → isA A
  cells : cs ≠ [] → CellsAre D w0 l (ab A) (ao A) cs
theorem SrcIs.old {D : Nat → Prop} {w0 : World} {l : List HProp} {A : Option Addr} {cs : List Value} (h : OldS D w0 A cs) : SrcIs D w0 l A cs := ⟨h.isA, fun k => CellsAre.old (h.cells k)⟩
theorem SrcIs.nil {D : Nat → Prop} {w0 : World} {l : List HProp} {A : Option Addr} : SrcIs D w0 l A [] := ⟨fun k => absurd rfl k, fun k => absurd rfl k⟩
theorem Own.rd {D : Nat → Prop} {w0 w : World} {l : List HProp} {A : Option Addr} {cs : List Value} (H : Own D w0 w (rdA A cs :: l)) (hne : cs ≠ []) : Slk.isA A ∧ ∀ i v, cs[i]? = some v → w.cell? ⟨ab A, ao A + i, none⟩ = some v := by
  obtain ⟨h, a, h1, h2, p, _, _, s1, _⟩ := H.own
  rcases p with p | ⟨b, off, t, cs0, fr, rfl, p2, p3⟩
  · exact absurd p hne
  · refine ⟨rfl, fun i v hv => ?_⟩
    simp only [ab_some, ao_some, World.cell?, (a b _ (s1 _ _ p2)).1, Option.isSome_none, Bool.false_eq_true, if_false]
    exact p3 i v hv
theorem SrcIs.ofImp {D : Nat → Prop} {w0 : World} {l r : List HProp} {X : HProp} {A : Option Addr} {cs : List Value} (hp : l.Perm (X :: r)) (hi : Imp X (rdA A cs)) (hA : cs ≠ [] → Slk.isA A) : SrcIs D w0 l A cs :=
  ⟨hA, fun k w H => ((H.ent (Ent.perm hp)).ent (Ent.head hi)).rd k |>.2⟩
theorem SrcIs.row {D : Nat → Prop} {w0 : World} {l r : List HProp} {A : Option Addr} {t : TypeId} {sz n cap : Nat} {cs : List Value} [h : Pick l (row A t sz n cap cs) r] (hA : cs ≠ [] → Slk.isA A) : SrcIs D w0 l A cs := SrcIs.ofImp h.out row_rd hA
theorem SrcIs.blk {D : Nat → Prop} {w0 : World} {l : List HProp} {b : Nat} {t : TypeId} {cs : List Value} {r : List HProp} [h : PickB l b t cs r] : SrcIs D w0 l (some ⟨b, 0, none⟩) cs := ⟨fun _ => rfl, fun _ => show CellsAre D w0 l b 0 cs from CellsAre.blk (fun i v hv => by simpa using hv)⟩
theorem SrcIs.cell {D : Nat → Prop} {w0 : World} {l : List HProp} {A : Option Addr} {cs : List Value} (h : SrcIs D w0 l A cs) {i : Nat} {v : Value} (hv : cs[i]? = some v) : CellIs D w0 l (ab A) (ao A + i) v := (h.cells (by rintro rfl; simp at hv)).cell hv

section
variable {P : Program} {Q : Post} {D : Nat → Prop} {w0 : World} {n : Nat} {env : Slots} {l : List HProp} {ops : Array Oper}
/-- What the assertions say of the numbers is known. -/
theorem HL.fact {r : List Oper} {p : Prop} (h : ∀ w, Own D w0 w l → p) (k : p → HL P ops Q D w0 n env l r) : HL P ops Q D w0 n env l r := .mk fun a w S => (k (h w S.own)).run a w S
theorem HC.fact {c : Code} {p : Prop} (h : ∀ w, Own D w0 w l → p) (k : p → HC P Q D w0 n env l c) : HC P Q D w0 n env l c := .mk fun a w S => (k (h w S.own)).run a w S
theorem HX.fact {e : Exit} {p : Prop} (h : ∀ w, Own D w0 w l → p) (k : p → HX Q e D w0 n env l) : HX Q e D w0 n env l := .mk fun a w S => (k (h w S.own)).run a w S
theorem Own.row_fact {A : Option Addr} {t : TypeId} {sz m cap : Nat} {cs : List Value} {r : List HProp} [h : Pick l (row A t sz m cap cs) r] {w : World} (H : Own D w0 w l) : cs.length = m * sz ∧ m ≤ cap ∧ cap ≤ 9223372036854775807 ∧ (cs ≠ [] → Slk.isA A) := by
  obtain ⟨x, a, h1, h2, p, _⟩ := (H.ent (Ent.perm h.out)).own
  refine ⟨p.1, p.2.1, p.2.2.1, fun hne => ?_⟩
  rcases row_rd _ p with e | ⟨b, off, _, _, _, rfl, _⟩
  · exact absurd e hne
  · rfl
end

section
variable {P : Program} {D : Nat → Prop} {w0 : World} {env : Slots} {l : List HProp} {dst : Option Tmp} {ty : TypeId} {pos : String} {after : Array Edge} {g : Option (Nat × Bool)}
/-- An element's address, the slice given by its address. -/
theorem ov_idxS {t e : TypeId} {s bb : Nat} {z : List Value} [h : TySlice P t e] [hs : TyI P e s bb z] {x i : Operand} {A : Option Addr} {n cap : Nat} {k : IntKind} {j : Int} (hx : evalO env x = some (.slice A n cap)) (hA : isA A) (hi : evalO env i = some (.int k j)) (j' : Nat) (hj : j = (j' : Int)) (hn : j' < n) :
    OpVal P D w0 env l ⟨dst, .indexAddr t x i, ty, pos, after, g⟩ (.pointer (some ⟨ab A, ao A + j' * s, none⟩)) := by
  rw [hA] at hx
  exact ov_idxA hx hi j' hj hn
theorem run_sliceS {t e : TypeId} {s bb : Nat} {z : List Value} [h : TySlice P t e] [hs : TyI P e s bb z] (A : Option Addr) (n cap lo hi : Nat) (vl vh : Option Value) (hl : (vl = none ∧ lo = 0) ∨ ∃ k, vl = some (.int k lo)) (hh : (vh = none ∧ hi = n) ∨ ∃ k, vh = some (.int k hi)) (h1 : lo ≤ hi) (h2 : hi ≤ cap) (w : World) :
    (Instr.sliceAt t (.slice A n cap) vl vh none).run P w = .ok (.slice (if cap = lo then A else A.map (·.add (lo * s))) (hi - lo) (cap - lo)) w := by
  have a1 : (0 : Int) ≤ (lo : Int) ∧ (lo : Int) ≤ (hi : Int) := by omega
  have a2 : (0 : Int) ≤ (hi : Int) ∧ (hi : Int) ≤ (cap : Int) := by omega
  rcases hl with ⟨rfl, rfl⟩ | ⟨k, rfl⟩ <;> rcases hh with ⟨rfl, rfl⟩ | ⟨k', rfl⟩ <;>
    simp [Instr.sliceAt, run_underlying h.out, Instr.slice, Instr.sliceBounds, Instr.sliceBound, asIntOf, run_sizeOf (P := P) (t := e), h1, h2]
/-- s[lo:hi] of a slice -/
theorem ov_slice {t e : TypeId} {s bb : Nat} {z : List Value} [h : TySlice P t e] [hs : TyI P e s bb z] {x : Operand} {ol oh : Option Operand} {A : Option Addr} {n cap : Nat} (hx : evalO env x = some (.slice A n cap)) (lo hi : Nat)
    (hl : (ol = none ∧ lo = 0) ∨ ∃ o k, ol = some o ∧ evalO env o = some (.int k lo)) (hh : (oh = none ∧ hi = n) ∨ ∃ o k, oh = some o ∧ evalO env o = some (.int k hi)) (h1 : lo ≤ hi) (h2 : hi ≤ cap) :
    OpVal P D w0 env l ⟨dst, .slice t x ol oh none, ty, pos, after, g⟩ (.slice (if cap = lo then A else A.map (·.add (lo * s))) (hi - lo) (cap - lo)) := .mk fun n' a w E H => by
  have k1 : (ol.map a.eval = none ∧ lo = 0) ∨ ∃ k, ol.map a.eval = some (.int k lo) := by
    rcases hl with ⟨rfl, rfl⟩ | ⟨o, k, rfl, h⟩
    · exact .inl ⟨rfl, rfl⟩
    · exact .inr ⟨k, by simp [E.eval h]⟩
  have k2 : (oh.map a.eval = none ∧ hi = n) ∨ ∃ k, oh.map a.eval = some (.int k hi) := by
    rcases hh with ⟨rfl, rfl⟩ | ⟨o, k, rfl, h⟩
    · exact .inl ⟨rfl, rfl⟩
    · exact .inr ⟨k, by simp [E.eval h]⟩
  simp [execOp, E.eval hx, run_sliceS (P := P) (t := t) (e := e) A n cap lo hi _ _ k1 k2 h1 h2 w]
theorem run_sliceP {t e : TypeId} {m s bb : Nat} {z : List Value} [h : TyArr P t m e] [hs : TyI P e s bb z] (b off lo hi : Nat) (vl vh : Option Value) (hl : (vl = none ∧ lo = 0) ∨ ∃ k, vl = some (.int k lo)) (hh : (vh = none ∧ hi = m) ∨ ∃ k, vh = some (.int k hi)) (h1 : lo ≤ hi) (h2 : hi ≤ m) (w : World) :
    (Instr.sliceAt t (.pointer (some ⟨b, off, none⟩)) vl vh none).run P w = .ok (.slice (some (if m = lo then ⟨b, off, none⟩ else ⟨b, off + lo * s, none⟩)) (hi - lo) (m - lo)) w := by
  have a1 : (0 : Int) ≤ (lo : Int) ∧ (lo : Int) ≤ (hi : Int) := by omega
  have a2 : (0 : Int) ≤ (hi : Int) ∧ (hi : Int) ≤ (m : Int) := by omega
  rcases hl with ⟨rfl, rfl⟩ | ⟨k, rfl⟩ <;> rcases hh with ⟨rfl, rfl⟩ | ⟨k', rfl⟩ <;>
    simp [Instr.sliceAt, Instr.sureAddr, run_underlying h.out, Instr.slice, Instr.sliceBounds, Instr.sliceBound, asIntOf, run_sizeOf (P := P) (t := e), h1, h2, add_lit']
/-- s[lo:hi] of an array at an address -/
theorem ov_sliceP {t e : TypeId} {m s bb : Nat} {z : List Value} [h : TyArr P t m e] [hs : TyI P e s bb z] {x : Operand} {ol oh : Option Operand} {b off : Nat} (hx : evalO env x = some (.pointer (some ⟨b, off, none⟩))) (lo hi : Nat)
    (hl : (ol = none ∧ lo = 0) ∨ ∃ o k, ol = some o ∧ evalO env o = some (.int k lo)) (hh : (oh = none ∧ hi = m) ∨ ∃ o k, oh = some o ∧ evalO env o = some (.int k hi)) (h1 : lo ≤ hi) (h2 : hi ≤ m) (h3 : lo < m) :
    OpVal P D w0 env l ⟨dst, .slice t x ol oh none, ty, pos, after, g⟩ (.slice (some ⟨b, off + lo * s, none⟩) (hi - lo) (m - lo)) := .mk fun n' a w E H => by
  have k1 : (ol.map a.eval = none ∧ lo = 0) ∨ ∃ k, ol.map a.eval = some (.int k lo) := by
    rcases hl with ⟨rfl, rfl⟩ | ⟨o, k, rfl, h⟩
    · exact .inl ⟨rfl, rfl⟩
    · exact .inr ⟨k, by simp [E.eval h]⟩
  have k2 : (oh.map a.eval = none ∧ hi = m) ∨ ∃ k, oh.map a.eval = some (.int k hi) := by
    rcases hh with ⟨rfl, rfl⟩ | ⟨o, k, rfl, h⟩
    · exact .inl ⟨rfl, rfl⟩
    · exact .inr ⟨k, by simp [E.eval h]⟩
  have := run_sliceP (P := P) (t := t) (e := e) b off lo hi _ _ k1 k2 h1 h2 w
  rw [if_neg (by omega)] at this
  simp [execOp, E.eval hx, this]

/-! ### bytes as a string -/
def u8v (x : UInt8) : Value := .int .u8 (x.toNat : Int)
def strv (xs : List UInt8) : Value := .string ⟨xs.toArray⟩
theorem ov_string {src dt e : TypeId} [h : TySlice P src e] [he : TyInt P e .u8] [hd : TyStr P dt] {x : Operand} {A : Option Addr} {xs : List UInt8} {cap : Nat} (hx : evalO env x = some (.slice A xs.length cap)) (hs : SrcIs D w0 l A (xs.map u8v)) :
    OpVal P D w0 env l ⟨dst, .convert src dt x, ty, pos, after, g⟩ (strv xs) := .mk fun n' a w E H => by
  have hh := run_convert_bytes_string (P := P) w src dt e A xs.length cap h.out he.out hd.out
  have hrun : (convert src dt (.slice A xs.length cap)).run P w = .ok (strv xs) w := by
    cases xs with
    | nil =>
      cases A with
      | none => rw [hh]; simp [Conv.bytesToString, strv]; rfl
      | some ad => rw [hh]; simp [Conv.bytesToString, strv, loadCells, loadCellsFrom]; rfl
    | cons y ys =>
      have hA := hs.isA (by simp)
      have hc := hs.cells (by simp) w H
      generalize hxs : (y :: ys) = xs at *
      rw [hA]
      have := run_convert_bytes_arg (P := P) w src e h.out he.out (ab A) (ao A) xs.length cap (xs.map fun q => (q.toNat : Int)) (by simp) (fun i hi => by
        rw [hc i (u8v (xs[i])) (by simp [List.getElem?_eq_getElem hi])]
        simp [u8v, List.getD_eq_getElem?_getD, List.getElem?_eq_getElem hi, List.getElem?_map]) dt hd.out
      rw [this]
      congr 1
      simp [strv, strOfNums, List.map_map, Function.comp_def]
  simp [execOp, E.eval hx, hrun]

/-! ### New memory -/
theorem on_alloc {e : TypeId} {s bb : Nat} {z : List Value} [h : TyI P e s bb z] : OpNew P D w0 env l ⟨dst, .alloc e, ty, pos, after, g⟩ (fun b : Nat => .pointer (some ⟨b, 0, none⟩)) (fun b => blk b e z :: l) := .mk fun n a w E H => by
  obtain ⟨v, hv, hz⟩ := run_zero (P := P) (t := e) w
  refine ⟨w.heap.size, w.alloc (.cells z.toArray e), .inl ?_, H.alloc e z⟩
  subst hz
  simp [execOp, Instr.alloc, hv, newVar, newRow]
theorem on_box {e : TypeId} {x : Operand} {v : Value} (hx : evalO env x = some v) : OpNew P D w0 env l ⟨dst, .box e x, ty, pos, after, g⟩ (fun b : Nat => .pointer (some ⟨b, 0, none⟩)) (fun b => blk b e v.cells.toList :: l) := .mk fun n a w E H => by
  refine ⟨w.heap.size, w.alloc (.cells v.cells.toList.toArray e), .inl ?_, H.alloc e _⟩
  simp [execOp, E.eval hx, Instr.box, newVar, newRow]
/-- A store of one cell. -/
theorem on_store {t et : TypeId} {bb : Nat} {z : List Value} [h : TyI P t 1 bb z] {x y : Operand} {b off : Nat} {cs : List Value} {r : List HProp} {v : Value} (hx : evalO env x = some (.pointer (some ⟨b, off, none⟩))) (hy : evalO env y = some v) [hp : PickB l b et cs r] (ho : off < cs.length) (h1 : v.oneCell' = true) :
    OpNew P D w0 env l ⟨dst, .store t x y, ty, pos, after, g⟩ (fun _ : Unit => undef) (fun _ => blk b et (cs.set off v) :: r) := .mk fun n a w E H => by
  have H' := H.ent (Ent.perm hp.out)
  have hst := run_store_blk (P := P) H' off [v] (by simp; omega) (by simp [h1])
  refine ⟨(), w.setCells b off [v], .inr ⟨?_, rfl⟩, Own.setCells [v] off H'⟩
  have hcs : v.cells = #[v] := by cases v <;> first | rfl | (simp [Value.oneCell'] at h1)
  simp [execOp, E.eval hx, E.eval hy, Instr.storeAt, Instr.sureAddr, storeVar, hcs, run_sizeOf (P := P) (t := t), hst]
/-- A store of a struct or an array. -/
theorem on_storeG {t et : TypeId} {s bb : Nat} {z : List Value} [h : TyI P t s bb z] {x y : Operand} {b off : Nat} {cs vs : List Value} {r : List HProp} (hx : evalO env x = some (.pointer (some ⟨b, off, none⟩))) (hy : evalO env y = some (.agg vs.toArray)) [hp : PickB l b et cs r] (hl : vs.length = s) (ho : off + vs.length ≤ cs.length) (h1 : ∀ v ∈ vs, v.oneCell' = true) :
    OpNew P D w0 env l ⟨dst, .store t x y, ty, pos, after, g⟩ (fun _ : Unit => undef) (fun _ => blk b et (setSeg cs off vs) :: r) := .mk fun n a w E H => by
  have H' := H.ent (Ent.perm hp.out)
  have hst := run_store_blk (P := P) H' off vs ho h1
  refine ⟨(), w.setCells b off vs, .inr ⟨?_, rfl⟩, Own.setCells vs off H'⟩
  simp [execOp, E.eval hx, E.eval hy, Instr.storeAt, Instr.sureAddr, storeVar, Value.cells, hl, run_sizeOf (P := P) (t := t), hst]

/-! literals -/
def fillL (pl : Nat → Option (Nat × Nat)) : List Value → List (Nat × Value) → Option (List Value)
  | cs, [] => some cs
  | cs, (i, v) :: r => match pl i with
    | none => none
    | some (off, sz) => if v.cells.size = sz ∧ off + v.cells.size ≤ cs.length then fillL pl (setSeg cs off v.cells.toList) r else none
theorem foldl_setSeg : ∀ (vs : List Value) (k off : Nat) (cs : List Value), (vs.zipIdx k).foldl (fun c (p : Value × Nat) => c.setIfInBounds (off + p.2) p.1) cs.toArray = (setSeg cs (off + k) vs).toArray
  | [], _, _, _ => rfl
  | v :: r, k, off, cs => by
    simp only [List.zipIdx_cons, List.foldl_cons, setSeg]
    rw [show (cs.toArray.setIfInBounds (off + k) v) = (cs.set (off + k) v).toArray from by simp]
    rw [foldl_setSeg r (k + 1) off]
    rfl
theorem fill_eq (pl : Nat → Option (Nat × Nat)) : ∀ (parts : List (Nat × Value)) (cs res : List Value), fillL pl cs parts = some res → Instr.fill pl cs.toArray parts = some res.toArray
  | [], cs, res, h => by simp only [fillL, Option.some.injEq] at h; subst h; rfl
  | (i, v) :: r, cs, res, h => by
    simp only [fillL] at h
    simp only [Instr.fill]
    cases hp : pl i with
    | none => rw [hp] at h; cases h
    | some p =>
      obtain ⟨off, sz⟩ := p
      rw [hp] at h
      simp only at h ⊢
      split at h
      · rename_i hh
        have h1 : ¬ (v.cells.size ≠ sz || decide (off + v.cells.size > cs.toArray.size)) = true := by
          simp only [Bool.or_eq_true, decide_eq_true_eq, List.size_toArray, not_or]
          omega
        rw [if_neg h1]
        have e := foldl_setSeg v.cells.toList 0 off cs
        rw [Nat.add_zero] at e
        have e2 : Array.foldl (fun cs (x : Value × Nat) => cs.setIfInBounds (off + x.2) x.1) cs.toArray v.cells.zipIdx = (setSeg cs off v.cells.toList).toArray := by
          rw [← Array.foldl_toList, Array.toList_zipIdx]
          exact e
        rw [show (Array.foldl (fun cs x => match x with | (c, j) => cs.setIfInBounds (off + j) c) cs.toArray v.cells.zipIdx) = (setSeg cs off v.cells.toList).toArray from e2]
        exact fill_eq pl r _ res h
      · cases h
/-- Where a struct's fields lie. -/
def structPl (P : Program) (t : TypeId) : Option (List (Nat × Nat)) :=
  match P.underlying t with
  | some (.struct fs) => fs.toList.mapM fun f => (P.info? f.type).map fun i => (f.offset, i.size)
  | _ => none
class TyS (P : Program) (t : TypeId) (pl : outParam (List (Nat × Nat))) : Prop where out : structPl P t = some pl
theorem run_places {P : Program} (w : World) : ∀ (fs : List Field) (pl : List (Nat × Nat)), (fs.mapM fun f => (P.info? f.type).map fun i => (f.offset, i.size)) = some pl → (fs.mapM fun f => (do pure (f.offset, ← Go.sizeOf f.type) : Sem (Nat × Nat))).run P w = .ok pl w
  | [], pl, h => by simp at h; subst h; rfl
  | f :: r, pl, h => by
    simp only [List.mapM_cons, Option.bind_eq_bind, Option.pure_def, Option.bind_eq_some_iff, Option.some.injEq] at h
    obtain ⟨p, hp, q, hq, rfl⟩ := h
    obtain ⟨i, hi, rfl⟩ := Option.map_eq_some_iff.1 hp
    have ih := run_places w r q hq
    simp only [List.mapM_cons, Sem.run_bind, Go.sizeOf, typeInfo, run_program, Result.andThen_ok, hi, Sem.run_pure]
    simp only [Sem.run_bind, Go.sizeOf, typeInfo, run_program, Result.andThen_ok, Sem.run_pure] at ih
    rw [ih]
    rfl
theorem ov_buildS {t : TypeId} {s bb : Nat} {z : List Value} {pl : List (Nat × Nat)} [h : TyS P t pl] [hs : TyI P t s bb z] {parts : List (Nat × Operand)} {vs : List (Nat × Value)} {res : List Value} (hv : evalP env parts = some vs) (hf : fillL (fun i => pl[i]?) z vs = some res) :
    OpVal P D w0 env l ⟨dst, .build t parts.toArray, ty, pos, after, g⟩ (.agg res.toArray) := .mk fun n a w E H => by
  have h := h.out
  unfold structPl at h
  split at h
  · rename_i fs hu
    obtain ⟨v, hz, hz2⟩ := run_zero (P := P) (t := t) w
    have hp := run_places (P := P) w fs.toList pl h
    have hp' : (fs.mapM fun f => (do pure (f.offset, ← Go.sizeOf f.type) : Sem (Nat × Nat))).run P w = .ok pl.toArray w := by
      rw [Array.mapM_eq_mapM_toList, Sem.run_map, hp]
      rfl
    have hfill := fill_eq (fun i => pl[i]?) vs z res hf
    have e1 : (parts.map fun p => (p.1, a.eval p.2)) = vs := E.evalsP hv
    subst hz2
    simp only [execOp, Instr.build, Sem.run_bind, hz, Result.andThen_ok, run_underlying hu, hp']
    simp only [List.getElem?_toArray, Array.toArray_toList] at hfill ⊢
    simp [e1, hfill]
  · cases h
theorem ov_buildA {t e : TypeId} {m s bb es eb : Nat} {z ez : List Value} [h : TyArr P t m e] [hs : TyI P t s bb z] [he : TyI P e es eb ez] {parts : List (Nat × Operand)} {vs : List (Nat × Value)} {res : List Value} (hv : evalP env parts = some vs) (hf : fillL (fun i => some (i * es, es)) z vs = some res) :
    OpVal P D w0 env l ⟨dst, .build t parts.toArray, ty, pos, after, g⟩ (.agg res.toArray) := .mk fun n a w E H => by
  obtain ⟨v, hz, hz2⟩ := run_zero (P := P) (t := t) w
  have hfill := fill_eq (fun i => some (i * es, es)) vs z res hf
  have e1 : (parts.map fun p => (p.1, a.eval p.2)) = vs := E.evalsP hv
  subst hz2
  simp only [Array.toArray_toList] at hfill
  simp [execOp, Instr.build, hz, run_underlying h.out, run_sizeOf (P := P) (t := e), e1, hfill]
def zerosL (z : List Value) (n : Nat) : List Value := (List.replicate n z).flatten
theorem zeros_eq (z : Array Value) (m : Nat) : ((Array.range (m * z.size)).map fun i => z[i % z.size]!).toList = zerosL z.toList m := by
  rcases Nat.eq_zero_or_pos z.size with h0 | h0
  · have : z = #[] := Array.eq_empty_of_size_eq_zero h0
    subst this
    simp [zerosL]
  · unfold zerosL
    induction m with
    | zero => simp
    | succ m ih =>
      rw [List.replicate_succ', List.flatten_append, List.flatten_singleton, ← ih]
      apply List.ext_getElem?
      intro i
      simp only [Array.toList_map, Array.toList_range, List.getElem?_map]
      rcases Nat.lt_or_ge i (m * z.size) with h | h
      · rw [List.getElem?_append_left (by simp; exact h)]
        simp [List.getElem?_range h, List.getElem?_range (show i < (m + 1) * z.size by rw [Nat.add_mul]; omega)]
      · rw [List.getElem?_append_right (by simp; exact h)]
        simp only [List.length_map, List.length_range]
        rcases Nat.lt_or_ge i ((m + 1) * z.size) with h2 | h2
        · have h3 : i - m * z.size < z.size := by rw [Nat.add_mul] at h2; omega
          have h4 : i % z.size = i - m * z.size := by
            have : i = (i - m * z.size) + z.size * m := by rw [Nat.mul_comm z.size m]; omega
            rw [this, Nat.add_mul_mod_self_left, Nat.mod_eq_of_lt h3]
            rw [Nat.mul_comm z.size m]; omega
          simp [List.getElem?_range h2, h4, h3]
        · have h3 : z.size ≤ i - m * z.size := by rw [Nat.add_mul] at h2; omega
          rw [List.getElem?_eq_none (by simpa using h2), List.getElem?_eq_none (by simpa using h3)]
          rfl
theorem on_buildSlice {t e : TypeId} {s bb m : Nat} {z : List Value} [h : TySlice P t e] [hs : TyI P e s bb z] {parts : List (Nat × Operand)} {vs : List (Nat × Value)} {res : List Value} (hv : evalP env parts = some vs) (hm : Nat.ble (m * s) 16777216 = true) (hf : fillL (fun i => some (i * s, s)) (zerosL z m) vs = some res) :
    OpNew P D w0 env l ⟨dst, .buildSlice t m parts.toArray, ty, pos, after, g⟩ (fun b : Nat => .slice (some ⟨b, 0, none⟩) m m) (fun b => blk b e res :: l) := .mk fun n a w E H => by
  have hz := hs.len
  obtain ⟨v, hz1, hz2⟩ := run_zero (P := P) (t := e) w
  have e1 : (parts.map fun p => (p.1, a.eval p.2)) = vs := E.evalsP hv
  have hm' : m * s ≤ 16777216 := by simpa using hm
  refine ⟨w.heap.size, w.alloc (.cells res.toArray e), .inl ?_, H.alloc e res⟩
  have hfill := fill_eq (fun i => some (i * s, s)) vs _ res hf
  have hsz : v.cells.size = s := by rw [← Array.length_toList, hz2, hz]
  by_cases h0 : m * s = 0
  · have hzz : zerosL z m = [] := by
      rcases Nat.mul_eq_zero.1 h0 with h | h
      · simp [zerosL, h]
      · have : z = [] := List.eq_nil_of_length_eq_zero (by omega)
        simp [zerosL, this]
    rw [hzz] at hfill
    have hgt : ¬ (m * s > 2 ^ 24) := by omega
    simp only [execOp, Instr.buildSlice, Sem.run_bind, run_underlying h.out, Result.andThen_ok, run_sizeOf (P := P) (t := e)]
    rw [if_neg hgt, if_pos h0]
    have hr0 : ∀ f : Nat → Value, Array.map f (Array.range (m * s)) = #[] := fun f => by rw [h0]; apply Array.ext'; simp
    simp only [hr0, Sem.run_pure, Result.andThen_ok]
    simp [e1, hfill, newRow]
  · have hzz := zeros_eq v.cells m
    rw [hz2] at hzz
    have hgt : ¬ (m * s > 2 ^ 24) := by omega
    simp only [execOp, Instr.buildSlice, Sem.run_bind, run_underlying h.out, Result.andThen_ok, run_sizeOf (P := P) (t := e)]
    rw [if_neg hgt, if_neg h0]
    have hz3 : (Array.range (m * s)).map (fun i => v.cells[i % v.cells.size]!) = (zerosL z m).toArray := by
      apply Array.ext'
      rw [← hzz, hsz]
    simp [hz1, e1, hz3, hfill, newRow]
end
end Slk
