import Derived.WalkKit
import Derived.Deep.LoopGhost
import Derived.Deep.Quiet
import Derived.StillTail
import Derived.KernelRfl
import Derived.Laws.IdiomCopy
import Derived.Laws.BytesArg
import Derived.Laws.Append
import Derived.Deep.OwnRows
import Derived.Lib.SlBytesConst
import Derived.RegionTactic
import Derived.Deep.Slices
import Derived.OpenShut
import Derived.ProofKit
import Derived.ShutString
import Derived.ChangeOld
import Derived.Below
import Derived.Laws.Strings
import Derived.Laws.Cover3
import Derived.DeepKeys
theorem AA {p : Prop} (h : p := by omega) : p := h
theorem AF {p : Prop} (h : p := by decide) : p := h
theorem DP {p : Prop} (h : p := by assumption) : p := h
theorem AB {p : Prop} (h : p := by kernel_rfl) : p := h
theorem J3 {p : Prop} (h : p := by simp [IZ]) : p := h
theorem MO {p : Prop} (h : p := by simp [G3]) : p := h
theorem J0 {p : Prop} (h : p := by simp; omega) : p := h
theorem OG {p : Prop} (h : p := by rw [HH]) : p := h
theorem O8 {p : Prop} (h : p := by rw [DU]) : p := h
theorem NN {p : Prop} (h : p := by simp [DU]) : p := h
theorem O9 {p : Prop} (h : p := by rw [hfl]; omega) : p := h
theorem QL {p : Prop} (h : p := by rw [he]; decide) : p := h
theorem S4 {p : Prop} (h : p := by rw [hs1L]; decide) : p := h
theorem RQ {p : Prop} (h : p := by intro d e; cases e) : p := h
theorem LG {p : Prop} (h : p := by have := HC0.ls; omega) : p := h
theorem LI {p : Prop} (h : p := by have := HC0.lv; omega) : p := h
theorem M4 {p : Prop} (h : p := by have := HC0.lp; omega) : p := h
theorem CL {p : Prop} (h : p := by simp [Value.oneCell']) : p := h
theorem VB {p : Prop} (h : p := by rw [hx] at hb; exact hb) : p := h
theorem S5 {p : Prop} (h : p := by rw [hfin]; exact SP) : p := h
theorem VN {p : Prop} (h : p := by rw [hfin]; exact OZ) : p := h
theorem VE {p : Prop} (h : p := by rw [wrap_i64 (by omega)]) : p := h
theorem HZ {p : Prop} (h : p := by simp [Value.oneCell', AU]) : p := h
theorem U8 {p : Prop} (h : p := by rw [hv, decide_eq_true hp]) : p := h
theorem VM {p : Prop} (h : p := by unfold FB; rw [heN]; rfl) : p := h
theorem VF {p : Prop} (h : p := by rw [hf, Nat.add_mul]; omega) : p := h
theorem VH {p : Prop} (h : p := by rw [hv, decide_eq_false hp]) : p := h
theorem MG {p : Prop} (h : p := by rw [List.length_drop]; omega) : p := h
theorem OK {p : Prop} (h : p := by rw [List.length_take]; omega) : p := h
theorem JG {p : Prop} (h : p := by rw [List.length_map, IV]) : p := h
theorem VK {p : Prop} (h : p := by show N - (k + n) < N - k; omega) : p := h
theorem E3 {p : Prop} (h : p := by rw [wrap_i64 (by omega)]; omega) : p := h
theorem LH {p : Prop} (h : p := by rw [List.length_map, hXl]; omega) : p := h
theorem U9 {p : Prop} (h : p := by rw [IV]; exact Nat.le_refl _) : p := h
theorem VA {p : Prop} (h : p := by simp only [List.length_append, hal]) : p := h
theorem S9 {p : Prop} (h : p := by rw [hres]; exact D1 (l := []) q) : p := h
theorem IC {p : Prop} (h : p := by first | exact wrap_u8 (by omega) | rfl) : p := h
theorem NP {p : Prop} (h : p := by first | exact wrap_u32 (by omega) | rfl) : p := h
theorem J2 {p : Prop} (h : p := by first | exact wrap_u64 (by omega) | rfl) : p := h
theorem BO {p : Prop} (h : p := by first | exact wrap_i64 (by omega) | rfl) : p := h
theorem S6 {p : Prop} (h : p := by intro h; simp at h; subst h; simp at hlt) : p := h
theorem FC {p : Prop} (h : p := by first | exact eO rfl | exact P0 rfl) : p := h
theorem BN {p : Prop} (h : p := by first | exact gG rfl | exact ov_lenS rfl) : p := h
theorem RV {p : Prop} (h : p := by show l.length - (i + 1) < l.length - i; omega) : p := h
theorem RR {p : Prop} (h : p := by simp only [List.length_append, IV]; omega) : p := h
theorem X1 {p : Prop} (h : p := by first | exact eU rfl rfl | exact XD rfl rfl) : p := h
theorem U7 {p : Prop} (h : p := by rw [List.length_map, ON, hFl, ← hm]; simp; omega) : p := h
theorem VG {p : Prop} (h : p := by rw [List.length_append, List.length_append, hl, hdl]; omega) : p := h
theorem NO {p : Prop} (h : p := by simp only [List.length_append, IV, List.length_nil]; omega) : p := h
theorem RU {p : Prop} (h : p := by rw [List.length_append, List.length_append, hal, hx3, hdl]; omega) : p := h
theorem DY {p : Prop} (h : p := by first | exact FV rfl (by simp; done) | exact MI rfl rfl) : p := h
theorem BD {p : Prop} (h : p := by repeat (first | exact BH.eT _ | refine BH.HI rfl ?_)) : p := h
theorem X4 {p : Prop} (h : p := by rw [List.take_zero, List.flatMap_nil, List.append_nil]; exact AD.refl _) : p := h
theorem VI {p : Prop} (h : p := by simp [Lit.wf, IntKind.min, IntKind.max, IntKind.signed, IntKind.bits]; omega) : p := h
theorem X2 {p : Prop} (h : p := by rw [← hy]; exact DZ.flat (f := BJ) (sz := 3) (fun _ => rfl) (A := q.2.1.1) hA hlt) : p := h
theorem MP {p : Prop} (h : p := by rw [show (G3 k a b xs).flatten.length = 11 + xs.length from RY k a b xs]; omega) : p := h
theorem VD {p : Prop} (h : p := by intro h; have := congrArg List.length h; rw [hpl] at this; simp only [List.length_nil] at this; omega) : p := h
theorem BL {p : Prop} (h : p := by first | assumption | exact AD.refl _ | exact AD.nil _ | (repeat (first | exact AD.refl _ | exact AD.nil _ | refine AD.pick ?_))) : p := h
theorem Z9 {p : Prop} (h : p := by first | exact GB rfl (by assumption) | exact GB rfl (hcl _) | exact GB rfl (hcl2 _) | exact GB rfl (hcl3 _) | exact GB rfl (EH.AI rfl)) : p := h
theorem Z8 {p : Prop} (h : p := by first | assumption | exact AD.refl _ | exact AD.nil _ | exact AD.row_any (AD.refl _) | (repeat (first | exact AD.refl _ | exact AD.nil _ | refine AD.pick ?_))) : p := h
theorem Z7 {p : Prop} (h : p := by rw [hx]; exact (by first | assumption | exact AD.refl _ | exact AD.nil _ | exact AD.row_any (AD.refl _) | (repeat (first | exact AD.refl _ | exact AD.nil _ | refine AD.pick ?_)))) : p := h
theorem Z6 {p : Prop} (h : p := by rw [hres]; exact (by first | assumption | exact AD.refl _ | exact AD.nil _ | exact AD.row_any (AD.refl _) | (repeat (first | exact AD.refl _ | exact AD.nil _ | refine AD.pick ?_)))) : p := h
theorem Z5 {p : Prop} (h : p := by rw [hres, hq']; exact (by first | assumption | exact AD.refl _ | exact AD.nil _ | exact AD.row_any (AD.refl _) | (repeat (first | exact AD.refl _ | exact AD.nil _ | refine AD.pick ?_)))) : p := h
theorem Z4 {p : Prop} (h : p := by dsimp only; rw [hLx]; exact (by first | assumption | exact AD.refl _ | exact AD.nil _ | exact AD.row_any (AD.refl _) | (repeat (first | exact AD.refl _ | exact AD.nil _ | refine AD.pick ?_)))) : p := h
theorem Z3 {p : Prop} (h : p := by simp only [List.take_zero, List.flatMap_nil]; exact (by first | assumption | exact AD.refl _ | exact AD.nil _ | exact AD.row_any (AD.refl _) | (repeat (first | exact AD.refl _ | exact AD.nil _ | refine AD.pick ?_)))) : p := h
theorem Z2 {p : Prop} (h : p := by rw [List.flatMap_append, List.flatMap_singleton]; exact (by first | assumption | exact AD.refl _ | exact AD.nil _ | exact AD.row_any (AD.refl _) | (repeat (first | exact AD.refl _ | exact AD.nil _ | refine AD.pick ?_)))) : p := h
theorem Z1 {p : Prop} (h : p := by rw [hres]; dsimp only [DC, B3, C6]; rw [List.length_set]; exact (by first | assumption | exact AD.refl _ | exact AD.nil _ | exact AD.row_any (AD.refl _) | (repeat (first | exact AD.refl _ | exact AD.nil _ | refine AD.pick ?_)))) : p := h
theorem Z0 {p : Prop} (h : p := by first | exact AO rfl | exact DH rfl | exact AY rfl | exact AP rfl | exact GB rfl (EH.AI rfl) | exact GB rfl (by assumption) | exact gG rfl | exact ov_lenS rfl | exact CD rfl (by (first | exact wrap_i64 (by omega) | exact wrap_u32 (by omega) | exact wrap_u8 (by omega) | exact wrap_u64 (by omega) | exact wrap_u16 (by omega) | rfl)) | exact BM rfl rfl (by (first | exact wrap_i64 (by omega) | exact wrap_u32 (by omega) | exact wrap_u8 (by omega) | exact wrap_u64 (by omega) | exact wrap_u16 (by omega) | rfl)) | exact FY rfl rfl (by (first | exact wrap_i64 (by omega) | exact wrap_u32 (by omega) | exact wrap_u8 (by omega) | exact wrap_u64 (by omega) | exact wrap_u16 (by omega) | rfl)) | exact P8 rfl rfl (by (first | exact wrap_i64 (by omega) | exact wrap_u32 (by omega) | exact wrap_u8 (by omega) | exact wrap_u64 (by omega) | exact wrap_u16 (by omega) | rfl)) | exact RE rfl rfl (by decide) (IntWalk.rem_in _ _ (by omega)) | exact ov_eqlT rfl rfl (by with_reducible rfl) | exact B7 rfl rfl | exact LB rfl rfl | exact DV rfl rfl | exact GN rfl rfl | exact CO rfl rfl | exact CG rfl rfl | exact ov_eqlB rfl rfl | exact ov_neqB rfl rfl | exact ov_eqlV rfl rfl | exact eU rfl rfl | exact ov_eqlS rfl rfl | exact XD rfl rfl | exact IL rfl rfl | exact OW rfl rfl | exact eO rfl | exact P0 rfl | exact I9 rfl rfl | exact BF rfl rfl | exact A8 rfl rfl | exact CZ rfl (by assumption) rfl _ rfl (by omega) | exact NW rfl (by assumption) rfl rfl (by omega) | exact KL rfl rfl rfl rfl rfl | exact UI rfl rfl _ rfl (by omega) | exact GB rfl (by solve | exact hcl _ | exact hcl2 _) | exact CH rfl rfl | exact ov_buildAN rfl rfl | exact FE rfl _ _ (.inl ⟨rfl, rfl⟩) (.inr ⟨_, _, rfl, rfl⟩) (by omega) (by omega) | exact FE rfl _ _ (.inr ⟨_, _, rfl, rfl⟩) (.inl ⟨rfl, rfl⟩) (by omega) (by omega) | exact FE rfl _ _ (.inr ⟨_, _, rfl, rfl⟩) (.inr ⟨_, _, rfl, rfl⟩) (by omega) (by omega) | exact FE rfl _ _ (.inl ⟨rfl, rfl⟩) (.inl ⟨rfl, rfl⟩) (by omega) (by omega)) : p := h
set_option linter.unusedVariables false
set_option linter.unusedSimpArgs false
namespace CN
open Go

abbrev Heap := Nat → Option Obj
abbrev AQ := Heap → Prop
def JD (h1 h2 : Heap) : Prop := ∀ b, h1 b = none ∨ h2 b = none
def ED (h1 h : Heap) : Prop := ∀ b o, h1 b = some o → h b = some o
def L9 (h1 h2 : Heap) : Heap := fun b => match h1 b with | some o => some o | none => h2 b

def DS : List AQ → Heap → Prop
 | [], _ => True
 | A :: l, h => ∃ h1 h2, A h1 ∧ DS l h2 ∧ JD h1 h2 ∧ ED h1 h ∧ ED h2 h

theorem ED.refl (h : Heap) : ED h h := fun _ _ e => e
theorem ED.trans {a b c : Heap} (h : ED a b) (k : ED b c) : ED a c := fun x o e => k x o (h x o e)
theorem JD.symm {a b : Heap} (h : JD a b) : JD b a := fun x => (h x).symm
theorem JD.U4 {a b c : Heap} (h : JD b c) (k : ED a b) : JD a c := fun x => by
 rcases h x with e | e
 ·left
  cases ha : a x with
  | none => rfl
  | some o => rw [k x o ha] at e; cases e
 ·exact .inr e
theorem JD.RP {a b c : Heap} (h : JD c b) (k : ED a b) : JD c a := (h.symm.U4 k).symm
theorem ED.union_left (a b : Heap) : ED a (L9 a b) := fun x o e => by simp [L9, e]
theorem ED.union_right {a b : Heap} (h : JD a b) : ED b (L9 a b) := fun x o e => by
 rcases h x with k | k
 ·simp [L9, k, e]
 ·rw [k] at e; cases e
theorem ED.union {a b c : Heap} (h : ED a c) (k : ED b c) : ED (L9 a b) c := fun x o e => by
 unfold L9 at e
 split at e
 ·rename_i o' ho; cases e; exact h x o ho
 ·exact k x o e
theorem JD.union {a b c : Heap} (h : JD a c) (k : JD b c) : JD (L9 a b) c := fun x => by
 unfold L9
 rcases h x with e | e
 ·rw [e]; exact k x
 ·exact .inr e

theorem TI : ∀ {l : List AQ} {h h' : Heap}, ED h h' → DS l h → DS l h'
 | [], _, _, _, _ => trivial
 | _ :: _, _, _, k, ⟨h1, h2, a, b, d, s1, s2⟩ => ⟨h1, h2, a, b, d, s1.trans k, s2.trans k⟩

theorem kK {A B : AQ} {l : List AQ} {h : Heap} (H : DS (A :: B :: l) h) : DS (B :: A :: l) h := by
 obtain ⟨h1, h2, a, ⟨h3, h4, b, c, d', s3, s4⟩, d, s1, s2⟩ := H
 exact ⟨h3, L9 h1 h4, b, ⟨h1, h4, a, c, d.RP s4, ED.union_left _ _, ED.union_right (d.RP s4)⟩, (JD.union (d.RP s3) d'.symm).symm, s3.trans s2, ED.union s1 (s4.trans s2)⟩

theorem ZN {A : AQ} {l l' : List AQ} (k : ∀ h, DS l h → DS l' h) {h : Heap} (H : DS (A :: l) h) : DS (A :: l') h := by
 obtain ⟨h1, h2, a, b, r⟩ := H
 exact ⟨h1, h2, a, k _ b, r⟩

theorem R5 {l l' : List AQ} (p : l.Perm l') : ∀ {h : Heap}, DS l h → DS l' h := by
 induction p with
 | nil => exact fun H => H
 | cons x _ ih => exact fun H => ZN (fun _ => ih) H
 | swap x y l => exact fun H => kK H
 | trans _ _ ih1 ih2 => exact fun H => ih2 (ih1 H)

theorem ZO {A : AQ} {l : List AQ} {h : Heap} (H : DS (A :: l) h) : DS l h := by
 obtain ⟨h1, h2, a, b, d, s1, s2⟩ := H
 exact TI s2 b

theorem NR {l l' : List AQ} {h : Heap} : DS (l ++ l') h ↔ ∃ h1 h2, DS l h1 ∧ DS l' h2 ∧ JD h1 h2 ∧ ED h1 h ∧ ED h2 h := by
 induction l generalizing h with
 | nil =>
  constructor
  ·intro H
   exact ⟨fun _ => none, h, trivial, H, fun _ => .inl rfl, (fun _ _ e => by cases e), ED.refl _⟩
  ·rintro ⟨h1, h2, _, b, _, _, s⟩
   exact TI s b
 | cons A l ih =>
  constructor
  ·rintro ⟨h1, h2, a, b, d, s1, s2⟩
   obtain ⟨h3, h4, c, e, d', s3, s4⟩ := ih.1 b
   exact ⟨L9 h1 h3, h4, ⟨h1, h3, a, c, d.RP s3, ED.union_left _ _, ED.union_right (d.RP s3)⟩, e, JD.union (d.RP s4) d', ED.union s1 (s3.trans s2), s4.trans s2⟩
  ·rintro ⟨h1, h2, ⟨h3, h4, a, b, d', s3, s4⟩, c, d, s1, s2⟩
   exact ⟨h3, L9 h4 h2, a, ih.2 ⟨h4, h2, b, c, d.U4 s4, ED.union_left _ _, ED.union_right (d.U4 s4)⟩, (JD.union d'.symm (d.U4 s3).symm).symm, s3.trans s1, ED.union (s4.trans s1) s2⟩

def JU (p : Prop) : AQ := fun _ => p
def tJ (l : List AQ) : AQ := DS l
def AI (b : Nat) (t : TypeId) (cs : List Value) : AQ := fun h => ∃ fr : Nat × Nat, h b = some (.cells cs.toArray t fr) ∧ (fr = (0, 0) ∨ cs.length ≤ fr.1)

theorem R4 {p : Prop} {l : List AQ} {h : Heap} : DS (JU p :: l) h ↔ p ∧ DS l h := by
 constructor
 ·intro H; exact ⟨by obtain ⟨_, _, a, _⟩ := H; exact a, ZO H⟩
 ·rintro ⟨a, b⟩
  exact ⟨fun _ => none, h, a, b, fun _ => .inl rfl, (fun _ _ e => by cases e), ED.refl _⟩
theorem oD {α : Type} {A : α → AQ} {l : List AQ} {h : Heap} : DS ((fun h => ∃ x, A x h) :: l) h ↔ ∃ x, DS (A x :: l) h := by
 constructor
 ·rintro ⟨h1, h2, ⟨x, a⟩, r⟩; exact ⟨x, h1, h2, a, r⟩
 ·rintro ⟨x, h1, h2, a, r⟩; exact ⟨h1, h2, ⟨x, a⟩, r⟩
theorem ZM {l l' : List AQ} {h : Heap} : DS (tJ l :: l') h ↔ DS (l ++ l') h := by
 rw [NR]
 rfl
def OI (A B : AQ) : Prop := ∀ h, A h → B h
def AD (l l' : List AQ) : Prop := ∀ h, DS l h → DS l' h
theorem AD.refl (l : List AQ) : AD l l := fun _ h => h
theorem AD.trans {a b c : List AQ} (h : AD a b) (k : AD b c) : AD a c := fun x e => k x (h x e)
theorem AD.perm {l l' : List AQ} (p : l.Perm l') : AD l l' := fun _ => R5 p
theorem AD.cons {A : AQ} {l l' : List AQ} (h : AD l l') : AD (A :: l) (A :: l') := fun _ => ZN h
theorem AD.head {A B : AQ} {l : List AQ} (h : OI A B) : AD (A :: l) (B :: l) := by
 rintro x ⟨h1, h2, a, r⟩; exact ⟨h1, h2, h _ a, r⟩
theorem AD.drop {A : AQ} {l l' : List AQ} (h : AD l l') : AD (A :: l) l' := fun x e => h x (ZO e)
theorem AD.nil (l : List AQ) : AD l [] := fun _ _ => trivial

structure AH (D : Nat → Prop) (w0 w : World) (l : List AQ) : Prop where
 os : w.os = w0.os
 tape : w.tape = w0.tape
 output : w.output = w0.output
 size : w0.heap.size ≤ w.heap.size
 old : ∀ b, b < w0.heap.size → ¬ D b → w.heap[b]? = w0.heap[b]?
 own : ∃ h : Heap, (∀ b o, h b = some o → w.heap[b]? = some o ∧ (b < w0.heap.size → D b)) ∧ DS l h

theorem AH.AK {D : Nat → Prop} {w0 w : World} {l l' : List AQ} (H : AH D w0 w l) (e : AD l l') : AH D w0 w l' := by
 obtain ⟨h, a, b⟩ := H.own
 exact ⟨H.os, H.tape, H.output, H.size, H.old, h, a, e _ b⟩
theorem AH.start (D : Nat → Prop) (w : World) : AH D w w [] := ⟨rfl, rfl, rfl, Nat.le_refl _, fun _ _ _ => rfl, fun _ => none, (fun _ _ e => by cases e), trivial⟩
theorem AH.drew {D : Nat → Prop} {w0 w : World} {l : List AQ} (H : AH D w0 w l) : AH D w0 w.drew l := ⟨H.os, H.tape, H.output, H.size, H.old, H.own⟩
theorem AH.ex {α : Type} {A : α → AQ} {D : Nat → Prop} {w0 w : World} {l : List AQ} (H : AH D w0 w ((fun h => ∃ x, A x h) :: l)) : ∃ x, AH D w0 w (A x :: l) := by
 obtain ⟨h, a, b⟩ := H.own
 obtain ⟨x, b⟩ := oD.1 b
 exact ⟨x, H.os, H.tape, H.output, H.size, H.old, h, a, b⟩
theorem AH.pure {p : Prop} {D : Nat → Prop} {w0 w : World} {l : List AQ} (H : AH D w0 w (JU p :: l)) : p ∧ AH D w0 w l := by
 obtain ⟨h, a, b⟩ := H.own
 exact ⟨(R4.1 b).1, H.AK (AD.drop (AD.refl _))⟩

theorem AH.alloc {D : Nat → Prop} {w0 w : World} {l : List AQ} (H : AH D w0 w l) (t : TypeId) (cs : List Value) :
  AH D w0 (w.alloc (.cells cs.toArray t)) (AI w.heap.size t cs :: l) := by
 obtain ⟨h, a, b⟩ := H.own
 have hn : ∀ x o, h x = some o → x < w.heap.size := fun x o e => (Array.getElem?_eq_some_iff.1 (a x o e).1).1
 have hs : h w.heap.size = none := by
  cases e : h w.heap.size with
  | none => rfl
  | some o => exact absurd (hn _ _ e) (Nat.lt_irrefl _)
 refine ⟨H.os, H.tape, H.output, by have := H.size; simp; omega, fun x hx hd => ?_, fun x => if x = w.heap.size then some (.cells cs.toArray t (0, 0)) else h x, fun x o e => ?_, ?_⟩
 ·rw [Go.RowKit.Below.heap_alloc _ _ _ (Nat.lt_of_lt_of_le hx H.size)]; exact H.old x hx hd
 ·by_cases hx : x = w.heap.size
  ·subst hx
   simp only [if_true, Option.some.injEq] at e
   subst e
   refine ⟨by show (w.heap.push _)[w.heap.size]? = _; simp, fun hlt => ?_⟩
   have := H.size
   omega
  ·simp only [hx, if_false] at e
   rw [Go.RowKit.Below.heap_alloc _ _ _ (hn _ _ e)]
   exact a x o e
 ·refine ⟨fun x => if x = w.heap.size then some (.cells cs.toArray t (0, 0)) else none, h, ⟨(0, 0), by simp, .inl rfl⟩, b, fun x => ?_, fun x o e => ?_, fun x o e => ?_⟩
  ·by_cases hx : x = w.heap.size
   ·subst hx; exact .inr hs
   ·left; simp [hx]
  ·by_cases hx : x = w.heap.size
   ·simp only [hx, if_true] at e ⊢; exact e
   ·simp [hx] at e
  ·have : x ≠ w.heap.size := by rintro rfl; rw [hs] at e; cases e
   simp [this, e]

theorem AH.XO {D : Nat → Prop} {w0 w : World} {l : List AQ} {b : Nat} {t : TypeId} {cs : List Value} (H : AH D w0 w (AI b t cs :: l)) : ∃ fr : Nat × Nat, w.heap[b]? = some (.cells cs.toArray t fr) ∧ (fr = (0, 0) ∨ cs.length ≤ fr.1) := by
 obtain ⟨h, a, h1, h2, ⟨fr, p, q⟩, _, _, s1, _⟩ := H.own
 exact ⟨fr, (a b _ (s1 _ _ p)).1, q⟩
theorem AH.cell {D : Nat → Prop} {w0 w : World} {l : List AQ} {b : Nat} {t : TypeId} {cs : List Value} (H : AH D w0 w (AI b t cs :: l)) (off : Nat) : w.cell? ⟨b, off, none⟩ = cs[off]? := by
 obtain ⟨fr, h, _⟩ := H.XO
 simp [World.cell?, h]
theorem AH.frozen {D : Nat → Prop} {w0 w : World} {l : List AQ} {b : Nat} {t : TypeId} {cs : List Value} (H : AH D w0 w (AI b t cs :: l)) (off : Nat) (ho : off < cs.length) : w.frozen? ⟨b, off, none⟩ = false := by
 obtain ⟨fr, h, k⟩ := H.XO
 obtain ⟨lo, hi⟩ := fr
 simp only [World.frozen?, h]
 rcases k with k | k
 ·simp only [Prod.mk.injEq] at k
  simp [k.1, k.2]
 ·simp only at k
  have : ¬ (lo ≤ off) := by omega
  simp [this]
theorem AH.tE {D : Nat → Prop} {w0 w w' : World} {l : List AQ} {b : Nat} {t : TypeId} {cs cs' : List Value} (H : AH D w0 w (AI b t cs :: l)) (hos : w'.os = w.os) (htp : w'.tape = w.tape) (hou : w'.output = w.output) (hsz : w'.heap.size = w.heap.size)
  (hnb : ∀ x, x ≠ b → w'.heap[x]? = w.heap[x]?) (hb' : ∀ fr, w.heap[b]? = some (.cells cs.toArray t fr) → ((fr = (0, 0) ∨ cs.length ≤ fr.1)) → ∃ fr', w'.heap[b]? = some (.cells cs'.toArray t fr') ∧ (fr' = (0, 0) ∨ cs'.length ≤ fr'.1)) :
  AH D w0 w' (AI b t cs' :: l) := by
 obtain ⟨fr, hb, hfr⟩ := H.XO
 obtain ⟨fr', hb2, hfr'⟩ := hb' fr hb hfr
 obtain ⟨h, a, h1, h2, ⟨_, p, _⟩, q, d, s1, s2⟩ := H.own
 have hh2 : h2 b = none := by
  rcases d b with e | e
  ·rw [p] at e; cases e
  ·exact e
 refine ⟨hos.trans H.os, htp.trans H.tape, hou.trans H.output, by rw [hsz]; exact H.size, fun x hx hd => ?_, fun x => if x = b then some (.cells cs'.toArray t fr') else h x, fun x o e => ?_, ?_⟩
 ·have : x ≠ b := by rintro rfl; exact hd ((a _ _ (s1 _ _ p)).2 hx)
  rw [hnb x this]; exact H.old x hx hd
 ·by_cases hx : x = b
  ·subst hx
   simp only [if_true, Option.some.injEq] at e
   subst e
   exact ⟨hb2, (a _ _ (s1 _ _ p)).2⟩
  ·simp only [hx, if_false] at e
   rw [hnb x hx]
   exact a x o e
 ·refine ⟨fun x => if x = b then some (.cells cs'.toArray t fr') else none, h2, ⟨fr', by simp, hfr'⟩, q, fun x => ?_, fun x o e => ?_, fun x o e => ?_⟩
  ·by_cases hx : x = b
   ·subst hx; exact .inr hh2
   ·left; simp [hx]
  ·by_cases hx : x = b
   ·simp only [hx, if_true] at e ⊢; exact e
   ·simp [hx] at e
  ·have : x ≠ b := by rintro rfl; rw [hh2] at e; cases e
   simp [this, s2 _ _ e]
theorem AH.setCell {D : Nat → Prop} {w0 w : World} {l : List AQ} {b : Nat} {t : TypeId} {cs : List Value} (H : AH D w0 w (AI b t cs :: l)) (off : Nat) (v : Value) :
  AH D w0 (w.setCell ⟨b, off, none⟩ v) (AI b t (cs.set off v) :: l) := by
 refine H.tE rfl rfl rfl (by simp) (fun x hx => Go.RowKit.Below.heap_setCell _ _ _ _ hx) fun fr hb hfr => ⟨fr, ?_, by simpa using hfr⟩
 simp only [World.setCell, Array.getElem?_modify, if_true, hb, Option.map_some]
 simp

def Old (D : Nat → Prop) (w0 : World) (A : AQ) : Prop := ∃ h : Heap, (∀ b o, h b = some o → w0.heap[b]? = some o ∧ ¬ D b) ∧ A h
theorem Old.imp {D : Nat → Prop} {w0 : World} {A B : AQ} (h : Old D w0 A) (k : OI A B) : Old D w0 B := by
 obtain ⟨x, a, b⟩ := h; exact ⟨x, a, k _ b⟩
theorem AH.split {D : Nat → Prop} {w0 w : World} {pre l : List AQ} (H : AH D w0 w (pre ++ l)) :
  ∃ D' : Nat → Prop, AH D' w w pre ∧ (∀ A, Old D w0 A → Old D' w A) ∧ (∀ B : AQ, (∀ h, DS l h → (∀ A, Old D w0 A → ∃ h1, A h1 ∧ ED h1 h) → B h) → Old D' w B) ∧ (∀ w' post, AH D' w w' post → AH D w0 w' (post ++ l)) := by
 obtain ⟨h, a, b⟩ := H.own
 obtain ⟨h1, h2, p, q, d, s1, s2⟩ := NR.1 b
 refine ⟨fun x => h1 x ≠ none, ⟨rfl, rfl, rfl, Nat.le_refl _, fun _ _ _ => rfl, h1, fun x o e => ⟨(a x o (s1 _ _ e)).1, fun _ => by rw [e]; exact fun h => by cases h⟩, p⟩, ?_, ?_, ?_⟩
 ·rintro A ⟨x, c, e⟩
  refine ⟨x, fun y o k => ?_, e⟩
  obtain ⟨k1, k2⟩ := c y o k
  have hlt : y < w0.heap.size := (Array.getElem?_eq_some_iff.1 k1).1
  refine ⟨by rw [H.old y hlt k2]; exact k1, fun hne => ?_⟩
  cases e1 : h1 y with
  | none => exact hne e1
  | some o' => exact k2 ((a y o' (s1 _ _ e1)).2 hlt)
 ·intro B hi
  have hsub : ∀ (x : Heap), (∀ y o, x y = some o → w.heap[y]? = some o ∧ ¬ h1 y ≠ none) → ED x (fun y => match h1 y with | some _ => none | none => w.heap[y]?) := fun x hx y o e => by
   obtain ⟨e1, e2⟩ := hx y o e
   have e3 : h1 y = none := by
    cases e4 : h1 y with
    | none => rfl
    | some o' => exact absurd (by rw [e4]; exact fun h => by cases h) e2
   simp only [e3]; exact e1
  refine ⟨fun y => match h1 y with | some _ => none | none => w.heap[y]?, fun y o k => ?_, hi _ (TI (hsub h2 fun y o k => ⟨(a y o (s2 _ _ k)).1, fun hne => ?_⟩) q) ?_⟩
  ·simp only at k
   split at k
   ·cases k
   ·rename_i e4
    exact ⟨k, fun hne => hne e4⟩
  ·rcases d y with e | e
   ·exact hne e
   ·rw [k] at e; cases e
  ·rintro A ⟨x, c, e⟩
   refine ⟨x, e, hsub x fun y o k => ?_⟩
   obtain ⟨k1, k2⟩ := c y o k
   have hlt : y < w0.heap.size := (Array.getElem?_eq_some_iff.1 k1).1
   refine ⟨by rw [H.old y hlt k2]; exact k1, fun hne => ?_⟩
   cases e1 : h1 y with
   | none => exact hne e1
   | some o' => exact k2 ((a y o' (s1 _ _ e1)).2 hlt)
 ·intro w' post K
  obtain ⟨h', a', b'⟩ := K.own
  have hd : JD h' h2 := fun x => by
   cases e : h2 x with
   | none => exact .inr rfl
   | some o =>
    left
    cases e' : h' x with
    | none => rfl
    | some o' =>
     have hx : x < w.heap.size := (Array.getElem?_eq_some_iff.1 (a x o (s2 _ _ e)).1).1
     have := (a' x o' e').2 hx
     rcases d x with k | k
     ·exact absurd k this
     ·rw [k] at e; cases e
  refine ⟨K.os.trans H.os, K.tape.trans H.tape, K.output.trans H.output, Nat.le_trans H.size K.size, fun x hx hn => ?_, L9 h' h2, fun x o e => ?_, NR.2 ⟨h', h2, b', q, hd, ED.union_left _ _, ED.union_right hd⟩⟩
  ·rw [K.old x (Nat.lt_of_lt_of_le hx H.size) (fun hne => ?_)]
   ·exact H.old x hx hn
   ·cases e : h1 x with
    | none => exact hne e
    | some o => exact hn ((a x o (s1 _ _ e)).2 hx)
  ·unfold L9 at e
   split at e
   ·rename_i o' ho
    cases e
    refine ⟨(a' x o ho).1, fun hx => ?_⟩
    have hne := (a' x o ho).2 (Nat.lt_of_lt_of_le hx H.size)
    cases e1 : h1 x with
    | none => exact absurd e1 hne
    | some o1 => exact (a x o1 (s1 _ _ e1)).2 hx
   ·rename_i ho
    have h2w := (a x o (s2 _ _ e))
    refine ⟨?_, h2w.2⟩
    rw [K.old x (Array.getElem?_eq_some_iff.1 h2w.1).1 (fun hne => ?_)]
    ·exact h2w.1
    ·rcases d x with k | k
     ·exact hne k
     ·rw [k] at e; cases e
end CN

set_option linter.unusedVariables false
set_option linter.unusedSimpArgs false
namespace CN
open Go

abbrev BH := List (Nat × Value)
def BH.get : BH → Nat → Option Value
 | [], _ => none
 | (s, v) :: r, t => bif Nat.beq s t then some v else BH.get r t
structure Env (n : Nat) (a : Act) (env : BH) : Prop where
 size : a.tmps.size = n
 defers : a.defers = []
 get : ∀ t v, BH.get env t = some v → a.tmps[t]? = some v
theorem Env.getD {n : Nat} {a : Act} {env : BH} (h : Env n a env) {t : Nat} {v : Value} (e : BH.get env t = some v) : a.tmps.getD t undef = v := by
 simp [h.get t v e]
theorem Env.put {n : Nat} {a : Act} {env : BH} (h : Env n a env) {d : Nat} (hd : Nat.blt d n = true) (v : Value) : Env n (a.put (some d) v) ((d, v) :: env) := by
 have hd' : d < n := by simpa [Nat.blt_eq] using hd
 refine ⟨by simp [Act.put, h.size], h.defers, fun t u e => ?_⟩
 simp only [BH.get] at e
 simp only [Act.put, Array.getElem?_setIfInBounds]
 cases hb : Nat.beq d t with
 | true =>
  have : d = t := by simpa using hb
  subst this
  rw [hb] at e
  simp only [cond_true, Option.some.injEq] at e
  simp [h.size, hd', e]
 | false =>
  have hne : d ≠ t := by rintro rfl; rw [show Nat.beq d d = true from by simp] at hb; cases hb
  rw [hb] at e
  simp only [cond_false] at e
  rw [if_neg hne]
  exact h.get t u e
def BH.sub (env env' : BH) : Prop := ∀ t v, BH.get env' t = some v → BH.get env t = some v
theorem Env.sub {n : Nat} {a : Act} {env env' : BH} (h : Env n a env) (k : BH.sub env env') : Env n a env' := ⟨h.size, h.defers, fun t v e => h.get t v (k t v e)⟩
theorem BH.eT (env : BH) : BH.sub env [] := fun _ _ e => by cases e
theorem BH.HI {env r : BH} {t : Nat} {v : Value} (h : BH.get env t = some v) (k : BH.sub env r) : BH.sub env ((t, v) :: r) := by
 intro s u e
 simp only [BH.get] at e
 cases hb : Nat.beq t s with
 | true =>
  have : t = s := by simpa using hb
  subst this
  rw [hb] at e
  simp only [cond_true, Option.some.injEq] at e
  subst e; exact h
 | false => rw [hb] at e; exact k s u e
theorem BH.KX (env : BH) : BH.sub env env := fun _ _ e => e

def BQ (env : BH) : Operand → Option Value
 | .tmp t => BH.get env t
 | .const v => some v
 | .global g => some (.pointer (some ⟨g, 0, none⟩))
 | .func f => some (.func (.func f) #[] #[])
theorem Env.eval {n : Nat} {a : Act} {env : BH} (h : Env n a env) {x : Operand} {v : Value} (e : BQ env x = some v) : a.eval x = v := by
 cases x with
 | tmp t => exact h.getD e
 | const v => simpa [BQ, Act.eval] using e
 | global g => simpa [BQ, Act.eval] using e
 | func f => simpa [BQ, Act.eval] using e
def KG (env : BH) : List Operand → Option (List Value)
 | [] => some []
 | x :: r => match BQ env x, KG env r with
  | some v, some vs => some (v :: vs)
  | _, _ => none
theorem Env.O5 {n : Nat} {a : Act} {env : BH} (h : Env n a env) {xs : List Operand} : ∀ {vs : List Value}, KG env xs = some vs → xs.map a.eval = vs := by
 induction xs with
 | nil => intro vs e; simp [KG] at e; subst e; rfl
 | cons x r ih =>
  intro vs e
  simp only [KG] at e
  split at e
  ·rename_i v vs' h1 h2
   simp only [Option.some.injEq] at e
   subst e
   simp [h.eval h1, ih h2]
  ·cases e
def MZ (env : BH) : List (Nat × Operand) → Option (List (Nat × Value))
 | [] => some []
 | (i, x) :: r => match BQ env x, MZ env r with
  | some v, some vs => some ((i, v) :: vs)
  | _, _ => none
theorem Env.U0 {n : Nat} {a : Act} {env : BH} (h : Env n a env) {xs : List (Nat × Operand)} : ∀ {vs : List (Nat × Value)}, MZ env xs = some vs → xs.map (fun p => (p.1, a.eval p.2)) = vs := by
 induction xs with
 | nil => intro vs e; simp [MZ] at e; subst e; rfl
 | cons x r ih =>
  intro vs e
  obtain ⟨i, x⟩ := x
  simp only [MZ] at e
  split at e
  ·rename_i v vs' h1 h2
   simp only [Option.some.injEq] at e
   subst e
   simp [h.eval h1, ih h2]
  ·cases e

structure St (D : Nat → Prop) (w0 : World) (n : Nat) (env : BH) (l : List AQ) (a : Act) (w : World) : Prop where
 env : Env n a env
 own : AH D w0 w l
abbrev Post := Exit → Act → World → Prop
structure HC (P : Program) (Q : Post) (D : Nat → Prop) (w0 : World) (n : Nat) (env : BH) (l : List AQ) (c : Code) : Prop where
 run : ∀ a w, St D w0 n env l a w → c.wp P Q a w
structure HL (P : Program) (ops : Array Oper) (Q : Post) (D : Nat → Prop) (w0 : World) (n : Nat) (env : BH) (l : List AQ) (r : List Oper) : Prop where
 run : ∀ a w, St D w0 n env l a w → wpList P ops Q r a w
structure HX (Q : Post) (e : Exit) (D : Nat → Prop) (w0 : World) (n : Nat) (env : BH) (l : List AQ) : Prop where
 run : ∀ a w, St D w0 n env l a w → Q e a w

section
variable {P : Program} {Q : Post} {D : Nat → Prop} {w0 : World} {n : Nat} {env : BH} {l : List AQ} {ops : Array Oper}

theorem HC.weak {env' : BH} {l' : List AQ} {c : Code} (he : BH.sub env env') (hl : AD l l') (h : HC P Q D w0 n env' l' c) : HC P Q D w0 n env l c := .mk fun a w S => h.run a w ⟨S.env.sub he, S.own.AK hl⟩
theorem HL.weak {env' : BH} {l' : List AQ} {r : List Oper} (he : BH.sub env env') (hl : AD l l') (h : HL P ops Q D w0 n env' l' r) : HL P ops Q D w0 n env l r := .mk fun a w S => h.run a w ⟨S.env.sub he, S.own.AK hl⟩
theorem HX.weak {env' : BH} {l' : List AQ} {e : Exit} (he : BH.sub env env') (hl : AD l l') (h : HX Q e D w0 n env' l') : HX Q e D w0 n env l := .mk fun a w S => h.run a w ⟨S.env.sub he, S.own.AK hl⟩
theorem HC.AK {l' : List AQ} {c : Code} (hl : AD l l') (h : HC P Q D w0 n env l' c) : HC P Q D w0 n env l c := h.weak (BH.KX _) hl
theorem HL.AK {l' : List AQ} {r : List Oper} (hl : AD l l') (h : HL P ops Q D w0 n env l' r) : HL P ops Q D w0 n env l r := h.weak (BH.KX _) hl
theorem HX.AK {l' : List AQ} {e : Exit} (hl : AD l l') (h : HX Q e D w0 n env l') : HX Q e D w0 n env l := h.weak (BH.KX _) hl
theorem HX.pure {p : Prop} {e : Exit} (h : p → HX Q e D w0 n env l) : HX Q e D w0 n env (JU p :: l) := .mk fun a w S => (h S.own.pure.1).run a w ⟨S.env, S.own.pure.2⟩

theorem AG {x y : Code} (h : HC P (Exit.then (y.wp P Q) Q) D w0 n env l x) : HC P Q D w0 n env l (Code.seq x y) := .mk fun a w S => wp_seq (h.run a w S)
theorem C3 (h : HX Q .normal D w0 n env l) : HC P Q D w0 n env l .skip := .mk fun a w S => wp_skip (h.run a w S)
theorem CF {i : Nat} (h : HX Q (.exit i) D w0 n env l) : HC P Q D w0 n env l (.exit i) := .mk fun a w S => wp_exit (h.run a w S)
theorem MB (h : HX Q .ret D w0 n env l) : HC P Q D w0 n env l .ret := .mk fun a w S => wp_ret (h.run a w S)
theorem BK {i : Nat} {c : Code} (h : HC P (Exit.inBlock i Q) D w0 n env l c) : HC P Q D w0 n env l (.block i c) := .mk fun a w S => wp_block (h.run a w S)
theorem BP {c : Operand} {x y : Code} {p : Prop} [Decidable p] (hc : BQ env c = some (.bool (decide p))) (ht : p → HC P Q D w0 n env l x) (hf : ¬ p → HC P Q D w0 n env l y) : HC P Q D w0 n env l (.cond c x y) := .mk fun a w S => by
 have e := S.env.eval hc
 by_cases hp : p
 ·exact wp_cond_true (by rw [e, decide_eq_true hp]) ((ht hp).run a w S)
 ·exact wp_cond_false (by rw [e, decide_eq_false hp]) ((hf hp).run a w S)
theorem DD {c : Operand} {x y : Code} (hc : BQ env c = some (.bool true)) (ht : HC P Q D w0 n env l x) : HC P Q D w0 n env l (.cond c x y) := .mk fun a w S =>
 wp_cond_true (S.env.eval hc) (ht.run a w S)
theorem EU {c : Operand} {x y : Code} (hc : BQ env c = some (.bool false)) (ht : HC P Q D w0 n env l y) : HC P Q D w0 n env l (.cond c x y) := .mk fun a w S =>
 wp_cond_false (S.env.eval hc) (ht.run a w S)
theorem FW {c : Operand} {x y : Code} {b : Bool} (hc : BQ env c = some (.bool b)) (ht : b = true → HC P Q D w0 n env l x) (hf : b = false → HC P Q D w0 n env l y) : HC P Q D w0 n env l (.cond c x y) := .mk fun a w S => by
 have e := S.env.eval hc
 cases b
 ·exact wp_cond_false e ((hf rfl).run a w S)
 ·exact wp_cond_true e ((ht rfl).run a w S)

theorem MV {c : Code} {σ : Type} (env' : σ → BH) (l' : σ → List AQ) (p : σ → Prop) (μ : σ → Nat) (s0 : σ) (h0 : p s0) (he : BH.sub env (env' s0)) (hl : AD l (l' s0))
  (h : ∀ s, p s → ∀ K : Act → World → Prop, (∀ s' a w, p s' → μ s' < μ s → St D w0 n (env' s') (l' s') a w → K a w) → HC P (Exit.then K Q) D w0 n (env' s) (l' s) c) : HC P Q D w0 n env l (.loop c) := .mk fun a w S => by
 refine wp_loop_ghost (fun k a w => ∃ s, μ s = k ∧ p s ∧ St D w0 n (env' s) (l' s) a w) (μ s0) ⟨s0, rfl, h0, S.env.sub he, S.own.AK hl⟩ ?_
 rintro k a w ⟨s, rfl, hp, S⟩
 refine wp_mono ((h s hp (fun a w => ∃ s', p s' ∧ μ s' < μ s ∧ St D w0 n (env' s') (l' s') a w) (fun s' a w hp' hm S' => ⟨s', hp', hm, S'⟩)).run a w S) ?_
 intro e a' w' q
 cases e with
 | normal => obtain ⟨s', hp', hm, S'⟩ := q; exact ⟨μ s', hm, s', rfl, hp', S'⟩
 | exit i => exact q
 | goto i => exact q
 | ret => exact q
 | panic ch => exact q
 | outgrown => exact q

theorem KT {y : Code} {Q' : Post} (h : HC P Q' D w0 n env l y) : HX (Exit.then (y.wp P Q') Q) .normal D w0 n env l := ⟨h.run⟩
theorem QV {K : Act → World → Prop} (h : ∀ a w, St D w0 n env l a w → K a w) : HX (Exit.then K Q) .normal D w0 n env l := ⟨h⟩
theorem LZ {K : Act → World → Prop} {i : Nat} (h : HX Q (.exit i) D w0 n env l) : HX (Exit.then K Q) (.exit i) D w0 n env l := ⟨h.run⟩
theorem L1 {K : Act → World → Prop} (h : HX Q .ret D w0 n env l) : HX (Exit.then K Q) .ret D w0 n env l := ⟨h.run⟩
theorem LX {i : Nat} (h : HX Q .normal D w0 n env l) : HX (Exit.inBlock i Q) .normal D w0 n env l := ⟨h.run⟩
theorem B4 {i : Nat} (h : HX Q .ret D w0 n env l) : HX (Exit.inBlock i Q) .ret D w0 n env l := ⟨h.run⟩
theorem CE {i : Nat} (h : HX Q .normal D w0 n env l) : HX (Exit.inBlock i Q) (.exit i) D w0 n env l := .mk fun a w S => by
 simp only [Exit.inBlock, if_true]; exact h.run a w S
theorem FO {i j : Nat} (hne : Nat.beq j i = false) (h : HX Q (.exit j) D w0 n env l) : HX (Exit.inBlock i Q) (.exit j) D w0 n env l := .mk fun a w S => by
 have : j ≠ i := by rintro rfl; rw [show Nat.beq j j = true from by simp] at hne; cases hne
 simp only [Exit.inBlock, if_neg this]; exact h.run a w S

theorem M9 {fn : Func} {R : Ending → World → Prop} {e : Exit} (he : e = .normal ∨ e = .ret) (hr : fn.results = #[]) (h : ∀ w, AH D w0 w l → R (.returned (.tuple #[])) w) :
  HX (bodyPost P fn R) e D w0 n env l := .mk fun a w S => by
 rcases he with rfl | rfl <;> exact ⟨S.env.defers, _, results_none hr _ _ _, h w S.own⟩
theorem QW {fn : Func} {R : Ending → World → Prop} {e : Exit} (he : e = .normal ∨ e = .ret) {t : Nat} (hr : fn.results = #[.tmp t]) {v : Value} (hv : BH.get env t = some v) (h : ∀ w, AH D w0 w l → R (.returned v) w) :
  HX (bodyPost P fn R) e D w0 n env l := .mk fun a w S => by
 have k := results_tmp hr a.tmps P w
 rw [S.env.getD hv] at k
 rcases he with rfl | rfl <;> exact ⟨S.env.defers, _, k, h w S.own⟩
theorem E5 {fn : Func} {R : Ending → World → Prop} {e : Exit} (he : e = .normal ∨ e = .ret) {t u : Nat} (hr : fn.results = #[.tmp t, .tmp u]) {v z : Value} (hv : BH.get env t = some v) (hz : BH.get env u = some z)
  (h : ∀ w, AH D w0 w l → R (.returned (.tuple #[v, z])) w) : HX (bodyPost P fn R) e D w0 n env l := .mk fun a w S => by
 have k := results_tmp2 hr a.tmps P w
 rw [S.env.getD hv, S.env.getD hz] at k
 rcases he with rfl | rfl <;> exact ⟨S.env.defers, _, k, h w S.own⟩
theorem T4 {fn : Func} {R : Ending → World → Prop} {e : Exit} (he : e = .normal ∨ e = .ret) {t u s : Nat} (hr : fn.results = #[.tmp t, .tmp u, .tmp s]) {v z y : Value} (hv : BH.get env t = some v) (hz : BH.get env u = some z) (hy : BH.get env s = some y)
  (h : ∀ w, AH D w0 w l → R (.returned (.tuple #[v, z, y])) w) : HX (bodyPost P fn R) e D w0 n env l := .mk fun a w S => by
 have k : (results fn a.tmps).run P w = .ok (.tuple #[a.tmps.getD t undef, a.tmps.getD u undef, a.tmps.getD s undef]) w := by simp [results, hr]
 rw [S.env.getD hv, S.env.getD hz, S.env.getD hy] at k
 rcases he with rfl | rfl <;> exact ⟨S.env.defers, _, k, h w S.own⟩

def BX : Nat → List Value → BH
 | _, [] => []
 | i, v :: r => (i, v) :: BX (i + 1) r
theorem VR : ∀ (vs : List Value) (i t : Nat) (v : Value), BH.get (BX i vs) t = some v → i ≤ t ∧ vs[t - i]? = some v
 | [], _, _, _, e => by cases e
 | u :: r, i, t, v, e => by
  simp only [BX, BH.get] at e
  cases hb : Nat.beq i t with
  | true =>
   have : i = t := by simpa using hb
   subst this
   rw [hb] at e
   simp only [cond_true, Option.some.injEq] at e
   subst e; simp
  | false =>
   have hne : i ≠ t := by rintro rfl; rw [show Nat.beq i i = true from by simp] at hb; cases hb
   rw [hb] at e
   obtain ⟨h1, h2⟩ := VR r (i + 1) t v e
   refine ⟨by omega, ?_⟩
   have : t - i = (t - (i + 1)) + 1 := by omega
   rw [this]
   simpa using h2
theorem BZ {f : FuncId} {fn : Func} {c : Code} {vs : List Value} {w : World} {R : Ending → World → Prop} {D : Nat → Prop} {w0 : World} {l : List AQ} (hf : P.funcs[f]? = some fn) (hb : fn.body = some c) (n : Nat) (hn : fn.ntmps = n)
  (hv : Nat.ble vs.length n = true) (H : AH D w0 w l) (h : HC P (bodyPost P fn R) D w0 n (BX 0 vs) l c) : Calls P f vs.toArray w R := by
 have hv' : vs.length ≤ n := by simpa using hv
 refine calls_of_wp hf hb (h.run _ w ⟨⟨by simp [hn]; omega, rfl, fun t v e => ?_⟩, H⟩)
 obtain ⟨_, h2⟩ := VR vs 0 t v e
 have hlt : t < vs.length := by
  rcases Nat.lt_or_ge t vs.length with h | h
  ·exact h
  ·simp [List.getElem?_eq_none h] at h2
 simp only [Nat.sub_zero] at h2
 rw [Array.getElem?_append_left (by simpa using hlt)]
 simpa using h2

theorem AR {id : Nat} {r : List Oper} (h : HL P r.toArray Q D w0 n env l r) : HC P Q D w0 n env l (.region id r.toArray false) := .mk fun a w S => wp_region_lit (h.run a w S)
theorem AS (h : HX Q .normal D w0 n env l) : HL P ops Q D w0 n env l [] := .mk fun a w S => wpList_nil (h.run a w S)
theorem zn {y : Code} {Q' : Post} (h : HC P Q' D w0 n env l y) : HL P ops (Exit.then (y.wp P Q') Q) D w0 n env l [] := AS (KT h)
theorem zg {id : Nat} {r : List Oper} {y : Code} (h : HL P r.toArray (Exit.then (y.wp P Q) Q) D w0 n env l r) : HC P Q D w0 n env l (Code.seq (.region id r.toArray false) y) := AG (AR h)
theorem zk {y : Code} {Q' : Post} (h : HC P Q' D w0 n env l y) : HC P (Exit.then (y.wp P Q') Q) D w0 n env l .skip := C3 (KT h)
end

structure DI (P : Program) (D : Nat → Prop) (w0 : World) (env : BH) (l : List AQ) (o : Oper) (v : Value) : Prop where
 run : ∀ n a w, Env n a env → AH D w0 w l → (execOp a.eval o).run P w = .ok (.value v) w
structure FA (P : Program) (D : Nat → Prop) (w0 : World) (env : BH) (l : List AQ) (o : Oper) {σ : Type} (v : σ → Value) (l' : σ → List AQ) : Prop where
 run : ∀ n a w, Env n a env → AH D w0 w l → ∃ s w', ((execOp a.eval o).run P w = .ok (.value (v s)) w' ∨ ((execOp a.eval o).run P w = .ok .skip w' ∧ v s = undef)) ∧ AH D w0 w' (l' s)

section
variable {P : Program} {Q : Post} {D : Nat → Prop} {w0 : World} {n : Nat} {env : BH} {l : List AQ} {ops : Array Oper} {r : List Oper} {o : Oper}

theorem FG {d : Nat} {v : Value} (h : DI P D w0 env l o v) (hd : o.dst = some d) (hg : o.guard = none) (hn : Nat.blt d n = true) (k : HL P ops Q D w0 n ((d, v) :: env) l r) : HL P ops Q D w0 n env l (o :: r) := .mk fun a w S => by
 refine wpList_plain hg fun K hK => ?_
 unfold Oper.wp
 rw [h.run n a w S.env S.own]
 rw [Oper.upon_value, hd]
 exact hK _ _ (k.run _ w ⟨S.env.put hn v, S.own⟩)
theorem AV {d : Nat} {σ : Type} {v : σ → Value} {l' : σ → List AQ} (h : FA P D w0 env l o v l') (hd : o.dst = some d) (hg : o.guard = none) (hn : Nat.blt d n = true) (k : ∀ s, HL P ops Q D w0 n ((d, v s) :: env) (l' s) r) : HL P ops Q D w0 n env l (o :: r) := .mk fun a w S => by
 refine wpList_plain hg fun K hK => ?_
 unfold Oper.wp
 obtain ⟨s, w', hr, H⟩ := h.run n a w S.env S.own
 rcases hr with hr | ⟨hr, hu⟩
 ·rw [hr, Oper.upon_value, hd]
  exact hK _ _ ((k s).run _ w' ⟨S.env.put hn _, H⟩)
 ·rw [hr, Oper.upon_skip, hd, ← hu]
  exact hK _ _ ((k s).run _ w' ⟨S.env.put hn _, H⟩)
theorem rE {σ : Type} {v : σ → Value} {l' : σ → List AQ} (h : FA P D w0 env l o v l') (hd : o.dst = none) (hg : o.guard = none) (k : ∀ s, HL P ops Q D w0 n env (l' s) r) : HL P ops Q D w0 n env l (o :: r) := .mk fun a w S => by
 refine wpList_plain hg fun K hK => ?_
 unfold Oper.wp
 obtain ⟨s, w', hr, H⟩ := h.run n a w S.env S.own
 rcases hr with hr | ⟨hr, hu⟩
 ·rw [hr, Oper.upon_value, hd]
  exact hK _ _ ((k s).run _ w' ⟨S.env, H⟩)
 ·rw [hr, Oper.upon_skip, hd]
  exact hK _ _ ((k s).run _ w' ⟨S.env, H⟩)

def LO (ops : Array Oper) (j : Nat) : Option Nat := (ops[j]?).bind (·.dst)
theorem PK {a : Act} {j : Nat} {want b : Bool} {t : Nat} {n : Nat} {env : BH} (hg : o.guard = some (j, want)) (hj : LO ops j = some t) (E : Env n a env) (hv : BH.get env t = some (.bool b)) : Region.wanted o (yielded ops a.tmps) = (b == want) := by
 have h1 : ((ops[j]?).bind (·.dst)).bind (a.tmps[·]?) = some (.bool b) := by
  unfold LO at hj
  rw [hj]
  exact E.get t _ hv
 simp only [Region.wanted, hg, yielded, h1]
 cases b <;> cases want <;> rfl
theorem AJ {dst : Option Tmp} {op : Op} {ty : TypeId} {pos : String} {after : Array Edge} {j t : Nat} {want : Bool} (hj : LO ops j = some t) (hv : BH.get env t = some (.bool want)) (k : HL P ops Q D w0 n env l (⟨dst, op, ty, pos, after, none⟩ :: r)) : HL P ops Q D w0 n env l (⟨dst, op, ty, pos, after, some (j, want)⟩ :: r) := .mk fun a w S => by
 have hw := PK (o := ⟨dst, op, ty, pos, after, some (j, want)⟩) rfl hj S.env hv
 have h := k.run a w S
 unfold wpList at h ⊢
 rw [if_pos (by rw [hw]; simp)]
 rw [if_pos (by simp [Region.wanted])] at h
 exact h
theorem F6 {j t d : Nat} {want b : Bool} (hg : o.guard = some (j, want)) (hj : LO ops j = some t) (hv : BH.get env t = some (.bool b)) (hne : (b == want) = false) (hd : o.dst = some d) (hn : Nat.blt d n = true) (k : HL P ops Q D w0 n ((d, undef) :: env) l r) : HL P ops Q D w0 n env l (o :: r) := .mk fun a w S => by
 have hw := PK hg hj S.env hv
 unfold wpList
 rw [if_neg (by rw [hw, hne]; simp), hd]
 exact k.run _ w ⟨S.env.put hn _, S.own⟩
theorem DB {t : Nat} {p : Prop} [Decidable p] (hv : BH.get env t = some (.bool (decide p))) (ht : p → HL P ops Q D w0 n ((t, .bool true) :: env) l r) (hf : ¬ p → HL P ops Q D w0 n ((t, .bool false) :: env) l r) : HL P ops Q D w0 n env l r := .mk fun a w S => by
 by_cases hp : p
 ·exact (ht hp).run a w ⟨S.env.sub (BH.HI U8 (BH.KX _)), S.own⟩
 ·exact (hf hp).run a w ⟨S.env.sub (BH.HI VH (BH.KX _)), S.own⟩
theorem KY {t : Nat} {b : Bool} (hv : BH.get env t = some (.bool b)) (ht : b = true → HL P ops Q D w0 n ((t, .bool true) :: env) l r) (hf : b = false → HL P ops Q D w0 n ((t, .bool false) :: env) l r) : HL P ops Q D w0 n env l r := .mk fun a w S => by
 cases b
 ·exact (hf rfl).run a w ⟨S.env.sub (BH.HI hv (BH.KX _)), S.own⟩
 ·exact (ht rfl).run a w ⟨S.env.sub (BH.HI hv (BH.KX _)), S.own⟩

theorem CQ {d f : Nat} {args : List Operand} {ats : Array TypeId} {ty : TypeId} {pos : String} {after : Array Edge} {vs : List Value} {σ : Type} {v : σ → Value} {l' : σ → List AQ} (hcf : ∀ args w, (callFunc f args).run P w = .ok (.enter f args) w)
  (hv : KG env args = some vs) (hn : Nat.blt d n = true) (hc : ∀ w, AH D w0 w l → Calls P f vs.toArray w fun e w' => ∃ s, e = .returned (v s) ∧ AH D w0 w' (l' s))
  (k : ∀ s, HL P ops Q D w0 n ((d, v s) :: env) (l' s) r) : HL P ops Q D w0 n env l (⟨some d, .call ⟨.value (.func f), args.toArray, ats⟩, ty, pos, after, none⟩ :: r) := .mk fun a w S => by
 refine wpList_plain rfl fun K hK => ?_
 unfold Oper.wp
 have hrun : (execOp a.eval ⟨some d, .call ⟨.value (.func f), args.toArray, ats⟩, ty, pos, after, none⟩).run P w = .ok (.enter f vs.toArray) w := by
  simp [execOp, resolve, Deferred.ofValue, Act.eval, invoke, S.env.O5 hv, hcf]
 rw [hrun, Oper.upon_enter]
 refine (hc w S.own).mono fun e w' ⟨s, he, H⟩ => ?_
 subst he
 exact hK _ _ ((k s).run _ w' ⟨S.env.put hn _, H⟩)
end
end CN

set_option linter.unusedVariables false
set_option linter.unusedSimpArgs false
namespace CN
open Go

class RT (P : Program) (t : TypeId) (d : outParam TypeDesc) : Prop where out : P.underlying t = some d
class CX (P : Program) (t : TypeId) (s b : outParam Nat) (z : outParam (List Value)) : Prop where
 out : (P.info? t).map (fun i => (i.size, i.bytes, i.zero.map (fun v => v.cells.toList))) = some (s, b, some z)
 len : z.length = s
class HU (P : Program) (t : TypeId) : Prop where out : (match P.underlying t with | some (.struct _) | some (.array _ _) | none => false | _ => true) = true
class IA (P : Program) (t : TypeId) : Prop where out : (match P.underlying t with | some (.struct _) | some (.array _ _) => true | _ => false) = true
def fieldAt (P : Program) (s f : Nat) : Option (Nat × TypeId × Nat) :=
 match P.underlying s with
 | some (.struct fs) => match fs[f]? with
  | some fl => match P.info? fl.type with
   | some i => if i.size = 0 then none else some (fl.offset, fl.type, i.size)
   | none => none
  | none => none
 | _ => none
class C2 (P : Program) (s f : Nat) (o : outParam Nat) (ft : outParam TypeId) (fz : outParam Nat) : Prop where out : fieldAt P s f = some (o, ft, fz)
class E6 (P : Program) (t : TypeId) (e : outParam TypeId) : Prop where out : P.underlying t = some (.slice e)
class QB (P : Program) (t : TypeId) (n : outParam Nat) (e : outParam TypeId) : Prop where out : P.underlying t = some (.array n e)
class ML (P : Program) (t : TypeId) (k : outParam IntKind) : Prop where out : P.underlying t = some (.int k)
class NJ (P : Program) (t : TypeId) (e : outParam TypeId) : Prop where out : P.underlying t = some (.pointer e)
class gY (P : Program) (t : TypeId) : Prop where out : P.underlying t = some .string
class gQ (P : Program) (t : TypeId) : Prop where out : P.underlying t = some .bool

section
variable {P : Program}
theorem PO {t : TypeId} {s b : Nat} {z : List Value} [h : CX P t s b z] : ∃ i : TypeInfo, P.info? t = some i ∧ i.size = s ∧ i.bytes = b ∧ ∃ v : Value, i.zero = some v ∧ v.cells.toList = z := by
 have := h.out
 obtain ⟨i, hi, he⟩ := Option.map_eq_some_iff.1 this
 simp only [Prod.mk.injEq] at he
 obtain ⟨h1, h2, h3⟩ := he
 obtain ⟨v, hv, hz⟩ := Option.map_eq_some_iff.1 h3
 exact ⟨i, hi, h1, h2, v, hv, hz⟩
theorem run_sizeOf {t : TypeId} {s b : Nat} {z : List Value} [h : CX P t s b z] (w : World) : (Go.sizeOf t).run P w = .ok s w := by
 obtain ⟨i, hi, hs, _⟩ := PO (P := P) (t := t)
 simp [Go.sizeOf, typeInfo, hi, hs]
theorem PR {t : TypeId} {s b : Nat} {z : List Value} [h : CX P t s b z] (w : World) : ∃ v : Value, (zeroValue t).run P w = .ok v w ∧ v.cells.toList = z := by
 obtain ⟨i, hi, _, _, v, hv, hz⟩ := PO (P := P) (t := t)
 exact ⟨v, by simp [zeroValue, typeInfo, hi, hv], hz⟩
theorem eJ {t : TypeId} [h : HU P t] (w : World) : (isAgg t).run P w = .ok false w := by
 have := h.out
 cases hu : P.underlying t with
 | none => rw [hu] at this; cases this
 | some d =>
  rw [hu] at this
  unfold isAgg
  rw [Sem.run_bind, run_underlying hu w]
  cases d <;> simp_all
theorem qM {t : TypeId} [h : IA P t] (w : World) : (isAgg t).run P w = .ok true w := by
 have := h.out
 cases hu : P.underlying t with
 | none => rw [hu] at this; cases this
 | some d =>
  rw [hu] at this
  unfold isAgg
  rw [Sem.run_bind, run_underlying hu w]
  cases d <;> simp_all
theorem L5 (b o n : Nat) : Addr.add ⟨b, o, none⟩ n = ⟨b, o + n, none⟩ := Addr.add_lit b o n
end

theorem fN {α : Type} [DecidableEq α] (a b : α) : (a == b) = decide (a = b) := rfl
theorem oL {α : Type} [BEq α] [LawfulBEq α] [DecidableEq α] (a b : α) : (a == b) = decide (a = b) := by
 by_cases h : a = b <;> simp [h]
theorem wrap_i64 {x : Int} (h : -9223372036854775808 ≤ x ∧ x ≤ 9223372036854775807) : IntKind.i64.wrap x = x := IntWalk.i64_in x h
theorem wrap_u64 {x : Int} (h : 0 ≤ x ∧ x ≤ 18446744073709551615) : IntKind.u64.wrap x = x := by
 simp only [IntKind.wrap, IntKind.bits, IntKind.signed]
 simp only [Bool.false_and, Bool.false_eq_true, if_false]
 omega
theorem wrap_u32 {x : Int} (h : 0 ≤ x ∧ x ≤ 4294967295) : IntKind.u32.wrap x = x := by
 simp only [IntKind.wrap, IntKind.bits, IntKind.signed]
 simp only [Bool.false_and, Bool.false_eq_true, if_false]
 omega
theorem wrap_u8 {x : Int} (h : 0 ≤ x ∧ x ≤ 255) : IntKind.u8.wrap x = x := by
 simp only [IntKind.wrap, IntKind.bits, IntKind.signed]
 simp only [Bool.false_and, Bool.false_eq_true, if_false]
 omega
def EH (D : Nat → Prop) (w0 : World) (l : List AQ) (b off : Nat) (v : Value) : Prop := ∀ w, AH D w0 w l → w.cell? ⟨b, off, none⟩ = some v
def DZ (D : Nat → Prop) (w0 : World) (l : List AQ) (b off : Nat) (cs : List Value) : Prop := ∀ w, AH D w0 w l → ∀ i v, cs[i]? = some v → w.cell? ⟨b, off + i, none⟩ = some v
class GP (l : List AQ) (A : AQ) (r : outParam (List AQ)) : Prop where out : l.Perm (A :: r)
instance (priority := 2000) GP.here (A : AQ) (r : List AQ) : GP (A :: r) A r := ⟨List.Perm.refl _⟩
instance (priority := 1000) GP.there (A B : AQ) (l r : List AQ) [h : GP l A r] : GP (B :: l) A (B :: r) := ⟨(List.Perm.cons B h.out).trans (List.Perm.swap A B r)⟩
class FR (l : List AQ) (b : Nat) (t : outParam TypeId) (cs : outParam (List Value)) (r : outParam (List AQ)) : Prop where out : l.Perm (AI b t cs :: r)
instance (priority := 2000) FR.here (b : Nat) (t : TypeId) (cs : List Value) (r : List AQ) : FR (AI b t cs :: r) b t cs r := ⟨List.Perm.refl _⟩
instance (priority := 1000) FR.there (b : Nat) (t : TypeId) (cs : List Value) (B : AQ) (l r : List AQ) [h : FR l b t cs r] : FR (B :: l) b t cs (B :: r) := ⟨(List.Perm.cons B h.out).trans (List.Perm.swap (AI b t cs) B r)⟩
theorem EH.AI {D : Nat → Prop} {w0 : World} {l : List AQ} {b off : Nat} {t : TypeId} {cs : List Value} {r : List AQ} [h : FR l b t cs r] {v : Value} (hv : cs[off]? = some v) : EH D w0 l b off v := fun w H => by
 rw [(H.AK (AD.perm h.out)).cell, hv]
theorem DZ.AI {D : Nat → Prop} {w0 : World} {l : List AQ} {b off : Nat} {t : TypeId} {cs : List Value} {r : List AQ} [h : FR l b t cs r] {vs : List Value} (hv : ∀ i v, vs[i]? = some v → cs[off + i]? = some v) : DZ D w0 l b off vs := fun w H i v hi => by
 rw [(H.AK (AD.perm h.out)).cell, hv i v hi]
def UC (D : Nat → Prop) (w0 : World) (b off : Nat) (cs : List Value) : Prop := ¬ D b ∧ b < w0.heap.size ∧ ∀ i v, cs[i]? = some v → w0.cell? ⟨b, off + i, none⟩ = some v
theorem DZ.old {D : Nat → Prop} {w0 : World} {l : List AQ} {b off : Nat} {cs : List Value} (h : UC D w0 b off cs) : DZ D w0 l b off cs := fun w H i v hi => by
 rw [World.cell?_of_block (w := w0) (w' := w) (a := ⟨b, off + i, none⟩) (H.old b h.2.1 h.1)]
 exact h.2.2 i v hi
theorem DZ.cell {D : Nat → Prop} {w0 : World} {l : List AQ} {b off : Nat} {cs : List Value} (h : DZ D w0 l b off cs) {i : Nat} {v : Value} (hv : cs[i]? = some v) : EH D w0 l b (off + i) v := fun w H => h w H i v hv
theorem EH.old {D : Nat → Prop} {w0 : World} {l : List AQ} {b off : Nat} {v : Value} (h : UC D w0 b off [v]) : EH D w0 l b off v := (DZ.old (l := l) h).cell (i := 0) rfl

section
variable {P : Program} {D : Nat → Prop} {w0 : World} {env : BH} {l : List AQ} {dst : Option Tmp} {ty : TypeId} {pos : String} {after : Array Edge} {g : Option (Nat × Bool)}
theorem AO {x : Operand} {v : Value} (hx : BQ env x = some v) : DI P D w0 env l ⟨dst, .move x, ty, pos, after, g⟩ v := .mk fun n a w E _ => by
 simp [execOp, E.eval hx]
theorem DH {x : Operand} {v : Value} (hx : BQ env x = some v) : DI P D w0 env l ⟨dst, .assign x, ty, pos, after, g⟩ v := .mk fun n a w E _ => by
 simp [execOp, E.eval hx]
theorem BF {c x y : Operand} {v : Value} (hc : BQ env c = some (.bool true)) (hx : BQ env x = some v) : DI P D w0 env l ⟨dst, .pick c x y, ty, pos, after, g⟩ v := .mk fun n a w E _ => by
 simp [execOp, E.eval hc, E.eval hx, asBool]
theorem A8 {c x y : Operand} {v : Value} (hc : BQ env c = some (.bool false)) (hy : BQ env y = some v) : DI P D w0 env l ⟨dst, .pick c x y, ty, pos, after, g⟩ v := .mk fun n a w E _ => by
 simp [execOp, E.eval hc, E.eval hy, asBool]
theorem AY {x : Operand} {a0 : Addr} (hx : BQ env x = some (.pointer (some a0))) : DI P D w0 env l ⟨dst, .nilCheck x, ty, pos, after, g⟩ (.pointer (some a0)) := .mk fun n a w E _ => by
 simp [execOp, E.eval hx]
theorem iU {s f o fz : Nat} {ft : TypeId} (h : fieldAt P s f = some (o, ft, fz)) (b off : Nat) (w : World) : (Instr.fieldAt s (.pointer (some ⟨b, off, none⟩)) f).run P w = .ok (.pointer (some ⟨b, off + o, none⟩)) w := by
 unfold fieldAt at h
 split at h
 ·rename_i fs hu
  split at h
  ·rename_i fl hf
   split at h
   ·rename_i i hi
    split at h
    ·cases h
    ·rename_i hz
     simp only [Option.some.injEq, Prod.mk.injEq] at h
     obtain ⟨rfl, rfl, rfl⟩ := h
     simp [Instr.fieldAt, run_underlying hu, hf, Instr.sureAddr, fieldPlace, Go.sizeOf, typeInfo, hi, hz, L5]
   ·cases h
  ·cases h
 ·cases h
theorem AP {s f o fz : Nat} {ft : TypeId} [h : C2 P s f o ft fz] {x : Operand} {b off : Nat} (hx : BQ env x = some (.pointer (some ⟨b, off, none⟩))) : DI P D w0 env l ⟨dst, .fieldAddr s x f, ty, pos, after, g⟩ (.pointer (some ⟨b, off + o, none⟩)) := .mk fun n a w E _ => by
 simp [execOp, E.eval hx, iU h.out b off w]
theorem cD {s f o fz : Nat} {ft : TypeId} [h : C2 P s f o ft fz] [h1 : HU P ft] {x : Operand} {cs : Array Value} {v : Value} (hx : BQ env x = some (.agg cs)) (hv : cs[o]? = some v) : DI P D w0 env l ⟨dst, .field s x f, ty, pos, after, g⟩ v := .mk fun n a w E _ => by
 have h := h.out
 unfold fieldAt at h
 split at h
 ·rename_i fs hu
  split at h
  ·rename_i fl hf
   split at h
   ·rename_i i hi
    split at h
    ·cases h
    ·rename_i hz
     simp only [Option.some.injEq, Prod.mk.injEq] at h
     obtain ⟨rfl, rfl, rfl⟩ := h
     simp [execOp, E.eval hx, Instr.field, run_underlying hu, hf, asAgg, part, eJ (P := P) (t := fl.type), hv]
   ·cases h
  ·cases h
 ·cases h
theorem fW {t e : TypeId} {s bb : Nat} {z : List Value} [h : E6 P t e] [hs : CX P e s bb z] {x i : Operand} {b off n cap : Nat} {k : IntKind} {j : Int} (hx : BQ env x = some (.slice (some ⟨b, off, none⟩) n cap)) (hi : BQ env i = some (.int k j)) (j' : Nat) (hj : j = (j' : Int)) (hn : j' < n) :
  DI P D w0 env l ⟨dst, .indexAddr t x i, ty, pos, after, g⟩ (.pointer (some ⟨b, off + j' * s, none⟩)) := .mk fun n' a w E _ => by
 subst hj
 have : (0 : Int) ≤ (j' : Int) ∧ (j' : Int) < (n : Int) := by omega
 simp [execOp, E.eval hx, E.eval hi, Instr.indexAt, run_underlying h.out, asIntOf, hn, run_sizeOf (P := P) (t := e), L5]
theorem UI {t e : TypeId} {n s bb : Nat} {z : List Value} [h : QB P t n e] [hs : CX P e s bb z] {x i : Operand} {b off : Nat} {k : IntKind} {j : Int} (hx : BQ env x = some (.pointer (some ⟨b, off, none⟩))) (hi : BQ env i = some (.int k j)) (j' : Nat) (hj : j = (j' : Int)) (hn : j' < n) :
  DI P D w0 env l ⟨dst, .indexAddr t x i, ty, pos, after, g⟩ (.pointer (some ⟨b, off + j' * s, none⟩)) := .mk fun n' a w E _ => by
 subst hj
 simp [execOp, E.eval hx, E.eval hi, Instr.indexAt, run_underlying h.out, Instr.sureAddr, asIntOf, hn, run_sizeOf (P := P) (t := e), L5]
theorem iJ {t : TypeId} [h : HU P t] {b off : Nat} {v : Value} {w : World} (hc : w.cell? ⟨b, off, none⟩ = some v) : (loadVar t ⟨b, off, none⟩).run P w = .ok v w := by
 simp [loadVar, eJ (P := P) (t := t), hc]
theorem X7 {t : TypeId} {s bb : Nat} {z : List Value} [h : IA P t] [hs : CX P t s bb z] {b off : Nat} {cs : List Value} {w : World} (hl : cs.length = s) (hc : ∀ i v, cs[i]? = some v → w.cell? ⟨b, off + i, none⟩ = some v) : (loadVar t ⟨b, off, none⟩).run P w = .ok (.agg cs.toArray) w := by
 have h2 := run_loadCells_list (P := P) w ⟨b, off, none⟩ cs (fun j v hj => by rw [L5]; exact hc j v hj)
 rw [hl] at h2
 simp [loadVar, qM (P := P) (t := t), run_sizeOf (P := P) (t := t), h2]
theorem GB {t : TypeId} [h : HU P t] {x : Operand} {b off : Nat} {v : Value} (hx : BQ env x = some (.pointer (some ⟨b, off, none⟩))) (hc : EH D w0 l b off v) : DI P D w0 env l ⟨dst, .load t x, ty, pos, after, g⟩ v := .mk fun n a w E H => by
 simp [execOp, E.eval hx, Instr.loadAt, Instr.sureAddr, iJ (P := P) (t := t) (hc w H)]
theorem D4 {t : TypeId} {s bb : Nat} {z : List Value} [h : IA P t] [hs : CX P t s bb z] {x : Operand} {b off : Nat} {cs : List Value} (hx : BQ env x = some (.pointer (some ⟨b, off, none⟩))) (hl : cs.length = s) (hc : DZ D w0 l b off cs) : DI P D w0 env l ⟨dst, .load t x, ty, pos, after, g⟩ (.agg cs.toArray) := .mk fun n a w E H => by
 simp [execOp, E.eval hx, Instr.loadAt, Instr.sureAddr, X7 (P := P) (t := t) hl (hc w H)]
theorem I9 {x : Operand} {i : Nat} {vs : Array Value} {v : Value} (hx : BQ env x = some (.tuple vs)) (hv : vs[i]? = some v) : DI P D w0 env l ⟨dst, .extract x i, ty, pos, after, g⟩ v := .mk fun n a w E H => by
 simp [execOp, E.eval hx, Instr.extract, hv]
theorem XB {fn : Fn} {first captured : List Operand} {fs cs : List Value} (hf : KG env first = some fs) (hc : KG env captured = some cs) : DI P D w0 env l ⟨dst, .makeFunc fn first.toArray captured.toArray, ty, pos, after, g⟩ (.func fn fs.toArray cs.toArray) := .mk fun n a w E H => by
 simp [execOp, Instr.makeFunc, E.O5 hf, E.O5 hc]

section
variable {x y : Operand} {t t' : TypeId} {k k' : IntKind} {i j m : Int}
theorem BM (hx : BQ env x = some (.int k i)) (hy : BQ env y = some (.int k j)) (hw : k.wrap (i + j) = m) : DI P D w0 env l ⟨dst, .binOp .add t x y t', ty, pos, after, g⟩ (.int k m) := .mk fun n a w E H => by
 subst hw; simp [execOp, E.eval hx, E.eval hy, eqGuard_add, binOp_add, Op.intArith]
theorem FY (hx : BQ env x = some (.int k i)) (hy : BQ env y = some (.int k j)) (hw : k.wrap (i - j) = m) : DI P D w0 env l ⟨dst, .binOp .sub t x y t', ty, pos, after, g⟩ (.int k m) := .mk fun n a w E H => by
 subst hw; simp [execOp, E.eval hx, E.eval hy, eqGuard_sub, binOp_sub, Op.intArith]
theorem P8 (hx : BQ env x = some (.int k i)) (hy : BQ env y = some (.int k j)) (hw : k.wrap (i * j) = m) : DI P D w0 env l ⟨dst, .binOp .mul t x y t', ty, pos, after, g⟩ (.int k m) := .mk fun n a w E H => by
 subst hw; simp [execOp, E.eval hx, E.eval hy, eqGuard_mul, binOp_mul, Op.intArith]
theorem XS (hx : BQ env x = some (.int k i)) (hy : BQ env y = some (.int k j)) (h0 : j ≠ 0) (hw : k.wrap (i.tdiv j) = m) : DI P D w0 env l ⟨dst, .binOp .quo t x y t', ty, pos, after, g⟩ (.int k m) := .mk fun n a w E H => by
 subst hw; simp [execOp, E.eval hx, E.eval hy, eqGuard_quo, binOp_quo, Op.intDiv, h0]
theorem RE (hx : BQ env x = some (.int k i)) (hy : BQ env y = some (.int k j)) (h0 : j ≠ 0) (hw : i.tmod j = m) : DI P D w0 env l ⟨dst, .binOp .rem t x y t', ty, pos, after, g⟩ (.int k m) := .mk fun n a w E H => by
 subst hw; simp [execOp, E.eval hx, E.eval hy, eqGuard_rem, binOp_rem, Op.intDiv, h0]
theorem PX (hx : BQ env x = some (.int k i)) (hy : BQ env y = some (.int k' j)) (h0 : 0 ≤ j) (hw : k.wrap (i * 2 ^ (min j.toNat k.bits)) = m) : DI P D w0 env l ⟨dst, .binOp .shl t x y t', ty, pos, after, g⟩ (.int k m) := .mk fun n a w E H => by
 subst hw; simp [execOp, E.eval hx, E.eval hy, eqGuard_shl, binOp_shl, Op.shift, show ¬ j < 0 from by omega]
theorem JT (hx : BQ env x = some (.int k i)) (hy : BQ env y = some (.int k' j)) (h0 : 0 ≤ j) (hw : i.fdiv (2 ^ (min j.toNat k.bits)) = m) : DI P D w0 env l ⟨dst, .binOp .shr t x y t', ty, pos, after, g⟩ (.int k m) := .mk fun n a w E H => by
 subst hw; simp [execOp, E.eval hx, E.eval hy, eqGuard_shr, binOp_shr, Op.shift, show ¬ j < 0 from by omega]
theorem gO (hx : BQ env x = some (.int k i)) (hy : BQ env y = some (.int k j)) (hw : k.wrap (BitVec.ofInt k.bits i &&& BitVec.ofInt k.bits j).toNat = m) : DI P D w0 env l ⟨dst, .binOp .and t x y t', ty, pos, after, g⟩ (.int k m) := .mk fun n a w E H => by
 subst hw; simp [execOp, E.eval hx, E.eval hy, eqGuard_and, binOp_and, Op.intBits]
theorem SZ (hx : BQ env x = some (.int k i)) (hy : BQ env y = some (.int k j)) (hw : k.wrap (BitVec.ofInt k.bits i ||| BitVec.ofInt k.bits j).toNat = m) : DI P D w0 env l ⟨dst, .binOp .or t x y t', ty, pos, after, g⟩ (.int k m) := .mk fun n a w E H => by
 subst hw; simp [execOp, E.eval hx, E.eval hy, eqGuard_or, binOp_or, Op.intBits]
theorem nL (hx : BQ env x = some (.int k i)) (hy : BQ env y = some (.int k j)) (hw : k.wrap (BitVec.ofInt k.bits i &&& ~~~ BitVec.ofInt k.bits j).toNat = m) : DI P D w0 env l ⟨dst, .binOp .andNot t x y t', ty, pos, after, g⟩ (.int k m) := .mk fun n a w E H => by
 subst hw; simp [execOp, E.eval hx, E.eval hy, eqGuard_andNot, binOp_andNot, Op.intBits]
theorem B7 (hx : BQ env x = some (.int k i)) (hy : BQ env y = some (.int k j)) : DI P D w0 env l ⟨dst, .binOp .lss t x y t', ty, pos, after, g⟩ (.bool (decide (i < j))) := .mk fun n a w E H => by
 simp [execOp, E.eval hx, E.eval hy, eqGuard_lss, binOp_lss]
theorem LB (hx : BQ env x = some (.int k i)) (hy : BQ env y = some (.int k j)) : DI P D w0 env l ⟨dst, .binOp .leq t x y t', ty, pos, after, g⟩ (.bool (decide (i ≤ j))) := .mk fun n a w E H => by
 simp [execOp, E.eval hx, E.eval hy, eqGuard_leq, binOp_leq]
theorem DV (hx : BQ env x = some (.int k i)) (hy : BQ env y = some (.int k j)) : DI P D w0 env l ⟨dst, .binOp .gtr t x y t', ty, pos, after, g⟩ (.bool (decide (j < i))) := .mk fun n a w E H => by
 simp [execOp, E.eval hx, E.eval hy, eqGuard_gtr, binOp_gtr]
theorem GN (hx : BQ env x = some (.int k i)) (hy : BQ env y = some (.int k j)) : DI P D w0 env l ⟨dst, .binOp .geq t x y t', ty, pos, after, g⟩ (.bool (decide (j ≤ i))) := .mk fun n a w E H => by
 simp [execOp, E.eval hx, E.eval hy, eqGuard_geq, binOp_geq]
theorem CO (hx : BQ env x = some (.int k i)) (hy : BQ env y = some (.int k j)) : DI P D w0 env l ⟨dst, .binOp .eql t x y t', ty, pos, after, g⟩ (.bool (decide (i = j))) := .mk fun n a w E H => by
 simp [execOp, E.eval hx, E.eval hy, eqGuard_at_int, binOp_eql]; exact fN i j
theorem CG (hx : BQ env x = some (.int k i)) (hy : BQ env y = some (.int k j)) : DI P D w0 env l ⟨dst, .binOp .neq t x y t', ty, pos, after, g⟩ (.bool (decide (¬ i = j))) := .mk fun n a w E H => by
 simp [execOp, E.eval hx, E.eval hy, eqGuard_at_int, binOp_neq, bne]; exact fN i j
end
section
variable {x y : Operand} {t t' : TypeId}
theorem XD {s u : ByteArray} (hx : BQ env x = some (.string s)) (hy : BQ env y = some (.string u)) : DI P D w0 env l ⟨dst, .binOp .neq t x y t', ty, pos, after, g⟩ (.bool (decide (¬ s.toList = u.toList))) := .mk fun n a w E H => by
 simp [execOp, E.eval hx, E.eval hy, eqGuard_at_string, binOp, Op.stringOp, bne]; exact oL s.toList u.toList
theorem iH (d : Nat) {e : TypeId} [h : NJ P t e] (a : Option Addr) (w : World) : (Op.equalIn (d + 1) t (.pointer a) (.pointer none)).run P w = .ok a.isNone w := by
 cases a <;> simp [Op.equalIn, run_underlying h.out]
theorem X5 {e : TypeId} [h : NJ P t e] (a : Option Addr) (w : World) : (Op.equal t (.pointer a) (.pointer none)).run P w = .ok a.isNone w := iH 9999 a w
theorem IL {e : TypeId} [h : NJ P t e] {p : Option Addr} (hx : BQ env x = some (.pointer p)) (hy : BQ env y = some (.pointer none)) : DI P D w0 env l ⟨dst, .binOp .eql t x y t', ty, pos, after, g⟩ (.bool p.isNone) := .mk fun n a w E H => by
 simp [execOp, E.eval hx, E.eval hy, eqGuard_at_pointer, binOp, X5 (P := P) (t := t)]
theorem OW {e : TypeId} [h : NJ P t e] {p : Option Addr} (hx : BQ env x = some (.pointer p)) (hy : BQ env y = some (.pointer none)) : DI P D w0 env l ⟨dst, .binOp .neq t x y t', ty, pos, after, g⟩ (.bool (!p.isNone)) := .mk fun n a w E H => by
 simp [execOp, E.eval hx, E.eval hy, eqGuard_at_pointer, binOp, X5 (P := P) (t := t)]
theorem P0 {b : Bool} (hx : BQ env x = some (.bool b)) : DI P D w0 env l ⟨dst, .unOp .not t x, ty, pos, after, g⟩ (.bool (!b)) := .mk fun n a w E H => by
 simp [execOp, E.eval hx, Op.unary]
theorem eO {p : Prop} [Decidable p] (hx : BQ env x = some (.bool (decide p))) : DI P D w0 env l ⟨dst, .unOp .not t x, ty, pos, after, g⟩ (.bool (decide (¬ p))) := .mk fun n a w E H => by
 simp [execOp, E.eval hx, Op.unary]
theorem CD {src dt : TypeId} {d : TypeDesc} {k k' : IntKind} [h : RT P src d] [h' : ML P dt k'] {i m : Int} (hx : BQ env x = some (.int k i)) (hw : k'.wrap i = m) : DI P D w0 env l ⟨dst, .convert src dt x, ty, pos, after, g⟩ (.int k' m) := .mk fun n a w E H => by
 subst hw; simp [execOp, E.eval hx, convert, run_underlying h.out, run_underlying h'.out, Conv.intToInt]
theorem gG {t e : TypeId} [h : E6 P t e] {b : Option Addr} {n cap : Nat} (hx : BQ env x = some (.slice b n cap)) : DI P D w0 env l ⟨dst, .call ⟨.builtin .len, #[x], #[t]⟩, ty, pos, after, g⟩ (.int .i64 n) := .mk fun n' a w E H => by
 simp [execOp, resolve, invoke, builtin, E.eval hx, Builtin.len_, run_underlying h.out, goInt]
theorem XN {ts : Array TypeId} {k : IntKind} {i j m : Int} (hx : BQ env x = some (.int k i)) (hy : BQ env y = some (.int k j)) (hm : (if j < i then j else i) = m) : DI P D w0 env l ⟨dst, .call ⟨.builtin .min, #[x, y], ts⟩, ty, pos, after, g⟩ (.int k m) := .mk fun n' a w E H => by
 subst hm; simp [execOp, resolve, invoke, builtin, E.eval hx, E.eval hy, run_min_int2]
end
end
end CN

set_option linter.unusedVariables false
set_option linter.unusedSimpArgs false
namespace CN
open Go

def FH : List Value → Nat → List Value → List Value
 | cs, _, [] => cs
 | cs, o, v :: r => FH (cs.set o v) (o + 1) r
theorem NQ : ∀ (vs : List Value) (cs : List Value) (o : Nat), (FH cs o vs).length = cs.length
 | [], _, _ => rfl
 | v :: r, cs, o => by rw [FH, NQ r]; simp
theorem TX : ∀ (vs : List Value) (cs : List Value) (o : Nat), o + vs.length ≤ cs.length → FH cs o vs = cs.take o ++ vs ++ cs.drop (o + vs.length)
 | [], cs, o, _ => by simp [FH]
 | v :: r, cs, o, h => by
  simp only [List.length_cons] at h
  rw [FH, TX r _ _ J0]
  rw [List.take_set, List.drop_set_of_lt AA]
  have h1 : o < cs.length := by omega
  rw [List.take_succ_eq_append_getElem h1]
  rw [List.set_append_right _ _ J0]
  have h2 : o - (cs.take o).length = 0 := by simp; omega
  rw [h2]
  simp [List.append_assoc]
  congr 1
  omega
theorem L2 (a b c vs : List Value) (o : Nat) (ho : o = a.length) (h : vs.length = b.length) : FH (a ++ b ++ c) o vs = a ++ vs ++ c := by
 subst ho
 rw [TX _ _ _ J0]
 simp [List.append_assoc, List.drop_append, h]
theorem AH.setCells {D : Nat → Prop} {w0 : World} {l : List AQ} {b : Nat} {t : TypeId} : ∀ (vs : List Value) (o : Nat) {w : World} {cs : List Value}, AH D w0 w (AI b t cs :: l) → AH D w0 (w.setCells b o vs) (AI b t (FH cs o vs) :: l)
 | [], _, _, _, H => H
 | v :: r, o, w, cs, H => AH.setCells r (o + 1) (H.setCell o v)
theorem OM {P : Program} {D : Nat → Prop} {w0 w : World} {l : List AQ} {b : Nat} {t : TypeId} {cs : List Value} (H : AH D w0 w (AI b t cs :: l)) (o : Nat) (vs : List Value) (hl : o + vs.length ≤ cs.length) (h1 : ∀ v ∈ vs, v.oneCell' = true) :
  (storeCells ⟨b, o, none⟩ vs).run P w = .ok () (w.setCells b o vs) := by
 have := run_storeCells_cells (P := P) b o vs 0 w (fun j hj => by rw [Nat.add_zero, H.cell]; simp; omega) (fun j hj => by rw [Nat.add_zero]; exact H.frozen _ AA) h1
 simpa using this

def ab (A : Option Addr) : Nat := (A.map (·.block)).getD 0
def ao (A : Option Addr) : Nat := (A.map (·.off)).getD 0
@[simp] theorem UJ (b o : Nat) (s : Option Nat) : ab (some ⟨b, o, s⟩) = b := rfl
@[simp] theorem UL (b o : Nat) (s : Option Nat) : ao (some ⟨b, o, s⟩) = o := rfl
def CU (A : Option Addr) : Prop := A = some ⟨ab A, ao A, none⟩
def J5 (A : Option Addr) (cs : List Value) : AQ := fun h => cs = [] ∨ ∃ b off t cs0 fr, A = some ⟨b, off, none⟩ ∧ h b = some (.cells cs0 t fr) ∧ ∀ i v, cs[i]? = some v → cs0[off + i]? = some v
def row (A : Option Addr) (t : TypeId) (sz n cap : Nat) (cs : List Value) : AQ := fun h => cs.length = n * sz ∧ n ≤ cap ∧ cap ≤ 9223372036854775807 ∧ ((A = none ∧ cap = 0) ∨ ∃ b pre rest, A = some ⟨b, pre.length, none⟩ ∧ (cap - n) * sz ≤ rest.length ∧ AI b t (pre ++ cs ++ rest) h)
theorem rH (t : TypeId) (sz : Nat) : ∀ h, row none t sz 0 0 [] h := fun h => ⟨by simp, Nat.le_refl _, Nat.zero_le _, .inl ⟨rfl, rfl⟩⟩
theorem SS {A : Option Addr} {t : TypeId} {sz n cap : Nat} {cs : List Value} : OI (row A t sz n cap cs) (J5 A cs) := by
 rintro h ⟨h1, h2, _, ⟨rfl, h3⟩ | ⟨b, pre, rest, rfl, h3, fr, h4, _⟩⟩
 ·left
  have : n = 0 := by omega
  subst this
  exact List.eq_nil_of_length_eq_zero (by simpa using h1)
 ·refine .inr ⟨b, pre.length, t, _, fr, rfl, h4, fun i v hv => ?_⟩
  have hi : i < cs.length := by
   rcases Nat.lt_or_ge i cs.length with h | h
   ·exact h
   ·simp [List.getElem?_eq_none h] at hv
  simp only [List.getElem?_toArray]
  rw [List.append_assoc, List.getElem?_append_right AA, Nat.add_sub_cancel_left, List.getElem?_append_left hi]
  exact hv
theorem kP {b : Nat} {t : TypeId} {sz n : Nat} {cs : List Value} (h : cs.length = n * sz) (hn : n ≤ 9223372036854775807) : OI (AI b t cs) (row (some ⟨b, 0, none⟩) t sz n n cs) := by
 rintro h' hb
 exact ⟨h, Nat.le_refl _, hn, .inr ⟨b, [], [], rfl, by simp, by simpa using hb⟩⟩

structure CS (D : Nat → Prop) (w0 : World) (A : Option Addr) (cs : List Value) : Prop where
 CU : cs ≠ [] → CU A
 cells : cs ≠ [] → UC D w0 (ab A) (ao A) cs
theorem CS.RD {D : Nat → Prop} {w0 : World} {A : Option Addr} {cs : List Value} (h : Old D w0 (J5 A cs)) : CS D w0 A cs := by
 obtain ⟨x, hx, h | ⟨b, off, t, cs0, fr, rfl, h2, h3⟩⟩ := h
 ·exact ⟨fun k => absurd h k, fun k => absurd h k⟩
 ·obtain ⟨k1, k2⟩ := hx b _ h2
  refine ⟨fun _ => rfl, fun _ => ⟨k2, (Array.getElem?_eq_some_iff.1 k1).1, fun i v hv => ?_⟩⟩
  simp only [UJ, UL, World.cell?, k1, Option.isSome_none, Bool.false_eq_true, if_false]
  exact h3 i v hv
structure BB (D : Nat → Prop) (w0 : World) (l : List AQ) (A : Option Addr) (cs : List Value) : Prop where
 CU : cs ≠ [] → CU A
 cells : cs ≠ [] → DZ D w0 l (ab A) (ao A) cs
theorem BB.old {D : Nat → Prop} {w0 : World} {l : List AQ} {A : Option Addr} {cs : List Value} (h : CS D w0 A cs) : BB D w0 l A cs := ⟨h.CU, fun k => DZ.old (h.cells k)⟩
theorem BB.nil {D : Nat → Prop} {w0 : World} {l : List AQ} {A : Option Addr} : BB D w0 l A [] := ⟨fun k => absurd rfl k, fun k => absurd rfl k⟩
theorem AH.rd {D : Nat → Prop} {w0 w : World} {l : List AQ} {A : Option Addr} {cs : List Value} (H : AH D w0 w (J5 A cs :: l)) (hne : cs ≠ []) : CN.CU A ∧ ∀ i v, cs[i]? = some v → w.cell? ⟨ab A, ao A + i, none⟩ = some v := by
 obtain ⟨h, a, h1, h2, p, _, _, s1, _⟩ := H.own
 rcases p with p | ⟨b, off, t, cs0, fr, rfl, p2, p3⟩
 ·exact absurd p hne
 ·refine ⟨rfl, fun i v hv => ?_⟩
  simp only [UJ, UL, World.cell?, (a b _ (s1 _ _ p2)).1, Option.isSome_none, Bool.false_eq_true, if_false]
  exact p3 i v hv
theorem BB.XW {D : Nat → Prop} {w0 : World} {l r : List AQ} {X : AQ} {A : Option Addr} {cs : List Value} (hp : l.Perm (X :: r)) (hi : OI X (J5 A cs)) (hA : cs ≠ [] → CN.CU A) : BB D w0 l A cs :=
 ⟨hA, fun k w H => ((H.AK (AD.perm hp)).AK (AD.head hi)).rd k |>.2⟩
theorem BB.row {D : Nat → Prop} {w0 : World} {l r : List AQ} {A : Option Addr} {t : TypeId} {sz n cap : Nat} {cs : List Value} [h : GP l (row A t sz n cap cs) r] (hA : cs ≠ [] → CN.CU A) : BB D w0 l A cs := BB.XW h.out SS hA
theorem BB.AI {D : Nat → Prop} {w0 : World} {l : List AQ} {b : Nat} {t : TypeId} {cs : List Value} {r : List AQ} [h : FR l b t cs r] : BB D w0 l (some ⟨b, 0, none⟩) cs := ⟨fun _ => rfl, fun _ => show DZ D w0 l b 0 cs from DZ.AI (fun i v hv => by simpa using hv)⟩
theorem BB.cell {D : Nat → Prop} {w0 : World} {l : List AQ} {A : Option Addr} {cs : List Value} (h : BB D w0 l A cs) {i : Nat} {v : Value} (hv : cs[i]? = some v) : EH D w0 l (ab A) (ao A + i) v := (h.cells (by rintro rfl; simp at hv)).cell hv

section
variable {P : Program} {Q : Post} {D : Nat → Prop} {w0 : World} {n : Nat} {env : BH} {l : List AQ} {ops : Array Oper}
theorem HL.fact {r : List Oper} {p : Prop} (h : ∀ w, AH D w0 w l → p) (k : p → HL P ops Q D w0 n env l r) : HL P ops Q D w0 n env l r := .mk fun a w S => (k (h w S.own)).run a w S
theorem HC.fact {c : Code} {p : Prop} (h : ∀ w, AH D w0 w l → p) (k : p → HC P Q D w0 n env l c) : HC P Q D w0 n env l c := .mk fun a w S => (k (h w S.own)).run a w S
theorem AH.qE {A : Option Addr} {t : TypeId} {sz m cap : Nat} {cs : List Value} {r : List AQ} [h : GP l (row A t sz m cap cs) r] {w : World} (H : AH D w0 w l) : cs.length = m * sz ∧ m ≤ cap ∧ cap ≤ 9223372036854775807 ∧ (cs ≠ [] → CN.CU A) := by
 obtain ⟨x, a, h1, h2, p, _⟩ := (H.AK (AD.perm h.out)).own
 refine ⟨p.1, p.2.1, p.2.2.1, fun hne => ?_⟩
 rcases SS _ p with e | ⟨b, off, _, _, _, rfl, _⟩
 ·exact absurd e hne
 ·rfl
end

section
variable {P : Program} {D : Nat → Prop} {w0 : World} {env : BH} {l : List AQ} {dst : Option Tmp} {ty : TypeId} {pos : String} {after : Array Edge} {g : Option (Nat × Bool)}
theorem CZ {t e : TypeId} {s bb : Nat} {z : List Value} [h : E6 P t e] [hs : CX P e s bb z] {x i : Operand} {A : Option Addr} {n cap : Nat} {k : IntKind} {j : Int} (hx : BQ env x = some (.slice A n cap)) (hA : CU A) (hi : BQ env i = some (.int k j)) (j' : Nat) (hj : j = (j' : Int)) (hn : j' < n) :
  DI P D w0 env l ⟨dst, .indexAddr t x i, ty, pos, after, g⟩ (.pointer (some ⟨ab A, ao A + j' * s, none⟩)) := by
 rw [hA] at hx
 exact fW hx hi j' hj hn
theorem lK {t e : TypeId} {s bb : Nat} {z : List Value} [h : E6 P t e] [hs : CX P e s bb z] (A : Option Addr) (n cap lo hi : Nat) (vl vh : Option Value) (hl : (vl = none ∧ lo = 0) ∨ ∃ k, vl = some (.int k lo)) (hh : (vh = none ∧ hi = n) ∨ ∃ k, vh = some (.int k hi)) (h1 : lo ≤ hi) (h2 : hi ≤ cap) (w : World) :
  (Instr.sliceAt t (.slice A n cap) vl vh none).run P w = .ok (.slice (if cap = lo then A else A.map (·.add (lo * s))) (hi - lo) (cap - lo)) w := by
 have a1 : (0 : Int) ≤ (lo : Int) ∧ (lo : Int) ≤ (hi : Int) := by omega
 have a2 : (0 : Int) ≤ (hi : Int) ∧ (hi : Int) ≤ (cap : Int) := by omega
 rcases hl with ⟨rfl, rfl⟩ | ⟨k, rfl⟩ <;> rcases hh with ⟨rfl, rfl⟩ | ⟨k', rfl⟩ <;>
  simp [Instr.sliceAt, run_underlying h.out, Instr.slice, Instr.sliceBounds, Instr.sliceBound, asIntOf, run_sizeOf (P := P) (t := e), h1, h2]
theorem FE {t e : TypeId} {s bb : Nat} {z : List Value} [h : E6 P t e] [hs : CX P e s bb z] {x : Operand} {ol oh : Option Operand} {A : Option Addr} {n cap : Nat} (hx : BQ env x = some (.slice A n cap)) (lo hi : Nat)
  (hl : (ol = none ∧ lo = 0) ∨ ∃ o k, ol = some o ∧ BQ env o = some (.int k lo)) (hh : (oh = none ∧ hi = n) ∨ ∃ o k, oh = some o ∧ BQ env o = some (.int k hi)) (h1 : lo ≤ hi) (h2 : hi ≤ cap) :
  DI P D w0 env l ⟨dst, .slice t x ol oh none, ty, pos, after, g⟩ (.slice (if cap = lo then A else A.map (·.add (lo * s))) (hi - lo) (cap - lo)) := .mk fun n' a w E H => by
 have k1 : (ol.map a.eval = none ∧ lo = 0) ∨ ∃ k, ol.map a.eval = some (.int k lo) := by
  rcases hl with ⟨rfl, rfl⟩ | ⟨o, k, rfl, h⟩
  ·exact .inl ⟨rfl, rfl⟩
  ·exact .inr ⟨k, by simp [E.eval h]⟩
 have k2 : (oh.map a.eval = none ∧ hi = n) ∨ ∃ k, oh.map a.eval = some (.int k hi) := by
  rcases hh with ⟨rfl, rfl⟩ | ⟨o, k, rfl, h⟩
  ·exact .inl ⟨rfl, rfl⟩
  ·exact .inr ⟨k, by simp [E.eval h]⟩
 simp [execOp, E.eval hx, lK (P := P) (t := t) (e := e) A n cap lo hi _ _ k1 k2 h1 h2 w]
theorem kT {t e : TypeId} {m s bb : Nat} {z : List Value} [h : QB P t m e] [hs : CX P e s bb z] (b off lo hi : Nat) (vl vh : Option Value) (hl : (vl = none ∧ lo = 0) ∨ ∃ k, vl = some (.int k lo)) (hh : (vh = none ∧ hi = m) ∨ ∃ k, vh = some (.int k hi)) (h1 : lo ≤ hi) (h2 : hi ≤ m) (w : World) :
  (Instr.sliceAt t (.pointer (some ⟨b, off, none⟩)) vl vh none).run P w = .ok (.slice (some (if m = lo then ⟨b, off, none⟩ else ⟨b, off + lo * s, none⟩)) (hi - lo) (m - lo)) w := by
 have a1 : (0 : Int) ≤ (lo : Int) ∧ (lo : Int) ≤ (hi : Int) := by omega
 have a2 : (0 : Int) ≤ (hi : Int) ∧ (hi : Int) ≤ (m : Int) := by omega
 rcases hl with ⟨rfl, rfl⟩ | ⟨k, rfl⟩ <;> rcases hh with ⟨rfl, rfl⟩ | ⟨k', rfl⟩ <;>
  simp [Instr.sliceAt, Instr.sureAddr, run_underlying h.out, Instr.slice, Instr.sliceBounds, Instr.sliceBound, asIntOf, run_sizeOf (P := P) (t := e), h1, h2, L5]
theorem NA {t e : TypeId} {m s bb : Nat} {z : List Value} [h : QB P t m e] [hs : CX P e s bb z] {x : Operand} {ol oh : Option Operand} {b off : Nat} (hx : BQ env x = some (.pointer (some ⟨b, off, none⟩))) (lo hi : Nat)
  (hl : (ol = none ∧ lo = 0) ∨ ∃ o k, ol = some o ∧ BQ env o = some (.int k lo)) (hh : (oh = none ∧ hi = m) ∨ ∃ o k, oh = some o ∧ BQ env o = some (.int k hi)) (h1 : lo ≤ hi) (h2 : hi ≤ m) (h3 : lo < m) :
  DI P D w0 env l ⟨dst, .slice t x ol oh none, ty, pos, after, g⟩ (.slice (some ⟨b, off + lo * s, none⟩) (hi - lo) (m - lo)) := .mk fun n' a w E H => by
 have k1 : (ol.map a.eval = none ∧ lo = 0) ∨ ∃ k, ol.map a.eval = some (.int k lo) := by
  rcases hl with ⟨rfl, rfl⟩ | ⟨o, k, rfl, h⟩
  ·exact .inl ⟨rfl, rfl⟩
  ·exact .inr ⟨k, by simp [E.eval h]⟩
 have k2 : (oh.map a.eval = none ∧ hi = m) ∨ ∃ k, oh.map a.eval = some (.int k hi) := by
  rcases hh with ⟨rfl, rfl⟩ | ⟨o, k, rfl, h⟩
  ·exact .inl ⟨rfl, rfl⟩
  ·exact .inr ⟨k, by simp [E.eval h]⟩
 have := kT (P := P) (t := t) (e := e) b off lo hi _ _ k1 k2 h1 h2 w
 rw [if_neg AA] at this
 simp [execOp, E.eval hx, this]

def AU (x : UInt8) : Value := .int .u8 (x.toNat : Int)
def QE (xs : List UInt8) : Value := .string ⟨xs.toArray⟩
theorem QX {src dt e : TypeId} [h : E6 P src e] [he : ML P e .u8] [hd : gY P dt] {x : Operand} {A : Option Addr} {xs : List UInt8} {cap : Nat} (hx : BQ env x = some (.slice A xs.length cap)) (hs : BB D w0 l A (xs.map AU)) :
  DI P D w0 env l ⟨dst, .convert src dt x, ty, pos, after, g⟩ (QE xs) := .mk fun n' a w E H => by
 have hh := run_convert_bytes_string (P := P) w src dt e A xs.length cap h.out he.out hd.out
 have hrun : (convert src dt (.slice A xs.length cap)).run P w = .ok (QE xs) w := by
  cases xs with
  | nil =>
   cases A with
   | none => rw [hh]; simp [Conv.bytesToString, QE]; rfl
   | some ad => rw [hh]; simp [Conv.bytesToString, QE, loadCells, loadCellsFrom]; rfl
  | cons y ys =>
   have hA := hs.CU (by simp)
   have hc := hs.cells (by simp) w H
   generalize hxs : (y :: ys) = xs at *
   rw [hA]
   have := run_convert_bytes_arg (P := P) w src e h.out he.out (ab A) (ao A) xs.length cap (xs.map fun q => (q.toNat : Int)) (by simp) (fun i hi => by
    rw [hc i (AU (xs[i])) (by simp [List.getElem?_eq_getElem hi])]
    simp [AU, List.getD_eq_getElem?_getD, List.getElem?_eq_getElem hi, List.getElem?_map]) dt hd.out
   rw [this]
   congr 1
   simp [QE, strOfNums, List.map_map, Function.comp_def]
 simp [execOp, E.eval hx, hrun]

theorem B9 {e : TypeId} {s bb : Nat} {z : List Value} [h : CX P e s bb z] : FA P D w0 env l ⟨dst, .alloc e, ty, pos, after, g⟩ (fun b : Nat => .pointer (some ⟨b, 0, none⟩)) (fun b => AI b e z :: l) := .mk fun n a w E H => by
 obtain ⟨v, hv, hz⟩ := PR (P := P) (t := e) w
 refine ⟨w.heap.size, w.alloc (.cells z.toArray e), .inl ?_, H.alloc e z⟩
 subst hz
 simp [execOp, Instr.alloc, hv, newVar, newRow]
theorem gI {e : TypeId} {x : Operand} {v : Value} (hx : BQ env x = some v) : FA P D w0 env l ⟨dst, .box e x, ty, pos, after, g⟩ (fun b : Nat => .pointer (some ⟨b, 0, none⟩)) (fun b => AI b e v.cells.toList :: l) := .mk fun n a w E H => by
 refine ⟨w.heap.size, w.alloc (.cells v.cells.toList.toArray e), .inl ?_, H.alloc e _⟩
 simp [execOp, E.eval hx, Instr.box, newVar, newRow]
theorem dF {t et : TypeId} {bb : Nat} {z : List Value} [h : CX P t 1 bb z] {x y : Operand} {b off : Nat} {cs : List Value} {r : List AQ} {v : Value} (hx : BQ env x = some (.pointer (some ⟨b, off, none⟩))) (hy : BQ env y = some v) [hp : FR l b et cs r] (ho : off < cs.length) (h1 : v.oneCell' = true) :
  FA P D w0 env l ⟨dst, .store t x y, ty, pos, after, g⟩ (fun _ : Unit => undef) (fun _ => AI b et (cs.set off v) :: r) := .mk fun n a w E H => by
 have H' := H.AK (AD.perm hp.out)
 have hst := OM (P := P) H' off [v] J0 (by simp [h1])
 refine ⟨(), w.setCells b off [v], .inr ⟨?_, rfl⟩, AH.setCells [v] off H'⟩
 have hcs : v.cells = #[v] := by cases v <;> first | rfl | (simp [Value.oneCell'] at h1)
 simp [execOp, E.eval hx, E.eval hy, Instr.storeAt, Instr.sureAddr, storeVar, hcs, run_sizeOf (P := P) (t := t), hst]
theorem WI {t et : TypeId} {s bb : Nat} {z : List Value} [h : CX P t s bb z] {x y : Operand} {b off : Nat} {cs vs : List Value} {r : List AQ} (hx : BQ env x = some (.pointer (some ⟨b, off, none⟩))) (hy : BQ env y = some (.agg vs.toArray)) [hp : FR l b et cs r] (hl : vs.length = s) (ho : off + vs.length ≤ cs.length) (h1 : ∀ v ∈ vs, v.oneCell' = true) :
  FA P D w0 env l ⟨dst, .store t x y, ty, pos, after, g⟩ (fun _ : Unit => undef) (fun _ => AI b et (FH cs off vs) :: r) := .mk fun n a w E H => by
 have H' := H.AK (AD.perm hp.out)
 have hst := OM (P := P) H' off vs ho h1
 refine ⟨(), w.setCells b off vs, .inr ⟨?_, rfl⟩, AH.setCells vs off H'⟩
 simp [execOp, E.eval hx, E.eval hy, Instr.storeAt, Instr.sureAddr, storeVar, Value.cells, hl, run_sizeOf (P := P) (t := t), hst]

def KI (pl : Nat → Option (Nat × Nat)) : List Value → List (Nat × Value) → Option (List Value)
 | cs, [] => some cs
 | cs, (i, v) :: r => match pl i with
  | none => none
  | some (off, sz) => if v.cells.size = sz ∧ off + v.cells.size ≤ cs.length then KI pl (FH cs off v.cells.toList) r else none
theorem YE : ∀ (vs : List Value) (k off : Nat) (cs : List Value), (vs.zipIdx k).foldl (fun c (p : Value × Nat) => c.setIfInBounds (off + p.2) p.1) cs.toArray = (FH cs (off + k) vs).toArray
 | [], _, _, _ => rfl
 | v :: r, k, off, cs => by
  simp only [List.zipIdx_cons, List.foldl_cons, FH]
  rw [show (cs.toArray.setIfInBounds (off + k) v) = (cs.set (off + k) v).toArray from by simp]
  rw [YE r (k + 1) off]
  rfl
theorem fill_eq (pl : Nat → Option (Nat × Nat)) : ∀ (parts : List (Nat × Value)) (cs res : List Value), KI pl cs parts = some res → Instr.fill pl cs.toArray parts = some res.toArray
 | [], cs, res, h => by simp only [KI, Option.some.injEq] at h; subst h; rfl
 | (i, v) :: r, cs, res, h => by
  simp only [KI] at h
  simp only [Instr.fill]
  cases hp : pl i with
  | none => rw [hp] at h; cases h
  | some p =>
   obtain ⟨off, sz⟩ := p
   rw [hp] at h
   simp only at h ⊢
   split at h
   ·rename_i hh
    have h1 : ¬ (v.cells.size ≠ sz || decide (off + v.cells.size > cs.toArray.size)) = true := by
     simp only [Bool.or_eq_true, decide_eq_true_eq, List.size_toArray, not_or]
     omega
    rw [if_neg h1]
    have e := YE v.cells.toList 0 off cs
    rw [Nat.add_zero] at e
    have e2 : Array.foldl (fun cs (x : Value × Nat) => cs.setIfInBounds (off + x.2) x.1) cs.toArray v.cells.zipIdx = (FH cs off v.cells.toList).toArray := by
     rw [← Array.foldl_toList, Array.toList_zipIdx]
     exact e
    rw [show (Array.foldl (fun cs x => match x with | (c, j) => cs.setIfInBounds (off + j) c) cs.toArray v.cells.zipIdx) = (FH cs off v.cells.toList).toArray from e2]
    exact fill_eq pl r _ res h
   ·cases h
def cI (P : Program) (t : TypeId) : Option (List (Nat × Nat)) :=
 match P.underlying t with
 | some (.struct fs) => fs.toList.mapM fun f => (P.info? f.type).map fun i => (f.offset, i.size)
 | _ => none
class G6 (P : Program) (t : TypeId) (pl : outParam (List (Nat × Nat))) : Prop where out : cI P t = some pl
theorem run_places {P : Program} (w : World) : ∀ (fs : List Field) (pl : List (Nat × Nat)), (fs.mapM fun f => (P.info? f.type).map fun i => (f.offset, i.size)) = some pl → (fs.mapM fun f => (do pure (f.offset, ← Go.sizeOf f.type) : Sem (Nat × Nat))).run P w = .ok pl w
 | [], pl, h => by simp at h; subst h; rfl
 | f :: r, pl, h => by
  simp only [List.mapM_cons, Option.bind_eq_bind, Option.pure_def, Option.bind_eq_some_iff, Option.some.injEq] at h
  obtain ⟨p, hp, q, hq, rfl⟩ := h
  obtain ⟨i, hi, rfl⟩ := Option.map_eq_some_iff.1 hp
  have ih := run_places w r q hq
  simp only [List.mapM_cons, Sem.run_bind, Go.sizeOf, typeInfo, run_program, Result.andThen_ok, hi, Sem.run_pure]
  simp only [Sem.run_bind, Go.sizeOf, typeInfo, run_program, Result.andThen_ok, Sem.run_pure] at ih
  rw [ih]
  rfl
theorem T0 {t : TypeId} {s bb : Nat} {z : List Value} {pl : List (Nat × Nat)} [h : G6 P t pl] [hs : CX P t s bb z] {parts : List (Nat × Operand)} {vs : List (Nat × Value)} {res : List Value} (hv : MZ env parts = some vs) (hf : KI (fun i => pl[i]?) z vs = some res) :
  DI P D w0 env l ⟨dst, .build t parts.toArray, ty, pos, after, g⟩ (.agg res.toArray) := .mk fun n a w E H => by
 have h := h.out
 unfold cI at h
 split at h
 ·rename_i fs hu
  obtain ⟨v, hz, hz2⟩ := PR (P := P) (t := t) w
  have hp := run_places (P := P) w fs.toList pl h
  have hp' : (fs.mapM fun f => (do pure (f.offset, ← Go.sizeOf f.type) : Sem (Nat × Nat))).run P w = .ok pl.toArray w := by
   rw [Array.mapM_eq_mapM_toList, Sem.run_map, hp]
   rfl
  have hfill := fill_eq (fun i => pl[i]?) vs z res hf
  have e1 : (parts.map fun p => (p.1, a.eval p.2)) = vs := E.U0 hv
  subst hz2
  simp only [execOp, Instr.build, Sem.run_bind, hz, Result.andThen_ok, run_underlying hu, hp']
  simp only [List.getElem?_toArray, Array.toArray_toList] at hfill ⊢
  simp [e1, hfill]
 ·cases h
theorem aD {t e : TypeId} {m s bb es eb : Nat} {z ez : List Value} [h : QB P t m e] [hs : CX P t s bb z] [he : CX P e es eb ez] {parts : List (Nat × Operand)} {vs : List (Nat × Value)} {res : List Value} (hv : MZ env parts = some vs) (hf : KI (fun i => some (i * es, es)) z vs = some res) :
  DI P D w0 env l ⟨dst, .build t parts.toArray, ty, pos, after, g⟩ (.agg res.toArray) := .mk fun n a w E H => by
 obtain ⟨v, hz, hz2⟩ := PR (P := P) (t := t) w
 have hfill := fill_eq (fun i => some (i * es, es)) vs z res hf
 have e1 : (parts.map fun p => (p.1, a.eval p.2)) = vs := E.U0 hv
 subst hz2
 simp only [Array.toArray_toList] at hfill
 simp [execOp, Instr.build, hz, run_underlying h.out, run_sizeOf (P := P) (t := e), e1, hfill]
def DW (z : List Value) (n : Nat) : List Value := (List.replicate n z).flatten
theorem T8 (z : Array Value) (m : Nat) : ((Array.range (m * z.size)).map fun i => z[i % z.size]!).toList = DW z.toList m := by
 rcases Nat.eq_zero_or_pos z.size with h0 | h0
 ·have : z = #[] := Array.eq_empty_of_size_eq_zero h0
  subst this
  simp [DW]
 ·unfold DW
  induction m with
  | zero => simp
  | succ m ih =>
   rw [List.replicate_succ', List.flatten_append, List.flatten_singleton, ← ih]
   apply List.ext_getElem?
   intro i
   simp only [Array.toList_map, Array.toList_range, List.getElem?_map]
   rcases Nat.lt_or_ge i (m * z.size) with h | h
   ·rw [List.getElem?_append_left (by simp; exact h)]
    simp [List.getElem?_range h, List.getElem?_range (show i < (m + 1) * z.size by rw [Nat.add_mul]; omega)]
   ·rw [List.getElem?_append_right (by simp; exact h)]
    simp only [List.length_map, List.length_range]
    rcases Nat.lt_or_ge i ((m + 1) * z.size) with h2 | h2
    ·have h3 : i - m * z.size < z.size := by rw [Nat.add_mul] at h2; omega
     have h4 : i % z.size = i - m * z.size := by
      have : i = (i - m * z.size) + z.size * m := by rw [Nat.mul_comm z.size m]; omega
      rw [this, Nat.add_mul_mod_self_left, Nat.mod_eq_of_lt h3]
      rw [Nat.mul_comm z.size m]; omega
     simp [List.getElem?_range h2, h4, h3]
    ·have h3 : z.size ≤ i - m * z.size := by rw [Nat.add_mul] at h2; omega
     rw [List.getElem?_eq_none (by simpa using h2), List.getElem?_eq_none (by simpa using h3)]
     rfl
theorem HG {t e : TypeId} {s bb m : Nat} {z : List Value} [h : E6 P t e] [hs : CX P e s bb z] {parts : List (Nat × Operand)} {vs : List (Nat × Value)} {res : List Value} (hv : MZ env parts = some vs) (hm : Nat.ble (m * s) 16777216 = true) (hf : KI (fun i => some (i * s, s)) (DW z m) vs = some res) :
  FA P D w0 env l ⟨dst, .buildSlice t m parts.toArray, ty, pos, after, g⟩ (fun b : Nat => .slice (some ⟨b, 0, none⟩) m m) (fun b => AI b e res :: l) := .mk fun n a w E H => by
 have hz := hs.len
 obtain ⟨v, hz1, hz2⟩ := PR (P := P) (t := e) w
 have e1 : (parts.map fun p => (p.1, a.eval p.2)) = vs := E.U0 hv
 have hm' : m * s ≤ 16777216 := by simpa using hm
 refine ⟨w.heap.size, w.alloc (.cells res.toArray e), .inl ?_, H.alloc e res⟩
 have hfill := fill_eq (fun i => some (i * s, s)) vs _ res hf
 have hsz : v.cells.size = s := by rw [← Array.length_toList, hz2, hz]
 by_cases h0 : m * s = 0
 ·have hzz : DW z m = [] := by
   rcases Nat.mul_eq_zero.1 h0 with h | h
   ·simp [DW, h]
   ·have : z = [] := List.eq_nil_of_length_eq_zero AA
    simp [DW, this]
  rw [hzz] at hfill
  have hgt : ¬ (m * s > 2 ^ 24) := by omega
  simp only [execOp, Instr.buildSlice, Sem.run_bind, run_underlying h.out, Result.andThen_ok, run_sizeOf (P := P) (t := e)]
  rw [if_neg hgt, if_pos h0]
  have hr0 : ∀ f : Nat → Value, Array.map f (Array.range (m * s)) = #[] := fun f => by rw [h0]; apply Array.ext'; simp
  simp only [hr0, Sem.run_pure, Result.andThen_ok]
  simp [e1, hfill, newRow]
 ·have hzz := T8 v.cells m
  rw [hz2] at hzz
  have hgt : ¬ (m * s > 2 ^ 24) := by omega
  simp only [execOp, Instr.buildSlice, Sem.run_bind, run_underlying h.out, Result.andThen_ok, run_sizeOf (P := P) (t := e)]
  rw [if_neg hgt, if_neg h0]
  have hz3 : (Array.range (m * s)).map (fun i => v.cells[i % v.cells.size]!) = (DW z m).toArray := by
   apply Array.ext'
   rw [← hzz, hsz]
  simp [hz1, e1, hz3, hfill, newRow]
end
end CN

set_option linter.unusedVariables false
set_option linter.unusedSimpArgs false
namespace CN
open Go

theorem PA (z : Array Value) (n : Nat) : (Builtin.zeroCells z n).toList = DW z.toList n := T8 z n
theorem MH (z : List Value) (n : Nat) : (DW z n).length = n * z.length := by
 simp [DW, List.length_flatten, List.map_replicate, List.sum_replicate_nat]

section
variable {P : Program} {D : Nat → Prop} {w0 : World} {env : BH} {l : List AQ} {dst : Option Tmp} {ty : TypeId} {pos : String} {after : Array Edge} {g : Option (Nat × Bool)}

theorem TB {B : Option Addr} {news : List Value} {m s capB : Nat} {w : World} (hl : news.length = m * s) (hA : news ≠ [] → CU B) (hc : news ≠ [] → ∀ i v, news[i]? = some v → w.cell? ⟨ab B, ao B + i, none⟩ = some v) :
  (Builtin.firstCells s m (.slice B m capB)).run P w = .ok news.toArray w := by
 by_cases hne : news = []
 ·subst hne
  have h0 : m * s = 0 := by simpa using hl.symm
  cases B with
  | none => simp [Builtin.firstCells]
  | some a => simp [Builtin.firstCells, loadCells, h0, loadCellsFrom]
 ·have h1 := hA hne
  rw [h1]
  exact run_firstCells_some w s m ⟨ab B, ao B, none⟩ m capB news hl (fun j v hj => by rw [L5]; exact hc hne j v hj)

theorem mC {t e : TypeId} {s bb : Nat} {z : List Value} [h : E6 P t e] [hs : CX P e s bb z] {x y : Operand} {A B : Option Addr} {n cap m capB : Nat} {cs news : List Value} {r : List AQ}
  (hx : BQ env x = some (.slice A n cap)) (hy : BQ env y = some (.slice B m capB)) [hp : GP l (row A e s n cap cs) r] (hsrc : BB D w0 l B news) (hm : news.length = m * s) (h1 : ∀ v ∈ news, v.oneCell' = true) (hb0 : 0 < bb) (hb : (n + m) * bb ≤ 140737488355328) :
  FA P D w0 env l ⟨dst, .call ⟨.builtin .append, #[x, y], #[t, t]⟩, ty, pos, after, g⟩ (fun p : Option Addr × Nat => .slice p.1 (n + m) p.2) (fun p => row p.1 e s (n + m) p.2 (cs ++ news) :: r) := .mk fun n' a w E H => by
 have hz := hs.len
 have H' := H.AK (AD.perm hp.out)
 have hsrcA := hsrc.CU
 have hsrcC := fun k => hsrc.cells k w H
 -- the run's value
 suffices hrun : ∃ p : Option Addr × Nat, ∃ w', (Builtin.append_ #[t, t] ty #[.slice A n cap, .slice B m capB]).run P w = .ok (.slice p.1 (n + m) p.2) w' ∧ AH D w0 w' (row p.1 e s (n + m) p.2 (cs ++ news) :: r) by
  obtain ⟨p, w', hr, hO⟩ := hrun
  refine ⟨p, w', .inl ?_, hO⟩
  simp [execOp, resolve, invoke, builtin, E.eval hx, E.eval hy, hr]
 obtain ⟨i, hi, hi1, hi2, zv, hi3, hi4⟩ := PO (P := P) (t := e)
 obtain ⟨hh, ha, h2, h3, ⟨q1, q2, qm, q3⟩, q4, q5, q6, q7⟩ := H'.own
 have hnewlen : (cs ++ news).length = (n + m) * s := by rw [List.length_append, q1, hm, Nat.add_mul]
 have hfn : ∀ w' : World, w'.heap = w.heap → (Builtin.firstCells s m (.slice B m capB)).run P w' = .ok news.toArray w' := fun w' hw' => TB hm hsrcA (fun k i v hi => by
  have := hsrcC k i v hi
  unfold World.cell? at this ⊢
  rw [hw']; exact this)
 have hneed : n + m ≤ 140737488355328 := Nat.le_trans (Nat.le_mul_of_pos_right _ hb0) hb
 by_cases hcap : n + m ≤ cap
 ·rcases q3 with ⟨rfl, rfl⟩ | ⟨b, pre, rest, rfl, q8, q9⟩
  ·have hn0 : n = 0 := by omega
   have hm0 : m = 0 := by omega
   subst hn0; subst hm0
   have hcs : cs = [] := List.eq_nil_of_length_eq_zero (by simpa using q1)
   have hnw : news = [] := List.eq_nil_of_length_eq_zero (by simpa using hm)
   subst hcs; subst hnw
   have hf0 := hfn w rfl
   refine ⟨(none, 0), w, ?_, H'⟩
   simp [Builtin.append_, run_underlying h.out, run_sizeOf (P := P) (t := e), Builtin.lenOf, hf0]
  ·-- in place
   have hrl : m * s ≤ rest.length := by
    have : m ≤ cap - n := by omega
    exact Nat.le_trans (Nat.mul_le_mul_right s this) q8
   have Hb : AH D w0 w (AI b e (pre ++ cs ++ rest) :: r) := by
    exact ⟨H'.os, H'.tape, H'.output, H'.size, H'.old, hh, ha, h2, h3, q9, q4, q5, q6, q7⟩
   have hst := OM (P := P) Hb (pre.length + n * s) news J0 h1
   have Hn := AH.setCells news (pre.length + n * s) Hb
   refine ⟨(some ⟨b, pre.length, none⟩, cap), w.setCells b (pre.length + n * s) news, ?_, Hn.AK (AD.head fun x hx => ?_)⟩
   ·have hf0 := hfn w rfl
    simp [Builtin.append_, run_underlying h.out, run_sizeOf (P := P) (t := e), Builtin.lenOf, hf0, hcap, L5, hst]
   ·refine ⟨hnewlen, hcap, qm, .inr ⟨b, pre, rest.drop (m * s), rfl, ?_, ?_⟩⟩
    ·show (cap - (n + m)) * s ≤ _
     rw [List.length_drop]
     have e3 : (cap - (n + m)) * s + m * s = (cap - n) * s := by rw [← Nat.add_mul]; congr 1; omega
     omega
    ·have e1 : rest = rest.take (m * s) ++ rest.drop (m * s) := (List.take_append_drop _ _).symm
     have e2 : FH (pre ++ cs ++ rest) (pre.length + n * s) news = pre ++ (cs ++ news) ++ rest.drop (m * s) := by
      have := L2 (pre ++ cs) (rest.take (m * s)) (rest.drop (m * s)) news (pre.length + n * s) (by simp [q1]) (by simp [hm]; omega)
      rw [List.append_assoc (pre ++ cs), ← e1] at this
      rw [this]
      simp [List.append_assoc]
     rw [← e2]
     exact hx
 ·have hzs : zv.cells.size = s := by rw [← Array.length_toList, hi4, hz]
  have hgrow : ∀ (cells : List Value) (c0 : Nat), n + m ≤ c0 → c0 ≤ 9223372036854775807 → ∀ w' : World, AH D w0 w' r → AH D w0 (w'.alloc (.cells (cs ++ news ++ DW z (c0 - (n + m))).toArray e)) (row (some ⟨w'.heap.size, 0, none⟩) e s (n + m) c0 (cs ++ news) :: r) := fun _ c0 hc0 hc1 w' HO => by
   refine (HO.alloc e (cs ++ news ++ DW z (c0 - (n + m)))).AK (AD.head fun x hx => ?_)
   exact ⟨hnewlen, hc0, hc1, .inr ⟨w'.heap.size, [], DW z (c0 - (n + m)), rfl, by rw [MH, hz]; exact Nat.le_refl _, by simpa using hx⟩⟩
  have Hr : AH D w0 w r := H'.AK (AD.drop (AD.refl _))
  have hcapge : ∀ old, n + m ≤ grownCap w (n + m) old e := fun old => by
   unfold grownCap Question.cut
   exact Nat.le_add_right _ _
  have hcaple : ∀ old, grownCap w (n + m) old e ≤ 9223372036854775807 := fun old => by
   unfold grownCap Question.cut
   have h2 : (2 : Nat) ^ 63 = 9223372036854775808 := by decide
   have := Nat.mod_lt (w.tape w.drawn (.appendCap (n + m) old e)) (show 0 < 2 ^ 63 - (n + m) by rw [h2]; omega)
   simp only
   rw [h2] at this ⊢
   omega
  rcases q3 with ⟨rfl, rfl⟩ | ⟨b, pre, rest, rfl, q8, q9⟩
  ·have hn0 : n = 0 := by omega
   subst hn0
   have hcs : cs = [] := List.eq_nil_of_length_eq_zero (by simpa using q1)
   subst hcs
   have hm0 : 0 < m := by omega
   have hf0 := hfn w.drew rfl
   refine ⟨(some ⟨w.heap.size, 0, none⟩, grownCap w (0 + m) 0 e), w.drew.alloc (.cells ([] ++ news ++ DW z (grownCap w (0 + m) 0 e - (0 + m))).toArray e), ?_, hgrow [] _ (hcapge 0) (hcaple 0) w.drew Hr.drew⟩
   have hne : ¬ (m = 0) := by omega
   have h63' : ¬ (9223372036854775807 < (m : Int)) := by omega
   have h48' : ¬ (281474976710656 < Builtin.nextslicecap m 0 * i.bytes) := by
    have := growslice_fits (need := m) (old := 0) (bytes := bb) hm0 (by simpa using hb)
    rw [hi2]; omega
   have hzz : (Builtin.zeroCells zv.cells (grownCap w m 0 e - m)) = (DW z (grownCap w m 0 e - m)).toArray := by
    apply Array.ext'; rw [PA, hi4]
   simp [Builtin.append_, run_underlying h.out, Go.sizeOf, typeInfo, zeroValue, hi, hi3, Builtin.lenOf, hne, h63', h48', Question.forced, run_firstCells_none]
   simp only [hi1, hf0, Result.andThen_ok]
   simp only [grownCap] at hzz
   simp [newRow, grownCap, hzz]
  ·have hf0 := hfn w.drew rfl
   have hfo := run_firstCells_some (P := P) w.drew s n ⟨b, pre.length, none⟩ n cap cs q1 (fun j v hj => by
    rw [L5]
    obtain ⟨fr, qb, _⟩ := q9
    have := (ha b _ (q6 _ _ qb)).1
    show w.cell? ⟨b, pre.length + j, none⟩ = some v
    simp only [World.cell?, this, Option.isSome_none, Bool.false_eq_true, if_false, List.getElem?_toArray]
    have hj' : j < cs.length := by
     rcases Nat.lt_or_ge j cs.length with h | h
     ·exact h
     ·simp [List.getElem?_eq_none h] at hj
    rw [List.append_assoc, List.getElem?_append_right AA, Nat.add_sub_cancel_left, List.getElem?_append_left hj']
    exact hj)
   refine ⟨(some ⟨w.heap.size, 0, none⟩, grownCap w (n + m) cap e), w.drew.alloc (.cells (cs ++ news ++ DW z (grownCap w (n + m) cap e - (n + m))).toArray e), ?_, hgrow [] _ (hcapge cap) (hcaple cap) w.drew Hr.drew⟩
   have hn : ¬ (n + m ≤ cap) := hcap
   have h63' : ¬ (9223372036854775807 < ((n : Int) + (m : Int))) := by omega
   have h48' : ¬ (281474976710656 < Builtin.nextslicecap (n + m) cap * i.bytes) := by
    have := growslice_fits (need := n + m) (old := cap) (bytes := bb) AA hb
    rw [hi2]; omega
   have hzz : (Builtin.zeroCells zv.cells (grownCap w (n + m) cap e - (n + m))) = (DW z (grownCap w (n + m) cap e - (n + m))).toArray := by
    apply Array.ext'; rw [PA, hi4]
   simp [Builtin.append_, run_underlying h.out, Go.sizeOf, typeInfo, zeroValue, hi, hi3, Builtin.lenOf, hn, h63', h48', Question.forced]
   simp only [hi1, hf0, hfo, Result.andThen_ok]
   simp only [grownCap] at hzz
   simp [newRow, grownCap, hzz]

theorem JR {t u e : TypeId} {s bb : Nat} {z : List Value} [h : E6 P t e] [hs : CX P e s bb z] {x y : Operand} {b off n cap m capB : Nat} {B : Option Addr} {et : TypeId} {cs news : List Value} {r : List AQ}
  (hx : BQ env x = some (.slice (some ⟨b, off, none⟩) n cap)) (hy : BQ env y = some (.slice B m capB)) [hp : FR l b et cs r] (hsrc : BB D w0 l B news) (hm : news.length = m * s) (hmn : m ≤ n) (ho : off + news.length ≤ cs.length) (h1 : ∀ v ∈ news, v.oneCell' = true) :
  FA P D w0 env l ⟨dst, .call ⟨.builtin .copy, #[x, y], #[t, u]⟩, ty, pos, after, g⟩ (fun _ : Unit => .int .i64 m) (fun _ => AI b et (FH cs off news) :: r) := .mk fun n' a w E H => by
 have H' := H.AK (AD.perm hp.out)
 have hf := TB (P := P) (capB := capB) hm hsrc.CU (fun k => hsrc.cells k w H)
 have hst := OM (P := P) H' off news ho h1
 refine ⟨(), w.setCells b off news, .inl ?_, AH.setCells news off H'⟩
 have hmin : Nat.min m n = m := Nat.min_eq_left hmn
 simp [execOp, resolve, invoke, builtin, E.eval hx, E.eval hy, Builtin.copy_, run_underlying h.out, Builtin.lenOf, hmin, run_sizeOf (P := P) (t := e), hf, hst, goInt]

theorem eH {t e : TypeId} {s bb : Nat} {z : List Value} [h : E6 P t e] [hs : CX P e s bb z] {x y : Operand} {k k' : IntKind} {i : Int} (hx : BQ env x = some (.int k i)) (hy : BQ env y = some (.int k' i)) (m : Nat) (hi : i = (m : Int)) (hb : bb * m ≤ 281474976710656) (hm : m ≤ 9223372036854775807) :
  FA P D w0 env l ⟨dst, .makeSlice t x y, ty, pos, after, g⟩ (fun b : Nat => .slice (some ⟨b, 0, none⟩) m m) (fun b => AI b e (DW z m) :: l) := .mk fun n a w E H => by
 subst hi
 have hz := hs.len
 obtain ⟨v, hz1, hz2⟩ := PR (P := P) (t := e) w
 obtain ⟨ti, hi, hi1, hi2, _⟩ := PO (P := P) (t := e)
 refine ⟨w.heap.size, w.alloc (.cells (DW z m).toArray e), .inl ?_, H.alloc e _⟩
 have hwrap : IntKind.i64.wrap (m : Int) = m := wrap_i64 AA
 have hsz : v.cells.size = s := by rw [← Array.length_toList, hz2, hz]
 have hb1 : ¬ (((ti.bytes : Nat) : Int) * (m : Int) > 2 ^ 48) := by
  rw [hi2]
  have e : ((2 : Int) ^ 48) = 281474976710656 := by decide
  have e2 : ((bb * m : Nat) : Int) ≤ 281474976710656 := by omega
  rw [Int.natCast_mul] at e2
  rw [e]; omega
 have hr0 : ∀ f : Nat → Value, m * s = 0 → Array.map f (Array.range (m * s)) = #[] := fun f h0 => by rw [h0]; apply Array.ext'; simp
 simp only [execOp, Instr.makeSlice, Sem.run_bind, run_underlying h.out, Result.andThen_ok, E.eval hx, E.eval hy, asInt, asIntOf, Sem.run_pure, typeInfo, run_program, hi, hwrap]
 have hneg : ¬ ((m : Int) < 0) := by omega
 simp only [hneg, decide_false, Bool.false_or, hb1, Int.toNat_natCast]
 have hlt : ¬ ((m : Int) < (m : Int)) := by omega
 simp only [gt_iff_lt, hlt, or_self, decide_false, if_false, Bool.false_eq_true, Bool.or_self, run_askRoom, Result.andThen_ok, Sem.run_bind, run_sizeOf (P := P) (t := e), Sem.run_pure]
 by_cases h0 : m * s = 0
 ·have hzz : DW z m = [] := by
   rcases Nat.mul_eq_zero.1 h0 with h | h
   ·simp [DW, h]
   ·have : z = [] := List.eq_nil_of_length_eq_zero AA
    simp [DW, this]
  rw [if_pos h0]
  simp [hr0 _ h0, hzz, newRow]
 ·have hz3 : (Array.range (m * s)).map (fun i => v.cells[i % v.cells.size]!) = (DW z m).toArray := by
   apply Array.ext'
   have hzz := T8 v.cells m
   rw [hz2, hsz] at hzz
   rw [← hzz, hsz]
  rw [if_neg h0]
  simp [hz1, hz3, newRow]

end
end CN

set_option linter.unusedVariables false
set_option linter.unusedSimpArgs false
namespace CN
open Go

structure HT (P : Program) (ops : Array Oper) (Q : Post) (D : Nat → Prop) (w0 : World) (n : Nat) (env : BH) (l : List AQ) (tail r : List Oper) : Prop where
 run : ∀ a w, St D w0 n env l a w → wpStill P ops w (fun a' => wpList P ops Q tail a' w) r a
structure HQ (P : Program) (ops : Array Oper) (Q : Post) (D : Nat → Prop) (w0 : World) (n : Nat) (env : BH) (l : List AQ) (r : List Oper) : Prop where
 run : ∀ a, Env n a env → wpQuiet P ops (fun w => AH D w0 w l) (fun a' => ∀ w', AH D w0 w' l → Q .normal a' w') r a
def RG (P : Program) (md : Region.Mode) (ops : Array Oper) (Q : Post) (C : World → Prop) : Nat → Array Bool → Act → World → Prop
 | 0, listed, a, w => Region.ready md ops listed = [] ∧ Q .normal a w
 | fuel + 1, listed, a, w =>
  (Region.ready md ops listed = [] → Q .normal a w) ∧
  ∀ i ∈ Region.ready md ops listed, wpOp P ops Q i (fun a' w' => C w' ∧ RG P md ops Q C fuel (listed.setIfInBounds i true) a' w') a w
theorem ZE {P : Program} {md : Region.Mode} {ops : Array Oper} {Q : Post} {C : World → Prop} : ∀ (fuel : Nat) (listed : Array Bool) (a : Act) (w : World), RG P md ops Q C fuel listed a w → wpAny P md ops Q fuel listed a w
 | 0, _, _, _, h => h
 | fuel + 1, _, _, _, h => ⟨h.1, fun i hi => wpOp_mono (fun a' w' h' => ZE fuel _ a' w' h'.2) (h.2 i hi)⟩
def MK (P : Program) (ops : Array Oper) (C : World → Prop) (o : Oper) (v : Value) (a : Act) : Prop :=
 (Region.wanted o (yielded ops a.tmps) = true ∧ ∀ w, C w → (execOp a.eval o).run P w = .ok (.value v) w) ∨
 (Region.wanted o (yielded ops a.tmps) = false ∧ v = undef)
section
variable {P : Program} {ops : Array Oper} {Q : Post} {md : Region.Mode} {C : World → Prop}
theorem MK.wpOp {i : Nat} {o : Oper} {v : Value} {a : Act} (hi : ops[i]? = some o) (hy : MK P ops C o v a) {K : Act → World → Prop} {w : World} (hC : C w) (h : K (a.put o.dst v) w) : wpOp P ops Q i K a w := by
 unfold Go.wpOp
 simp only [hi]
 rcases hy with ⟨hw, hv⟩ | ⟨hw, rfl⟩
 ·simp only [hw, if_true, Oper.wp, hv w hC, Oper.upon]; exact .inl h
 ·simp only [hw, Bool.false_eq_true, if_false]; exact h
theorem MK.of_same {o : Oper} {v : Value} {a a' : Act} (hy : MK P ops C o v a) (he : execOp a'.eval o = execOp a.eval o) (hw : Region.wanted o (yielded ops a'.tmps) = Region.wanted o (yielded ops a.tmps)) : MK P ops C o v a' := by
 unfold MK at *
 rw [he, hw]
 exact hy
theorem m4 {j : Nat} {oi oj : Oper} {v : Value} (hj : ops[j]? = some oj) (hap : oi.apart ops oj = true)
  (hsi : ∀ cs b, oi.op ≠ .select cs b) (hsj : ∀ cs b, oj.op ≠ .select cs b)
  (hQ : ∀ c a w, Q (.panic c) (a.put oi.dst v) w → Q (.panic c) a w) {K : Act → World → Prop} {a : Act} {w : World}
  (hy : MK P ops C oi v a) (h : wpOp P ops Q j K (a.put oi.dst v) w) :
  wpOp P ops Q j (fun a' w' => MK P ops C oi v a' ∧ K (a'.put oi.dst v) w') a w := by
 obtain ⟨h1, h2, h3⟩ := Oper.apart_spec hap
 have keep : ∀ (a : Act), MK P ops C oi v a → ∀ u, MK P ops C oi v (a.put oj.dst u) := fun a hy u =>
  hy.of_same (execOp_put oi hsi a oj.dst u h3) (wanted_put oi a oj.dst u h3)
 have keepD : ∀ d, MK P ops C oi v { a with defers := d :: a.defers } := fun d => hy.of_same rfl rfl
 unfold wpOp at *
 simp only [hj] at *
 rw [wanted_put oj a oi.dst v h1] at h
 split
 ·rename_i hw
  simp only [hw, if_true] at h
  rcases h with h | ⟨hasks, hlets⟩
  case inr => exact .inr ⟨by unfold Oper.asks at *; rw [execOp_put oj hsj a oi.dst v h1] at hasks; exact hasks, hlets⟩
  refine .inl ?_
  unfold Oper.wp at *
  rw [execOp_put oj hsj a oi.dst v h1] at h
  generalize (execOp a.eval oj).run P w = r at *
  cases r with
  | ok n w' =>
   cases n <;> simp only [Oper.upon] at h ⊢
   case value u => exact ⟨keep a hy u, by rw [← Act.put_comm a v u h2]; exact h⟩
   case skip => exact ⟨keep a hy _, by rw [← Act.put_comm a v undef h2]; exact h⟩
   case defer d =>
    refine ⟨keep _ (keepD d) _, ?_⟩
    rw [← Act.put_comm _ v undef h2, ← Act.put_defers]
    exact h
   case enter f args =>
    refine Calls.mono h fun e w'' he => ?_
    cases e with
    | returned u => exact ⟨keep a hy u, by rw [← Act.put_comm a v u h2]; exact he⟩
    | panicked c => exact hQ _ _ _ he
    | outgrown => exact he
   case row row args => exact Rows.mono h fun u w'' he => ⟨keep a hy u, by rw [← Act.put_comm a v u h2]; exact he⟩
  | halt x w' =>
   cases x <;> simp only [Oper.upon] at h ⊢
   case panic u => exact hQ _ _ _ h
 ·rename_i hw
  simp only [hw] at h
  exact ⟨keep a hy _, by rw [← Act.put_comm a v undef h2]; exact h⟩
theorem YD {i : Nat} {oi : Oper} {v : Value} (hi : ops[i]? = some oi) (hsel : ∀ (j : Nat) (o : Oper) cs b, ops[j]? = some o → o.op ≠ .select cs b)
  (hQ : ∀ c a w, Q (.panic c) (a.put oi.dst v) w → Q (.panic c) a w) :
  ∀ (fuel : Nat) (listed : Array Bool) (a : Act) (w : World),
   (∀ j oj, ops[j]? = some oj → j ≠ i → listed.getD j true = false → (∀ e ∈ oj.after, Region.binds md e = true → e.on ≠ i) → oi.apart ops oj = true) →
   i ∈ Region.ready md ops listed → C w → MK P ops C oi v a →
   RG P md ops Q C fuel (listed.setIfInBounds i true) (a.put oi.dst v) w → RG P md ops Q C (fuel + 1) listed a w := by
 intro fuel
 induction fuel with
 | zero =>
  intro listed a w _ hr hC hy H
  refine ⟨fun h => (by rw [h] at hr; cases hr), fun j hj => ?_⟩
  by_cases hji : j = i
  ·subst hji; exact hy.wpOp hi hC ⟨hC, H⟩
  ·have := ready_mono hj hji
   rw [H.1] at this
   cases this
 | succ fuel ih =>
  intro listed a w hfree hr hC hy H
  refine ⟨fun h => (by rw [h] at hr; cases hr), fun j hj => ?_⟩
  by_cases hji : j = i
  ·subst hji; exact hy.wpOp hi hC ⟨hC, H⟩
  ·have h1 := H.2 j (ready_mono hj hji)
   obtain ⟨hjun, oj, hoj, hall⟩ := mem_ready.1 hj
   have hnot : ∀ e ∈ oj.after, Region.binds md e = true → e.on ≠ i := fun e he hb heq => by
    have h1 := hall e he hb
    have h0 := (mem_ready.1 hr).1
    rw [heq] at h1
    rcases Nat.lt_or_ge i listed.size with h' | h'
    ·simp [h'] at h0 h1; rw [h0] at h1; cases h1
    ·simp [Array.getElem?_eq_none h'] at h1
   have h2 := m4 hoj (hfree j oj hoj hji hjun hnot) (fun cs b => hsel i oi cs b hi) (fun cs b => hsel j oj cs b hoj) hQ hy h1
   have hfree' : ∀ k ok, ops[k]? = some ok → k ≠ i → (listed.setIfInBounds j true).getD k true = false →
     (∀ e ∈ ok.after, Region.binds md e = true → e.on ≠ i) → oi.apart ops ok = true := fun k ok hk hki hun hno => by
    refine hfree k ok hk hki ?_ hno
    by_cases hjk : j = k
    ·subst hjk; exact hjun
    ·rw [getD_set_ne true hjk] at hun; exact hun
   refine wpOp_mono (fun a' w' h3 => ⟨h3.2.1, ih (listed.setIfInBounds j true) a' w' hfree' (ready_mono hr (Ne.symm hji)) h3.2.1 h3.1 ?_⟩) h2
   rw [Array.setIfInBounds_comm _ _ hji]
   exact h3.2.2
end
structure HA (P : Program) (ops : Array Oper) (Q : Post) (D : Nat → Prop) (w0 : World) (n : Nat) (env : BH) (l L0 : List AQ) (fuel : Nat) (listed : Array Bool) : Prop where
 run : ∀ a w, St D w0 n env l a w → RG P .any ops Q (fun w => AH D w0 w L0) fuel listed a w
structure HO (P : Program) (ops : Array Oper) (Q : Post) (D : Nat → Prop) (w0 : World) (n : Nat) (env : BH) (l L0 : List AQ) (i fuel : Nat) (listed : Array Bool) : Prop where
 run : ∀ a w, St D w0 n env l a w → wpOp P ops Q i (fun a' w' => AH D w0 w' L0 ∧ RG P .any ops Q (fun w => AH D w0 w L0) fuel (listed.setIfInBounds i true) a' w') a w
def JB (ops : Array Oper) (env : BH) (g : Option (Nat × Bool)) : Option Bool :=
 match g with
 | none => some true
 | some (j, want) => match LO ops j with
  | none => none
  | some t => match BH.get env t with
   | some (.bool b) => some (b == want)
   | some (.tuple _) => some false
   | _ => none
theorem VX {ops : Array Oper} {o : Oper} {a : Act} {j : Nat} {want : Bool} {t : Nat} {n : Nat} {env : BH} {vs : Array Value} (hg : o.guard = some (j, want)) (hj : LO ops j = some t) (E : Env n a env) (hv : BH.get env t = some (.tuple vs)) : Region.wanted o (yielded ops a.tmps) = false := by
 have h1 : ((ops[j]?).bind (·.dst)).bind (a.tmps[·]?) = some (.tuple vs) := by
  unfold LO at hj
  rw [hj]
  exact E.get t _ hv
 simp only [Region.wanted, hg, yielded, h1]
 rfl
def I0 : List Oper → Nat → Option Oper
 | o :: _, 0 => some o
 | _ :: r, n + 1 => I0 r n
 | [], _ => none
theorem MU : ∀ {r : List Oper} {i : Nat} {o : Oper}, I0 r i = some o → r.toArray[i]? = some o
 | o :: _, 0, _, h => by simpa [I0] using h
 | _ :: r, n + 1, o, h => by
  have := MU (r := r) (i := n) h
  simpa using this
 | [], _, _, h => by simp [I0] at h
theorem OQ {ops : Array Oper} {env : BH} {o : Oper} {b : Bool} (h : JB ops env o.guard = some b) {n : Nat} {a : Act} (E : Env n a env) : Region.wanted o (yielded ops a.tmps) = b := by
 unfold JB at h
 split at h
 ·rename_i hg
  simp only [Option.some.injEq] at h
  subst h
  simp [Region.wanted, hg]
 ·rename_i j want hg
  split at h
  ·cases h
  ·rename_i t ht
   split at h
   ·rename_i c hc
    simp only [Option.some.injEq] at h
    rw [PK hg ht E hc, h]
   ·rename_i vs hc
    simp only [Option.some.injEq] at h
    rw [VX hg ht E hc, h]
   ·cases h
class PB (Q : Post) : Prop where out : ∀ d v c a w, Q (.panic c) (a.put d v) w → Q (.panic c) a w
instance PB.then {K : Act → World → Prop} {Q : Post} [h : PB Q] : PB (Exit.then K Q) := ⟨fun d v c a w q => h.out d v c a w q⟩
instance PB.block {i : Nat} {Q : Post} [h : PB Q] : PB (Exit.inBlock i Q) := ⟨fun d v c a w q => h.out d v c a w q⟩
instance PB.body {P : Program} {fn : Func} {R : Ending → World → Prop} : PB (bodyPost P fn R) := ⟨fun d v c a w q => by
 refine ⟨?_, q.2⟩
 have := q.1
 cases d <;> exact this⟩

section
variable {P : Program} {Q : Post} {D : Nat → Prop} {w0 : World} {n : Nat} {env : BH} {l : List AQ} {ops : Array Oper} {r tail : List Oper} {o : Oper}
theorem E2 (n0 : Nat) {id : Nat} {r : List Oper} (hm : P.follows .mixedOrders = true) (hB : Region.lexTailB .any r.toArray n0 = true) (h : HT P r.toArray Q D w0 n env l (r.drop n0) (r.take n0)) : HC P Q D w0 n env l (.region id r.toArray true) := .mk fun a w S =>
 wp_region_still_tail n0 hm hB (h.run a w.drew ⟨S.env, S.own.drew⟩)
theorem EV (h : HL P ops Q D w0 n env l tail) : HT P ops Q D w0 n env l tail [] := .mk fun a w S => h.run a w S
theorem gN {d : Nat} {v : Value} (h : DI P D w0 env l o v) (hd : o.dst = some d) (hg : o.guard = none) (hn : Nat.blt d n = true) (k : HT P ops Q D w0 n ((d, v) :: env) l tail r) : HT P ops Q D w0 n env l tail (o :: r) := .mk fun a w S => by
 unfold wpStill
 rw [if_pos (by simp [Region.wanted, hg])]
 unfold Oper.still
 rw [h.run n a w S.env S.own, Oper.stillUpon_value, hd]
 exact k.run _ w ⟨S.env.put hn v, S.own⟩
theorem I6 {dst : Option Tmp} {op : Op} {ty : TypeId} {pos : String} {after : Array Edge} {j t : Nat} {want : Bool} (hj : LO ops j = some t) (hv : BH.get env t = some (.bool want)) (k : HT P ops Q D w0 n env l tail (⟨dst, op, ty, pos, after, none⟩ :: r)) : HT P ops Q D w0 n env l tail (⟨dst, op, ty, pos, after, some (j, want)⟩ :: r) := .mk fun a w S => by
 have hw := PK (o := ⟨dst, op, ty, pos, after, some (j, want)⟩) rfl hj S.env hv
 have h := k.run a w S
 unfold wpStill at h ⊢
 rw [if_pos (by rw [hw]; simp)]
 rw [if_pos (by simp [Region.wanted])] at h
 exact h
theorem I5 {j t d : Nat} {want b : Bool} (hg : o.guard = some (j, want)) (hj : LO ops j = some t) (hv : BH.get env t = some (.bool b)) (hne : (b == want) = false) (hd : o.dst = some d) (hn : Nat.blt d n = true) (k : HT P ops Q D w0 n ((d, undef) :: env) l tail r) : HT P ops Q D w0 n env l tail (o :: r) := .mk fun a w S => by
 have hw := PK hg hj S.env hv
 unfold wpStill
 rw [if_neg (by rw [hw, hne]; simp), hd]
 exact k.run _ w ⟨S.env.put hn _, S.own⟩
theorem eN {t : Nat} {p : Prop} [Decidable p] (hv : BH.get env t = some (.bool (decide p))) (ht : p → HT P ops Q D w0 n ((t, .bool true) :: env) l tail r) (hf : ¬ p → HT P ops Q D w0 n ((t, .bool false) :: env) l tail r) : HT P ops Q D w0 n env l tail r := .mk fun a w S => by
 by_cases hp : p
 ·exact (ht hp).run a w ⟨S.env.sub (BH.HI U8 (BH.KX _)), S.own⟩
 ·exact (hf hp).run a w ⟨S.env.sub (BH.HI VH (BH.KX _)), S.own⟩

theorem GM {id : Nat} {r : List Oper} (hm : P.follows .mixedOrders = true) (hB : Region.lexB .any r.toArray = true) (h : HQ P r.toArray Q D w0 n env l r) : HC P Q D w0 n env l (.region id r.toArray true) := .mk fun a w S =>
 wp_region_quiet (C := fun w => AH D w0 w l) hm hB S.own.drew (h.run a S.env)
theorem EM (h : HX Q .normal D w0 n env l) : HQ P ops Q D w0 n env l [] := .mk fun a E => wpQuiet_nil fun w' H => h.run a w' ⟨E, H⟩
theorem RA {d : Nat} {v : Value} (h : DI P D w0 env l o v) (hd : o.dst = some d) (hg : o.guard = none) (hn : Nat.blt d n = true) (k : HQ P ops Q D w0 n ((d, v) :: env) l r) : HQ P ops Q D w0 n env l (o :: r) := .mk fun a E => by
 unfold wpQuiet
 rw [if_pos (by simp [Region.wanted, hg])]
 refine ⟨v, fun w H => ?_, by rw [hd]; exact k.run _ (E.put hn v)⟩
 unfold Oper.quietAt
 rw [h.run n a w E H]
 exact ⟨rfl, rfl⟩
theorem B6 {dst : Option Tmp} {op : Op} {ty : TypeId} {pos : String} {after : Array Edge} {j t : Nat} {want : Bool} (hj : LO ops j = some t) (hv : BH.get env t = some (.bool want)) (k : HQ P ops Q D w0 n env l (⟨dst, op, ty, pos, after, none⟩ :: r)) : HQ P ops Q D w0 n env l (⟨dst, op, ty, pos, after, some (j, want)⟩ :: r) := .mk fun a E => by
 have hw := PK (o := ⟨dst, op, ty, pos, after, some (j, want)⟩) rfl hj E hv
 have h := k.run a E
 unfold wpQuiet at h ⊢
 rw [if_pos (by rw [hw]; simp)]
 rw [if_pos (by simp [Region.wanted])] at h
 exact h
theorem BG {j t d : Nat} {want b : Bool} (hg : o.guard = some (j, want)) (hj : LO ops j = some t) (hv : BH.get env t = some (.bool b)) (hne : (b == want) = false) (hd : o.dst = some d) (hn : Nat.blt d n = true) (k : HQ P ops Q D w0 n ((d, undef) :: env) l r) : HQ P ops Q D w0 n env l (o :: r) := .mk fun a E => by
 have hw := PK hg hj E hv
 unfold wpQuiet
 rw [if_neg (by rw [hw, hne]; simp), hd]
 exact k.run _ (E.put hn _)
theorem JC {t : Nat} {p : Prop} [Decidable p] (hv : BH.get env t = some (.bool (decide p))) (ht : p → HQ P ops Q D w0 n ((t, .bool true) :: env) l r) (hf : ¬ p → HQ P ops Q D w0 n ((t, .bool false) :: env) l r) : HQ P ops Q D w0 n env l r := .mk fun a E => by
 by_cases hp : p
 ·exact (ht hp).run a (E.sub (BH.HI U8 (BH.KX _)))
 ·exact (hf hp).run a (E.sub (BH.HI VH (BH.KX _)))
theorem pJ {t : Nat} {b : Bool} (hv : BH.get env t = some (.bool b)) (ht : b = true → HQ P ops Q D w0 n ((t, .bool true) :: env) l r) (hf : b = false → HQ P ops Q D w0 n ((t, .bool false) :: env) l r) : HQ P ops Q D w0 n env l r := .mk fun a E => by
 cases b
 ·exact (hf rfl).run a (E.sub (BH.HI hv (BH.KX _)))
 ·exact (ht rfl).run a (E.sub (BH.HI hv (BH.KX _)))
theorem EF (L0 : List AQ) {id : Nat} {r : List Oper} (hm : P.follows .mixedOrders = true) (k : Nat) (hk : r.length = k) (h : HA P r.toArray Q D w0 n env l L0 k (Array.replicate k false)) : HC P Q D w0 n env l (.region id r.toArray true) := .mk fun a w S => by
 refine wp_region_any hm (ZE (C := fun w => AH D w0 w L0) _ _ _ _ ?_)
 have := h.run a w.drew ⟨S.env, S.own.drew⟩
 subst hk
 simpa using this
section
variable {L0 : List AQ} {fuel : Nat} {listed : Array Bool} {rl : List Oper}
theorem qL (i : Nat) {d : Nat} {v : Value} (hi : I0 rl i = some o) (h : DI P D w0 env L0 o v) (hd : o.dst = some d) (hg : JB rl.toArray env o.guard = some true) (hn : Nat.blt d n = true)
  (hs : Region.noSelect rl.toArray = true) (hf : Region.free   .any rl.toArray listed i = true) (hr : (Region.ready   .any rl.toArray listed).contains i = true) (hE : AD l L0) [hq : PB Q]
  (k : HA P rl.toArray Q D w0 n ((d, v) :: env) l L0 fuel (listed.setIfInBounds i true)) : HA P rl.toArray Q D w0 n env l L0 (fuel + 1) listed := .mk fun a w S => by
 refine YD (MU hi) (Region.noSelect_spec hs) (fun c a' w' q => hq.out _ _ _ _ _ q) fuel listed a w (Region.free_spec (MU hi) hf) (by simpa using hr) (S.own.AK hE) (.inl ⟨OQ hg S.env, fun w' hw' => h.run n a w' S.env hw'⟩) (k.run _ w ⟨by rw [hd]; exact S.env.put hn v, S.own⟩)
theorem sJ (i : Nat) {d : Nat} (hi : I0 rl i = some o) (hd : o.dst = some d) (hg : JB rl.toArray env o.guard = some false) (hn : Nat.blt d n = true)
  (hs : Region.noSelect rl.toArray = true) (hf : Region.free   .any rl.toArray listed i = true) (hr : (Region.ready   .any rl.toArray listed).contains i = true) (hE : AD l L0) [hq : PB Q]
  (k : HA P rl.toArray Q D w0 n ((d, undef) :: env) l L0 fuel (listed.setIfInBounds i true)) : HA P rl.toArray Q D w0 n env l L0 (fuel + 1) listed := .mk fun a w S => by
 refine YD (MU hi) (Region.noSelect_spec hs) (fun c a' w' q => hq.out _ _ _ _ _ q) fuel listed a w (Region.free_spec (MU hi) hf) (by simpa using hr) (S.own.AK hE) (.inr ⟨OQ hg S.env, rfl⟩) (k.run _ w ⟨by rw [hd]; exact S.env.put hn _, S.own⟩)
theorem N0 {t : Nat} {p : Prop} [Decidable p] (hv : BH.get env t = some (.bool (decide p))) (ht : p → HA P ops Q D w0 n ((t, .bool true) :: env) l L0 fuel listed) (hf : ¬ p → HA P ops Q D w0 n ((t, .bool false) :: env) l L0 fuel listed) : HA P ops Q D w0 n env l L0 fuel listed := .mk fun a w S => by
 by_cases hp : p
 ·exact (ht hp).run a w ⟨S.env.sub (BH.HI U8 (BH.KX _)), S.own⟩
 ·exact (hf hp).run a w ⟨S.env.sub (BH.HI VH (BH.KX _)), S.own⟩
theorem N5 {l' : List AQ} (hE : AD l l') (h : HA P ops Q D w0 n env l' L0 fuel listed) : HA P ops Q D w0 n env l L0 fuel listed := .mk fun a w S => h.run a w ⟨S.env, S.own.AK hE⟩
theorem BY (hr : Region.ready .any ops listed = []) (h : HX Q .normal D w0 n env l) : HA P ops Q D w0 n env l L0 fuel listed := .mk fun a w S => by
 cases fuel with
 | zero => exact ⟨hr, h.run a w S⟩
 | succ f => exact ⟨fun _ => h.run a w S, by rw [hr]; simp⟩
theorem XM (rs : List Nat) (hr : Region.ready .any ops listed = rs) (hne : rs ≠ []) (h : ∀ i ∈ rs, HO P ops Q D w0 n env l L0 i fuel listed) : HA P ops Q D w0 n env l L0 (fuel + 1) listed := .mk fun a w S =>
 ⟨fun h0 => absurd (hr ▸ h0) hne, hr ▸ fun i hi => (h i hi).run a w S⟩
theorem AL (i : Nat) (hr : Region.ready .any ops listed = [i]) (h : HO P ops Q D w0 n env l L0 i fuel listed) : HA P ops Q D w0 n env l L0 (fuel + 1) listed :=
 XM [i] hr (by simp) fun j hj => by
  have : j = i := by simpa using hj
  subst this; exact h
theorem DE (i j : Nat) (hr : Region.ready .any ops listed = [i, j]) (h : HO P ops Q D w0 n env l L0 i fuel listed) (h' : HO P ops Q D w0 n env l L0 j fuel listed) : HA P ops Q D w0 n env l L0 (fuel + 1) listed :=
 XM [i, j] hr (by simp) fun k hk => by
  have : k = i ∨ k = j := by simpa using hk
  rcases this with rfl | rfl
  ·exact h
  ·exact h'
theorem PM (i j m : Nat) (hr : Region.ready .any ops listed = [i, j, m]) (h : HO P ops Q D w0 n env l L0 i fuel listed) (h' : HO P ops Q D w0 n env l L0 j fuel listed) (h'' : HO P ops Q D w0 n env l L0 m fuel listed) : HA P ops Q D w0 n env l L0 (fuel + 1) listed :=
 XM [i, j, m] hr (by simp) fun k hk => by
  have : k = i ∨ k = j ∨ k = m := by simpa using hk
  rcases this with rfl | rfl | rfl
  ·exact h
  ·exact h'
  ·exact h''
theorem sG {i : Nat} (hi : I0 rl i = some o) {d : Nat} {v : Value} (h : DI P D w0 env l o v) (hd : o.dst = some d) (hg : JB rl.toArray env o.guard = some true) (hn : Nat.blt d n = true) (hE : AD l L0) (k : HA P rl.toArray Q D w0 n ((d, v) :: env) l L0 fuel (listed.setIfInBounds i true)) : HO P rl.toArray Q D w0 n env l L0 i fuel listed := .mk fun a w S => by
 unfold wpOp
 simp only [MU hi]
 rw [if_pos (OQ hg S.env)]
 left
 unfold Oper.wp
 rw [h.run n a w S.env S.own, Oper.upon_value, hd]
 exact ⟨S.own.AK hE, k.run _ w ⟨S.env.put hn v, S.own⟩⟩
theorem rU {i : Nat} (hi : I0 rl i = some o) {d : Nat} {σ : Type} {v : σ → Value} {l' : σ → List AQ} (h : FA P D w0 env l o v l') (hd : o.dst = some d) (hg : JB rl.toArray env o.guard = some true) (hn : Nat.blt d n = true) (hE : ∀ s, AD (l' s) L0) (k : ∀ s, HA P rl.toArray Q D w0 n ((d, v s) :: env) (l' s) L0 fuel (listed.setIfInBounds i true)) : HO P rl.toArray Q D w0 n env l L0 i fuel listed := .mk fun a w S => by
 unfold wpOp
 simp only [MU hi]
 rw [if_pos (OQ hg S.env)]
 left
 unfold Oper.wp
 obtain ⟨s, w', hr, H⟩ := h.run n a w S.env S.own
 rcases hr with hr | ⟨hr, hu⟩
 ·rw [hr, Oper.upon_value, hd]
  exact ⟨H.AK (hE s), (k s).run _ w' ⟨S.env.put hn _, H⟩⟩
 ·rw [hr, Oper.upon_skip, hd, ← hu]
  exact ⟨H.AK (hE s), (k s).run _ w' ⟨S.env.put hn _, H⟩⟩
theorem rJ {i : Nat} (hi : I0 rl i = some o) {σ : Type} {v : σ → Value} {l' : σ → List AQ} (h : FA P D w0 env l o v l') (hd : o.dst = none) (hg : JB rl.toArray env o.guard = some true) (hE : ∀ s, AD (l' s) L0) (k : ∀ s, HA P rl.toArray Q D w0 n env (l' s) L0 fuel (listed.setIfInBounds i true)) : HO P rl.toArray Q D w0 n env l L0 i fuel listed := .mk fun a w S => by
 unfold wpOp
 simp only [MU hi]
 rw [if_pos (OQ hg S.env)]
 left
 unfold Oper.wp
 obtain ⟨s, w', hr, H⟩ := h.run n a w S.env S.own
 rcases hr with hr | ⟨hr, hu⟩
 ·rw [hr, Oper.upon_value, hd]
  exact ⟨H.AK (hE s), (k s).run _ w' ⟨S.env, H⟩⟩
 ·rw [hr, Oper.upon_skip, hd]
  exact ⟨H.AK (hE s), (k s).run _ w' ⟨S.env, H⟩⟩
theorem eM {i : Nat} {d f : Nat} {args : List Operand} {ats : Array TypeId} {ty : TypeId} {pos : String} {after : Array Edge} {gd : Option (Nat × Bool)} (hi : I0 rl i = some ⟨some d, .call ⟨.value (.func f), args.toArray, ats⟩, ty, pos, after, gd⟩) {vs : List Value} {σ : Type} {v : σ → Value} {l' : σ → List AQ} (hcf : ∀ args w, (callFunc f args).run P w = .ok (.enter f args) w)
  (hv : KG env args = some vs) (hg : JB rl.toArray env gd = some true) (hn : Nat.blt d n = true) (hc : ∀ w, AH D w0 w l → Calls P f vs.toArray w fun e w' => ∃ s, e = .returned (v s) ∧ AH D w0 w' (l' s)) (hE : ∀ s, AD (l' s) L0)
  (k : ∀ s, HA P rl.toArray Q D w0 n ((d, v s) :: env) (l' s) L0 fuel (listed.setIfInBounds i true)) : HO P rl.toArray Q D w0 n env l L0 i fuel listed := .mk fun a w S => by
 unfold wpOp
 simp only [MU hi]
 rw [if_pos (OQ (o := ⟨some d, .call ⟨.value (.func f), args.toArray, ats⟩, ty, pos, after, gd⟩) hg S.env)]
 left
 unfold Oper.wp
 have hrun : (execOp a.eval ⟨some d, .call ⟨.value (.func f), args.toArray, ats⟩, ty, pos, after, gd⟩).run P w = .ok (.enter f vs.toArray) w := by
  simp [execOp, resolve, Deferred.ofValue, Act.eval, invoke, S.env.O5 hv, hcf]
 rw [hrun, Oper.upon_enter]
 refine (hc w S.own).mono fun e w' ⟨s, he, H⟩ => ?_
 subst he
 exact ⟨H.AK (hE s), (k s).run _ w' ⟨S.env.put hn _, H⟩⟩
theorem tM {i : Nat} {d f : Nat} {args : List Operand} {ats : Array TypeId} {ty : TypeId} {pos : String} {after : Array Edge} {gd : Option (Nat × Bool)} (hi : I0 rl i = some ⟨some d, .call ⟨.value (.func f), args.toArray, ats⟩, ty, pos, after, gd⟩) {vs : List Value} {v : Value} {l' : List AQ} (hcf : ∀ args w, (callFunc f args).run P w = .ok (.enter f args) w)
  (hv : KG env args = some vs) (hg : JB rl.toArray env gd = some true) (hn : Nat.blt d n = true) (hc : ∀ w, AH D w0 w l → Calls P f vs.toArray w fun e w' => e = .returned v ∧ AH D w0 w' l') (hE : AD l' L0)
  (k : HA P rl.toArray Q D w0 n ((d, v) :: env) l' L0 fuel (listed.setIfInBounds i true)) : HO P rl.toArray Q D w0 n env l L0 i fuel listed :=
 eM (σ := Unit) (v := fun _ => v) (l' := fun _ => l') hi hcf hv hg hn (fun w H => (hc w H).mono fun e w' h => ⟨(), h⟩) (fun _ => hE) fun _ => k
end
end
end CN

set_option linter.unusedVariables false
set_option linter.unusedSimpArgs false
namespace CN
open Go

class AX (α : Type) where
 sz : Nat
 rep : α → List Value → AQ
 len : ∀ {x cs h}, rep x cs h → cs.length = sz
 mono : ∀ {x cs} {h h' : Heap}, ED h h' → rep x cs h → rep x cs h'
 one : ∀ {x cs h}, rep x cs h → ∀ v ∈ cs, v.oneCell' = true
def G4 {α : Type} [AX α] : List α → List Value → AQ
 | [], cs, _ => cs = []
 | x :: r, cs, h => ∃ c1 c2, cs = c1 ++ c2 ∧ AX.rep x c1 h ∧ G4 r c2 h
section
variable {α : Type} [AX α]
theorem Q6 : ∀ {xs : List α} {cs : List Value} {h : Heap}, G4 xs cs h → cs.length = xs.length * AX.sz α
 | [], cs, h, k => by cases k; simp
 | x :: r, cs, h, ⟨c1, c2, e, a, b⟩ => by subst e; rw [List.length_append, AX.len a, Q6 b, List.length_cons, Nat.add_mul]; omega
theorem QT : ∀ {xs : List α} {cs : List Value} {h h' : Heap}, ED h h' → G4 xs cs h → G4 xs cs h'
 | [], _, _, _, _, k => k
 | x :: r, _, _, _, s, ⟨c1, c2, e, a, b⟩ => ⟨c1, c2, e, AX.mono s a, QT s b⟩
theorem SC : ∀ {xs : List α} {cs : List Value} {h : Heap}, G4 xs cs h → ∀ v ∈ cs, v.oneCell' = true
 | [], cs, h, k => by cases k; simp
 | x :: r, cs, h, ⟨c1, c2, e, a, b⟩ => by
  subst e
  intro v hv
  rcases List.mem_append.1 hv with h1 | h1
  ·exact AX.one a v h1
  ·exact SC b v h1
theorem UT : ∀ {xs : List α} {cs : List Value} {h : Heap} (i : Nat) (x : α), G4 xs cs h → xs[i]? = some x → AX.rep x ((cs.drop (i * AX.sz α)).take (AX.sz α)) h
 | [], _, _, i, x, _, e => by simp at e
 | y :: r, cs, h, 0, x, ⟨c1, c2, e, a, b⟩, hx => by
  simp at hx; subst hx; subst e
  rw [Nat.zero_mul, List.drop_zero, ← AX.len a, List.take_left]; exact a
 | y :: r, cs, h, i + 1, x, ⟨c1, c2, e, a, b⟩, hx => by
  subst e
  have := UT i x b (by simpa using hx)
  rw [Nat.add_mul, Nat.one_mul, Nat.add_comm, ← List.drop_drop]
  rw [show (c1 ++ c2).drop (AX.sz α) = c2 by rw [← AX.len a, List.drop_left]]
  exact this
theorem mU {xs : List α} {cs : List Value} {h : Heap} (k : G4 xs cs h) (n : Nat) : G4 (xs.take n) (cs.take (n * AX.sz α)) h := by
 induction xs generalizing cs n with
 | nil => cases k; simp [G4]
 | cons x r ih =>
  obtain ⟨c1, c2, e, a, b⟩ := k
  subst e
  cases n with
  | zero => simp [G4]
  | succ n =>
   rw [List.take_succ_cons]
   refine ⟨c1, c2.take (n * AX.sz α), ?_, a, ih b n⟩
   rw [Nat.add_mul, Nat.one_mul, List.take_append, AX.len a]
   have h1 : c1.take (n * AX.sz α + AX.sz α) = c1 := List.take_of_length_le (by rw [AX.len a]; omega)
   rw [h1]
   congr 2
   omega
theorem mN {xs : List α} {cs : List Value} {h : Heap} (k : G4 xs cs h) (n : Nat) : G4 (xs.drop n) (cs.drop (n * AX.sz α)) h := by
 induction xs generalizing cs n with
 | nil => cases k; simp [G4]
 | cons x r ih =>
  obtain ⟨c1, c2, e, a, b⟩ := k
  cases n with
  | zero => simpa using (show G4 (x :: r) cs h from ⟨c1, c2, e, a, b⟩)
  | succ n =>
   subst e
   rw [List.drop_succ_cons, Nat.add_mul, Nat.one_mul, Nat.add_comm, ← List.drop_drop]
   rw [show (c1 ++ c2).drop (AX.sz α) = c2 by rw [← AX.len a, List.drop_left]]
   exact ih b n
end
instance : AX UInt8 where
 sz := 1
 rep x cs := JU (cs = [AU x])
 len := by intro x cs h k; cases k; rfl
 mono := fun _ k => k
 one := by intro x cs h k v hv; cases k; simp at hv; subst hv; rfl
instance : AX Bool where
 sz := 1
 rep x cs := JU (cs = [.bool x])
 len := by intro x cs h k; cases k; rfl
 mono := fun _ k => k
 one := by intro x cs h k v hv; cases k; simp at hv; subst hv; rfl
def DO (x : Int) : Prop := -9223372036854775808 ≤ x ∧ x ≤ 9223372036854775807
instance : AX Int where
 sz := 1
 rep x cs := JU (cs = [.int .i64 x] ∧ DO x)
 len := by intro x cs h k; obtain ⟨rfl, _⟩ := k; rfl
 mono := fun _ k => k
 one := by intro x cs h k v hv; obtain ⟨rfl, _⟩ := k; simp at hv; subst hv; rfl
instance : AX UInt32 where
 sz := 1
 rep x cs := JU (cs = [.int .u32 (x.toNat : Int)])
 len := by intro x cs h k; cases k; rfl
 mono := fun _ k => k
 one := by intro x cs h k v hv; cases k; simp at hv; subst hv; rfl
instance : AX UInt64 where
 sz := 1
 rep x cs := JU (cs = [.int .u64 (x.toNat : Int)])
 len := by intro x cs h k; cases k; rfl
 mono := fun _ k => k
 one := by intro x cs h k v hv; cases k; simp at hv; subst hv; rfl
theorem cY {A : Option Addr} {cs : List Value} {h h' : Heap} (s : ED h h') (k : J5 A cs h) : J5 A cs h' := by
 rcases k with k | ⟨b, off, t, cs0, fr, e, h1, h2⟩
 ·exact .inl k
 ·exact .inr ⟨b, off, t, cs0, fr, e, s _ _ h1, h2⟩
instance AX.list {α : Type} [AX α] : AX (List α) where
 sz := 1
 rep xs cs := fun h => ∃ A cap, cs = [.slice A xs.length cap] ∧ xs.length ≤ cap ∧ cap ≤ 9223372036854775807 ∧ ∃ ecs, G4 xs ecs h ∧ J5 A ecs h
 len := by rintro xs cs h ⟨A, cap, rfl, _⟩; rfl
 mono := by rintro xs cs h h' s ⟨A, cap, e, h1, h2, ecs, k1, k2⟩; exact ⟨A, cap, e, h1, h2, ecs, QT s k1, cY s k2⟩
 one := by rintro xs cs h ⟨A, cap, rfl, _⟩ v hv; simp at hv; subst hv; rfl
instance AX.prod {α β : Type} [AX α] [AX β] : AX (α × β) where
 sz := AX.sz α + AX.sz β
 rep x cs := fun h => ∃ c1 c2, cs = c1 ++ c2 ∧ AX.rep x.1 c1 h ∧ AX.rep x.2 c2 h
 len := by rintro x cs h ⟨c1, c2, rfl, a, b⟩; rw [List.length_append, AX.len a, AX.len b]
 mono := by rintro x cs h h' s ⟨c1, c2, e, a, b⟩; exact ⟨c1, c2, e, AX.mono s a, AX.mono s b⟩
 one := by
  rintro x cs h ⟨c1, c2, rfl, a, b⟩ v hv
  rcases List.mem_append.1 hv with h1 | h1
  ·exact AX.one a v h1
  ·exact AX.one b v h1

theorem DQ : ∀ {xs : List UInt8} {cs : List Value} {h : Heap}, G4 xs cs h ↔ cs = xs.map AU
 | [], cs, h => Iff.rfl
 | x :: r, cs, h => by
  constructor
  ·rintro ⟨c1, c2, rfl, a, b⟩
   have a' : c1 = [AU x] := a
   subst a'
   rw [DQ.1 b]; rfl
  ·rintro rfl
   exact ⟨[AU x], r.map AU, rfl, rfl, DQ.2 rfl⟩

theorem Old.open {α : Type} [AX α] {D : Nat → Prop} {w0 : World} {xs : List α} {v : Value} (k : Old D w0 (AX.rep xs [v])) :
  ∃ A cap ecs, v = .slice A xs.length cap ∧ xs.length ≤ cap ∧ cap ≤ 9223372036854775807 ∧ CS D w0 A ecs ∧ ecs.length = xs.length * AX.sz α ∧ (∀ v ∈ ecs, v.oneCell' = true) ∧ ∀ i x, xs[i]? = some x → Old D w0 (AX.rep x ((ecs.drop (i * AX.sz α)).take (AX.sz α))) := by
 obtain ⟨h, hh, A, cap, e, h1, h2, ecs, k1, k2⟩ := k
 refine ⟨A, cap, ecs, by simpa using e, h1, h2, CS.RD ⟨h, hh, k2⟩, Q6 k1, SC k1, fun i x hx => ⟨h, hh, UT i x k1 hx⟩⟩
theorem Old.IG {D : Nat → Prop} {w0 : World} {xs : List UInt8} {v : Value} (k : Old D w0 (AX.rep xs [v])) :
  ∃ A cap, v = .slice A xs.length cap ∧ xs.length ≤ cap ∧ cap ≤ 9223372036854775807 ∧ CS D w0 A (xs.map AU) := by
 obtain ⟨h, hh, A, cap, e, h1, h2, ecs, k1, k2⟩ := k
 have := DQ.1 k1
 subst this
 exact ⟨A, cap, by simpa using e, h1, h2, CS.RD ⟨h, hh, k2⟩⟩
theorem Old.pure {D : Nat → Prop} {w0 : World} {p : Prop} (k : Old D w0 (JU p)) : p := by obtain ⟨_, _, h⟩ := k; exact h

class I3 (P : Program) (t : TypeId) (α : Type) [AX α] : Prop where
 of : ∀ {H : Type} (enc : TypeId × Value → H) (w : World) (sp : Nat → Bool) (held : Bool) (fuel : Nat) (cs : List Value) (x : DataW H × List MemPlace), DataW.trod enc P w 0 sp held fuel t cs = some x → ∃ y : α, AX.rep y cs (fun b => w.heap[b]?)
 size : P.cellsOf t = AX.sz α
theorem R3 {P : Program} {t : TypeId} {s b : Nat} {z : List Value} [h : CX P t s b z] : P.cellsOf t = s := by
 obtain ⟨i, hi, h1, _⟩ := PO (P := P) (t := t)
 simp [Program.cellsOf, hi, h1]
section
variable {P : Program} {t : TypeId}
instance I3.u8 [h : ML P t .u8] {b : Nat} {z : List Value} [CX P t 1 b z] : I3 P t UInt8 where
 of := by
  intro H enc w sp held fuel cs x k
  obtain ⟨n, rfl, _, hw⟩ := DataW.trod_int h.out k
  have hb : 0 ≤ n ∧ n ≤ 255 := by simpa [Lit.wf, IntKind.min, IntKind.max, IntKind.signed, IntKind.bits] using hw
  refine ⟨UInt8.ofNat n.toNat, ?_⟩
  show [Value.int .u8 n] = [AU _]
  simp only [AU, UInt8.toNat_ofNat', List.cons.injEq, Value.int.injEq, and_true, true_and]
  omega
 size := R3
instance I3.u64 [h : ML P t .u64] {b : Nat} {z : List Value} [CX P t 1 b z] : I3 P t UInt64 where
 of := by
  intro H enc w sp held fuel cs x k
  obtain ⟨n, rfl, _, hw⟩ := DataW.trod_int h.out k
  have hb : 0 ≤ n ∧ n ≤ 18446744073709551615 := by simpa [Lit.wf, IntKind.min, IntKind.max, IntKind.signed, IntKind.bits] using hw
  refine ⟨UInt64.ofNat n.toNat, ?_⟩
  show [Value.int .u64 n] = [Value.int .u64 _]
  simp only [UInt64.toNat_ofNat', List.cons.injEq, Value.int.injEq, and_true, true_and]
  omega
 size := R3
instance I3.i64 [h : ML P t .i64] {b : Nat} {z : List Value} [CX P t 1 b z] : I3 P t Int where
 of := by
  intro H enc w sp held fuel cs x k
  obtain ⟨n, rfl, _, hw⟩ := DataW.trod_int h.out k
  exact ⟨n, rfl, by unfold DO; simpa [Lit.wf, IntKind.min, IntKind.max, IntKind.signed, IntKind.bits] using hw⟩
 size := R3
instance I3.bool [h : gQ P t] {b : Nat} {z : List Value} [CX P t 1 b z] : I3 P t Bool where
 of := by
  intro H enc w sp held fuel cs x k
  obtain ⟨n, rfl, _⟩ := DataW.trod_bool h.out k
  exact ⟨n, rfl⟩
 size := R3
theorem ZI {α : Type} {p : Nat → α → Prop} : ∀ (n : Nat), (∀ i, i < n → ∃ x, p i x) → ∃ xs : List α, xs.length = n ∧ ∀ i x, xs[i]? = some x → p i x
 | 0, _ => ⟨[], rfl, fun i x h => by simp at h⟩
 | n + 1, h => by
  obtain ⟨xs, hl, hx⟩ := ZI n fun i hi => h i AA
  obtain ⟨y, hy⟩ := h n AA
  refine ⟨xs ++ [y], by simp [hl], fun i x hi => ?_⟩
  rcases Nat.lt_or_ge i xs.length with h1 | h1
  ·rw [List.getElem?_append_left h1] at hi; exact hx i x hi
  ·rw [List.getElem?_append_right h1] at hi
   have : i - xs.length = 0 := by
    rcases Nat.eq_zero_or_pos (i - xs.length) with h2 | h2
    ·exact h2
    ·rw [List.getElem?_eq_none J0] at hi; cases hi
   rw [this] at hi
   simp at hi
   subst hi
   have : i = n := by omega
   subst this; exact hy
instance I3.list {e : TypeId} {α : Type} [AX α] [h : E6 P t e] [he : I3 P e α] {b : Nat} {z : List Value} [CX P t 1 b z] : I3 P t (List α) where
 of := by
  intro H enc w sp held fuel cs x k
  rcases Go.Deep.open_slice h.out k with ⟨rfl, _⟩ | ⟨a, len, cap, m, n, Dd, Pl, rfl, hb, hl, hm, hmm, _, hel⟩
  ·exact ⟨[], none, 0, rfl, Nat.le_refl _, Nat.zero_le _, [], rfl, .inl rfl⟩
  ·have hlm : len ≤ m := by rw [hmm]; split <;> omega
   have hcap : cap ≤ 9223372036854775807 := by unfold maxLen at hm; omega
   have hz := he.size
   rw [hz] at hel
   obtain ⟨xs, hxl, hxs⟩ := ZI (α := α × List Value) (p := fun i q => w.cells? 0 (a.add (i * AX.sz α)) (AX.sz α) = some q.2 ∧ AX.rep q.1 q.2 (fun b => w.heap[b]?)) len (fun i hi => by
    obtain ⟨cs', hc, ht⟩ := hel i AA
    obtain ⟨y, hy⟩ := he.of enc w sp held _ _ _ ht
    exact ⟨(y, cs'), hc, hy⟩)
   have hrep : ∀ (l : List (α × List Value)), (∀ q ∈ l, AX.rep q.1 q.2 (fun b => w.heap[b]?)) → G4 (l.map (·.1)) ((l.map (·.2)).flatten) (fun b => w.heap[b]?) := by
    intro l
    induction l with
    | nil => intro _; rfl
    | cons q r ih => intro hq; exact ⟨q.2, _, rfl, hq q (by simp), ih fun q' h' => hq q' (by simp [h'])⟩
   have hr := hrep xs fun q hq => by
    obtain ⟨i, hi⟩ := List.mem_iff_getElem?.1 hq
    exact (hxs i q hi).2
   refine ⟨xs.map (·.1), some a, cap, by simp [hxl], by simpa [hxl] using hl, hcap, (xs.map (·.2)).flatten, hr, ?_⟩
   by_cases hne : (xs.map (·.2)).flatten = []
   ·exact .inl hne
   ·right
    have hlen := Q6 hr
    rw [List.length_map, hxl] at hlen
    have hpos : 0 < len * AX.sz α := by rw [← hlen]; exact List.length_pos_iff.2 hne
    have hszp : 0 < AX.sz α := by
     rcases Nat.eq_zero_or_pos (AX.sz α) with h0 | h0
     ·rw [h0] at hpos; simp at hpos
     ·exact h0
    have hcellat : ∀ i v, ((xs.map (·.2)).flatten)[i]? = some v → w.cell? (a.add i) = some v := by
     intro i v hv
     have hi : i < len * AX.sz α := by
      rcases Nat.lt_or_ge i (len * AX.sz α) with h1 | h1
      ·exact h1
      ·rw [List.getElem?_eq_none (by rw [hlen]; exact h1)] at hv; cases hv
     have hq : i / AX.sz α < xs.length := by rw [hxl]; exact Nat.div_lt_of_lt_mul (by rw [Nat.mul_comm]; exact hi)
     have hxq := hxs (i / AX.sz α) _ (List.getElem?_eq_getElem hq)
     have hat := UT (i / AX.sz α) ((xs.map (·.1))[i / AX.sz α]'(by simpa using hq)) hr (List.getElem?_eq_getElem _)
     -- the element's own cells
     have hflat : ∀ (l : List (α × List Value)) (j : Nat) (q : α × List Value), (∀ q ∈ l, q.2.length = AX.sz α) → l[j]? = some q → (((l.map (·.2)).flatten).drop (j * AX.sz α)).take (AX.sz α) = q.2 := by
      intro l
      induction l with
      | nil => intro j q _ h; simp at h
      | cons p r ih =>
       intro j q hl hj
       cases j with
       | zero =>
        simp at hj; subst hj
        have := hl p (by simp)
        rw [Nat.zero_mul, List.drop_zero, List.map_cons, List.flatten_cons, ← this, List.take_left]
       | succ j =>
        rw [List.map_cons, List.flatten_cons, Nat.add_mul, Nat.one_mul, Nat.add_comm, ← List.drop_drop]
        rw [show (p.2 ++ (r.map (·.2)).flatten).drop (AX.sz α) = (r.map (·.2)).flatten by rw [← hl p (by simp), List.drop_left]]
        exact ih j q (fun q hq => hl q (by simp [hq])) (by simpa using hj)
     have hown := hflat xs (i / AX.sz α) _ (fun q hq => by
      obtain ⟨i', hi'⟩ := List.mem_iff_getElem?.1 hq
      exact AX.len (hxs i' q hi').2) (List.getElem?_eq_getElem hq)
     obtain ⟨_, hl2, hcell⟩ := World.cells?_some hxq.1
     have hr' : i % AX.sz α < AX.sz α := Nat.mod_lt _ hszp
     have hsplit : i / AX.sz α * AX.sz α + i % AX.sz α = i := by rw [Nat.mul_comm]; exact Nat.div_add_mod i _
     have e1 : (xs[i / AX.sz α].2)[i % AX.sz α]? = some v := by
      rw [← hown, List.getElem?_take_of_lt hr', List.getElem?_drop, hsplit]; exact hv
     have := hcell (i % AX.sz α) hr'
     rw [Go.Deep.add_add, hsplit] at this
     rw [this]; exact e1
    have h0 : ∃ v, ((xs.map (·.2)).flatten)[0]? = some v := by
     cases hf : (xs.map (·.2)).flatten with
     | nil => exact absurd hf hne
     | cons v r => exact ⟨v, rfl⟩
    obtain ⟨v0, hv0⟩ := h0
    have hc0 := hcellat 0 v0 hv0
    obtain ⟨bk, off, spot⟩ := a
    have hspot : spot = none := by simpa [Addr.add] using World.cell?_spot hc0
    subst hspot
    -- the block
    have hb0 := hc0
    unfold World.cell? at hb0
    simp only [Addr.add, if_true] at hb0
    cases hbk : w.heap[bk]? with
    | none => rw [hbk] at hb0; cases hb0
    | some o =>
     cases o with
     | cells c0 t0 fr0 =>
      refine ⟨bk, off, t0, c0, fr0, rfl, hbk, fun i v hv => ?_⟩
      have := hcellat i v hv
      rw [L5] at this
      simpa [World.cell?, hbk] using this
     | _ => rw [hbk] at hb0; simp at hb0
 size := R3
end
end CN

set_option linter.unusedVariables false
set_option linter.unusedSimpArgs false
namespace CN
open Go
abbrev KH : Nat → Prop := fun _ => False
theorem AH.below {w w' : World} {l : List AQ} (H : AH KH w w' l) : Go.RowKit.Below w.heap.size w w' := ⟨H.os, H.tape, H.output, H.size, fun b hb => H.old b hb id⟩
theorem mZ {P : Program} {t : TypeId} [h : HU P t] {w : World} {r : Reach} {base : Nat} {v : Value} (k : Value.okWide P w r base t v) : v.cells = #[v] := by
 have h := h.out
 cases v with
 | agg cs =>
  unfold Value.okWide at k
  cases hu : P.underlying t with
  | none => rw [hu] at h; cases h
  | some d =>
   rw [hu] at h k
   cases d <;> simp_all [Cell.okWide, Cell.ok]
 | _ => rfl
theorem mE {P : Program} {t : TypeId} [h : IA P t] {w : World} {r : Reach} {base : Nat} {v : Value} (k : Value.okWide P w r base t v) : ∃ cs : List Value, v = .agg cs.toArray := by
 have h := h.out
 unfold Value.okWide at k
 cases hu : P.underlying t with
 | none => rw [hu] at h; cases h
 | some d =>
  rw [hu] at h k
  cases d with
  | struct fs => obtain ⟨cs, rfl, _⟩ := k; exact ⟨cs.toList, by simp⟩
  | array n e => obtain ⟨cs, rfl, _⟩ := k; exact ⟨cs.toList, by simp⟩
  | _ => simp at h
theorem eK {P : Program} {t : TypeId} {α : Type} [AX α] [h : I3 P t α] {H : Type} {enc : TypeId × Value → H} {w : World} {sp : Nat → Bool} {held : Bool} {v : Value} {d : DataW H} {p : List MemPlace} (k : DataW.Trod enc P w 0 sp held t v d p) : ∃ x : α, Old KH w (AX.rep x v.cells.toList) := by
 obtain ⟨fuel, k⟩ := k
 obtain ⟨x, hx⟩ := h.of enc w sp held fuel _ _ k
 exact ⟨x, _, fun b o hb => ⟨hb, id⟩, hx⟩
end CN

set_option linter.unusedVariables false
set_option linter.unusedSimpArgs false
namespace CN
open Go
def N6 : List Value → Option (List Value)
 | [] => some []
 | v :: r => match N6 r with
  | some r' => some (v :: r')
  | none => none
theorem Q0 : ∀ {l l' : List Value}, N6 l = some l' → l = l'
 | [], l', h => by simpa [N6] using h
 | v :: r, l', h => by
  simp only [N6] at h
  split at h
  ·rename_i r' hr
   simp only [Option.some.injEq] at h
   rw [← h, Q0 hr]
  ·cases h
section
variable {P : Program} {D : Nat → Prop} {w0 : World} {env : BH} {l : List AQ} {dst : Option Tmp} {ty : TypeId} {pos : String} {after : Array Edge} {g : Option (Nat × Bool)}
def SW (o : Option (List Value)) : Option (List Value) := match o with | some l => N6 l | none => none
theorem WU {o : Option (List Value)} {r : List Value} (h : SW o = some r) : o = some r := by
 unfold SW at h
 split at h
 ·rw [Q0 h]
 ·cases h
theorem CH {t : TypeId} {s bb : Nat} {z : List Value} {pl : List (Nat × Nat)} [h : G6 P t pl] [hs : CX P t s bb z] {parts : List (Nat × Operand)} {vs : List (Nat × Value)} {res : List Value} (hv : MZ env parts = some vs) (hf : SW (KI (fun i => pl[i]?) z vs) = some res) :
  DI P D w0 env l ⟨dst, .build t parts.toArray, ty, pos, after, g⟩ (.agg res.toArray) := T0 hv (WU hf)
theorem BS {t e : TypeId} {s bb m : Nat} {z : List Value} [h : E6 P t e] [hs : CX P e s bb z] {parts : List (Nat × Operand)} {vs : List (Nat × Value)} {res : List Value} (hv : MZ env parts = some vs) (hm : Nat.ble (m * s) 16777216 = true) (hf : SW (KI (fun i => some (i * s, s)) (DW z m) vs) = some res) :
  FA P D w0 env l ⟨dst, .buildSlice t m parts.toArray, ty, pos, after, g⟩ (fun b : Nat => .slice (some ⟨b, 0, none⟩) m m) (fun b => AI b e res :: l) := HG hv hm (WU hf)
theorem DN {t et : TypeId} {bb : Nat} {z : List Value} [h : CX P t 1 bb z] {x y : Operand} {b off : Nat} {cs cs' : List Value} {r : List AQ} {v : Value} (hx : BQ env x = some (.pointer (some ⟨b, off, none⟩))) (hy : BQ env y = some v) [hp : FR l b et cs r] (ho : Nat.blt off cs.length = true) (h1 : v.oneCell' = true) (hn : N6 (cs.set off v) = some cs') :
  FA P D w0 env l ⟨dst, .store t x y, ty, pos, after, g⟩ (fun _ : Unit => undef) (fun _ => AI b et cs' :: r) := by
 have := dF (P := P) (D := D) (w0 := w0) (l := l) (t := t) (dst := dst) (ty := ty) (pos := pos) (after := after) (g := g) hx hy (hp := hp) (by simpa [Nat.blt_eq] using ho) h1
 rwa [Q0 hn] at this
def UZ : List Value → Bool
 | [] => true
 | v :: r => v.oneCell' && UZ r
theorem aU : ∀ {l : List Value}, UZ l = true → ∀ v ∈ l, v.oneCell' = true
 | [], _, _, h => by simp at h
 | u :: r, h, v, hv => by
  simp only [UZ, Bool.and_eq_true] at h
  rcases List.mem_cons.1 hv with rfl | hv
  ·exact h.1
  ·exact aU h.2 v hv
theorem DT {t et : TypeId} {s bb : Nat} {z : List Value} [h : CX P t s bb z] {x y : Operand} {b off : Nat} {cs vs cs' : List Value} {r : List AQ} (hx : BQ env x = some (.pointer (some ⟨b, off, none⟩))) (hy : BQ env y = some (.agg vs.toArray)) [hp : FR l b et cs r] (hl : vs.length = s) (ho : Nat.ble (off + vs.length) cs.length = true) (h1 : UZ vs = true) (hn : N6 (FH cs off vs) = some cs') :
  FA P D w0 env l ⟨dst, .store t x y, ty, pos, after, g⟩ (fun _ : Unit => undef) (fun _ => AI b et cs' :: r) := by
 have := WI (P := P) (D := D) (w0 := w0) (l := l) (t := t) (dst := dst) (ty := ty) (pos := pos) (after := after) (g := g) hx hy (hp := hp) hl (by simpa using ho) (aU h1)
 rwa [Q0 hn] at this
end
section
variable {P : Program} {Q : Post} {D : Nat → Prop} {w0 : World} {n : Nat} {env : BH} {l : List AQ} {ops : Array Oper} {r : List Oper} {o : Oper}
theorem A6 {v : Value} {l' : List AQ} (h : FA P D w0 env l o (fun _ : Unit => v) (fun _ => l')) (hd : o.dst = none) (hg : o.guard = none) (k : HL P ops Q D w0 n env l' r) : HL P ops Q D w0 n env l (o :: r) := rE h hd hg fun _ => k
theorem EN {d : Nat} {v : Value} {l' : List AQ} (h : FA P D w0 env l o (fun _ : Unit => v) (fun _ => l')) (hd : o.dst = some d) (hg : o.guard = none) (hn : Nat.blt d n = true) (k : HL P ops Q D w0 n ((d, v) :: env) l' r) : HL P ops Q D w0 n env l (o :: r) := AV h hd hg hn fun _ => k
theorem sX {i fuel : Nat} {listed : Array Bool} {L0 : List AQ} {rl : List Oper} (hi : I0 rl i = some o) {v : Value} {l' : List AQ} (h : FA P D w0 env l o (fun _ : Unit => v) (fun _ => l')) (hd : o.dst = none) (hg : JB rl.toArray env o.guard = some true) (hE : AD l' L0) (k : HA P rl.toArray Q D w0 n env l' L0 fuel (listed.setIfInBounds i true)) : HO P rl.toArray Q D w0 n env l L0 i fuel listed := rJ hi h hd hg (fun _ => hE) fun _ => k
theorem B2 {d f : Nat} {args : List Operand} {ats : Array TypeId} {ty : TypeId} {pos : String} {after : Array Edge} {vs : List Value} {v : Value} {l' : List AQ} (hcf : ∀ args w, (callFunc f args).run P w = .ok (.enter f args) w)
  (hv : KG env args = some vs) (hn : Nat.blt d n = true) (hc : ∀ w, AH D w0 w l → Calls P f vs.toArray w fun e w' => e = .returned v ∧ AH D w0 w' l')
  (k : HL P ops Q D w0 n ((d, v) :: env) l' r) : HL P ops Q D w0 n env l (⟨some d, .call ⟨.value (.func f), args.toArray, ats⟩, ty, pos, after, none⟩ :: r) :=
 CQ (σ := Unit) (v := fun _ => v) (l' := fun _ => l') hcf hv hn (fun w H => (hc w H).mono fun e w' h => ⟨(), h⟩) fun _ => k
end
theorem AH.gU {P : Program} {f : Nat} {args : Array Value} {D : Nat → Prop} {w0 w : World} {l post : List AQ} {v : Value} (H : AH D w0 w l)
  (hc : ∀ D', (∀ A, Old D w0 A → Old D' w A) → (∀ B : AQ, (∀ h, DS l h → (∀ A, Old D w0 A → ∃ h1, A h1 ∧ ED h1 h) → B h) → Old D' w B) → AH D' w w [] → Calls P f args w fun e w' => e = .returned v ∧ AH D' w w' post) :
  Calls P f args w fun e w' => e = .returned v ∧ AH D w0 w' (post ++ l) := by
 obtain ⟨D', H2, h1, h2, hback⟩ := AH.split (pre := []) (l := l) H
 exact (hc D' h1 h2 H2).mono fun e w' ⟨he, H3⟩ => ⟨he, hback _ _ H3⟩
theorem AH.call {P : Program} {f : Nat} {args : Array Value} {D : Nat → Prop} {w0 w : World} {pre l post : List AQ} {v : Value} (H : AH D w0 w (pre ++ l))
  (hc : ∀ D', (∀ A, Old D w0 A → Old D' w A) → (∀ B : AQ, (∀ h, DS l h → (∀ A, Old D w0 A → ∃ h1, A h1 ∧ ED h1 h) → B h) → Old D' w B) → AH D' w w pre → Calls P f args w fun e w' => e = .returned v ∧ AH D' w w' post) :
  Calls P f args w fun e w' => e = .returned v ∧ AH D w0 w' (post ++ l) := by
 obtain ⟨D', H2, h1, h2, hback⟩ := AH.split H
 exact (hc D' h1 h2 H2).mono fun e w' ⟨he, H3⟩ => ⟨he, hback _ _ H3⟩
theorem AH.U3 {P : Program} {f : Nat} {args : Array Value} {D : Nat → Prop} {w0 w : World} {pre l : List AQ} {σ : Type} {post : σ → List AQ} {v : σ → Value} (H : AH D w0 w (pre ++ l))
  (hc : ∀ D', (∀ A, Old D w0 A → Old D' w A) → (∀ B : AQ, (∀ h, DS l h → (∀ A, Old D w0 A → ∃ h1, A h1 ∧ ED h1 h) → B h) → Old D' w B) → AH D' w w pre → Calls P f args w fun e w' => ∃ s, e = .returned (v s) ∧ AH D' w w' (post s)) :
  Calls P f args w fun e w' => ∃ s, e = .returned (v s) ∧ AH D w0 w' (post s ++ l) := by
 obtain ⟨D', H2, h1, h2, hback⟩ := AH.split H
 exact (hc D' h1 h2 H2).mono fun e w' ⟨s, he, H3⟩ => ⟨s, he, hback _ _ H3⟩
theorem Old.XT {α : Type} [AX α] {D : Nat → Prop} {w0 : World} {xs : List α} {v : Value} (hz : AX.sz α = 1) (k : Old D w0 (AX.rep xs [v])) :
  ∃ A cap, v = .slice A xs.length cap ∧ xs.length ≤ cap ∧ cap ≤ 9223372036854775807 ∧ ∀ i (hi : i < xs.length), CU A ∧ ∃ u, Old D w0 (AX.rep xs[i] [u]) ∧ ∀ l, EH D w0 l (ab A) (ao A + i * 1) u := by
 obtain ⟨A, cap, hs, rfl, h1, h2, HS, hl, _, hel⟩ := k.open
 rw [hz] at hl hel
 refine ⟨A, cap, rfl, h1, h2, fun i hi => ?_⟩
 have hlk : i < hs.length := by omega
 have e1 : (hs.drop (i * 1)).take 1 = [hs[i]] := by rw [Nat.mul_one, List.drop_eq_getElem_cons hlk]; rfl
 have hu := hel i _ (List.getElem?_eq_getElem hi)
 rw [e1] at hu
 refine ⟨HS.CU (by rintro rfl; simp at hlk), hs[i], hu, fun l => ?_⟩
 rw [Nat.mul_one]
 exact (BB.old HS).cell (List.getElem?_eq_getElem hlk)
theorem Old.sE {D : Nat → Prop} {w0 : World} {xs : List UInt8} {v : Value} (k : Old D w0 (AX.rep xs [v])) :
  ∃ A cap, v = .slice A xs.length cap ∧ xs.length ≤ cap ∧ cap ≤ 9223372036854775807 ∧ CS D w0 A (xs.map AU) ∧ ∀ i (hi : i < xs.length), CU A ∧ ∀ l, EH D w0 l (ab A) (ao A + i * 1) (.int .u8 (xs[i].toNat : Int)) := by
 obtain ⟨A, cap, rfl, h1, h2, HS⟩ := k.IG
 refine ⟨A, cap, rfl, h1, h2, HS, fun i hi => ⟨HS.CU (by intro h; simp at h; subst h; simp at hi), fun l => ?_⟩⟩
 rw [Nat.mul_one]
 exact (BB.old HS).cell (i := i) (by simp [hi, AU])
theorem WK {l r : List AQ} {b : Nat} {t : TypeId} {cs : List Value} [h : FR l b t cs r] {x : Heap} (hs : DS l x) : J5 (some ⟨b, 0, none⟩) cs x := by
 obtain ⟨h1, h2, ⟨fr, p, _⟩, _, _, s1, _⟩ := R5 h.out hs
 exact .inr ⟨b, 0, t, _, fr, rfl, s1 _ _ p, fun i v hv => by simpa using hv⟩
theorem mG {l r : List AQ} {A : Option Addr} {t : TypeId} {sz n cap : Nat} {cs : List Value} [h : GP l (row A t sz n cap cs) r] {x : Heap} (hs : DS l x) : J5 A cs x ∧ cs.length = n * sz ∧ n ≤ cap ∧ cap ≤ 9223372036854775807 := by
 obtain ⟨h1, h2, p, _, _, s1, _⟩ := R5 h.out hs
 exact ⟨cY s1 (SS _ p), p.1, p.2.1, p.2.2.1⟩
theorem kO {l r : List AQ} {A : AQ} [h : GP l A r] {x : Heap} (hs : DS l x) : ∃ h1, A h1 ∧ ED h1 x := by
 obtain ⟨h1, h2, p, _, _, s1, _⟩ := R5 h.out hs
 exact ⟨h1, p, s1⟩
theorem IE {l r : List AQ} {b : Nat} {t : TypeId} {cs : List Value} [h : FR l b t cs r] {x : Heap} (hs : DS l x) (xs : List UInt8) (hcs : cs = xs.map AU) (hl : xs.length ≤ 9223372036854775807) : AX.rep xs [.slice (some ⟨b, 0, none⟩) xs.length xs.length] x :=
 ⟨some ⟨b, 0, none⟩, xs.length, rfl, Nat.le_refl _, hl, cs, DQ.2 hcs, WK hs⟩
theorem I2 {α : Type} [AX α] {l r : List AQ} {b : Nat} {t : TypeId} {cs : List Value} [h : FR l b t cs r] {x : Heap} (hs : DS l x) (xs : List α) (hr : G4 xs cs x) (hl : xs.length ≤ 9223372036854775807) : AX.rep xs [.slice (some ⟨b, 0, none⟩) xs.length xs.length] x :=
 ⟨some ⟨b, 0, none⟩, xs.length, rfl, Nat.le_refl _, hl, cs, hr, WK hs⟩
theorem rL {α : Type} [AX α] {x : Heap} : AX.rep ([] : List α) [.slice none 0 0] x := ⟨none, 0, rfl, Nat.le_refl _, Nat.zero_le _, [], rfl, .inl rfl⟩
theorem Old.nil {α : Type} [AX α] {D : Nat → Prop} {w0 : World} : Old D w0 (AX.rep ([] : List α) [.slice none 0 0]) := ⟨fun _ => none, (fun b o e => by cases e), rL⟩
section
variable {P : Program} {D : Nat → Prop} {w0 : World} {env : BH} {l : List AQ} {dst : Option Tmp} {ty : TypeId} {pos : String} {after : Array Edge} {g : Option (Nat × Bool)} {x y : Operand} {t t' : TypeId} {k : IntKind} {i j : Int}
end
theorem L7 {α : Type} [AX α] {D : Nat → Prop} {w0 : World} {h : Heap} (ho : ∀ A, Old D w0 A → ∃ h1, A h1 ∧ ED h1 h) {x : α} {cs : List Value} (k : Old D w0 (AX.rep x cs)) : AX.rep x cs h := by
 obtain ⟨h1, a, b⟩ := ho _ k
 exact AX.mono b a
theorem fU {A : Option Addr} {cs : List Value} {h : Heap} (k : J5 A cs h) (cap lo n sz : Nat) (hn : (lo + n) * sz ≤ cs.length) (hc : lo + n ≤ cap) : J5 (if cap = lo then A else A.map (·.add (lo * sz))) ((cs.drop (lo * sz)).take (n * sz)) h := by
 rcases k with k | ⟨b, off, t, cs0, fr, rfl, h1, h2⟩
 ·left; subst k; simp
 ·by_cases h0 : n * sz = 0
  ·left; rw [h0]; simp
  ·have : ¬ cap = lo := by
    intro e
    have : n = 0 := by omega
    subst this; simp at h0
   rw [if_neg this]
   refine .inr ⟨b, off + lo * sz, t, cs0, fr, by simp [L5], h1, fun i v hv => ?_⟩
   have hi : i < n * sz := by
    rcases Nat.lt_or_ge i (n * sz) with h | h
    ·exact h
    ·rw [List.getElem?_eq_none OK] at hv; cases hv
   rw [List.getElem?_take_of_lt hi, List.getElem?_drop] at hv
   have := h2 _ _ hv
   rw [Nat.add_assoc]; exact this
theorem I4 {α : Type} [AX α] {xs : List α} {A : Option Addr} {n cap : Nat} {h : Heap} (k : AX.rep xs [.slice A n cap] h) (lo hi : Nat) (h1 : lo ≤ hi) (h2 : hi ≤ xs.length) : AX.rep ((xs.drop lo).take (hi - lo)) [.slice (if cap = lo then A else A.map (·.add (lo * AX.sz α))) (hi - lo) (cap - lo)] h := by
 obtain ⟨A', cap', e, k1, k2, ecs, k3, k4⟩ := k
 simp only [List.cons.injEq, Value.slice.injEq, and_true] at e
 obtain ⟨rfl, rfl, rfl⟩ := e
 have hl : ((xs.drop lo).take (hi - lo)).length = hi - lo := by rw [List.length_take, List.length_drop]; omega
 have hlen := Q6 k3
 refine ⟨_, cap - lo, by rw [hl], by omega, by omega, (ecs.drop (lo * AX.sz α)).take ((hi - lo) * AX.sz α), mU (mN k3 lo) (hi - lo), fU k4 cap lo (hi - lo) (AX.sz α) ?_ AA⟩
 rw [hlen]; exact Nat.mul_le_mul_right _ AA
section
variable {P : Program} {D : Nat → Prop} {w0 : World} {env : BH} {l : List AQ} {dst : Option Tmp} {ty : TypeId} {pos : String} {after : Array Edge} {g : Option (Nat × Bool)}
theorem KL {t e : TypeId} {n s bb : Nat} {z : List Value} [h : QB P t n e] [hs : CX P e s bb z] {x i : Operand} {b off m : Nat} {k : IntKind} {j : Int} (hx : BQ env x = some (.pointer (some ⟨b, off, none⟩))) (hi : BQ env i = some (.int k j)) (hj : j = (j.toNat : Int)) (hn : Nat.blt j.toNat n = true) (hm : off + j.toNat * s = m) :
  DI P D w0 env l ⟨dst, .indexAddr t x i, ty, pos, after, g⟩ (.pointer (some ⟨b, m, none⟩)) := by
 subst hm
 exact UI hx hi j.toNat hj (by simpa [Nat.blt_eq] using hn)
theorem NW {t e : TypeId} {s bb : Nat} {z : List Value} [h : E6 P t e] [hs : CX P e s bb z] {x i : Operand} {A : Option Addr} {n cap : Nat} {k : IntKind} {j : Int} (hx : BQ env x = some (.slice A n cap)) (hA : CU A) (hi : BQ env i = some (.int k j)) (hj : j = (j.toNat : Int)) (hn : j.toNat < n) :
  DI P D w0 env l ⟨dst, .indexAddr t x i, ty, pos, after, g⟩ (.pointer (some ⟨ab A, ao A + j.toNat * s, none⟩)) := CZ hx hA hi j.toNat hj hn
end
end CN

set_option linter.unusedVariables false
set_option linter.unusedSimpArgs false
namespace CN
open Go
instance AX.vec {α : Type} [AX α] {n : Nat} : AX (Vector α n) where
 sz := n * AX.sz α
 rep x cs := G4 x.toList cs
 len := by intro x cs h k; rw [Q6 k]; simp
 mono := fun s k => QT s k
 one := fun k => SC k
section
variable {P : Program} {t : TypeId}
def XR (P : Program) (fs : List Field) (o tot : Nat) (α : Type) [AX α] : Prop :=
 ∀ {H : Type} (enc : TypeId × Value → H) (w : World) (sp : Nat → Bool) (held : Bool) (fuel : Nat) (cs : List Value), cs.length = tot →
  (∀ f ∈ fs, ∃ x, DataW.trod enc P w 0 sp held fuel f.type ((cs.drop f.offset).take (P.cellsOf f.type)) = some x) → ∃ y : α, AX.rep y (cs.drop o) (fun b => w.heap[b]?)
theorem XR.cons {f : Field} {r : List Field} {o tot : Nat} {ft : TypeId} {α β : Type} [AX α] [AX β] (hft : f.type = ft) [h : I3 P ft α] (ho : f.offset = o) (k : XR P r (o + AX.sz α) tot β) : XR P (f :: r) o tot (α × β) := by
 intro H enc w sp held fuel cs hl hk
 obtain ⟨x, hx⟩ := hk f (by simp)
 subst hft; subst ho
 rw [h.size] at hx
 obtain ⟨y, hy⟩ := h.of enc w sp held fuel _ _ hx
 obtain ⟨z, hz⟩ := k enc w sp held fuel cs hl fun g hg => hk g (by simp [hg])
 exact ⟨(y, z), _, _, by rw [← List.drop_drop]; exact (List.take_append_drop _ _).symm, hy, hz⟩
end
end CN

set_option linter.unusedVariables false
set_option linter.unusedSimpArgs false
namespace CN
open Go
class GC (l : List AQ) (A : Option Addr) (t : outParam TypeId) (sz n cap : outParam Nat) (cs : outParam (List Value)) (r : outParam (List AQ)) : Prop where out : l.Perm (row A t sz n cap cs :: r)
instance (priority := 2000) GC.here (A : Option Addr) (t : TypeId) (sz n cap : Nat) (cs : List Value) (r : List AQ) : GC (row A t sz n cap cs :: r) A t sz n cap cs r := ⟨List.Perm.refl _⟩
instance (priority := 1000) GC.there (A : Option Addr) (t : TypeId) (sz n cap : Nat) (cs : List Value) (B : AQ) (l r : List AQ) [h : GC l A t sz n cap cs r] : GC (B :: l) A t sz n cap cs (B :: r) := ⟨(List.Perm.cons B h.out).trans (List.Perm.swap _ B r)⟩
theorem AH.cT {D : Nat → Prop} {w0 w : World} {A : Option Addr} {t : TypeId} {sz n cap : Nat} {cs : List Value} {r : List AQ} (H : AH D w0 w (row A t sz n cap cs :: r)) (hne : 0 < cs.length) :
  ∃ b pre rest, A = some ⟨b, pre.length, none⟩ ∧ AH D w0 w (AI b t (pre ++ cs ++ rest) :: r) ∧ ∀ vs, vs.length = cs.length → OI (AI b t (pre ++ vs ++ rest)) (row A t sz n cap vs) := by
 obtain ⟨hh, ha, h2, h3, ⟨q1, q2, qm, q3⟩, q4⟩ := H.own
 rcases q3 with ⟨rfl, q⟩ | ⟨b, pre, rest, rfl, q5, q6⟩
 ·have : n = 0 := by omega
  subst this
  simp at q1
  rw [q1] at hne
  simp at hne
 ·exact ⟨b, pre, rest, rfl, ⟨H.os, H.tape, H.output, H.size, H.old, hh, ha, h2, h3, q6, q4⟩, fun vs hv h' hb => ⟨by rw [hv]; exact q1, q2, qm, .inr ⟨b, pre, rest, rfl, q5, hb⟩⟩⟩
section
variable {P : Program} {D : Nat → Prop} {w0 : World} {env : BH} {l : List AQ} {dst : Option Tmp} {ty : TypeId} {pos : String} {after : Array Edge} {g : Option (Nat × Bool)}
theorem WG (a b c vs : List Value) (o : Nat) (h : o + vs.length ≤ b.length) : FH (a ++ b ++ c) (a.length + o) vs = a ++ FH b o vs ++ c := by
 rw [TX _ _ _ J0, TX _ _ _ h]
 rw [List.append_assoc a b c, List.take_append, List.drop_append]
 have h1 : a.length + o - a.length = o := by omega
 have h2 : a.length + o + vs.length - a.length = o + vs.length := by omega
 rw [List.take_of_length_le AA, List.drop_of_length_le (show a.length ≤ a.length + o + vs.length by omega), h1, h2, List.take_append_of_le_length AA, List.drop_append_of_le_length h]
 simp [List.append_assoc]
theorem nV {t e : TypeId} {bb sz n cap : Nat} {z : List Value} [h : CX P t 1 bb z] {x y : Operand} {A : Option Addr} {o : Nat} {cs : List Value} {r : List AQ} {v : Value} (hx : BQ env x = some (.pointer (some ⟨ab A, ao A + o, none⟩))) (hy : BQ env y = some v) [hp : GC l A e sz n cap cs r] (ho : o < cs.length) (h1 : v.oneCell' = true) :
  FA P D w0 env l ⟨dst, .store t x y, ty, pos, after, g⟩ (fun _ : Unit => undef) (fun _ => row A e sz n cap (cs.set o v) :: r) := .mk fun n' a w E H => by
 obtain ⟨b, pre, rest, rfl, H', hback⟩ := (H.AK (AD.perm hp.out)).cT AA
 simp only [UJ, UL] at hx
 have hst := OM (P := P) H' (pre.length + o) [v] J0 (by simp [h1])
 refine ⟨(), w.setCells b (pre.length + o) [v], .inr ⟨?_, rfl⟩, ?_⟩
 ·have hcs : v.cells = #[v] := by cases v <;> first | rfl | (simp [Value.oneCell'] at h1)
  simp [execOp, E.eval hx, E.eval hy, Instr.storeAt, Instr.sureAddr, storeVar, hcs, run_sizeOf (P := P) (t := t), hst]
 ·have := AH.setCells [v] (pre.length + o) H'
  rw [WG _ _ _ _ _ J0] at this
  exact this.AK (AD.head (hback _ (NQ _ _ _)))
theorem Y8 {t e : TypeId} {s bb sz n cap : Nat} {z : List Value} [h : CX P t s bb z] {x y : Operand} {A : Option Addr} {o : Nat} {cs vs : List Value} {r : List AQ} (hx : BQ env x = some (.pointer (some ⟨ab A, ao A + o, none⟩))) (hy : BQ env y = some (.agg vs.toArray)) [hp : GC l A e sz n cap cs r] (hl : vs.length = s) (hne : 0 < cs.length) (ho : o + vs.length ≤ cs.length) (h1 : ∀ v ∈ vs, v.oneCell' = true) :
  FA P D w0 env l ⟨dst, .store t x y, ty, pos, after, g⟩ (fun _ : Unit => undef) (fun _ => row A e sz n cap (FH cs o vs) :: r) := .mk fun n' a w E H => by
 obtain ⟨b, pre, rest, rfl, H', hback⟩ := (H.AK (AD.perm hp.out)).cT hne
 simp only [UJ, UL] at hx
 have hst := OM (P := P) H' (pre.length + o) vs J0 h1
 refine ⟨(), w.setCells b (pre.length + o) vs, .inr ⟨?_, rfl⟩, ?_⟩
 ·simp [execOp, E.eval hx, E.eval hy, Instr.storeAt, Instr.sureAddr, storeVar, Value.cells, hl, run_sizeOf (P := P) (t := t), hst]
 ·have := AH.setCells vs (pre.length + o) H'
  rw [WG _ _ _ _ _ ho] at this
  exact this.AK (AD.head (hback _ (NQ _ _ _)))
theorem BT {t e : TypeId} {s bb : Nat} {z : List Value} [h : E6 P t e] [hs : CX P e s bb z] {x y : Operand} {A B : Option Addr} {n cap m capB : Nat} {cs news : List Value} {r : List AQ}
  (hx : BQ env x = some (.slice A n cap)) (hy : BQ env y = some (.slice B m capB)) [hp : GC l A e s n cap cs r] (hsrc : BB D w0 l B news) (hm : news.length = m * s) (h1 : ∀ v ∈ news, v.oneCell' = true) (hb0 : 0 < bb) (hb : (n + m) * bb ≤ 140737488355328) :
  FA P D w0 env l ⟨dst, .call ⟨.builtin .append, #[x, y], #[t, t]⟩, ty, pos, after, g⟩ (fun p : Option Addr × Nat => .slice p.1 (n + m) p.2) (fun p => row p.1 e s (n + m) p.2 (cs ++ news) :: r) :=
 mC (hp := ⟨hp.out⟩) hx hy hsrc hm h1 hb0 hb
end
theorem AH.GS (A : Option Addr) {D : Nat → Prop} {w0 w : World} {l r : List AQ} {t : TypeId} {sz m cap : Nat} {cs : List Value} [h : GC l A t sz m cap cs r] (H : AH D w0 w l) : cs.length = m * sz ∧ m ≤ cap ∧ cap ≤ 9223372036854775807 ∧ (cs ≠ [] → CN.CU A) := AH.qE (h := ⟨h.out⟩) H
theorem EH.row {D : Nat → Prop} {w0 : World} {l r : List AQ} {A : Option Addr} {t : TypeId} {sz n cap : Nat} {cs : List Value} [h : GC l A t sz n cap cs r] (hA : CU A) {i : Nat} {v : Value} (hv : cs[i]? = some v) : EH D w0 l (ab A) (ao A + i) v :=
 (BB.row (h := ⟨h.out⟩) (fun _ => hA)).cell hv
theorem C7 {α : Type} [AX α] {l r : List AQ} {A : Option Addr} {t : TypeId} {sz n cap : Nat} {cs : List Value} [h : GC l A t sz n cap cs r] {x : Heap} (hs : DS l x) (xs : List α) (hn : n = xs.length) (hr : G4 xs cs x) : AX.rep xs [.slice A n cap] x := by
 obtain ⟨h1, h2, h3, h4⟩ := mG (h := ⟨h.out⟩) hs
 subst hn
 exact ⟨A, cap, rfl, h3, h4, cs, hr, h1⟩
theorem AD.FQ {b : Nat} {t : TypeId} {cs : List Value} {l : List AQ} (sz n : Nat) (h : cs.length = n * sz) (hn : n ≤ 9223372036854775807) : AD (AI b t cs :: l) (row (some ⟨b, 0, none⟩) t sz n n cs :: l) := AD.head (kP h hn)
theorem AD.EB {l : List AQ} (t : TypeId) (sz : Nat) : AD l (row none t sz 0 0 [] :: l) := by
 intro h hs
 exact ⟨fun _ => none, h, rH t sz _, hs, (fun _ => .inl rfl), (fun b o e => by cases e), ED.refl h⟩
theorem EL (xs : List UInt8) : ∀ v ∈ xs.map AU, v.oneCell' = true := by
 intro v hv
 obtain ⟨x, _, rfl⟩ := List.mem_map.1 hv
 rfl
theorem AH.tC {P : Program} {f : Nat} {args : Array Value} {D : Nat → Prop} {w0 w : World} {l : List AQ} {v : Value} (H : AH D w0 w l)
  (hc : ∀ D', (∀ A, Old D w0 A → Old D' w A) → (∀ B : AQ, (∀ h, DS l h → (∀ A, Old D w0 A → ∃ h1, A h1 ∧ ED h1 h) → B h) → Old D' w B) → AH D' w w [] → Calls P f args w fun e w' => e = .returned v ∧ AH D' w w' []) :
  Calls P f args w fun e w' => e = .returned v ∧ AH D w0 w' l := AH.gU H hc
end CN

set_option linter.unusedVariables false
set_option linter.unusedSimpArgs false
namespace CN
open Go
section
variable {P : Program} {D : Nat → Prop} {w0 : World} {env : BH} {l : List AQ} {dst : Option Tmp} {ty : TypeId} {pos : String} {after : Array Edge} {g : Option (Nat × Bool)} {x y : Operand} {t t' : TypeId}
theorem jR (xs : List UInt8) : (⟨xs.toArray⟩ : ByteArray).toList = xs := by rw [Go.ByteArray.toList_eq]
theorem eU {xs ys : List UInt8} (hx : BQ env x = some (QE xs)) (hy : BQ env y = some (QE ys)) : DI P D w0 env l ⟨dst, .binOp .neq t x y t', ty, pos, after, g⟩ (.bool (decide (¬ xs = ys))) := by
 have := XD (P := P) (D := D) (w0 := w0) (l := l) (dst := dst) (ty := ty) (pos := pos) (after := after) (g := g) (t := t) (t' := t') hx hy
 simpa only [jR] using this
end
def rZ (D : Nat → Prop) (w0 : World) (x : Heap) : Prop := ∀ A, Old D w0 A → ∃ h1, A h1 ∧ ED h1 x
section
variable {α : Type} [AX α] {D : Nat → Prop} {w0 : World} {l r : List AQ}
def rp (D : Nat → Prop) (w0 : World) (xs : List α) (cs : List Value) : AQ := fun h => ∀ x, ED h x → rZ D w0 x → G4 xs cs x
def vec (D : Nat → Prop) (w0 : World) (A : Option Addr) (t : TypeId) (sz n cap : Nat) (xs : List α) : AQ := fun h => ∃ cs, DS [row A t sz n cap cs, rp D w0 xs cs] h
end
section
variable {P : Program} {Q : Post} {D : Nat → Prop} {w0 : World} {n : Nat} {env : BH} {l : List AQ} {ops : Array Oper} {α : Type} [AX α] {A : Option Addr} {t : TypeId} {sz m cap : Nat} {xs : List α}
end
theorem W9 {α : Type} [AX α] {xs : List α} {cs : List Value} {h : Heap} (k : G4 xs cs h) (hz : AX.sz α = 1) (i : Nat) (hi : i < xs.length) (hi' : i < cs.length) : AX.rep xs[i] [cs[i]] h := by
 have := UT i _ k (List.getElem?_eq_getElem hi)
 rw [hz, Nat.mul_one, List.drop_eq_getElem_cons hi'] at this
 exact this
theorem Old.sO {α : Type} [AX α] {D : Nat → Prop} {w0 : World} {xs : List α} {v : Value} (hz : AX.sz α = 1) (k : Old D w0 (AX.rep xs [v])) :
  ∃ A cap hs, v = .slice A xs.length cap ∧ xs.length ≤ cap ∧ cap ≤ 9223372036854775807 ∧ CS D w0 A hs ∧ hs.length = xs.length ∧ (∀ v ∈ hs, v.oneCell' = true) ∧ Old D w0 (G4 xs hs) ∧ ∀ i (hi : i < xs.length), CU A ∧ ∃ u, Old D w0 (AX.rep xs[i] [u]) ∧ ∀ l, EH D w0 l (ab A) (ao A + i * 1) u := by
 obtain ⟨h, hh, A, cap, e, h1, h2, ecs, k1, k2⟩ := k
 have HS : CS D w0 A ecs := CS.RD ⟨h, hh, k2⟩
 have hl := Q6 k1
 rw [hz, Nat.mul_one] at hl
 refine ⟨A, cap, ecs, by simpa using e, h1, h2, HS, hl, SC k1, ⟨h, hh, k1⟩, fun i hi => ⟨HS.CU (by rintro rfl; simp at hl; omega), ecs[i], ⟨h, hh, W9 k1 hz i hi AA⟩, fun l => ?_⟩⟩
 rw [Nat.mul_one]
 exact (BB.old HS).cell (List.getElem?_eq_getElem AA)
theorem jL {α : Type} [AX α] {D : Nat → Prop} {w0 : World} {h : Heap} (ho : ∀ A, Old D w0 A → ∃ h1, A h1 ∧ ED h1 h) {xs : List α} {cs : List Value} (k : Old D w0 (G4 xs cs)) : G4 xs cs h := by
 obtain ⟨h1, a, b⟩ := ho _ k
 exact QT b a
end CN

set_option linter.unusedVariables false
set_option linter.unusedSimpArgs false
namespace CN
open Go
theorem AD.flat {L l : List AQ} : AD (DS L :: l) (L ++ l) := fun h hs => NR.2 hs
theorem AD.fold {L l : List AQ} : AD (L ++ l) (DS L :: l) := fun h hs => NR.1 hs
def GQ {σ : Type} (L : σ → List AQ) : AQ := fun h => ∃ x, DS (L x) h
theorem AD.GQ {σ : Type} {L : σ → List AQ} {l : List AQ} (x : σ) : AD (L x ++ l) (GQ L :: l) := fun h hs => by
 obtain ⟨h1, h2, a, b⟩ := NR.1 hs
 exact ⟨h1, h2, ⟨x, a⟩, b⟩
theorem AH.exs {σ : Type} {L : σ → List AQ} {D : Nat → Prop} {w0 w : World} {l : List AQ} (H : AH D w0 w (GQ L :: l)) : ∃ x, AH D w0 w (L x ++ l) := by
 obtain ⟨x, hx⟩ := AH.ex (A := fun x => DS (L x)) H
 exact ⟨x, hx.AK AD.flat⟩
section
variable {P : Program} {Q : Post} {D : Nat → Prop} {w0 : World} {n : Nat} {env : BH} {l : List AQ} {ops : Array Oper} {σ : Type} {L : σ → List AQ}
theorem HC.exs {c : Code} (k : ∀ x, HC P Q D w0 n env (L x ++ l) c) : HC P Q D w0 n env (GQ L :: l) c := .mk fun a w S => by
 obtain ⟨x, H⟩ := AH.exs S.own
 exact (k x).run a w ⟨S.env, H⟩
theorem HL.exs {r : List Oper} (k : ∀ x, HL P ops Q D w0 n env (L x ++ l) r) : HL P ops Q D w0 n env (GQ L :: l) r := .mk fun a w S => by
 obtain ⟨x, H⟩ := AH.exs S.own
 exact (k x).run a w ⟨S.env, H⟩
end
def OA (t : TypeId) (x : List UInt8) (c : Value) : AQ := fun h => ∃ A cap, c = .slice A x.length cap ∧ row A t 1 x.length cap (x.map AU) h
def D5 (t : TypeId) (xs : List (List UInt8)) (cs : List Value) : AQ := fun h => xs.length = cs.length ∧ DS (List.zipWith (OA t) xs cs) h
section
variable {t : TypeId} {l : List AQ} {xs : List (List UInt8)} {cs : List Value} {x : List UInt8} {c : Value} {A : Option Addr} {cap : Nat}
theorem o9 {h : Heap} (k : OA t x c h) : AX.rep x [c] h := by
 obtain ⟨A, cap, rfl, hr⟩ := k
 exact ⟨A, cap, rfl, hr.2.1, hr.2.2.1, x.map AU, DQ.2 rfl, SS _ hr⟩
theorem kL {h : Heap} (k : D5 t xs cs h) : G4 xs cs h := by
 obtain ⟨hl, k⟩ := k
 induction xs generalizing cs h with
 | nil =>
  have : cs = [] := List.eq_nil_of_length_eq_zero (by simpa using hl.symm)
  subst this; rfl
 | cons x r ih =>
  match cs, hl with
  | c :: cr, hl =>
   obtain ⟨h1, h2, a, b, _, s1, s2⟩ := k
   exact ⟨[c], cr, rfl, AX.mono s1 (o9 a), QT s2 (ih (by simpa using hl) b)⟩
theorem R9 : AD l (D5 t [] [] :: l) := fun h hs => ⟨fun _ => none, h, ⟨rfl, trivial⟩, hs, fun _ => .inl rfl, (fun b o e => by cases e), ED.refl h⟩
theorem jC : AD (D5 t xs cs :: OA t x c :: l) (D5 t (xs ++ [x]) (cs ++ [c]) :: l) := by
 intro h hs
 obtain ⟨h1, h2, ⟨hl, a⟩, b, r⟩ := hs
 have h3 : DS (List.zipWith (OA t) xs cs ++ (OA t x c :: l)) h := NR.2 ⟨h1, h2, a, b, r⟩
 have e : List.zipWith (OA t) xs cs ++ (OA t x c :: l) = List.zipWith (OA t) (xs ++ [x]) (cs ++ [c]) ++ l := by
  rw [List.zipWith_append hl]; simp
 rw [e] at h3
 obtain ⟨h4, h5, a', b', r'⟩ := NR.1 h3
 exact ⟨h4, h5, ⟨by simp [hl], a'⟩, b', r'⟩
theorem rN : OI (row A t 1 x.length cap (x.map AU)) (OA t x (.slice A x.length cap)) := fun h hr => ⟨A, cap, rfl, hr⟩
theorem PF : AD (D5 t xs cs :: row A t 1 x.length cap (x.map AU) :: l) (D5 t (xs ++ [x]) (cs ++ [.slice A x.length cap]) :: l) := (AD.cons (AD.head rN)).trans jC
theorem PE {r : List AQ} [h : GP l (D5 t xs cs) r] {y : Heap} (hs : DS l y) : G4 xs cs y := by
 obtain ⟨h1, a, b⟩ := kO (h := h) hs
 exact QT b (kL a)
end
section
variable {P : Program} {D : Nat → Prop} {w0 : World} {env : BH} {l : List AQ} {dst : Option Tmp} {ty : TypeId} {pos : String} {after : Array Edge} {g : Option (Nat × Bool)} {x y : Operand} {t t' e : TypeId}
theorem SK [h : E6 P t e] {A : Option Addr} {n cap : Nat} (hx : BQ env x = some (.slice A n cap)) (hy : BQ env y = some (.slice none 0 0)) : DI P D w0 env l ⟨dst, .binOp .eql t x y t', ty, pos, after, g⟩ (.bool A.isNone) := .mk fun n' a w E H => by
 simp [execOp, E.eval hx, E.eval hy, eqGuard_at_slice, binOp, run_equal_slice_nil w t e _ _ _ h.out]
end
theorem AH.sQ {P : Program} {f : Nat} {args : Array Value} {D : Nat → Prop} {w0 w : World} {l : List AQ} {σ : Type} {post : σ → List AQ} {v : σ → Value} (H : AH D w0 w l)
  (hc : ∀ D', (∀ A, Old D w0 A → Old D' w A) → (∀ B : AQ, (∀ h, DS l h → (∀ A, Old D w0 A → ∃ h1, A h1 ∧ ED h1 h) → B h) → Old D' w B) → AH D' w w [] → Calls P f args w fun e w' => ∃ s, e = .returned (v s) ∧ AH D' w w' (post s)) :
  Calls P f args w fun e w' => ∃ s, e = .returned (v s) ∧ AH D w0 w' (post s ++ l) := AH.U3 (pre := []) H hc
theorem XH {P : Program} {Q : Post} {D : Nat → Prop} {w0 : World} {n : Nat} {env : BH} {l : List AQ} {x : Code} {σ : Type} (env' : σ → BH) (l' : σ → List AQ)
  (h : ∀ K : Act → World → Prop, (∀ s a w, St D w0 n (env' s) (l' s) a w → K a w) → HC P (Exit.then K Q) D w0 n env l x)
  (k : ∀ s, HX Q .normal D w0 n (env' s) (l' s)) : HC P Q D w0 n env l x := .mk fun a w S => by
 refine wp_mono ((h (fun a w => Q .normal a w) fun s a w S => (k s).run a w S).run a w S) ?_
 intro e a' w' q
 cases e <;> exact q
theorem AH.sV (A : AQ) {P : Program} {f : Nat} {args : Array Value} {D : Nat → Prop} {w0 w : World} {l r post : List AQ} {v : Value} [hp : GP l A r] (H : AH D w0 w l)
  (hc : ∀ D', (∀ A, Old D w0 A → Old D' w A) → (∀ B : AQ, (∀ h, DS r h → (∀ A, Old D w0 A → ∃ h1, A h1 ∧ ED h1 h) → B h) → Old D' w B) → AH D' w w [A] → Calls P f args w fun e w' => e = .returned v ∧ AH D' w w' post) :
  Calls P f args w fun e w' => e = .returned v ∧ AH D w0 w' (post ++ r) := AH.call (pre := [A]) (H.AK (AD.perm hp.out)) hc
theorem AH.rW (A : AQ) {P : Program} {f : Nat} {args : Array Value} {D : Nat → Prop} {w0 w : World} {l r : List AQ} {σ : Type} {post : σ → List AQ} {v : σ → Value} [hp : GP l A r] (H : AH D w0 w l)
  (hc : ∀ D', (∀ A, Old D w0 A → Old D' w A) → (∀ B : AQ, (∀ h, DS r h → (∀ A, Old D w0 A → ∃ h1, A h1 ∧ ED h1 h) → B h) → Old D' w B) → AH D' w w [A] → Calls P f args w fun e w' => ∃ s, e = .returned (v s) ∧ AH D' w w' (post s)) :
  Calls P f args w fun e w' => ∃ s, e = .returned (v s) ∧ AH D w0 w' (post s ++ r) := AH.U3 (pre := [A]) (H.AK (AD.perm hp.out)) hc
end CN

set_option linter.unusedVariables false
set_option linter.unusedSimpArgs false
namespace CN
open Go
theorem jI {P : Program} {t i o fz : Nat} {ft : TypeId} (h : fieldAt P t i = some (o, ft, fz)) : ∃ fs f, P.underlying t = some (.struct fs) ∧ fs[i]? = some f ∧ f.offset = o ∧ f.type = ft := by
 unfold fieldAt at h
 split at h
 ·rename_i fs hfs
  split at h
  ·rename_i f hf
   split at h
   ·split at h
    ·cases h
    ·simp only [Option.some.injEq, Prod.mk.injEq] at h
     exact ⟨fs, f, hfs, hf, h.1, h.2.1⟩
   ·cases h
  ·cases h
 ·cases h
theorem V9 {P : Program} {t i o fz : Nat} {ft : TypeId} [hf : C2 P t i o ft fz] {H : Type} {enc : TypeId × Value → H} {w : World} {sp : Nat → Bool} {held : Bool} {fuel : Nat} {cs : List Value} {x : DataW H × List MemPlace} (k : DataW.trod enc P w 0 sp held fuel t cs = some x) :
  cs.length = P.cellsOf t ∧ ∃ y n, DataW.trod enc P w 0 sp held n ft ((cs.drop o).take (P.cellsOf ft)) = some y := by
 obtain ⟨fs, f, hu, hi, ho, hft⟩ := jI hf.out
 obtain ⟨xs, n, _, rfl, hl, hlen, hx⟩ := DataW.trod_struct hu k
 have hi2 : i < xs.length := by rw [hlen]; exact (Array.getElem?_eq_some_iff.1 hi).1
 have := hx i f hi
 rw [ho, hft, List.getElem?_eq_getElem hi2] at this
 exact ⟨hl, _, n, this⟩
def KE (P : Program) (t : TypeId) (o tot : Nat) (α : Type) [AX α] : Prop :=
 ∀ {H : Type} (enc : TypeId × Value → H) (w : World) (sp : Nat → Bool) (held : Bool) (fuel : Nat) (cs : List Value) (x : DataW H × List MemPlace), DataW.trod enc P w 0 sp held fuel t cs = some x → cs.length = tot → ∃ y : α, AX.rep y (cs.drop o) (fun b => w.heap[b]?)
section
variable {P : Program} {t : TypeId}
theorem KE.last (i : Nat) {o tot fz : Nat} {ft : TypeId} {α : Type} [AX α] [hf : C2 P t i o ft fz] [h : I3 P ft α] (ht : tot ≤ o + AX.sz α) : KE P t o tot α := by
 intro H enc w sp held fuel cs x k hl
 obtain ⟨_, y, n, hy⟩ := V9 (hf := hf) k
 rw [h.size, List.take_of_length_le MG] at hy
 exact h.of enc w sp held n _ _ hy
theorem KE.cons (i : Nat) {o tot fz : Nat} {ft : TypeId} {α β : Type} [AX α] [AX β] [hf : C2 P t i o ft fz] [h : I3 P ft α] (k : KE P t (o + AX.sz α) tot β) : KE P t o tot (α × β) := by
 intro H enc w sp held fuel cs x hx hl
 obtain ⟨_, y, n, hy⟩ := V9 (hf := hf) hx
 rw [h.size] at hy
 obtain ⟨y, hy⟩ := h.of enc w sp held n _ _ hy
 obtain ⟨z, hz⟩ := k enc w sp held fuel cs x hx hl
 exact ⟨(y, z), _, _, by rw [← List.drop_drop]; exact (List.take_append_drop _ _).symm, hy, hz⟩
theorem I3.eF (i : Nat) {o fz tot : Nat} {ft : TypeId} {α : Type} [AX α] [hf : C2 P t i o ft fz] (ht : P.cellsOf t = tot) (hs : tot = AX.sz α) (k : KE P t 0 tot α) : I3 P t α where
 of := by
  intro H enc w sp held fuel cs x hx
  obtain ⟨hl, _⟩ := V9 (hf := hf) hx
  exact k enc w sp held fuel cs x hx (by rw [hl, ht])
 size := by rw [ht, hs]
end
theorem Old.hJ {α : Type} [AX α] {D : Nat → Prop} {w0 : World} {xs : List α} {v : Value} (hz : 0 < AX.sz α) (k : Old D w0 (AX.rep xs [v])) :
  ∃ A cap, v = .slice A xs.length cap ∧ xs.length ≤ cap ∧ cap ≤ 9223372036854775807 ∧ ∀ i (hi : i < xs.length), CU A ∧ ∃ cs, Old D w0 (AX.rep xs[i] cs) ∧ ∀ m v, cs[m]? = some v → ∀ l, EH D w0 l (ab A) (ao A + i * AX.sz α + m) v := by
 obtain ⟨A, cap, ecs, rfl, h1, h2, HS, hl, _, hel⟩ := k.open
 refine ⟨A, cap, rfl, h1, h2, fun i hi => ?_⟩
 have hpos : i * AX.sz α + AX.sz α ≤ ecs.length := by
  rw [hl, ← Nat.succ_mul]; exact Nat.mul_le_mul_right _ hi
 refine ⟨HS.CU (by intro h; rw [h] at hpos; simp at hpos; omega), _, hel i _ (List.getElem?_eq_getElem hi), fun m v hv l => ?_⟩
 have hm : m < AX.sz α := by
  rcases Nat.lt_or_ge m (AX.sz α) with h | h
  ·exact h
  ·rw [List.getElem?_eq_none OK] at hv; cases hv
 rw [List.getElem?_take_of_lt hm, List.getElem?_drop] at hv
 rw [Nat.add_assoc]
 exact (BB.old HS).cell hv
end CN

set_option linter.unusedVariables false
set_option linter.unusedSimpArgs false
namespace CN
open Go

instance GP.gD (m : List AQ) (A : AQ) (r : List AQ) [h : GP m A r] : GP ([] ++ m) A r := ⟨h.out⟩
instance GP.fB (B : AQ) (l m : List AQ) (A : AQ) (r : List AQ) [h : GP (B :: (l ++ m)) A r] : GP ((B :: l) ++ m) A r := ⟨h.out⟩
instance FR.gD (m : List AQ) (b : Nat) (t : TypeId) (cs : List Value) (r : List AQ) [h : FR m b t cs r] : FR ([] ++ m) b t cs r := ⟨h.out⟩
instance FR.fB (B : AQ) (l m : List AQ) (b : Nat) (t : TypeId) (cs : List Value) (r : List AQ) [h : FR (B :: (l ++ m)) b t cs r] : FR ((B :: l) ++ m) b t cs r := ⟨h.out⟩
instance GC.gD (m : List AQ) (A : Option Addr) (t : TypeId) (sz n cap : Nat) (cs : List Value) (r : List AQ) [h : GC m A t sz n cap cs r] : GC ([] ++ m) A t sz n cap cs r := ⟨h.out⟩
instance GC.fB (B : AQ) (l m : List AQ) (A : Option Addr) (t : TypeId) (sz n cap : Nat) (cs : List Value) (r : List AQ) [h : GC (B :: (l ++ m)) A t sz n cap cs r] : GC ((B :: l) ++ m) A t sz n cap cs r := ⟨h.out⟩
theorem AD.pick {A : AQ} {l r r' : List AQ} [h : GP l A r] (k : AD r r') : AD l (A :: r') := (AD.perm h.out).trans (AD.cons k)

section
variable {P : Program} {Q : Post} {D : Nat → Prop} {w0 : World} {n : Nat} {env : BH} {l : List AQ} {ops : Array Oper} {r tail : List Oper}
theorem GR {c : Operand} {x y : Code} {p : Prop} [Decidable p] (hc : BQ env c = some (.bool (decide p))) (hp : p) (ht : HC P Q D w0 n env l x) : HC P Q D w0 n env l (.cond c x y) :=
 BP hc (fun _ => ht) (fun h => absurd hp h)
theorem CP {c : Operand} {x y : Code} {p : Prop} [Decidable p] (hc : BQ env c = some (.bool (decide p))) (hp : ¬ p) (ht : HC P Q D w0 n env l y) : HC P Q D w0 n env l (.cond c x y) :=
 BP hc (fun h => absurd h hp) (fun _ => ht)
theorem KW {t : Nat} {p : Prop} [Decidable p] (hv : BH.get env t = some (.bool (decide p))) (hp : p) (k : HL P ops Q D w0 n ((t, .bool true) :: env) l r) : HL P ops Q D w0 n env l r := DB hv (fun _ => k) (fun h => absurd hp h)
theorem F0 {t : Nat} {p : Prop} [Decidable p] (hv : BH.get env t = some (.bool (decide p))) (hp : ¬ p) (k : HL P ops Q D w0 n ((t, .bool false) :: env) l r) : HL P ops Q D w0 n env l r := DB hv (fun h => absurd h hp) (fun _ => k)
theorem UH {t : Nat} {p : Prop} [Decidable p] (hv : BH.get env t = some (.bool (decide p))) (hp : p) (k : HQ P ops Q D w0 n ((t, .bool true) :: env) l r) : HQ P ops Q D w0 n env l r := JC hv (fun _ => k) (fun h => absurd hp h)
theorem XA {t : Nat} {p : Prop} [Decidable p] (hv : BH.get env t = some (.bool (decide p))) (hp : ¬ p) (k : HQ P ops Q D w0 n ((t, .bool false) :: env) l r) : HQ P ops Q D w0 n env l r := JC hv (fun h => absurd h hp) (fun _ => k)
theorem KN {o : Oper} {j t d : Nat} {want : Bool} {vs : Array Value} (hg : o.guard = some (j, want)) (hj : LO ops j = some t) (hv : BH.get env t = some (.tuple vs)) (hd : o.dst = some d) (hn : Nat.blt d n = true) (k : HL P ops Q D w0 n ((d, undef) :: env) l r) : HL P ops Q D w0 n env l (o :: r) := .mk fun a w S => by
 have hw := VX hg hj S.env hv
 unfold wpList
 rw [if_neg (by rw [hw]; simp), hd]
 exact k.run _ w ⟨S.env.put hn _, S.own⟩
theorem DM {o : Oper} {j t d : Nat} {want : Bool} {vs : Array Value} (hg : o.guard = some (j, want)) (hj : LO ops j = some t) (hv : BH.get env t = some (.tuple vs)) (hd : o.dst = some d) (hn : Nat.blt d n = true) (k : HQ P ops Q D w0 n ((d, undef) :: env) l r) : HQ P ops Q D w0 n env l (o :: r) := .mk fun a E => by
 have hw := VX hg hj E hv
 unfold wpQuiet
 rw [if_neg (by rw [hw]; simp), hd]
 exact k.run _ (E.put hn _)
theorem sD {i d fuel : Nat} {listed : Array Bool} {L0 : List AQ} {rl : List Oper} {o : Oper} (hi : I0 rl i = some o) (hd : o.dst = some d) (hg : JB rl.toArray env o.guard = some false) (hn : Nat.blt d n = true) (hE : AD l L0) (k : HA P rl.toArray Q D w0 n ((d, undef) :: env) l L0 fuel (listed.setIfInBounds i true)) : HO P rl.toArray Q D w0 n env l L0 i fuel listed := .mk fun a w S => by
 unfold wpOp
 simp only [MU hi]
 rw [if_neg (by rw [OQ hg S.env]; simp)]
 rw [hd]
 exact ⟨S.own.AK hE, k.run _ w ⟨S.env.put hn _, S.own⟩⟩
def LU (env : BH) : List Nat → Option BH
 | [] => some []
 | t :: r => match BH.get env t, LU env r with
  | some v, some k => some ((t, v) :: k)
  | _, _ => none
theorem OU : ∀ {ks : List Nat} {kl : BH}, LU env ks = some kl → BH.sub env kl
 | [], kl, h => by simp only [LU, Option.some.injEq] at h; subst h; exact BH.eT _
 | t :: r, kl, h => by
  simp only [LU] at h
  split at h
  ·rename_i v k h1 h2
   simp only [Option.some.injEq] at h
   subst h
   exact BH.HI h1 (OU h2)
  ·cases h
theorem oC {c : Code} {σ : Type} (ks : List Nat) {kl : BH} (hk : LU env ks = some kl) (l' : σ → List AQ) (p : σ → Prop) (μ : σ → Nat) (s0 : σ) (h0 : p s0) (hl : AD l (l' s0))
  (h : ∀ s, p s → ∀ K : Act → World → Prop, (∀ s' a w, p s' → μ s' < μ s → St D w0 n kl (l' s') a w → K a w) → HC P (Exit.then K Q) D w0 n kl (l' s) c) : HC P Q D w0 n env l (.loop c) :=
 MV (fun _ => kl) l' p μ s0 h0 (OU hk) hl h
theorem GL {c : Code} {σ : Type} (ks : List Nat) {kl : BH} (hk : LU env ks = some kl) (m0 : Nat) (v0 : σ → Value) (l' : σ → List AQ) (p : σ → Prop) (μ : σ → Nat) (s0 : σ) (h0 : p s0) (e0 : BH.get env m0 = some (v0 s0)) (hl : AD l (l' s0))
  (h : ∀ s, p s → ∀ K : Act → World → Prop, (∀ s' a w, p s' → μ s' < μ s → St D w0 n ((m0, v0 s') :: kl) (l' s') a w → K a w) → HC P (Exit.then K Q) D w0 n ((m0, v0 s) :: kl) (l' s) c) : HC P Q D w0 n env l (.loop c) :=
 MV (fun s => (m0, v0 s) :: kl) l' p μ s0 h0 (BH.HI e0 (OU hk)) hl h
theorem JP {c : Code} {σ : Type} (ks : List Nat) {kl : BH} (hk : LU env ks = some kl) (m0 : Nat) (v0 : σ → Value) (p : σ → Prop) (μ : σ → Nat) (s0 : σ) (h0 : p s0) (e0 : BH.get env m0 = some (v0 s0))
  (h : ∀ s, p s → ∀ K : Act → World → Prop, (∀ s' a w, p s' → μ s' < μ s → St D w0 n ((m0, v0 s') :: kl) l a w → K a w) → HC P (Exit.then K Q) D w0 n ((m0, v0 s) :: kl) l c) : HC P Q D w0 n env l (.loop c) :=
 MV (fun s => (m0, v0 s) :: kl) (fun _ => l) p μ s0 h0 (BH.HI e0 (OU hk)) (AD.refl _) h
theorem JA {c : Code} {σ : Type} (ks : List Nat) {kl : BH} (hk : LU env ks = some kl) (m0 : Nat) (v0 : σ → Value) (m1 : Nat) (v1 : σ → Value) (l' : σ → List AQ) (p : σ → Prop) (μ : σ → Nat) (s0 : σ) (h0 : p s0) (e0 : BH.get env m0 = some (v0 s0)) (e1 : BH.get env m1 = some (v1 s0)) (hl : AD l (l' s0))
  (h : ∀ s, p s → ∀ K : Act → World → Prop, (∀ s' a w, p s' → μ s' < μ s → St D w0 n ((m0, v0 s') :: (m1, v1 s') :: kl) (l' s') a w → K a w) → HC P (Exit.then K Q) D w0 n ((m0, v0 s) :: (m1, v1 s) :: kl) (l' s) c) : HC P Q D w0 n env l (.loop c) :=
 MV (fun s => (m0, v0 s) :: (m1, v1 s) :: kl) l' p μ s0 h0 (BH.HI e0 (BH.HI e1 (OU hk))) hl h
theorem PI {c : Code} {σ : Type} (ks : List Nat) {kl : BH} (hk : LU env ks = some kl) (m0 : Nat) (v0 : σ → Value) (m1 : Nat) (v1 : σ → Value) (p : σ → Prop) (μ : σ → Nat) (s0 : σ) (h0 : p s0) (e0 : BH.get env m0 = some (v0 s0)) (e1 : BH.get env m1 = some (v1 s0))
  (h : ∀ s, p s → ∀ K : Act → World → Prop, (∀ s' a w, p s' → μ s' < μ s → St D w0 n ((m0, v0 s') :: (m1, v1 s') :: kl) l a w → K a w) → HC P (Exit.then K Q) D w0 n ((m0, v0 s) :: (m1, v1 s) :: kl) l c) : HC P Q D w0 n env l (.loop c) :=
 MV (fun s => (m0, v0 s) :: (m1, v1 s) :: kl) (fun _ => l) p μ s0 h0 (BH.HI e0 (BH.HI e1 (OU hk))) (AD.refl _) h
theorem lX {c : Code} {σ : Type} (ks : List Nat) {kl : BH} (hk : LU env ks = some kl) (m0 : Nat) (v0 : σ → Value) (m1 : Nat) (v1 : σ → Value) (m2 : Nat) (v2 : σ → Value) (l' : σ → List AQ) (p : σ → Prop) (μ : σ → Nat) (s0 : σ) (h0 : p s0) (e0 : BH.get env m0 = some (v0 s0)) (e1 : BH.get env m1 = some (v1 s0)) (e2 : BH.get env m2 = some (v2 s0)) (hl : AD l (l' s0))
  (h : ∀ s, p s → ∀ K : Act → World → Prop, (∀ s' a w, p s' → μ s' < μ s → St D w0 n ((m0, v0 s') :: (m1, v1 s') :: (m2, v2 s') :: kl) (l' s') a w → K a w) → HC P (Exit.then K Q) D w0 n ((m0, v0 s) :: (m1, v1 s) :: (m2, v2 s) :: kl) (l' s) c) : HC P Q D w0 n env l (.loop c) :=
 MV (fun s => (m0, v0 s) :: (m1, v1 s) :: (m2, v2 s) :: kl) l' p μ s0 h0 (BH.HI e0 (BH.HI e1 (BH.HI e2 (OU hk)))) hl h
theorem lY {c : Code} {σ : Type} (ks : List Nat) {kl : BH} (hk : LU env ks = some kl) (m0 : Nat) (v0 : σ → Value) (m1 : Nat) (v1 : σ → Value) (m2 : Nat) (v2 : σ → Value) (m3 : Nat) (v3 : σ → Value) (l' : σ → List AQ) (p : σ → Prop) (μ : σ → Nat) (s0 : σ) (h0 : p s0) (e0 : BH.get env m0 = some (v0 s0)) (e1 : BH.get env m1 = some (v1 s0)) (e2 : BH.get env m2 = some (v2 s0)) (e3 : BH.get env m3 = some (v3 s0)) (hl : AD l (l' s0))
  (h : ∀ s, p s → ∀ K : Act → World → Prop, (∀ s' a w, p s' → μ s' < μ s → St D w0 n ((m0, v0 s') :: (m1, v1 s') :: (m2, v2 s') :: (m3, v3 s') :: kl) (l' s') a w → K a w) → HC P (Exit.then K Q) D w0 n ((m0, v0 s) :: (m1, v1 s) :: (m2, v2 s) :: (m3, v3 s) :: kl) (l' s) c) : HC P Q D w0 n env l (.loop c) :=
 MV (fun s => (m0, v0 s) :: (m1, v1 s) :: (m2, v2 s) :: (m3, v3 s) :: kl) l' p μ s0 h0 (BH.HI e0 (BH.HI e1 (BH.HI e2 (BH.HI e3 (OU hk))))) hl h
theorem B5 {K : Act → World → Prop} {σ : Type} {env' : σ → BH} {l' : σ → List AQ} {p : σ → Prop} {μ : σ → Nat} {m0 : Nat} (hK : ∀ s' a w, p s' → μ s' < m0 → St D w0 n (env' s') (l' s') a w → K a w) (s' : σ) (hp : p s') (hm : μ s' < m0) (he : BH.sub env (env' s')) (hl : AD l (l' s')) : HX (Exit.then K Q) .normal D w0 n env l :=
 QV fun a w S => hK s' a w hp hm ⟨S.env.sub he, S.own.AK hl⟩
theorem DF {K : Act → World → Prop} {σ : Type} {env' : σ → BH} {l' : σ → List AQ} (hK : ∀ s a w, St D w0 n (env' s) (l' s) a w → K a w) (s : σ) (he : BH.sub env (env' s)) (hl : AD l (l' s)) : HX (Exit.then K Q) .normal D w0 n env l :=
 QV fun a w S => hK s a w ⟨S.env.sub he, S.own.AK hl⟩
theorem NC {x : Code} {σ : Type} (ks : List Nat) {kl : BH} (hk : LU env ks = some kl)  (l' : σ → List AQ)
  (h : ∀ K : Act → World → Prop, (∀ (s : σ) a w, St D w0 n (kl) (l' s) a w → K a w) → HC P (Exit.then K Q) D w0 n env l x)
  (k : ∀ s : σ, HX Q .normal D w0 n (kl) (l' s)) : HC P Q D w0 n env l x := XH (fun s => kl) l' h k
theorem NX {x : Code} {σ : Type} (ks : List Nat) {kl : BH} (hk : LU env ks = some kl) (m0 : Nat) (v0 : σ → Value) (l' : σ → List AQ)
  (h : ∀ K : Act → World → Prop, (∀ (s : σ) a w, St D w0 n ((m0, v0 s) :: kl) (l' s) a w → K a w) → HC P (Exit.then K Q) D w0 n env l x)
  (k : ∀ s : σ, HX Q .normal D w0 n ((m0, v0 s) :: kl) (l' s)) : HC P Q D w0 n env l x := XH (fun s => (m0, v0 s) :: kl) l' h k
theorem cU {x : Code} {σ : Type} (ks : List Nat) {kl : BH} (hk : LU env ks = some kl) (m0 : Nat) (v0 : σ → Value)
  (h : ∀ K : Act → World → Prop, (∀ (s : σ) a w, St D w0 n ((m0, v0 s) :: kl) l a w → K a w) → HC P (Exit.then K Q) D w0 n env l x)
  (k : ∀ s : σ, HX Q .normal D w0 n ((m0, v0 s) :: kl) l) : HC P Q D w0 n env l x := XH (fun s => (m0, v0 s) :: kl) (fun _ => l) h k
end

section
variable {P : Program} {D : Nat → Prop} {w0 : World} {env : BH} {l : List AQ} {dst : Option Tmp} {ty : TypeId} {pos : String} {after : Array Edge} {g : Option (Nat × Bool)}
def XY (cs : List Value) (off s : Nat) : Option (List Value) := if Nat.ble (off + s) cs.length then N6 ((cs.drop off).take s) else none
theorem bN {cs vs : List Value} {off s : Nat} (h : XY cs off s = some vs) : vs.length = s ∧ ∀ i v, vs[i]? = some v → cs[off + i]? = some v := by
 unfold XY at h
 split at h
 ·rename_i hb
  have hb : off + s ≤ cs.length := by simpa using hb
  have := Q0 h
  subst this
  refine ⟨by rw [List.length_take, List.length_drop]; omega, fun i v hi => ?_⟩
  rw [List.getElem?_take] at hi
  split at hi
  ·rwa [List.getElem?_drop] at hi
  ·cases hi
 ·cases h
theorem MI {t et : TypeId} {s bb : Nat} {z : List Value} [h : IA P t] [hs : CX P t s bb z] {x : Operand} {b off : Nat} {cs vs : List Value} {r : List AQ} (hx : BQ env x = some (.pointer (some ⟨b, off, none⟩))) [hp : FR l b et cs r] (hv : XY cs off s = some vs) : DI P D w0 env l ⟨dst, .load t x, ty, pos, after, g⟩ (.agg vs.toArray) :=
 D4 hx (bN hv).1 (DZ.AI (bN hv).2)
theorem EE {e : TypeId} {x : Operand} {v : Value} {cs : List Value} (hx : BQ env x = some v) (hc : N6 v.cells.toList = some cs) : FA P D w0 env l ⟨dst, .box e x, ty, pos, after, g⟩ (fun b : Nat => .pointer (some ⟨b, 0, none⟩)) (fun b => AI b e cs :: l) := by
 have := gI (P := P) (D := D) (w0 := w0) (l := l) (dst := dst) (ty := ty) (pos := pos) (after := after) (g := g) (e := e) hx
 rw [Q0 hc] at this
 exact this
end

inductive CK where
 | i (k : IntKind)
 | b
def JL : CK → Value → Option Lit
 | .i k, .int k' n => if k' = k ∧ (Lit.int k n).wf = true then some (.int k n) else none
 | .b, .bool x => some (.bool x)
 | _, _ => none
def FX : List CK → List Value → Option (List Lit)
 | [], [] => some []
 | k :: r, v :: vs => match JL k v, FX r vs with
  | some a, some b => some (a :: b)
  | _, _ => none
 | _, _ => none
end CN

set_option linter.unusedVariables false
set_option linter.unusedSimpArgs false
namespace CN
open Go
theorem lG {k : CK} {u v : Value} {a b : Lit} (h1 : JL k u = some a) (h2 : JL k v = some b) : a = b ↔ u = v := by
 cases k with
 | i k =>
  cases u <;> simp only [JL] at h1 <;> try (cases h1; done)
  cases v <;> simp only [JL] at h2 <;> try (cases h2; done)
  split at h1 <;> try (cases h1; done)
  split at h2 <;> try (cases h2; done)
  rename_i e1 e2
  obtain ⟨rfl, _⟩ := e1
  obtain ⟨rfl, _⟩ := e2
  cases h1; cases h2
  simp
 | b =>
  cases u <;> simp only [JL] at h1 <;> try (cases h1; done)
  cases v <;> simp only [JL] at h2 <;> try (cases h2; done)
  cases h1; cases h2
  simp
theorem RX : ∀ {ks : List CK} {cs : List Value} {ls : List Lit}, FX ks cs = some ls → cs.length = ks.length
 | [], [], _, _ => rfl
 | [], _ :: _, _, h => by cases h
 | _ :: _, [], _, h => by cases h
 | k :: r, v :: vs, ls, h => by
  simp only [FX] at h
  split at h
  ·rename_i a b h1 h2
   simp [RX h2]
  ·cases h
theorem YW : ∀ {ks : List CK} {us vs : List Value} {a b : List Lit}, FX ks us = some a → FX ks vs = some b → (a = b ↔ us = vs)
 | [], [], [], _, _, h1, h2 => by cases h1; cases h2; simp
 | [], _ :: _, _, _, _, h, _ => by cases h
 | [], [], _ :: _, _, _, _, h => by cases h
 | _ :: _, [], _, _, _, h, _ => by cases h
 | _ :: _, _ :: _, [], _, _, _, h => by cases h
 | k :: r, u :: us, v :: vs, a, b, h1, h2 => by
  simp only [FX] at h1 h2
  split at h1
  ·rename_i a1 a2 p1 p2
   split at h2
   ·rename_i b1 b2 q1 q2
    cases h1; cases h2
    simp only [List.cons.injEq, lG p1 q1, YW p2 q2]
   ·cases h2
  ·cases h1
theorem VO : ∀ {ks ms : List CK} {cs : List Value} {ls : List Lit}, FX (ks ++ ms) cs = some ls → ∃ c1 c2 l1 l2, cs = c1 ++ c2 ∧ ls = l1 ++ l2 ∧ FX ks c1 = some l1 ∧ FX ms c2 = some l2
 | [], ms, cs, ls, h => ⟨[], cs, [], ls, rfl, rfl, rfl, h⟩
 | k :: r, ms, [], ls, h => by cases h
 | k :: r, ms, v :: vs, ls, h => by
  simp only [List.cons_append, FX] at h
  split at h
  ·rename_i a b h1 h2
   obtain ⟨c1, c2, l1, l2, rfl, rfl, p, q⟩ := VO h2
   cases h
   exact ⟨v :: c1, c2, a :: l1, l2, rfl, rfl, by simp [FX, h1, p], q⟩
  ·cases h
def SR (P : Program) (f : TypeId → Option (List CK)) : List Field → Nat → Option (List CK)
 | [], _ => some []
 | x :: r, o => if x.offset = o then
   match f x.type, SR P f r (o + P.cellsOf x.type) with
   | some a, some b => if a.length = P.cellsOf x.type then some (a ++ b) else none
   | _, _ => none
  else none
def OX (P : Program) : Nat → TypeId → Option (List CK)
 | 0, _ => none
 | d + 1, t => match P.underlying t with
  | some .bool => some [.b]
  | some (.int k) => some [.i k]
  | some (.array n e) => match OX P d e with
   | some ks => if ks.length = P.cellsOf e ∧ P.cellsOf t = n * P.cellsOf e then some (List.replicate n ks).flatten else none
   | none => none
  | some (.struct fs) => match SR P (OX P d) fs.toList 0 with
   | some ks => if ks.length = P.cellsOf t ∧ fs.all (·.name != "_") = true then some ks else none
   | none => none
  | _ => none
theorem YB {P : Program} {d : Nat} {e : TypeId} {ks : List CK} (hl : ks.length = P.cellsOf e) (IH : ∀ cs ls, FX ks cs = some ls → P.keyLits d e cs = some ls) : ∀ (n : Nat) (cs pre : List Value) (k : Nat) (ls : List Lit), pre.length = k * P.cellsOf e → FX (List.replicate n ks).flatten cs = some ls →
  ∃ lss, ((List.range' k n).mapM fun i => P.keyLits d e (((pre ++ cs).drop (i * P.cellsOf e)).take (P.cellsOf e))) = some lss ∧ lss.flatten = ls
 | 0, cs, pre, k, ls, _, h => by
  cases cs with
  | nil => simp [FX] at h; subst h; exact ⟨[], rfl, rfl⟩
  | cons _ _ => simp [FX] at h
 | n + 1, cs, pre, k, ls, hp, h => by
  rw [List.replicate_succ, List.flatten_cons] at h
  obtain ⟨c1, c2, l1, l2, rfl, rfl, p, q⟩ := VO h
  have h1 : c1.length = P.cellsOf e := by rw [RX p, hl]
  obtain ⟨lss, hm, hf⟩ := YB hl IH n c2 (pre ++ c1) (k + 1) l2 (by rw [List.length_append, hp, h1, Nat.add_mul]; omega) q
  refine ⟨l1 :: lss, ?_, by simp [hf]⟩
  rw [List.range'_succ, List.mapM_cons]
  have e1 : ((pre ++ (c1 ++ c2)).drop (k * P.cellsOf e)).take (P.cellsOf e) = c1 := by
   rw [← hp, List.drop_left, ← h1, List.take_left]
  simp only [e1, IH _ _ p]
  rw [List.append_assoc] at hm
  simp [hm]
theorem X8 {P : Program} {d : Nat} (IH : ∀ t ks, OX P d t = some ks → ∀ cs ls, FX ks cs = some ls → P.keyLits d t cs = some ls) : ∀ (fs : List Field) (o : Nat) (ks : List CK) (cs pre : List Value) (ls : List Lit), SR P (OX P d) fs o = some ks → pre.length = o → FX ks cs = some ls →
  ∃ lss, (fs.mapM fun f => P.keyLits d f.type (((pre ++ cs).drop f.offset).take (P.cellsOf f.type))) = some lss ∧ lss.flatten = ls
 | [], o, ks, cs, pre, ls, hk, _, h => by
  simp only [SR, Option.some.injEq] at hk
  subst hk
  cases cs with
  | nil => simp [FX] at h; subst h; exact ⟨[], rfl, rfl⟩
  | cons _ _ => simp [FX] at h
 | f :: r, o, ks, cs, pre, ls, hk, hp, h => by
  simp only [SR] at hk
  split at hk
  ·rename_i ho
   split at hk
   ·rename_i a b ha hb
    split at hk
    ·rename_i hl
     cases hk
     obtain ⟨c1, c2, l1, l2, rfl, rfl, p, q⟩ := VO h
     have h1 : c1.length = P.cellsOf f.type := by rw [RX p, hl]
     obtain ⟨lss, hm, hf⟩ := X8 IH r (o + P.cellsOf f.type) b c2 (pre ++ c1) l2 hb (by rw [List.length_append, hp, h1]) q
     refine ⟨l1 :: lss, ?_, by simp [hf]⟩
     rw [List.mapM_cons]
     have e1 : ((pre ++ (c1 ++ c2)).drop f.offset).take (P.cellsOf f.type) = c1 := by
      rw [ho, ← hp, List.drop_left, ← h1, List.take_left]
     simp only [e1, IH _ _ ha _ _ p]
     rw [List.append_assoc] at hm
     simp [hm]
    ·cases hk
   ·cases hk
  ·cases hk
theorem TN {P : Program} : ∀ (d : Nat) (t : TypeId) (ks : List CK), OX P d t = some ks → ∀ cs ls, FX ks cs = some ls → P.keyLits d t cs = some ls
 | 0, _, _, hk, _, _, _ => by simp [OX] at hk
 | d + 1, t, ks, hk, cs, ls, h => by
  simp only [OX] at hk
  simp only [Program.keyLits]
  split at hk
  ·rename_i hu
   cases hk
   match cs, h with
   | [v], h =>
    cases v <;> simp [FX, JL] at h
    subst h
    simp [hu]
   | [], h => cases h
   | _ :: _ :: _, h => simp only [FX] at h; split at h <;> simp_all
  ·rename_i k hu
   cases hk
   match cs, h with
   | [v], h =>
    cases v <;> simp [FX, JL] at h
    rename_i k' i
    split at h
    ·rename_i a b hx hy
     cases hy
     cases h
     split at hx
     ·rename_i hh
      obtain ⟨rfl, hw⟩ := hh
      cases hx
      simp [hu, hw]
     ·cases hx
    ·cases h
   | [], h => cases h
   | _ :: _ :: _, h => simp only [FX] at h; split at h <;> simp_all
  ·rename_i n e hu
   split at hk
   ·rename_i ks' he
    split at hk
    ·rename_i hh
     cases hk
     obtain ⟨lss, hm, hf⟩ := YB hh.1 (TN d e ks' he) n cs [] 0 ls (by simp) h
     have hcl := RX h
     have : cs.length = P.cellsOf t := by
      rw [hcl, hh.2, List.length_flatten]; simp [List.map_replicate, List.sum_replicate_nat, hh.1]
     simp only [List.nil_append] at hm
     simp [hu, this, List.range_eq_range', hm, hf]
    ·cases hk
   ·cases hk
  ·rename_i fs hu
   split at hk
   ·rename_i ks' hf
    split at hk
    ·rename_i hh
     cases hk
     obtain ⟨lss, hm, hfl⟩ := X8 (TN d) fs.toList 0 ks cs [] ls hf rfl h
     have hcl := RX h
     have : cs.length = P.cellsOf t := by rw [hcl, hh.1]
     simp only [List.nil_append] at hm
     rw [hu]
     dsimp only
     rw [if_pos ⟨this, hh.2⟩, hm]
     simp [hfl]
    ·cases hk
   ·cases hk
  ·cases hk
class PY (P : Program) (t : TypeId) (ks : outParam (List CK)) : Prop where
 kinds : OX P 6 t = some ks
 key : P.keyTypeAt 6 t = true
 guard : P.eqGuardType P.depth t = false
 agg : (match P.underlying t with | some (.struct _) | some (.array _ _) => true | _ => false) = true
theorem rF {P : Program} {t : TypeId} {ks : List CK} [h : PY P t ks] {xs ys : List Value} {a b : List Lit} (hx : FX ks xs = some a) (hy : FX ks ys = some b) (p : Prop) [Decidable p] (hp : xs = ys ↔ p) (w : World) : (Op.equal t (.agg xs.toArray) (.agg ys.toArray)).run P w = .ok (decide p) w := by
 have kx := TN 6 t ks h.kinds xs a hx
 have ky := TN 6 t ks h.kinds ys b hy
 have hf : ∀ cs ls, P.keyLits 6 t cs = some ls → (Value.agg cs.toArray).formed P t = true := by
  intro cs ls k
  have hg := h.agg
  unfold Program.keyLits at k
  cases hu : P.underlying t with
  | none => rw [hu] at hg; cases hg
  | some d =>
   cases d <;> simp only [hu] at hg k <;> try (cases hg; done)
   ·split at k
    ·simp_all [Value.formed]
    ·cases k
   ·split at k
    ·simp_all [Value.formed]
    ·cases k
 obtain ⟨r, hr, hi⟩ := run_equalIn_deep 9994 6 t h.key w 6 6 (.agg xs.toArray) (.agg ys.toArray) a b (hf _ _ kx) (hf _ _ ky) (by simpa [Value.cells] using kx) (by simpa [Value.cells] using ky)
 have : r = decide p := by
  rw [YW hx hy, hp] at hi
  by_cases e : p
  ·rw [decide_eq_true e]; exact hi.2 e
  ·rw [decide_eq_false e]
   cases r
   ·rfl
   ·exact absurd (hi.1 rfl) e
 rw [← this]
 exact hr
section
variable {P : Program} {D : Nat → Prop} {w0 : World} {env : BH} {l : List AQ} {dst : Option Tmp} {ty : TypeId} {pos : String} {after : Array Edge} {g : Option (Nat × Bool)} {x y : Operand} {t t' : TypeId}
theorem iI {op : BinOp} {ks : List CK} [h : PY P t ks] (x y : Operand) (a b : Array Value) (w : World) : (eqGuard op t x y (.agg a) (.agg b)).run P w = .ok () w := by
 have hg := h.guard
 cases op <;> simp [eqGuard, hg]
theorem UW {ks : List CK} [h : PY P t ks] {xs ys : List Value} {p : Prop} [Decidable p] (hx : BQ env x = some (.agg xs.toArray)) (hy : BQ env y = some (.agg ys.toArray)) (ox : (FX ks xs).isSome = true) (oy : (FX ks ys).isSome = true) (hp : xs = ys ↔ p) : DI P D w0 env l ⟨dst, .binOp .neq t x y t', ty, pos, after, g⟩ (.bool (decide (¬ p))) := .mk fun n a w E H => by
 obtain ⟨la, ha⟩ := Option.isSome_iff_exists.1 ox
 obtain ⟨lb, hb⟩ := Option.isSome_iff_exists.1 oy
 have e := rF (P := P) (t := t) ha hb p hp w
 simp [execOp, E.eval hx, E.eval hy, iI, binOp, e]
end
theorem ZV : ∀ (xs : List UInt8), (FX (List.replicate xs.length (.i .u8)) (xs.map AU)).isSome = true
 | [] => rfl
 | x :: r => by
  have h := x.toNat_lt
  have ih := ZV r
  obtain ⟨lb, hb⟩ := Option.isSome_iff_exists.1 ih
  simp only [List.length_cons, List.replicate_succ, List.map_cons, FX, AU, JL, hb]
  rw [if_pos]
  ·rfl
  ·simp [Lit.wf, IntKind.min, IntKind.max, IntKind.signed, IntKind.bits]
   omega
theorem rO {xs ys : List UInt8} : xs.map AU = ys.map AU ↔ xs = ys := by
 constructor
 ·intro h
  refine List.map_inj_right (fun a b e => ?_) |>.1 h
  simp only [AU, Value.int.injEq] at e
  exact UInt8.toNat_inj.1 AA
 ·rintro rfl; rfl
end CN
