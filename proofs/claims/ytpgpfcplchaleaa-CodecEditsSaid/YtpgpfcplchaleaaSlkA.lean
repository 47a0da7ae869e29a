import Derived.WalkKit
import Derived.Deep.LoopGhost
import Derived.Deep.Quiet
import Derived.StillTail
import Derived.KernelRfl
set_option linter.unusedVariables false
set_option linter.unusedSimpArgs false
namespace Slk
open Go

/-! ### Heaps, assertions, lists of assertions that hold apart -/
abbrev Heap := Nat → Option Obj
abbrev HProp := Heap → Prop
def Hdisj (h1 h2 : Heap) : Prop := ∀ b, h1 b = none ∨ h2 b = none
def Hsub (h1 h : Heap) : Prop := ∀ b o, h1 b = some o → h b = some o
def Hunion (h1 h2 : Heap) : Heap := fun b => match h1 b with | some o => some o | none => h2 b

def stars : List HProp → Heap → Prop
  | [], _ => True
  | A :: l, h => ∃ h1 h2, A h1 ∧ stars l h2 ∧ Hdisj h1 h2 ∧ Hsub h1 h ∧ Hsub h2 h

theorem Hsub.refl (h : Heap) : Hsub h h := fun _ _ e => e
theorem Hsub.trans {a b c : Heap} (h : Hsub a b) (k : Hsub b c) : Hsub a c := fun x o e => k x o (h x o e)
theorem Hdisj.symm {a b : Heap} (h : Hdisj a b) : Hdisj b a := fun x => (h x).symm
theorem Hdisj.subL {a b c : Heap} (h : Hdisj b c) (k : Hsub a b) : Hdisj a c := fun x => by
  rcases h x with e | e
  · left
    cases ha : a x with
    | none => rfl
    | some o => rw [k x o ha] at e; cases e
  · exact .inr e
theorem Hdisj.subR {a b c : Heap} (h : Hdisj c b) (k : Hsub a b) : Hdisj c a := (h.symm.subL k).symm
theorem Hsub.union_left (a b : Heap) : Hsub a (Hunion a b) := fun x o e => by simp [Hunion, e]
theorem Hsub.union_right {a b : Heap} (h : Hdisj a b) : Hsub b (Hunion a b) := fun x o e => by
  rcases h x with k | k
  · simp [Hunion, k, e]
  · rw [k] at e; cases e
theorem Hsub.union {a b c : Heap} (h : Hsub a c) (k : Hsub b c) : Hsub (Hunion a b) c := fun x o e => by
  unfold Hunion at e
  split at e
  · rename_i o' ho; cases e; exact h x o ho
  · exact k x o e
theorem Hdisj.union {a b c : Heap} (h : Hdisj a c) (k : Hdisj b c) : Hdisj (Hunion a b) c := fun x => by
  unfold Hunion
  rcases h x with e | e
  · rw [e]; exact k x
  · exact .inr e

theorem stars_mono : ∀ {l : List HProp} {h h' : Heap}, Hsub h h' → stars l h → stars l h'
  | [], _, _, _, _ => trivial
  | _ :: _, _, _, k, ⟨h1, h2, a, b, d, s1, s2⟩ => ⟨h1, h2, a, b, d, s1.trans k, s2.trans k⟩

theorem stars_swap {A B : HProp} {l : List HProp} {h : Heap} (H : stars (A :: B :: l) h) : stars (B :: A :: l) h := by
  obtain ⟨h1, h2, a, ⟨h3, h4, b, c, d', s3, s4⟩, d, s1, s2⟩ := H
  exact ⟨h3, Hunion h1 h4, b, ⟨h1, h4, a, c, d.subR s4, Hsub.union_left _ _, Hsub.union_right (d.subR s4)⟩, (Hdisj.union (d.subR s3) d'.symm).symm, s3.trans s2, Hsub.union s1 (s4.trans s2)⟩

theorem stars_cons {A : HProp} {l l' : List HProp} (k : ∀ h, stars l h → stars l' h) {h : Heap} (H : stars (A :: l) h) : stars (A :: l') h := by
  obtain ⟨h1, h2, a, b, r⟩ := H
  exact ⟨h1, h2, a, k _ b, r⟩

theorem stars_perm {l l' : List HProp} (p : l.Perm l') : ∀ {h : Heap}, stars l h → stars l' h := by
  induction p with
  | nil => exact fun H => H
  | cons x _ ih => exact fun H => stars_cons (fun _ => ih) H
  | swap x y l => exact fun H => stars_swap H
  | trans _ _ ih1 ih2 => exact fun H => ih2 (ih1 H)

theorem stars_tail {A : HProp} {l : List HProp} {h : Heap} (H : stars (A :: l) h) : stars l h := by
  obtain ⟨h1, h2, a, b, d, s1, s2⟩ := H
  exact stars_mono s2 b

theorem stars_append {l l' : List HProp} {h : Heap} : stars (l ++ l') h ↔ ∃ h1 h2, stars l h1 ∧ stars l' h2 ∧ Hdisj h1 h2 ∧ Hsub h1 h ∧ Hsub h2 h := by
  induction l generalizing h with
  | nil =>
    constructor
    · intro H
      exact ⟨fun _ => none, h, trivial, H, fun _ => .inl rfl, (fun _ _ e => by cases e), Hsub.refl _⟩
    · rintro ⟨h1, h2, _, b, _, _, s⟩
      exact stars_mono s b
  | cons A l ih =>
    constructor
    · rintro ⟨h1, h2, a, b, d, s1, s2⟩
      obtain ⟨h3, h4, c, e, d', s3, s4⟩ := ih.1 b
      exact ⟨Hunion h1 h3, h4, ⟨h1, h3, a, c, d.subR s3, Hsub.union_left _ _, Hsub.union_right (d.subR s3)⟩, e, Hdisj.union (d.subR s4) d', Hsub.union s1 (s3.trans s2), s4.trans s2⟩
    · rintro ⟨h1, h2, ⟨h3, h4, a, b, d', s3, s4⟩, c, d, s1, s2⟩
      exact ⟨h3, Hunion h4 h2, a, ih.2 ⟨h4, h2, b, c, d.subL s4, Hsub.union_left _ _, Hsub.union_right (d.subL s4)⟩, (Hdisj.union d'.symm (d.subL s3).symm).symm, s3.trans s1, Hsub.union (s4.trans s1) s2⟩

/-- A pure fact. -/
def pureP (p : Prop) : HProp := fun _ => p
/-- Several in one. -/
def allP (l : List HProp) : HProp := stars l
/-- Block b: cells cs of elements of type t, freely written. -/
def blk (b : Nat) (t : TypeId) (cs : List Value) : HProp := fun h => ∃ fr : Nat × Nat, h b = some (.cells cs.toArray t fr) ∧ (fr = (0, 0) ∨ cs.length ≤ fr.1)

theorem stars_pure {p : Prop} {l : List HProp} {h : Heap} : stars (pureP p :: l) h ↔ p ∧ stars l h := by
  constructor
  · intro H; exact ⟨by obtain ⟨_, _, a, _⟩ := H; exact a, stars_tail H⟩
  · rintro ⟨a, b⟩
    exact ⟨fun _ => none, h, a, b, fun _ => .inl rfl, (fun _ _ e => by cases e), Hsub.refl _⟩
theorem stars_ex {α : Type} {A : α → HProp} {l : List HProp} {h : Heap} : stars ((fun h => ∃ x, A x h) :: l) h ↔ ∃ x, stars (A x :: l) h := by
  constructor
  · rintro ⟨h1, h2, ⟨x, a⟩, r⟩; exact ⟨x, h1, h2, a, r⟩
  · rintro ⟨x, h1, h2, a, r⟩; exact ⟨h1, h2, ⟨x, a⟩, r⟩
theorem stars_allP {l l' : List HProp} {h : Heap} : stars (allP l :: l') h ↔ stars (l ++ l') h := by
  rw [stars_append]
  rfl
/-- One assertion follows from another one. -/
def Imp (A B : HProp) : Prop := ∀ h, A h → B h
def Ent (l l' : List HProp) : Prop := ∀ h, stars l h → stars l' h
theorem Ent.refl (l : List HProp) : Ent l l := fun _ h => h
theorem Ent.trans {a b c : List HProp} (h : Ent a b) (k : Ent b c) : Ent a c := fun x e => k x (h x e)
theorem Ent.perm {l l' : List HProp} (p : l.Perm l') : Ent l l' := fun _ => stars_perm p
theorem Ent.cons {A : HProp} {l l' : List HProp} (h : Ent l l') : Ent (A :: l) (A :: l') := fun _ => stars_cons h
theorem Ent.head {A B : HProp} {l : List HProp} (h : Imp A B) : Ent (A :: l) (B :: l) := by
  rintro x ⟨h1, h2, a, r⟩; exact ⟨h1, h2, h _ a, r⟩
theorem Ent.both {A B : HProp} {l l' : List HProp} (h : Imp A B) (k : Ent l l') : Ent (A :: l) (B :: l') := (Ent.head h).trans (Ent.cons k)
theorem Ent.drop {A : HProp} {l l' : List HProp} (h : Ent l l') : Ent (A :: l) l' := fun x e => h x (stars_tail e)
theorem Ent.append {a b c d : List HProp} (h : Ent a b) (k : Ent c d) : Ent (a ++ c) (b ++ d) := by
  intro x e
  obtain ⟨h1, h2, u, v, r⟩ := stars_append.1 e
  exact stars_append.2 ⟨h1, h2, h _ u, k _ v, r⟩
theorem Ent.nil (l : List HProp) : Ent l [] := fun _ _ => trivial

/-! ### The world of a call: what was there stays as it was, but for what is owned -/
structure Own (D : Nat → Prop) (w0 w : World) (l : List HProp) : Prop where
  os : w.os = w0.os
  tape : w.tape = w0.tape
  output : w.output = w0.output
  size : w0.heap.size ≤ w.heap.size
  old : ∀ b, b < w0.heap.size → ¬ D b → w.heap[b]? = w0.heap[b]?
  own : ∃ h : Heap, (∀ b o, h b = some o → w.heap[b]? = some o ∧ (b < w0.heap.size → D b)) ∧ stars l h

theorem Own.ent {D : Nat → Prop} {w0 w : World} {l l' : List HProp} (H : Own D w0 w l) (e : Ent l l') : Own D w0 w l' := by
  obtain ⟨h, a, b⟩ := H.own
  exact ⟨H.os, H.tape, H.output, H.size, H.old, h, a, e _ b⟩
theorem Own.start (D : Nat → Prop) (w : World) : Own D w w [] := ⟨rfl, rfl, rfl, Nat.le_refl _, fun _ _ _ => rfl, fun _ => none, (fun _ _ e => by cases e), trivial⟩
theorem Own.drew {D : Nat → Prop} {w0 w : World} {l : List HProp} (H : Own D w0 w l) : Own D w0 w.drew l := ⟨H.os, H.tape, H.output, H.size, H.old, H.own⟩
theorem Own.drewN {D : Nat → Prop} {w0 w : World} {l : List HProp} (H : Own D w0 w l) (n : Nat) : Own D w0 (w.drewN n) l := ⟨H.os, H.tape, H.output, H.size, H.old, H.own⟩
theorem Own.ex {α : Type} {A : α → HProp} {D : Nat → Prop} {w0 w : World} {l : List HProp} (H : Own D w0 w ((fun h => ∃ x, A x h) :: l)) : ∃ x, Own D w0 w (A x :: l) := by
  obtain ⟨h, a, b⟩ := H.own
  obtain ⟨x, b⟩ := stars_ex.1 b
  exact ⟨x, H.os, H.tape, H.output, H.size, H.old, h, a, b⟩
theorem Own.pure {p : Prop} {D : Nat → Prop} {w0 w : World} {l : List HProp} (H : Own D w0 w (pureP p :: l)) : p ∧ Own D w0 w l := by
  obtain ⟨h, a, b⟩ := H.own
  exact ⟨(stars_pure.1 b).1, H.ent (Ent.drop (Ent.refl _))⟩

/-- A new block. -/
theorem Own.alloc {D : Nat → Prop} {w0 w : World} {l : List HProp} (H : Own D w0 w l) (t : TypeId) (cs : List Value) :
    Own D w0 (w.alloc (.cells cs.toArray t)) (blk w.heap.size t cs :: l) := by
  obtain ⟨h, a, b⟩ := H.own
  have hn : ∀ x o, h x = some o → x < w.heap.size := fun x o e => (Array.getElem?_eq_some_iff.1 (a x o e).1).1
  have hs : h w.heap.size = none := by
    cases e : h w.heap.size with
    | none => rfl
    | some o => exact absurd (hn _ _ e) (Nat.lt_irrefl _)
  refine ⟨H.os, H.tape, H.output, by have := H.size; simp; omega, fun x hx hd => ?_, fun x => if x = w.heap.size then some (.cells cs.toArray t (0, 0)) else h x, fun x o e => ?_, ?_⟩
  · rw [Go.RowKit.Below.heap_alloc _ _ _ (Nat.lt_of_lt_of_le hx H.size)]; exact H.old x hx hd
  · by_cases hx : x = w.heap.size
    · subst hx
      simp only [if_true, Option.some.injEq] at e
      subst e
      refine ⟨by show (w.heap.push _)[w.heap.size]? = _; simp, fun hlt => ?_⟩
      have := H.size
      omega
    · simp only [hx, if_false] at e
      rw [Go.RowKit.Below.heap_alloc _ _ _ (hn _ _ e)]
      exact a x o e
  · refine ⟨fun x => if x = w.heap.size then some (.cells cs.toArray t (0, 0)) else none, h, ⟨(0, 0), by simp, .inl rfl⟩, b, fun x => ?_, fun x o e => ?_, fun x o e => ?_⟩
    · by_cases hx : x = w.heap.size
      · subst hx; exact .inr hs
      · left; simp [hx]
    · by_cases hx : x = w.heap.size
      · simp only [hx, if_true] at e ⊢; exact e
      · simp [hx] at e
    · have : x ≠ w.heap.size := by rintro rfl; rw [hs] at e; cases e
      simp [this, e]

theorem Own.at_blk {D : Nat → Prop} {w0 w : World} {l : List HProp} {b : Nat} {t : TypeId} {cs : List Value} (H : Own D w0 w (blk b t cs :: l)) : ∃ fr : Nat × Nat, w.heap[b]? = some (.cells cs.toArray t fr) ∧ (fr = (0, 0) ∨ cs.length ≤ fr.1) := by
  obtain ⟨h, a, h1, h2, ⟨fr, p, q⟩, _, _, s1, _⟩ := H.own
  exact ⟨fr, (a b _ (s1 _ _ p)).1, q⟩
theorem Own.cell {D : Nat → Prop} {w0 w : World} {l : List HProp} {b : Nat} {t : TypeId} {cs : List Value} (H : Own D w0 w (blk b t cs :: l)) (off : Nat) : w.cell? ⟨b, off, none⟩ = cs[off]? := by
  obtain ⟨fr, h, _⟩ := H.at_blk
  simp [World.cell?, h]
theorem Own.frozen {D : Nat → Prop} {w0 w : World} {l : List HProp} {b : Nat} {t : TypeId} {cs : List Value} (H : Own D w0 w (blk b t cs :: l)) (off : Nat) (ho : off < cs.length) : w.frozen? ⟨b, off, none⟩ = false := by
  obtain ⟨fr, h, k⟩ := H.at_blk
  obtain ⟨lo, hi⟩ := fr
  simp only [World.frozen?, h]
  rcases k with k | k
  · simp only [Prod.mk.injEq] at k
    simp [k.1, k.2]
  · simp only at k
    have : ¬ (lo ≤ off) := by omega
    simp [this]
theorem Own.lt {D : Nat → Prop} {w0 w : World} {l : List HProp} {b : Nat} {t : TypeId} {cs : List Value} (H : Own D w0 w (blk b t cs :: l)) : b < w.heap.size := by
  obtain ⟨fr, h, _⟩ := H.at_blk
  exact (Array.getElem?_eq_some_iff.1 h).1
/-- A block is turned into another one of as many cells. -/
theorem Own.turn {D : Nat → Prop} {w0 w w' : World} {l : List HProp} {b : Nat} {t : TypeId} {cs cs' : List Value} (H : Own D w0 w (blk b t cs :: l)) (hos : w'.os = w.os) (htp : w'.tape = w.tape) (hou : w'.output = w.output) (hsz : w'.heap.size = w.heap.size)
    (hnb : ∀ x, x ≠ b → w'.heap[x]? = w.heap[x]?) (hb' : ∀ fr, w.heap[b]? = some (.cells cs.toArray t fr) → ((fr = (0, 0) ∨ cs.length ≤ fr.1)) → ∃ fr', w'.heap[b]? = some (.cells cs'.toArray t fr') ∧ (fr' = (0, 0) ∨ cs'.length ≤ fr'.1)) :
    Own D w0 w' (blk b t cs' :: l) := by
  obtain ⟨fr, hb, hfr⟩ := H.at_blk
  obtain ⟨fr', hb2, hfr'⟩ := hb' fr hb hfr
  obtain ⟨h, a, h1, h2, ⟨_, p, _⟩, q, d, s1, s2⟩ := H.own
  have hh2 : h2 b = none := by
    rcases d b with e | e
    · rw [p] at e; cases e
    · exact e
  refine ⟨hos.trans H.os, htp.trans H.tape, hou.trans H.output, by rw [hsz]; exact H.size, fun x hx hd => ?_, fun x => if x = b then some (.cells cs'.toArray t fr') else h x, fun x o e => ?_, ?_⟩
  · have : x ≠ b := by rintro rfl; exact hd ((a _ _ (s1 _ _ p)).2 hx)
    rw [hnb x this]; exact H.old x hx hd
  · by_cases hx : x = b
    · subst hx
      simp only [if_true, Option.some.injEq] at e
      subst e
      exact ⟨hb2, (a _ _ (s1 _ _ p)).2⟩
    · simp only [hx, if_false] at e
      rw [hnb x hx]
      exact a x o e
  · refine ⟨fun x => if x = b then some (.cells cs'.toArray t fr') else none, h2, ⟨fr', by simp, hfr'⟩, q, fun x => ?_, fun x o e => ?_, fun x o e => ?_⟩
    · by_cases hx : x = b
      · subst hx; exact .inr hh2
      · left; simp [hx]
    · by_cases hx : x = b
      · simp only [hx, if_true] at e ⊢; exact e
      · simp [hx] at e
    · have : x ≠ b := by rintro rfl; rw [hh2] at e; cases e
      simp [this, s2 _ _ e]
/-- A store. -/
theorem Own.setCell {D : Nat → Prop} {w0 w : World} {l : List HProp} {b : Nat} {t : TypeId} {cs : List Value} (H : Own D w0 w (blk b t cs :: l)) (off : Nat) (v : Value) :
    Own D w0 (w.setCell ⟨b, off, none⟩ v) (blk b t (cs.set off v) :: l) := by
  refine H.turn rfl rfl rfl (by simp) (fun x hx => Go.RowKit.Below.heap_setCell _ _ _ _ hx) fun fr hb hfr => ⟨fr, ?_, by simpa using hfr⟩
  simp only [World.setCell, Array.getElem?_modify, if_true, hb, Option.map_some]
  simp

/-! ### What can be read of old memory, and how a call sees it -/
/-- A holds of what was there and is not owned. -/
def Old (D : Nat → Prop) (w0 : World) (A : HProp) : Prop := ∃ h : Heap, (∀ b o, h b = some o → w0.heap[b]? = some o ∧ ¬ D b) ∧ A h
theorem Old.imp {D : Nat → Prop} {w0 : World} {A B : HProp} (h : Old D w0 A) (k : Imp A B) : Old D w0 B := by
  obtain ⟨x, a, b⟩ := h; exact ⟨x, a, k _ b⟩
/-- The call's view: its own part; all else is old to it. -/
theorem Own.split {D : Nat → Prop} {w0 w : World} {pre l : List HProp} (H : Own D w0 w (pre ++ l)) :
    ∃ D' : Nat → Prop, Own D' w w pre ∧ (∀ A, Old D w0 A → Old D' w A) ∧ (∀ B : HProp, (∀ h, stars l h → (∀ A, Old D w0 A → ∃ h1, A h1 ∧ Hsub h1 h) → B h) → Old D' w B) ∧ (∀ w' post, Own D' w w' post → Own D w0 w' (post ++ l)) := by
  obtain ⟨h, a, b⟩ := H.own
  obtain ⟨h1, h2, p, q, d, s1, s2⟩ := stars_append.1 b
  refine ⟨fun x => h1 x ≠ none, ⟨rfl, rfl, rfl, Nat.le_refl _, fun _ _ _ => rfl, h1, fun x o e => ⟨(a x o (s1 _ _ e)).1, fun _ => by rw [e]; exact fun h => by cases h⟩, p⟩, ?_, ?_, ?_⟩
  · rintro A ⟨x, c, e⟩
    refine ⟨x, fun y o k => ?_, e⟩
    obtain ⟨k1, k2⟩ := c y o k
    have hlt : y < w0.heap.size := (Array.getElem?_eq_some_iff.1 k1).1
    refine ⟨by rw [H.old y hlt k2]; exact k1, fun hne => ?_⟩
    cases e1 : h1 y with
    | none => exact hne e1
    | some o' => exact k2 ((a y o' (s1 _ _ e1)).2 hlt)
  · intro B hi
    have hsub : ∀ (x : Heap), (∀ y o, x y = some o → w.heap[y]? = some o ∧ ¬ h1 y ≠ none) → Hsub x (fun y => match h1 y with | some _ => none | none => w.heap[y]?) := fun x hx y o e => by
      obtain ⟨e1, e2⟩ := hx y o e
      have e3 : h1 y = none := by
        cases e4 : h1 y with
        | none => rfl
        | some o' => exact absurd (by rw [e4]; exact fun h => by cases h) e2
      simp only [e3]; exact e1
    refine ⟨fun y => match h1 y with | some _ => none | none => w.heap[y]?, fun y o k => ?_, hi _ (stars_mono (hsub h2 fun y o k => ⟨(a y o (s2 _ _ k)).1, fun hne => ?_⟩) q) ?_⟩
    · simp only at k
      split at k
      · cases k
      · rename_i e4
        exact ⟨k, fun hne => hne e4⟩
    · rcases d y with e | e
      · exact hne e
      · rw [k] at e; cases e
    · rintro A ⟨x, c, e⟩
      refine ⟨x, e, hsub x fun y o k => ?_⟩
      obtain ⟨k1, k2⟩ := c y o k
      have hlt : y < w0.heap.size := (Array.getElem?_eq_some_iff.1 k1).1
      refine ⟨by rw [H.old y hlt k2]; exact k1, fun hne => ?_⟩
      cases e1 : h1 y with
      | none => exact hne e1
      | some o' => exact k2 ((a y o' (s1 _ _ e1)).2 hlt)
  · intro w' post K
    obtain ⟨h', a', b'⟩ := K.own
    have hd : Hdisj h' h2 := fun x => by
      cases e : h2 x with
      | none => exact .inr rfl
      | some o =>
        left
        cases e' : h' x with
        | none => rfl
        | some o' =>
          have hx : x < w.heap.size := (Array.getElem?_eq_some_iff.1 (a x o (s2 _ _ e)).1).1
          have := (a' x o' e').2 hx
          rcases d x with k | k
          · exact absurd k this
          · rw [k] at e; cases e
    refine ⟨K.os.trans H.os, K.tape.trans H.tape, K.output.trans H.output, Nat.le_trans H.size K.size, fun x hx hn => ?_, Hunion h' h2, fun x o e => ?_, stars_append.2 ⟨h', h2, b', q, hd, Hsub.union_left _ _, Hsub.union_right hd⟩⟩
    · rw [K.old x (Nat.lt_of_lt_of_le hx H.size) (fun hne => ?_)]
      · exact H.old x hx hn
      · cases e : h1 x with
        | none => exact hne e
        | some o => exact hn ((a x o (s1 _ _ e)).2 hx)
    · unfold Hunion at e
      split at e
      · rename_i o' ho
        cases e
        refine ⟨(a' x o ho).1, fun hx => ?_⟩
        have hne := (a' x o ho).2 (Nat.lt_of_lt_of_le hx H.size)
        cases e1 : h1 x with
        | none => exact absurd e1 hne
        | some o1 => exact (a x o1 (s1 _ _ e1)).2 hx
      · rename_i ho
        have h2w := (a x o (s2 _ _ e))
        refine ⟨?_, h2w.2⟩
        rw [K.old x (Array.getElem?_eq_some_iff.1 h2w.1).1 (fun hne => ?_)]
        · exact h2w.1
        · rcases d x with k | k
          · exact hne k
          · rw [k] at e; cases e
end Slk
