import Derived.Test.YtpgpfcplchaleaaSlkK
import Derived.Laws.Strings
set_option linter.unusedVariables false
set_option linter.unusedSimpArgs false
namespace Slk
open Go
section
variable {P : Program} {D : Nat → Prop} {w0 : World} {env : Slots} {l : List HProp} {dst : Option Tmp} {ty : TypeId} {pos : String} {after : Array Edge} {g : Option (Nat × Bool)} {x y : Operand} {t t' : TypeId}
/-! ### Texts made of bytes, compared -/
theorem strv_toList (xs : List UInt8) : (⟨xs.toArray⟩ : ByteArray).toList = xs := by rw [Go.ByteArray.toList_eq]
theorem ov_eqlV {xs ys : List UInt8} (hx : evalO env x = some (strv xs)) (hy : evalO env y = some (strv ys)) : OpVal P D w0 env l ⟨dst, .binOp .eql t x y t', ty, pos, after, g⟩ (.bool (decide (xs = ys))) := by
  have := ov_eqlS (P := P) (D := D) (w0 := w0) (l := l) (dst := dst) (ty := ty) (pos := pos) (after := after) (g := g) (t := t) (t' := t') hx hy
  simpa only [strv_toList] using this
theorem ov_neqV {xs ys : List UInt8} (hx : evalO env x = some (strv xs)) (hy : evalO env y = some (strv ys)) : OpVal P D w0 env l ⟨dst, .binOp .neq t x y t', ty, pos, after, g⟩ (.bool (decide (¬ xs = ys))) := by
  have := ov_neqS (P := P) (D := D) (w0 := w0) (l := l) (dst := dst) (ty := ty) (pos := pos) (after := after) (g := g) (t := t) (t' := t') hx hy
  simpa only [strv_toList] using this
end
/-! ### What a list's cells read as, partly of old memory -/
def OldSub (D : Nat → Prop) (w0 : World) (x : Heap) : Prop := ∀ A, Old D w0 A → ∃ h1, A h1 ∧ Hsub h1 x
section
variable {α : Type} [Rep α] {D : Nat → Prop} {w0 : World} {l r : List HProp}
def rp (D : Nat → Prop) (w0 : World) (xs : List α) (cs : List Value) : HProp := fun h => ∀ x, Hsub h x → OldSub D w0 x → repL xs cs x
/-- A slice of one's own and what its elements read as. -/
def vec (D : Nat → Prop) (w0 : World) (A : Option Addr) (t : TypeId) (sz n cap : Nat) (xs : List α) : HProp := fun h => ∃ cs, stars [row A t sz n cap cs, rp D w0 xs cs] h
theorem stars_rp {xs : List α} {cs : List Value} [h : Pick l (rp D w0 xs cs) r] {x : Heap} (hs : stars l x) (ho : OldSub D w0 x) : repL xs cs x := by
  obtain ⟨h1, a, b⟩ := stars_pick (h := h) hs
  exact a x b ho
theorem rp_nil : Ent l (rp D w0 ([] : List α) [] :: l) := fun h hs => ⟨fun _ => none, h, fun x _ _ => rfl, hs, fun _ => .inl rfl, (fun b o e => by cases e), Hsub.refl h⟩
theorem rp_old {xs : List α} {cs : List Value} (k : Old D w0 (repL xs cs)) : Ent l (rp D w0 xs cs :: l) := fun h hs => ⟨fun _ => none, h, fun x _ ho => by
  obtain ⟨h1, a, b⟩ := ho _ k
  exact repL_mono b a, hs, fun _ => .inl rfl, (fun b o e => by cases e), Hsub.refl h⟩
theorem Hsub_union_l (h1 h2 : Heap) : Hsub h1 (Hunion h1 h2) := fun b o e => by simp [Hunion, e]
theorem rp_append {xs ys : List α} {cs ds : List Value} : Ent (rp D w0 xs cs :: rp D w0 ys ds :: l) (rp D w0 (xs ++ ys) (cs ++ ds) :: l) := by
  rintro h ⟨h1, h2, a, ⟨h3, h4, b, c, d1, d2, d3⟩, e1, e2, e3⟩
  have hd : Hdisj h1 h3 := fun x => (e1 x).imp id fun k => by
    cases e : h3 x with
    | none => rfl
    | some o => rw [d2 x o e] at k; cases k
  have hs3 : Hsub h3 (Hunion h1 h3) := fun x o e => by
    rcases hd x with k | k
    · simp [Hunion, k, e]
    · rw [k] at e; cases e
  refine ⟨Hunion h1 h3, h4, fun x hx ho => repL_append (a x ((Hsub_union_l h1 h3).trans hx) ho) (b x (hs3.trans hx) ho), c, fun x => ?_, fun x o e => ?_, d3.trans e3⟩
  · cases e : h4 x with
    | none => exact .inr rfl
    | some o =>
      left
      have k1 : h1 x = none := by
        rcases e1 x with k | k
        · exact k
        · rw [d3 x o e] at k; cases k
      have k3 : h3 x = none := by
        rcases d1 x with k | k
        · exact k
        · rw [e] at k; cases k
      simp [Hunion, k1, k3]
  · unfold Hunion at e
    cases k : h1 x with
    | some q => rw [k] at e; exact e2 x o (by rw [k]; exact e)
    | none => rw [k] at e; exact e3 x o (d2 x o e)
/-- Bytes of one's own are an element. -/
theorem rp_bytes {A : Option Addr} {t : TypeId} {cap : Nat} {xs : List UInt8} {n : Nat} (hn : n = xs.length) : Ent (row A t 1 n cap (xs.map u8v) :: l) (rp D w0 [xs] [.slice A n cap] :: l) := by
  subst hn
  refine Ent.head fun h hr x hx ho => ⟨[_], [], rfl, ⟨A, cap, rfl, hr.2.1, hr.2.2.1, xs.map u8v, repL_bytes.2 rfl, rdA_mono hx (row_rd _ hr)⟩, rfl⟩
theorem vec_mk {A : Option Addr} {t : TypeId} {sz n cap : Nat} {xs : List α} {cs : List Value} : Ent (row A t sz n cap cs :: rp D w0 xs cs :: l) (vec D w0 A t sz n cap xs :: l) := by
  rintro h ⟨h1, h2, a, ⟨h3, h4, b, c, d1, d2, d3⟩, e1, e2, e3⟩
  have hd : Hdisj h1 h3 := fun x => (e1 x).imp id fun k => by
    cases e : h3 x with
    | none => rfl
    | some o => rw [d2 x o e] at k; cases k
  have hs3 : Hsub h3 (Hunion h1 h3) := fun x o e => by
    rcases hd x with k | k
    · simp [Hunion, k, e]
    · rw [k] at e; cases e
  refine ⟨Hunion h1 h3, h4, ⟨cs, h1, h3, a, ⟨h3, fun _ => none, b, trivial, fun _ => .inr rfl, Hsub.refl _, fun x o e => by cases e⟩, hd, Hsub_union_l _ _, hs3⟩, c, fun x => ?_, fun x o e => ?_, d3.trans e3⟩
  · cases e : h4 x with
    | none => exact .inr rfl
    | some o =>
      left
      have k1 : h1 x = none := by
        rcases e1 x with k | k
        · exact k
        · rw [d3 x o e] at k; cases k
      have k3 : h3 x = none := by
        rcases d1 x with k | k
        · exact k
        · rw [e] at k; cases k
      simp [Hunion, k1, k3]
  · unfold Hunion at e
    cases k : h1 x with
    | some q => rw [k] at e; exact e2 x o (by rw [k]; exact e)
    | none => rw [k] at e; exact e3 x o (d2 x o e)
theorem rep_vec {A : Option Addr} {t : TypeId} {sz n cap : Nat} {xs : List α} {cs : List Value} {r2 : List HProp} [h : PickR l A t sz n cap cs r] {x : Heap} (hs : stars l x) (hr : repL xs cs x) (hn : n = xs.length) : Rep.rep xs [.slice A n cap] x := rep_row hs xs hn hr
end
/-- The assertion of a slice with elements is opened. -/
theorem vec_open {α : Type} [Rep α] {D : Nat → Prop} {w0 w : World} {l : List HProp} {A : Option Addr} {t : TypeId} {sz n cap : Nat} {xs : List α} (H : Own D w0 w (vec D w0 A t sz n cap xs :: l)) : ∃ cs, Own D w0 w (row A t sz n cap cs :: rp D w0 xs cs :: l) := by
  obtain ⟨h, hh, h1, h2, ⟨cs, h3, h4, a, ⟨h5, h6, b, _, _, c2, _⟩, d1, d2, d3⟩, e0, e1, e2, e3⟩ := H.own
  refine ⟨cs, H.os, H.tape, H.output, H.size, H.old, h, hh, h3, Hunion h5 h2, a, ⟨h5, h2, b, e0, ?_, Hsub_union_l _ _, ?_⟩, ?_, d2.trans e2, ?_⟩
  · intro x
    rcases e1 x with k | k
    · left
      cases e : h5 x with
      | none => rfl
      | some o => rw [d3 x o (c2 x o e)] at k; cases k
    · exact .inr k
  · intro x o e
    have : h5 x = none := by
      cases k : h5 x with
      | none => rfl
      | some q =>
        rcases e1 x with m | m
        · rw [d3 x q (c2 x q k)] at m; cases m
        · rw [e] at m; cases m
    simp [Hunion, this, e]
  · intro x
    cases k : h3 x with
    | none => exact .inl rfl
    | some o =>
      right
      have k5 : h5 x = none := by
        rcases d1 x with m | m
        · rw [k] at m; cases m
        · cases k5 : h5 x with
          | none => rfl
          | some q => rw [c2 x q k5] at m; cases m
      have k2 : h2 x = none := by
        rcases e1 x with m | m
        · rw [d2 x o k] at m; cases m
        · exact m
      simp [Hunion, k5, k2]
  · intro x o e
    unfold Hunion at e
    cases k : h5 x with
    | some q => rw [k] at e; exact e2 x o (d3 x o (c2 x o (by rw [k]; exact e)))
    | none => rw [k] at e; exact e3 x o e
section
variable {P : Program} {Q : Post} {D : Nat → Prop} {w0 : World} {n : Nat} {env : Slots} {l : List HProp} {ops : Array Oper} {α : Type} [Rep α] {A : Option Addr} {t : TypeId} {sz m cap : Nat} {xs : List α}
theorem HC.vec {c : Code} (k : ∀ cs, HC P Q D w0 n env (row A t sz m cap cs :: rp D w0 xs cs :: l) c) : HC P Q D w0 n env (vec D w0 A t sz m cap xs :: l) c := .mk fun a w S => by
  obtain ⟨cs, H⟩ := vec_open S.own
  exact (k cs).run a w ⟨S.env, H⟩
theorem HL.vec {r : List Oper} (k : ∀ cs, HL P ops Q D w0 n env (row A t sz m cap cs :: rp D w0 xs cs :: l) r) : HL P ops Q D w0 n env (vec D w0 A t sz m cap xs :: l) r := .mk fun a w S => by
  obtain ⟨cs, H⟩ := vec_open S.own
  exact (k cs).run a w ⟨S.env, H⟩
end
theorem repL_get {α : Type} [Rep α] {xs : List α} {cs : List Value} {h : Heap} (k : repL xs cs h) (hz : Rep.sz α = 1) (i : Nat) (hi : i < xs.length) (hi' : i < cs.length) : Rep.rep xs[i] [cs[i]] h := by
  have := repL_at i _ k (List.getElem?_eq_getElem hi)
  rw [hz, Nat.mul_one, List.drop_eq_getElem_cons hi'] at this
  exact this
theorem ent_snoc_row {D : Nat → Prop} {w0 : World} {C : Option Addr} {t : TypeId} {capC : Nat} {xs : List UInt8} {xss : List (List UInt8)} {cs : List Value} {R X : HProp} :
    Ent [R, X, row C t 1 xs.length capC (xs.map u8v), rp D w0 xss cs] [R, rp D w0 (xss ++ [xs]) (cs ++ [.slice C xs.length capC])] :=
  (Ent.cons (Ent.drop (Ent.refl _))).trans (Ent.cons ((Ent.perm (List.Perm.swap _ _ _)).trans ((Ent.cons (rp_bytes rfl)).trans rp_append)))
/-- A slice of old memory whose elements have one cell each: its cells and its elements. -/
theorem Old.openES {α : Type} [Rep α] {D : Nat → Prop} {w0 : World} {xs : List α} {v : Value} (hz : Rep.sz α = 1) (k : Old D w0 (Rep.rep xs [v])) :
    ∃ A cap hs, v = .slice A xs.length cap ∧ xs.length ≤ cap ∧ cap ≤ 9223372036854775807 ∧ OldS D w0 A hs ∧ hs.length = xs.length ∧ (∀ v ∈ hs, v.oneCell' = true) ∧ Old D w0 (repL xs hs) ∧ ∀ i (hi : i < xs.length), isA A ∧ ∃ u, Old D w0 (Rep.rep xs[i] [u]) ∧ ∀ l, CellIs D w0 l (ab A) (ao A + i * 1) u := by
  obtain ⟨h, hh, A, cap, e, h1, h2, ecs, k1, k2⟩ := k
  have HS : OldS D w0 A ecs := OldS.of_old ⟨h, hh, k2⟩
  have hl := repL_len k1
  rw [hz, Nat.mul_one] at hl
  refine ⟨A, cap, ecs, by simpa using e, h1, h2, HS, hl, repL_one k1, ⟨h, hh, k1⟩, fun i hi => ⟨HS.isA (by rintro rfl; simp at hl; omega), ecs[i], ⟨h, hh, repL_get k1 hz i hi (by omega)⟩, fun l => ?_⟩⟩
  rw [Nat.mul_one]
  exact (SrcIs.old HS).cell (List.getElem?_eq_getElem (by omega))
theorem repL_of_old {α : Type} [Rep α] {D : Nat → Prop} {w0 : World} {h : Heap} (ho : ∀ A, Old D w0 A → ∃ h1, A h1 ∧ Hsub h1 h) {xs : List α} {cs : List Value} (k : Old D w0 (repL xs cs)) : repL xs cs h := by
  obtain ⟨h1, a, b⟩ := ho _ k
  exact repL_mono b a
end Slk
