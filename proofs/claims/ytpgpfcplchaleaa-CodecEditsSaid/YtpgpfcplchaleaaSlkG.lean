import Derived.Test.YtpgpfcplchaleaaSlkF
import Derived.Deep.Slices
import Derived.OpenShut
import Derived.ProofKit
set_option linter.unusedVariables false
set_option linter.unusedSimpArgs false
namespace Slk
open Go

/-! ### How Lean's values lie in memory -/
class Rep (α : Type) where
  sz : Nat
  rep : α → List Value → HProp
  len : ∀ {x cs h}, rep x cs h → cs.length = sz
  mono : ∀ {x cs} {h h' : Heap}, Hsub h h' → rep x cs h → rep x cs h'
  one : ∀ {x cs h}, rep x cs h → ∀ v ∈ cs, v.oneCell' = true
def repL {α : Type} [Rep α] : List α → List Value → HProp
  | [], cs, _ => cs = []
  | x :: r, cs, h => ∃ c1 c2, cs = c1 ++ c2 ∧ Rep.rep x c1 h ∧ repL r c2 h
section
variable {α : Type} [Rep α]
theorem repL_len : ∀ {xs : List α} {cs : List Value} {h : Heap}, repL xs cs h → cs.length = xs.length * Rep.sz α
  | [], cs, h, k => by cases k; simp
  | x :: r, cs, h, ⟨c1, c2, e, a, b⟩ => by subst e; rw [List.length_append, Rep.len a, repL_len b, List.length_cons, Nat.add_mul]; omega
theorem repL_mono : ∀ {xs : List α} {cs : List Value} {h h' : Heap}, Hsub h h' → repL xs cs h → repL xs cs h'
  | [], _, _, _, _, k => k
  | x :: r, _, _, _, s, ⟨c1, c2, e, a, b⟩ => ⟨c1, c2, e, Rep.mono s a, repL_mono s b⟩
theorem repL_one : ∀ {xs : List α} {cs : List Value} {h : Heap}, repL xs cs h → ∀ v ∈ cs, v.oneCell' = true
  | [], cs, h, k => by cases k; simp
  | x :: r, cs, h, ⟨c1, c2, e, a, b⟩ => by
    subst e
    intro v hv
    rcases List.mem_append.1 hv with h1 | h1
    · exact Rep.one a v h1
    · exact repL_one b v h1
theorem repL_at : ∀ {xs : List α} {cs : List Value} {h : Heap} (i : Nat) (x : α), repL xs cs h → xs[i]? = some x → Rep.rep x ((cs.drop (i * Rep.sz α)).take (Rep.sz α)) h
  | [], _, _, i, x, _, e => by simp at e
  | y :: r, cs, h, 0, x, ⟨c1, c2, e, a, b⟩, hx => by
    simp at hx; subst hx; subst e
    rw [Nat.zero_mul, List.drop_zero, ← Rep.len a, List.take_left]; exact a
  | y :: r, cs, h, i + 1, x, ⟨c1, c2, e, a, b⟩, hx => by
    subst e
    have := repL_at i x b (by simpa using hx)
    rw [Nat.add_mul, Nat.one_mul, Nat.add_comm, ← List.drop_drop]
    rw [show (c1 ++ c2).drop (Rep.sz α) = c2 by rw [← Rep.len a, List.drop_left]]
    exact this
theorem repL_append : ∀ {xs ys : List α} {cs ds : List Value} {h : Heap}, repL xs cs h → repL ys ds h → repL (xs ++ ys) (cs ++ ds) h
  | [], _, _, _, _, k, k' => by cases k; simpa using k'
  | x :: r, _, _, _, _, ⟨c1, c2, e, a, b⟩, k' => by subst e; exact ⟨c1, c2 ++ _, by rw [List.append_assoc], a, repL_append b k'⟩
theorem repL_one1 {x : α} {cs : List Value} {h : Heap} (k : Rep.rep x cs h) : repL [x] cs h := ⟨cs, [], by simp, k, rfl⟩
theorem repL_of_at : ∀ {xs : List α} {cs : List Value} {h : Heap}, cs.length = xs.length * Rep.sz α → (∀ i x, xs[i]? = some x → Rep.rep x ((cs.drop (i * Rep.sz α)).take (Rep.sz α)) h) → repL xs cs h
  | [], cs, h, hl, _ => List.eq_nil_of_length_eq_zero (by simpa using hl)
  | x :: r, cs, h, hl, k => by
    refine ⟨cs.take (Rep.sz α), cs.drop (Rep.sz α), (List.take_append_drop _ _).symm, by simpa using k 0 x rfl, repL_of_at ?_ fun i y hy => ?_⟩
    · rw [List.length_drop, hl, List.length_cons, Nat.add_mul]; omega
    · have := k (i + 1) y (by simpa using hy)
      rw [Nat.add_mul, Nat.one_mul, Nat.add_comm, ← List.drop_drop] at this
      exact this
theorem repL_take {xs : List α} {cs : List Value} {h : Heap} (k : repL xs cs h) (n : Nat) : repL (xs.take n) (cs.take (n * Rep.sz α)) h := by
  induction xs generalizing cs n with
  | nil => cases k; simp [repL]
  | cons x r ih =>
    obtain ⟨c1, c2, e, a, b⟩ := k
    subst e
    cases n with
    | zero => simp [repL]
    | succ n =>
      rw [List.take_succ_cons]
      refine ⟨c1, c2.take (n * Rep.sz α), ?_, a, ih b n⟩
      rw [Nat.add_mul, Nat.one_mul, List.take_append, Rep.len a]
      have h1 : c1.take (n * Rep.sz α + Rep.sz α) = c1 := List.take_of_length_le (by rw [Rep.len a]; omega)
      rw [h1]
      congr 2
      omega
theorem repL_drop {xs : List α} {cs : List Value} {h : Heap} (k : repL xs cs h) (n : Nat) : repL (xs.drop n) (cs.drop (n * Rep.sz α)) h := by
  induction xs generalizing cs n with
  | nil => cases k; simp [repL]
  | cons x r ih =>
    obtain ⟨c1, c2, e, a, b⟩ := k
    cases n with
    | zero => simpa using (show repL (x :: r) cs h from ⟨c1, c2, e, a, b⟩)
    | succ n =>
      subst e
      rw [List.drop_succ_cons, Nat.add_mul, Nat.one_mul, Nat.add_comm, ← List.drop_drop]
      rw [show (c1 ++ c2).drop (Rep.sz α) = c2 by rw [← Rep.len a, List.drop_left]]
      exact ih b n
end
instance : Rep UInt8 where
  sz := 1
  rep x cs := pureP (cs = [u8v x])
  len := by intro x cs h k; cases k; rfl
  mono := fun _ k => k
  one := by intro x cs h k v hv; cases k; simp at hv; subst hv; rfl
instance : Rep Bool where
  sz := 1
  rep x cs := pureP (cs = [.bool x])
  len := by intro x cs h k; cases k; rfl
  mono := fun _ k => k
  one := by intro x cs h k v hv; cases k; simp at hv; subst hv; rfl
def inI64 (x : Int) : Prop := -9223372036854775808 ≤ x ∧ x ≤ 9223372036854775807
instance : Rep Int where
  sz := 1
  rep x cs := pureP (cs = [.int .i64 x] ∧ inI64 x)
  len := by intro x cs h k; obtain ⟨rfl, _⟩ := k; rfl
  mono := fun _ k => k
  one := by intro x cs h k v hv; obtain ⟨rfl, _⟩ := k; simp at hv; subst hv; rfl
instance : Rep UInt32 where
  sz := 1
  rep x cs := pureP (cs = [.int .u32 (x.toNat : Int)])
  len := by intro x cs h k; cases k; rfl
  mono := fun _ k => k
  one := by intro x cs h k v hv; cases k; simp at hv; subst hv; rfl
instance : Rep UInt16 where
  sz := 1
  rep x cs := pureP (cs = [.int .u16 (x.toNat : Int)])
  len := by intro x cs h k; cases k; rfl
  mono := fun _ k => k
  one := by intro x cs h k v hv; cases k; simp at hv; subst hv; rfl
instance : Rep UInt64 where
  sz := 1
  rep x cs := pureP (cs = [.int .u64 (x.toNat : Int)])
  len := by intro x cs h k; cases k; rfl
  mono := fun _ k => k
  one := by intro x cs h k v hv; cases k; simp at hv; subst hv; rfl
theorem rdA_mono {A : Option Addr} {cs : List Value} {h h' : Heap} (s : Hsub h h') (k : rdA A cs h) : rdA A cs h' := by
  rcases k with k | ⟨b, off, t, cs0, fr, e, h1, h2⟩
  · exact .inl k
  · exact .inr ⟨b, off, t, cs0, fr, e, s _ _ h1, h2⟩
instance Rep.list {α : Type} [Rep α] : Rep (List α) where
  sz := 1
  rep xs cs := fun h => ∃ A cap, cs = [.slice A xs.length cap] ∧ xs.length ≤ cap ∧ cap ≤ 9223372036854775807 ∧ ∃ ecs, repL xs ecs h ∧ rdA A ecs h
  len := by rintro xs cs h ⟨A, cap, rfl, _⟩; rfl
  mono := by rintro xs cs h h' s ⟨A, cap, e, h1, h2, ecs, k1, k2⟩; exact ⟨A, cap, e, h1, h2, ecs, repL_mono s k1, rdA_mono s k2⟩
  one := by rintro xs cs h ⟨A, cap, rfl, _⟩ v hv; simp at hv; subst hv; rfl
/-- Two, one behind the other (a struct's fields). -/
instance Rep.prod {α β : Type} [Rep α] [Rep β] : Rep (α × β) where
  sz := Rep.sz α + Rep.sz β
  rep x cs := fun h => ∃ c1 c2, cs = c1 ++ c2 ∧ Rep.rep x.1 c1 h ∧ Rep.rep x.2 c2 h
  len := by rintro x cs h ⟨c1, c2, rfl, a, b⟩; rw [List.length_append, Rep.len a, Rep.len b]
  mono := by rintro x cs h h' s ⟨c1, c2, e, a, b⟩; exact ⟨c1, c2, e, Rep.mono s a, Rep.mono s b⟩
  one := by
    rintro x cs h ⟨c1, c2, rfl, a, b⟩ v hv
    rcases List.mem_append.1 hv with h1 | h1
    · exact Rep.one a v h1
    · exact Rep.one b v h1

theorem repL_bytes : ∀ {xs : List UInt8} {cs : List Value} {h : Heap}, repL xs cs h ↔ cs = xs.map u8v
  | [], cs, h => Iff.rfl
  | x :: r, cs, h => by
    constructor
    · rintro ⟨c1, c2, rfl, a, b⟩
      have a' : c1 = [u8v x] := a
      subst a'
      rw [repL_bytes.1 b]; rfl
    · rintro rfl
      exact ⟨[u8v x], r.map u8v, rfl, rfl, repL_bytes.2 rfl⟩

/-- A slice of old memory is opened. -/
theorem Old.open {α : Type} [Rep α] {D : Nat → Prop} {w0 : World} {xs : List α} {v : Value} (k : Old D w0 (Rep.rep xs [v])) :
    ∃ A cap ecs, v = .slice A xs.length cap ∧ xs.length ≤ cap ∧ cap ≤ 9223372036854775807 ∧ OldS D w0 A ecs ∧ ecs.length = xs.length * Rep.sz α ∧ (∀ v ∈ ecs, v.oneCell' = true) ∧ ∀ i x, xs[i]? = some x → Old D w0 (Rep.rep x ((ecs.drop (i * Rep.sz α)).take (Rep.sz α))) := by
  obtain ⟨h, hh, A, cap, e, h1, h2, ecs, k1, k2⟩ := k
  refine ⟨A, cap, ecs, by simpa using e, h1, h2, OldS.of_old ⟨h, hh, k2⟩, repL_len k1, repL_one k1, fun i x hx => ⟨h, hh, repL_at i x k1 hx⟩⟩
theorem Old.openB {D : Nat → Prop} {w0 : World} {xs : List UInt8} {v : Value} (k : Old D w0 (Rep.rep xs [v])) :
    ∃ A cap, v = .slice A xs.length cap ∧ xs.length ≤ cap ∧ cap ≤ 9223372036854775807 ∧ OldS D w0 A (xs.map u8v) := by
  obtain ⟨h, hh, A, cap, e, h1, h2, ecs, k1, k2⟩ := k
  have := repL_bytes.1 k1
  subst this
  exact ⟨A, cap, by simpa using e, h1, h2, OldS.of_old ⟨h, hh, k2⟩⟩
theorem Old.pure {D : Nat → Prop} {w0 : World} {p : Prop} (k : Old D w0 (pureP p)) : p := by obtain ⟨_, _, h⟩ := k; exact h

/-! ### A reading of an argument gives a value -/
class ReadsAs (P : Program) (t : TypeId) (α : Type) [Rep α] : Prop where
  of : ∀ {H : Type} (enc : TypeId × Value → H) (w : World) (sp : Nat → Bool) (held : Bool) (fuel : Nat) (cs : List Value) (x : DataW H × List MemPlace), DataW.trod enc P w 0 sp held fuel t cs = some x → ∃ y : α, Rep.rep y cs (fun b => w.heap[b]?)
  size : P.cellsOf t = Rep.sz α
theorem cellsOf_of {P : Program} {t : TypeId} {s b : Nat} {z : List Value} [h : TyI P t s b z] : P.cellsOf t = s := by
  obtain ⟨i, hi, h1, _⟩ := run_info (P := P) (t := t)
  simp [Program.cellsOf, hi, h1]
section
variable {P : Program} {t : TypeId}
instance ReadsAs.u8 [h : TyInt P t .u8] {b : Nat} {z : List Value} [TyI P t 1 b z] : ReadsAs P t UInt8 where
  of := by
    intro H enc w sp held fuel cs x k
    obtain ⟨n, rfl, _, hw⟩ := DataW.trod_int h.out k
    have hb : 0 ≤ n ∧ n ≤ 255 := by simpa [Lit.wf, IntKind.min, IntKind.max, IntKind.signed, IntKind.bits] using hw
    refine ⟨UInt8.ofNat n.toNat, ?_⟩
    show [Value.int .u8 n] = [u8v _]
    simp only [u8v, UInt8.toNat_ofNat', List.cons.injEq, Value.int.injEq, and_true, true_and]
    omega
  size := cellsOf_of
instance ReadsAs.u16 [h : TyInt P t .u16] {b : Nat} {z : List Value} [TyI P t 1 b z] : ReadsAs P t UInt16 where
  of := by
    intro H enc w sp held fuel cs x k
    obtain ⟨n, rfl, _, hw⟩ := DataW.trod_int h.out k
    have hb : 0 ≤ n ∧ n ≤ 65535 := by simpa [Lit.wf, IntKind.min, IntKind.max, IntKind.signed, IntKind.bits] using hw
    refine ⟨UInt16.ofNat n.toNat, ?_⟩
    show [Value.int .u16 n] = [Value.int .u16 _]
    simp only [UInt16.toNat_ofNat', List.cons.injEq, Value.int.injEq, and_true, true_and]
    omega
  size := cellsOf_of
instance ReadsAs.u32 [h : TyInt P t .u32] {b : Nat} {z : List Value} [TyI P t 1 b z] : ReadsAs P t UInt32 where
  of := by
    intro H enc w sp held fuel cs x k
    obtain ⟨n, rfl, _, hw⟩ := DataW.trod_int h.out k
    have hb : 0 ≤ n ∧ n ≤ 4294967295 := by simpa [Lit.wf, IntKind.min, IntKind.max, IntKind.signed, IntKind.bits] using hw
    refine ⟨UInt32.ofNat n.toNat, ?_⟩
    show [Value.int .u32 n] = [Value.int .u32 _]
    simp only [UInt32.toNat_ofNat', List.cons.injEq, Value.int.injEq, and_true, true_and]
    omega
  size := cellsOf_of
instance ReadsAs.u64 [h : TyInt P t .u64] {b : Nat} {z : List Value} [TyI P t 1 b z] : ReadsAs P t UInt64 where
  of := by
    intro H enc w sp held fuel cs x k
    obtain ⟨n, rfl, _, hw⟩ := DataW.trod_int h.out k
    have hb : 0 ≤ n ∧ n ≤ 18446744073709551615 := by simpa [Lit.wf, IntKind.min, IntKind.max, IntKind.signed, IntKind.bits] using hw
    refine ⟨UInt64.ofNat n.toNat, ?_⟩
    show [Value.int .u64 n] = [Value.int .u64 _]
    simp only [UInt64.toNat_ofNat', List.cons.injEq, Value.int.injEq, and_true, true_and]
    omega
  size := cellsOf_of
instance ReadsAs.i64 [h : TyInt P t .i64] {b : Nat} {z : List Value} [TyI P t 1 b z] : ReadsAs P t Int where
  of := by
    intro H enc w sp held fuel cs x k
    obtain ⟨n, rfl, _, hw⟩ := DataW.trod_int h.out k
    exact ⟨n, rfl, by unfold inI64; simpa [Lit.wf, IntKind.min, IntKind.max, IntKind.signed, IntKind.bits] using hw⟩
  size := cellsOf_of
instance ReadsAs.bool [h : TyBool P t] {b : Nat} {z : List Value} [TyI P t 1 b z] : ReadsAs P t Bool where
  of := by
    intro H enc w sp held fuel cs x k
    obtain ⟨n, rfl, _⟩ := DataW.trod_bool h.out k
    exact ⟨n, rfl⟩
  size := cellsOf_of
theorem list_of_at {α : Type} {p : Nat → α → Prop} : ∀ (n : Nat), (∀ i, i < n → ∃ x, p i x) → ∃ xs : List α, xs.length = n ∧ ∀ i x, xs[i]? = some x → p i x
  | 0, _ => ⟨[], rfl, fun i x h => by simp at h⟩
  | n + 1, h => by
    obtain ⟨xs, hl, hx⟩ := list_of_at n fun i hi => h i (by omega)
    obtain ⟨y, hy⟩ := h n (by omega)
    refine ⟨xs ++ [y], by simp [hl], fun i x hi => ?_⟩
    rcases Nat.lt_or_ge i xs.length with h1 | h1
    · rw [List.getElem?_append_left h1] at hi; exact hx i x hi
    · rw [List.getElem?_append_right h1] at hi
      have : i - xs.length = 0 := by
        rcases Nat.eq_zero_or_pos (i - xs.length) with h2 | h2
        · exact h2
        · rw [List.getElem?_eq_none (by simp; omega)] at hi; cases hi
      rw [this] at hi
      simp at hi
      subst hi
      have : i = n := by omega
      subst this; exact hy
instance ReadsAs.list {e : TypeId} {α : Type} [Rep α] [h : TySlice P t e] [he : ReadsAs P e α] {b : Nat} {z : List Value} [TyI P t 1 b z] : ReadsAs P t (List α) where
  of := by
    intro H enc w sp held fuel cs x k
    rcases Go.Deep.open_slice h.out k with ⟨rfl, _⟩ | ⟨a, len, cap, m, n, Dd, Pl, rfl, hb, hl, hm, hmm, _, hel⟩
    · exact ⟨[], none, 0, rfl, Nat.le_refl _, Nat.zero_le _, [], rfl, .inl rfl⟩
    · have hlm : len ≤ m := by rw [hmm]; split <;> omega
      have hcap : cap ≤ 9223372036854775807 := by unfold maxLen at hm; omega
      have hz := he.size
      rw [hz] at hel
      obtain ⟨xs, hxl, hxs⟩ := list_of_at (α := α × List Value) (p := fun i q => w.cells? 0 (a.add (i * Rep.sz α)) (Rep.sz α) = some q.2 ∧ Rep.rep q.1 q.2 (fun b => w.heap[b]?)) len (fun i hi => by
        obtain ⟨cs', hc, ht⟩ := hel i (by omega)
        obtain ⟨y, hy⟩ := he.of enc w sp held _ _ _ ht
        exact ⟨(y, cs'), hc, hy⟩)
      have hrep : ∀ (l : List (α × List Value)), (∀ q ∈ l, Rep.rep q.1 q.2 (fun b => w.heap[b]?)) → repL (l.map (·.1)) ((l.map (·.2)).flatten) (fun b => w.heap[b]?) := by
        intro l
        induction l with
        | nil => intro _; rfl
        | cons q r ih => intro hq; exact ⟨q.2, _, rfl, hq q (by simp), ih fun q' h' => hq q' (by simp [h'])⟩
      have hr := hrep xs fun q hq => by
        obtain ⟨i, hi⟩ := List.mem_iff_getElem?.1 hq
        exact (hxs i q hi).2
      refine ⟨xs.map (·.1), some a, cap, by simp [hxl], by simpa [hxl] using hl, hcap, (xs.map (·.2)).flatten, hr, ?_⟩
      by_cases hne : (xs.map (·.2)).flatten = []
      · exact .inl hne
      · right
        have hlen := repL_len hr
        rw [List.length_map, hxl] at hlen
        have hpos : 0 < len * Rep.sz α := by rw [← hlen]; exact List.length_pos_iff.2 hne
        have hszp : 0 < Rep.sz α := by
          rcases Nat.eq_zero_or_pos (Rep.sz α) with h0 | h0
          · rw [h0] at hpos; simp at hpos
          · exact h0
        have hcellat : ∀ i v, ((xs.map (·.2)).flatten)[i]? = some v → w.cell? (a.add i) = some v := by
          intro i v hv
          have hi : i < len * Rep.sz α := by
            rcases Nat.lt_or_ge i (len * Rep.sz α) with h1 | h1
            · exact h1
            · rw [List.getElem?_eq_none (by rw [hlen]; exact h1)] at hv; cases hv
          have hq : i / Rep.sz α < xs.length := by rw [hxl]; exact Nat.div_lt_of_lt_mul (by rw [Nat.mul_comm]; exact hi)
          have hxq := hxs (i / Rep.sz α) _ (List.getElem?_eq_getElem hq)
          have hat := repL_at (i / Rep.sz α) ((xs.map (·.1))[i / Rep.sz α]'(by simpa using hq)) hr (List.getElem?_eq_getElem _)
          -- the element's own cells
          have hflat : ∀ (l : List (α × List Value)) (j : Nat) (q : α × List Value), (∀ q ∈ l, q.2.length = Rep.sz α) → l[j]? = some q → (((l.map (·.2)).flatten).drop (j * Rep.sz α)).take (Rep.sz α) = q.2 := by
            intro l
            induction l with
            | nil => intro j q _ h; simp at h
            | cons p r ih =>
              intro j q hl hj
              cases j with
              | zero =>
                simp at hj; subst hj
                have := hl p (by simp)
                rw [Nat.zero_mul, List.drop_zero, List.map_cons, List.flatten_cons, ← this, List.take_left]
              | succ j =>
                rw [List.map_cons, List.flatten_cons, Nat.add_mul, Nat.one_mul, Nat.add_comm, ← List.drop_drop]
                rw [show (p.2 ++ (r.map (·.2)).flatten).drop (Rep.sz α) = (r.map (·.2)).flatten by rw [← hl p (by simp), List.drop_left]]
                exact ih j q (fun q hq => hl q (by simp [hq])) (by simpa using hj)
          have hown := hflat xs (i / Rep.sz α) _ (fun q hq => by
            obtain ⟨i', hi'⟩ := List.mem_iff_getElem?.1 hq
            exact Rep.len (hxs i' q hi').2) (List.getElem?_eq_getElem hq)
          obtain ⟨_, hl2, hcell⟩ := World.cells?_some hxq.1
          have hr' : i % Rep.sz α < Rep.sz α := Nat.mod_lt _ hszp
          have hsplit : i / Rep.sz α * Rep.sz α + i % Rep.sz α = i := by rw [Nat.mul_comm]; exact Nat.div_add_mod i _
          have e1 : (xs[i / Rep.sz α].2)[i % Rep.sz α]? = some v := by
            rw [← hown, List.getElem?_take_of_lt hr', List.getElem?_drop, hsplit]; exact hv
          have := hcell (i % Rep.sz α) hr'
          rw [Go.Deep.add_add, hsplit] at this
          rw [this]; exact e1
        have h0 : ∃ v, ((xs.map (·.2)).flatten)[0]? = some v := by
          cases hf : (xs.map (·.2)).flatten with
          | nil => exact absurd hf hne
          | cons v r => exact ⟨v, rfl⟩
        obtain ⟨v0, hv0⟩ := h0
        have hc0 := hcellat 0 v0 hv0
        obtain ⟨bk, off, spot⟩ := a
        have hspot : spot = none := by simpa [Addr.add] using World.cell?_spot hc0
        subst hspot
        -- the block
        have hb0 := hc0
        unfold World.cell? at hb0
        simp only [Addr.add, if_true] at hb0
        cases hbk : w.heap[bk]? with
        | none => rw [hbk] at hb0; cases hb0
        | some o =>
          cases o with
          | cells c0 t0 fr0 =>
            refine ⟨bk, off, t0, c0, fr0, rfl, hbk, fun i v hv => ?_⟩
            have := hcellat i v hv
            rw [add_lit'] at this
            simpa [World.cell?, hbk] using this
          | _ => rw [hbk] at hb0; simp at hb0
  size := cellsOf_of
end
end Slk
