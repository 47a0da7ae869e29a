import Derived.Test.YtpgpfcplchaleaaSlkI
set_option linter.unusedVariables false
set_option linter.unusedSimpArgs false
namespace Slk
open Go
/-! ### Arrays, structs and strings as arguments -/
instance Rep.vec {α : Type} [Rep α] {n : Nat} : Rep (Vector α n) where
  sz := n * Rep.sz α
  rep x cs := repL x.toList cs
  len := by intro x cs h k; rw [repL_len k]; simp
  mono := fun s k => repL_mono s k
  one := fun k => repL_one k
instance Rep.str : Rep ByteArray where
  sz := 1
  rep x cs := pureP (cs = [.string x] ∧ x.size ≤ maxLen)
  len := by intro x cs h k; obtain ⟨rfl, _⟩ := k; rfl
  mono := fun _ k => k
  one := by intro x cs h k v hv; obtain ⟨rfl, _⟩ := k; simp at hv; subst hv; rfl
theorem mapM_at {α β : Type} {f : α → Option β} : ∀ {l : List α} {ys : List β}, l.mapM f = some ys → ∀ (i : Nat) (x : α), l[i]? = some x → ∃ y, f x = some y
  | [], _, _, i, x, h => by simp at h
  | a :: r, ys, h, i, x, hi => by
    rw [List.mapM_cons] at h
    cases ha : f a with
    | none => rw [ha] at h; cases h
    | some b =>
      rw [ha] at h
      cases hr : r.mapM f with
      | none => rw [hr] at h; cases h
      | some zs =>
        cases i with
        | zero => simp at hi; subst hi; exact ⟨b, ha⟩
        | succ i => exact mapM_at hr i x (by simpa using hi)
section
variable {P : Program} {t : TypeId}
theorem ReadsAs.arr {e : TypeId} {n : Nat} {α : Type} [Rep α] [h : TyArr P t n e] [he : ReadsAs P e α] (hs : P.cellsOf t = n * Rep.sz α) : ReadsAs P t (Vector α n) where
  of := by
    intro H enc w sp held fuel cs x k
    cases fuel with
    | zero => simp [DataW.trod] at k
    | succ m =>
      rw [DataW.trod_step] at k
      unfold DataW.trodStep at k
      simp only [h.out] at k
      split at k
      · rename_i hl
        obtain ⟨ys, hy, _⟩ := Option.map_eq_some_iff.1 k
        have hz := he.size
        obtain ⟨xs, hxl, hxs⟩ := list_of_at (α := α) (p := fun i y => Rep.rep y ((cs.drop (i * Rep.sz α)).take (Rep.sz α)) (fun b => w.heap[b]?)) n (fun i hi => by
          obtain ⟨y, hy⟩ := mapM_at hy i i (by simp [hi])
          rw [hz] at hy
          exact he.of enc w sp held m _ _ hy)
        refine ⟨⟨xs.toArray, by simpa using hxl⟩, ?_⟩
        show repL xs cs _
        exact repL_of_at (by rw [hl, hs, hxl]) hxs
      · cases k
  size := hs
def ReadsF (P : Program) (fs : List Field) (o tot : Nat) (α : Type) [Rep α] : Prop :=
  ∀ {H : Type} (enc : TypeId × Value → H) (w : World) (sp : Nat → Bool) (held : Bool) (fuel : Nat) (cs : List Value), cs.length = tot →
    (∀ f ∈ fs, ∃ x, DataW.trod enc P w 0 sp held fuel f.type ((cs.drop f.offset).take (P.cellsOf f.type)) = some x) → ∃ y : α, Rep.rep y (cs.drop o) (fun b => w.heap[b]?)
theorem ReadsF.last {f : Field} {o tot : Nat} {ft : TypeId} {α : Type} [Rep α] (hft : f.type = ft) [h : ReadsAs P ft α] (ho : f.offset = o) (ht : tot ≤ o + Rep.sz α) : ReadsF P [f] o tot α := by
  intro H enc w sp held fuel cs hl k
  obtain ⟨x, hx⟩ := k f (by simp)
  subst hft; subst ho
  rw [h.size, List.take_of_length_le (by rw [List.length_drop]; omega)] at hx
  exact h.of enc w sp held fuel _ _ hx
theorem ReadsF.cons {f : Field} {r : List Field} {o tot : Nat} {ft : TypeId} {α β : Type} [Rep α] [Rep β] (hft : f.type = ft) [h : ReadsAs P ft α] (ho : f.offset = o) (k : ReadsF P r (o + Rep.sz α) tot β) : ReadsF P (f :: r) o tot (α × β) := by
  intro H enc w sp held fuel cs hl hk
  obtain ⟨x, hx⟩ := hk f (by simp)
  subst hft; subst ho
  rw [h.size] at hx
  obtain ⟨y, hy⟩ := h.of enc w sp held fuel _ _ hx
  obtain ⟨z, hz⟩ := k enc w sp held fuel cs hl fun g hg => hk g (by simp [hg])
  exact ⟨(y, z), _, _, by rw [← List.drop_drop]; exact (List.take_append_drop _ _).symm, hy, hz⟩
theorem ReadsAs.struct {fs : List Field} {α : Type} [Rep α] (h : P.underlying t = some (.struct fs.toArray)) {tot : Nat} (ht : P.cellsOf t = tot) (hs : tot = Rep.sz α) (k : ReadsF P fs 0 tot α) : ReadsAs P t α where
  of := by
    intro H enc w sp held fuel cs x hx
    obtain ⟨xs, n, _, rfl, hl, hlen, hf⟩ := DataW.trod_struct h hx
    obtain ⟨y, hy⟩ := k enc w sp held n cs (by rw [hl, ht]) fun f hf' => by
      obtain ⟨i, hi⟩ := List.mem_iff_getElem?.1 hf'
      have hi2 : i < xs.length := by
        rw [hlen]
        simpa using (List.getElem?_eq_some_iff.1 hi).1
      exact ⟨_, (hf i f (by simpa using hi)).trans (List.getElem?_eq_getElem hi2)⟩
    exact ⟨y, hy⟩
  size := by rw [ht, hs]
instance ReadsAs.str [h : TyStr P t] {b : Nat} {z : List Value} [TyI P t 1 b z] : ReadsAs P t ByteArray where
  of := by
    intro H enc w sp held fuel cs x k
    cases fuel with
    | zero => simp [DataW.trod] at k
    | succ m =>
      rw [DataW.trod_step] at k
      unfold DataW.trodStep at k
      simp only [h.out] at k
      split at k
      all_goals simp only [Option.some.injEq, reduceCtorEq] at *
      all_goals rename_i s h1 h2
      split at k
      · rename_i hs
        exact ⟨h1, rfl, hs⟩
      · cases k
  size := cellsOf_of
end
end Slk
