import Derived.Test.YtijaldfiaeafgaaJou8
import Derived.Test.YtijaldfiaeafgaaJou9
set_option linter.unusedVariables false
set_option linter.unusedSimpArgs false
namespace Go.Proofs.Ytijaldfiaeafgaa
open Slk
/-! ### Appends, one behind the other; an append that is cut off (plain) -/
def runF (ep : Nat) (xs L : List (List UInt8)) (S : List Sec) (k : Nat) : Nat → List Sec × Nat
  | 0 => (S, k)
  | i + 1 => (putS (runF ep xs L S k i).1 (runF ep xs L S k i).2 (encE (jouE ep (L ++ xs.take i).length (xs[i]?.getD []))), (runF ep xs L S k i).2 + needM (xs[i]?.getD []).length)
theorem run_exists {ep : Nat} (hep : ep < 4294967296) {xs L : List (List UInt8)} (hx : ∀ x ∈ xs, x.length ≤ 300) {S : List Sec} {k m : Nat} (hJ : JI S ep L k) (hS : S.length = m) (hroom : k + 6 * xs.length ≤ m) :
    ∃ F : Nat → List Sec × Nat, F 0 = (S, k) ∧ (∀ i (h : i < xs.length), (F (i + 1)).1 = putS (F i).1 (F i).2 (encE (jouE ep (L ++ xs.take i).length xs[i])) ∧ (F (i + 1)).2 = (F i).2 + needM xs[i].length) ∧
      (∀ i, i ≤ xs.length → JI (F i).1 ep (L ++ xs.take i) (F i).2 ∧ (F i).1.length = m ∧ (F i).2 ≤ k + 6 * i ∧ ∀ ep', ep ≠ ep' → noHead ep' S → noHead ep' (F i).1) := by
  have hs : ∀ i (h : i < xs.length), (runF ep xs L S k (i + 1)).1 = putS (runF ep xs L S k i).1 (runF ep xs L S k i).2 (encE (jouE ep (L ++ xs.take i).length xs[i])) ∧ (runF ep xs L S k (i + 1)).2 = (runF ep xs L S k i).2 + needM xs[i].length := fun i h => by
    simp only [runF, List.getElem?_eq_getElem h, Option.getD_some, and_self]
  refine ⟨runF ep xs L S k, rfl, hs, fun i => ?_⟩
  induction i with
  | zero => exact fun _ => ⟨by rw [List.take_zero, List.append_nil]; exact hJ, hS, Nat.le_refl _, fun _ _ h => h⟩
  | succ i ih =>
    intro hi
    obtain ⟨h1, h2, h3, h4⟩ := ih (by omega)
    obtain ⟨e1, e2⟩ := hs i (by omega)
    have hx3 := hx _ (List.getElem_mem (show i < xs.length by omega))
    have hn := need300 hx3
    have hl : (encE (jouE ep (L ++ xs.take i).length xs[i])).length = needM xs[i].length := encE_len (jouE ep (L ++ xs.take i).length xs[i]) (show xs[i].length ≤ 4000 by omega)
    refine ⟨?_, by rw [e1, putS_len (by omega), h2], by rw [e2]; omega, fun ep' he hh => by rw [e1]; exact noHead_put (h4 ep' he hh) (noHead_enc _ hep he)⟩
    rw [e1, e2, List.take_succ_eq_append_getElem (by omega), ← List.append_assoc]
    have := h1.append (x := xs[i]) (by omega) (e := jouE ep (L ++ xs.take i).length xs[i]) rfl (by omega)
    rw [hl] at this
    exact this
theorem settle_other' (kept : Nat → Bool) : ∀ (P : List (Nat × Sec)) (k : Nat) (S : List Sec) (j : Nat), (∀ p ∈ P, p.1 ≠ j) → (settleL kept k S P)[j]? = S[j]?
  | [], _, _, _, _ => rfl
  | p :: r, k, S, j, h => by
    simp only [settleL]
    rw [settle_other' kept r (k + 1) _ j (fun q hq => h q (List.mem_cons_of_mem _ hq))]
    split
    · rw [List.getElem?_set_ne (h p (List.mem_cons_self ..))]
    · rfl
theorem settle_mem (kept : Nat → Bool) : ∀ (P : List (Nat × Sec)) (k : Nat) (S : List Sec) (j : Nat) (s : Sec), (settleL kept k S P)[j]? = some s → S[j]? = some s ∨ ∃ p ∈ P, p.1 = j ∧ p.2 = s
  | [], _, _, _, _, h => .inl h
  | p :: r, k, S, j, s, h => by
    simp only [settleL] at h
    rcases settle_mem kept r (k + 1) _ j s h with h | ⟨q, hq, h1, h2⟩
    · split at h
      · rw [List.getElem?_set] at h
        split at h
        · rename_i he
          split at h
          · injection h with h
            exact .inr ⟨p, List.mem_cons_self .., he, h⟩
          · cases h
        · exact .inl h
      · exact .inl h
    · exact .inr ⟨q, List.mem_cons_of_mem _ hq, h1, h2⟩
theorem PW_mem {at_ : Nat} {l : List Sec} {i : Nat} : ∀ p ∈ PW at_ l i, p.2 ∈ l ∧ at_ ≤ p.1 := fun p hp => by
  obtain ⟨⟨x, k⟩, hx, rfl⟩ := List.mem_map.1 hp
  have := List.fst_mem_of_mem_zipIdx hx
  exact ⟨List.mem_of_mem_take this, Nat.le_add_right _ _⟩
theorem ji_keep {S S' r : List Sec} {ep k : Nat} {L : List (List UInt8)} (h : JI S ep L k) (hl : S'.length = S.length) (hr : noHead ep r) (h0 : ∀ j, j < k → S'[j]? = S[j]?) (h1 : ∀ (j : Nat) s, S'[j]? = some s → S[j]? = some s ∨ s ∈ r) : JI S' ep L k := by
  refine ⟨by rw [hl]; exact h.kle, ?_, h.small, ?_⟩
  · rw [← h.eq]
    refine List.ext_getElem? fun i => ?_
    rw [List.getElem?_take, List.getElem?_take]
    split
    · exact h0 i (by omega)
    · rfl
  · intro s hs
    obtain ⟨i, hi⟩ := List.mem_iff_getElem?.1 hs
    rw [List.getElem?_drop] at hi
    rcases h1 _ _ hi with h2 | h2
    · refine h.rest s (List.mem_iff_getElem?.2 ⟨i, ?_⟩)
      rw [List.getElem?_drop]; exact h2
    · exact hr s h2
def TornP (S : List Sec) (k : Nat) (x0 : Sec) (r : List Sec) (half : Bool) (s : List Sec × List (Nat × Sec)) : Prop :=
  (half = false → s = (S, PW (k + 1) r r.length)) ∧ (half = true → s = (putS S (k + 1) r, [(k, x0)]))
theorem torn_open {S : List Sec} {ep k : Nat} {L : List (List UInt8)} {cut : List UInt8} {x0 : Sec} {r : List Sec} {half : Bool} {keep : List Bool} {s : List Sec × List (Nat × Sec)} (h : JI S ep L k) (hc : cut.length ≤ 4000) (hE : encE (jouE ep L.length cut) = x0 :: r) (hfit : k + (r.length + 1) ≤ S.length) (hs : TornP S k x0 r half s) {S' : List Sec} (hS' : S' = settleL (fun i => keep.getD i false) 0 s.1 s.2) {wh : Bool} (hw : wh = (half && keep.getD 0 false)) :
    S'.length = S.length ∧ JI S' ep (if wh then L ++ [cut] else L) (if wh then k + (r.length + 1) else k) := by
  have hr : noHead ep r := by
    have := noHead_tail (ep := ep) (jouE ep L.length cut)
    rw [hE] at this; exact this
  have hput : (putS S (k + 1) r).length = S.length := putS_len (by omega)
  have hkeepP : JI (putS S (k + 1) r) ep L k := by
    refine ji_keep h hput hr (fun j hj => by rw [putS_get (by omega), if_pos (by omega)]) (fun j s hs => ?_)
    rw [putS_get (by omega)] at hs
    split at hs
    · exact .inl hs
    · split at hs
      · exact .inr (List.mem_of_getElem? hs)
      · exact .inl hs
  cases half
  · have hs := hs.1 rfl
    subst hs
    have hw : wh = false := hw
    subst hw
    have hl : S'.length = S.length := by rw [hS', settleL_len]
    refine ⟨hl, ?_⟩
    show JI S' ep L k
    refine ji_keep h hl hr (fun j hj => ?_) (fun j s hs => ?_)
    · rw [hS']; exact settle_other' _ _ _ _ _ fun p hp => by have := (PW_mem p hp).2; omega
    · rw [hS'] at hs
      rcases settle_mem _ _ _ _ _ _ hs with h2 | ⟨p, hp, _, h2⟩
      · exact .inl h2
      · exact .inr (by rw [← h2]; exact (PW_mem p hp).1)
  · have hs := hs.2 rfl
    subst hs
    have hw : wh = keep.getD 0 false := hw
    have hS' : S' = if keep.getD 0 false then (putS S (k + 1) r).set k x0 else putS S (k + 1) r := hS'
    rw [← hw] at hS'
    cases wh
    · have hS' : S' = putS S (k + 1) r := hS'
      subst hS'
      exact ⟨hput, hkeepP⟩
    · have hS' : S' = (putS S (k + 1) r).set k x0 := hS'
      have hE2 : S' = putS S k (encE (jouE ep L.length cut)) := by rw [hS', hE]; exact put_first (by rw [List.length_cons]; exact hfit)
      have hj := h.append hc (e := jouE ep L.length cut) rfl (by rw [hE, List.length_cons]; exact hfit)
      rw [← hE2, hE, List.length_cons] at hj
      exact ⟨by rw [hS', List.length_set]; exact hput, hj⟩
theorem small_next {xs : List (List UInt8)} {i : Nat} (h : ∀ x ∈ xs.take i, x.length ≤ 300) (h2 : ∀ hi : i < xs.length, xs[i].length ≤ 300) : ∀ x ∈ xs.take (i + 1), x.length ≤ 300 := fun x hx => by
  rcases Nat.lt_or_ge i xs.length with hi | hi
  · rw [List.take_succ_eq_append_getElem hi] at hx
    rcases List.mem_append.1 hx with hx | hx
    · exact h x hx
    · obtain rfl := List.mem_singleton.1 hx; exact h2 hi
  · rw [List.take_of_length_le (by omega)] at hx
    rw [List.take_of_length_le hi] at h
    exact h x hx
end Go.Proofs.Ytijaldfiaeafgaa
