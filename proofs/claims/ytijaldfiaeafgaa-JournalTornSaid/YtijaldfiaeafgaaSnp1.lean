import Derived.Test.YtijaldfiaeafgaaEntR
import Derived.Test.YtijaldfiaeafgaaSec2
set_option linter.unusedVariables false
set_option linter.unusedSimpArgs false
namespace Go.Proofs.Ytijaldfiaeafgaa
open Slk
/-! ### Snapshots on a disk (plain) -/
/-- The snapshot of a place. -/
def lookS (S : List Sec) (at_ : Nat) : Option EntT :=
  match decS ((S.drop at_).take 16) with
  | some (e, _) => if e.1 = 2 ∧ e.2.2.1 = 0 then some e else none
  | none => none
/-- The better one of what there is and of what a place has. -/
def pickS (b : Option (EntT × Nat)) (at_ : Nat) (x : Option EntT) : Option (EntT × Nat) :=
  match x with
  | none => b
  | some e => match b with
    | none => some (e, at_)
    | some y => if y.1.2.1 < e.2.1 then some (e, at_) else b
def bestS (S : List Sec) : Nat → Option (EntT × Nat)
  | 0 => none
  | j + 1 => pickS (bestS S j) (16 * j) (lookS S (16 * j))
def newS (S : List Sec) : Option (EntT × Nat) := bestS S 2
/-- Sectors written from a place on. -/
def putS (S : List Sec) (at_ : Nat) (l : List Sec) : List Sec := S.take at_ ++ l ++ S.drop (at_ + l.length)
theorem putS_len {S : List Sec} {at_ : Nat} {l : List Sec} (h : at_ + l.length ≤ S.length) : (putS S at_ l).length = S.length := by
  unfold putS; simp only [List.length_append, List.length_take, List.length_drop]; omega
theorem putS_get {S : List Sec} {at_ : Nat} {l : List Sec} (h : at_ + l.length ≤ S.length) (i : Nat) : (putS S at_ l)[i]? = if i < at_ then S[i]? else if i < at_ + l.length then l[i - at_]? else S[i]? := by
  unfold putS
  rw [List.append_assoc]
  rcases Nat.lt_or_ge i at_ with h1 | h1
  · rw [if_pos h1, List.getElem?_append_left (by rw [List.length_take]; omega), List.getElem?_take_of_lt h1]
  · rw [if_neg (by omega), List.getElem?_append_right (by rw [List.length_take]; omega), List.length_take, Nat.min_eq_left (by omega)]
    rcases Nat.lt_or_ge i (at_ + l.length) with h2 | h2
    · rw [if_pos h2, List.getElem?_append_left (by omega)]
    · rw [if_neg (by omega), List.getElem?_append_right (by omega), List.getElem?_drop]
      congr 1; omega
theorem settle_true : ∀ (P : List (Nat × Sec)) (k : Nat) (S : List Sec), settleL (fun _ => true) k S P = P.foldl (fun s p => s.set p.1 p.2) S
  | [], _, _ => rfl
  | p :: r, k, S => by
    show settleL (fun _ => true) (k + 1) (if true = true then S.set p.1 p.2 else S) r = _
    rw [if_pos rfl, settle_true r (k + 1)]; rfl
/-- A row of writes, from a place on. -/
def rowW (at_ : Nat) (l : List Sec) : List (Nat × Sec) := l.zipIdx.map fun p => (at_ + p.2, p.1)
theorem foldl_row (l : List Sec) : ∀ (at_ : Nat) (S : List Sec), at_ + l.length ≤ S.length → (l.zipIdx.map fun p => (at_ + p.2, p.1)).foldl (fun s p => s.set p.1 p.2) S = putS S at_ l := by
  induction l with
  | nil => intro at_ S h; simp [putS]
  | cons x r ih =>
    intro at_ S h
    rw [List.length_cons] at h
    rw [List.zipIdx_cons, List.map_cons, List.foldl_cons]
    have e : (r.zipIdx (0 + 1)).map (fun p => (at_ + p.2, p.1)) = r.zipIdx.map (fun p => (at_ + 1 + p.2, p.1)) := by
      rw [List.zipIdx_succ, List.map_map]
      refine List.map_congr_left fun p _ => ?_
      show (at_ + (p.2 + 1), p.1) = _
      rw [show at_ + (p.2 + 1) = at_ + 1 + p.2 by omega]
    rw [e, ih (at_ + 1) _ (by rw [List.length_set]; omega)]
    refine List.ext_getElem? fun i => ?_
    rw [putS_get (by rw [List.length_set]; omega), putS_get (by rw [List.length_cons]; omega), List.getElem?_set]
    simp only [List.length_cons, Nat.add_zero]
    rcases Nat.lt_trichotomy i at_ with h1 | h1 | h1
    · rw [if_pos (by omega), if_neg (by omega), if_pos h1]
    · subst h1
      rw [if_pos (by omega), if_pos rfl, if_pos (by omega), if_neg (by omega), if_pos (by omega), Nat.sub_self]; rfl
    · rw [if_neg (by omega), if_neg (by omega : ¬ i < at_)]
      rcases Nat.lt_or_ge i (at_ + 1 + r.length) with h2 | h2
      · rw [if_pos h2, if_pos (by omega), show i - at_ = (i - (at_ + 1)) + 1 by omega, List.getElem?_cons_succ]
      · rw [if_neg (by omega), if_neg (by omega), if_neg (by omega)]
/-- The writes of a row, its first ones. -/
def PW (at_ : Nat) (l : List Sec) (i : Nat) : List (Nat × Sec) := ((l.take i).zipIdx).map fun p => (at_ + p.2, p.1)
theorem PW_succ {at_ : Nat} {l : List Sec} {i : Nat} (h : i < l.length) : PW at_ l (i + 1) = PW at_ l i ++ [(at_ + i, l[i])] := by
  unfold PW
  rw [List.take_succ_eq_append_getElem h, List.zipIdx_append, List.map_append]
  congr 1
  simp only [List.zipIdx_cons, List.zipIdx_nil, List.map_cons, List.map_nil, List.length_take]
  rw [Nat.min_eq_left (by omega), Nat.zero_add]
theorem PW_len {at_ : Nat} {l : List Sec} {i : Nat} : (PW at_ l i).length ≤ l.length := by
  unfold PW; rw [List.length_map, List.length_zipIdx, List.length_take]; omega
theorem PW_lt {at_ : Nat} {l : List Sec} {i n : Nat} (h : at_ + l.length ≤ n) : ∀ p ∈ PW at_ l i, p.1 < n := fun p hp => by
  obtain ⟨⟨x, k⟩, hx, rfl⟩ := List.mem_map.1 hp
  have := List.snd_lt_of_mem_zipIdx hx
  rw [List.length_take] at this
  show at_ + k < n
  omega
theorem PW_done {at_ : Nat} {l : List Sec} {S : List Sec} (h : at_ + l.length ≤ S.length) : settleL (fun _ => true) 0 S (PW at_ l l.length) = putS S at_ l := by
  rw [settle_true]
  unfold PW
  rw [List.take_length]
  exact foldl_row l at_ S h
theorem put_first {S : List Sec} {at_ : Nat} {x : Sec} {r : List Sec} (h : at_ + (x :: r).length ≤ S.length) : (putS S (at_ + 1) r).set at_ x = putS S at_ (x :: r) := by
  rw [List.length_cons] at h
  refine List.ext_getElem? fun i => ?_
  have hl : (putS S (at_ + 1) r).length = S.length := putS_len (by omega)
  rw [List.getElem?_set, putS_get (by omega), putS_get (by rw [List.length_cons]; omega), hl]
  simp only [List.length_cons]
  rcases Nat.lt_trichotomy i at_ with h1 | h1 | h1
  · rw [if_neg (by omega), if_pos (by omega), if_pos h1]
  · subst h1
    rw [if_pos rfl, if_pos (by omega), if_neg (by omega), if_pos (by omega), Nat.sub_self]; rfl
  · rw [if_neg (by omega), if_neg (by omega), if_neg (by omega : ¬ i < at_)]
    rcases Nat.lt_or_ge i (at_ + 1 + r.length) with h2 | h2
    · rw [if_pos h2, if_pos (by omega), show i - at_ = (i - (at_ + 1)) + 1 by omega, List.getElem?_cons_succ]
    · rw [if_neg (by omega), if_neg (by omega)]
theorem bytes_open {D : Nat → Prop} {w0 : World} {xs : List UInt8} {cs : List Value} (k : Old D w0 (Rep.rep xs cs)) : ∃ B cb, cs = [.slice B xs.length cb] ∧ Old D w0 (Rep.rep xs [.slice B xs.length cb]) := by
  obtain ⟨h, hh, B, cb, e, r⟩ := k
  subst e
  exact ⟨B, cb, rfl, h, hh, B, cb, rfl, r⟩
end Go.Proofs.Ytijaldfiaeafgaa
