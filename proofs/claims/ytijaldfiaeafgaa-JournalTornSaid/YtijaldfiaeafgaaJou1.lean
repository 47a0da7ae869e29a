import Derived.Test.YtijaldfiaeafgaaEntR
import Derived.Test.YtijaldfiaeafgaaSnp1
set_option linter.unusedVariables false
set_option linter.unusedSimpArgs false
namespace Go.Proofs.Ytijaldfiaeafgaa
open Slk
/-! ### Journals on a disk (plain) -/
/-- The entries with which sectors begin, of an epoch, from a number on; and how many sectors they take. -/
def entsF (ep : Nat) : Nat → Nat → List Sec → List (List UInt8) × Nat
  | 0, _, _ => ([], 0)
  | f + 1, seq, l => match decS l with
    | none => ([], 0)
    | some (e, n) => if e.1 = 1 ∧ e.2.1 = ep ∧ e.2.2.1 = seq then (e.2.2.2 :: (entsF ep f (seq + 1) (l.drop n)).1, n + (entsF ep f (seq + 1) (l.drop n)).2) else ([], 0)
abbrev jouE (ep seq : Nat) (xs : List UInt8) : EntT := (1, ep, seq, xs)
/-- Entries as they are written. -/
def jencS (ep : Nat) : Nat → List (List UInt8) → List Sec
  | _, [] => []
  | seq, x :: r => encE (jouE ep seq x) ++ jencS ep (seq + 1) r
theorem jenc_snoc (ep : Nat) (xss : List (List UInt8)) : ∀ (seq : Nat) (x : List UInt8), jencS ep seq (xss ++ [x]) = jencS ep seq xss ++ encE (jouE ep (seq + xss.length) x) := by
  induction xss with
  | nil => intro seq x; simp [jencS]
  | cons y r ih =>
    intro seq x
    rw [List.cons_append, jencS, ih (seq + 1) x, jencS, List.append_assoc]
    rw [List.length_cons, show seq + (r.length + 1) = seq + 1 + r.length by omega]
theorem ents_enc (ep : Nat) (hep : ep < 4294967296) : ∀ (xss : List (List UInt8)) (f seq : Nat) (rest : List Sec), xss.length ≤ f → seq + xss.length < 4294967296 → (∀ x ∈ xss, x.length ≤ 4000) →
    entsF ep f seq (jencS ep seq xss ++ rest) = (xss ++ (entsF ep (f - xss.length) (seq + xss.length) rest).1, (jencS ep seq xss).length + (entsF ep (f - xss.length) (seq + xss.length) rest).2)
  | [], f, seq, rest, _, _, _ => by simp [jencS]
  | x :: r, 0, seq, rest, h, _, _ => by simp at h
  | x :: r, f + 1, seq, rest, h, hs, hx => by
    rw [List.length_cons] at h hs
    have hok : okE (jouE ep seq x) := ⟨show 1 < 256 by decide, hep, show seq < _ by omega, hx x (by simp)⟩
    have hl := encE_len (jouE ep seq x) (hx x (by simp))
    have ih := ents_enc ep hep r f (seq + 1) rest (by omega) (by omega) (fun y hy => hx y (by simp [hy]))
    rw [jencS, List.append_assoc, entsF, decS_enc _ hok]
    dsimp only
    rw [if_pos ⟨rfl, rfl, rfl⟩, List.drop_left' hl, ih]
    rw [List.length_append, hl, List.length_cons, show f + 1 - (r.length + 1) = f - r.length by omega, show seq + (r.length + 1) = seq + 1 + r.length by omega]
    simp only [List.cons_append, Prod.mk.injEq, true_and]
    omega
/-! ### What begins an entry of an epoch -/
def headOf (ep : Nat) (s : Sec) : Prop := s[0] = 87 ∧ numAt s 2 4 = ep
def noHead (ep : Nat) (l : List Sec) : Prop := ∀ s ∈ l, ¬ headOf ep s
theorem decS_head {s : Sec} {r : List Sec} {e : EntT} {n : Nat} (h : decS (s :: r) = some (e, n)) : headOf e.2.1 s ∧ 1 ≤ n ∧ n ≤ (s :: r).length := by
  have h' : (if s[0].toNat = 87 ∧ needM (numAt s 10 2) ≠ 0 ∧ needM (numAt s 10 2) ≤ (s :: r).length ∧ encE (candE (s :: r) s) = (s :: r).take (needM (numAt s 10 2)) then some (candE (s :: r) s, needM (numAt s 10 2)) else none) = some (e, n) := h
  by_cases hh : s[0].toNat = 87 ∧ needM (numAt s 10 2) ≠ 0 ∧ needM (numAt s 10 2) ≤ (s :: r).length ∧ encE (candE (s :: r) s) = (s :: r).take (needM (numAt s 10 2))
  · rw [if_pos hh] at h'
    injection h' with h'
    injection h' with h1 h2
    subst h1; subst h2
    exact ⟨⟨UInt8.toNat_inj.1 hh.1, rfl⟩, by omega, hh.2.2.1⟩
  · rw [if_neg hh] at h'; cases h'
theorem ents_none {ep : Nat} {l : List Sec} (h : ∀ s, l[0]? = some s → ¬ headOf ep s) (f seq : Nat) : entsF ep f seq l = ([], 0) := by
  cases f with
  | zero => rfl
  | succ f =>
    rw [entsF]
    cases l with
    | nil => rfl
    | cons s r =>
      rcases hd : decS (s :: r) with _ | ⟨e, n⟩
      · rfl
      · dsimp only
        rw [if_neg]
        rintro ⟨_, h2, _⟩
        have := (decS_head hd).1
        rw [h2] at this
        exact h s rfl this
theorem encE_nth' (e : EntT) (i : Nat) (h : i < (encE e).length) : (encE e)[i] = secOf (fullB e.1 e.2.1 e.2.2.1 e.2.2.2) i := by
  have : (encE e)[i]? = some (secOf (fullB e.1 e.2.1 e.2.2.1 e.2.2.2) i) := by
    unfold encE encS secsTo
    rw [List.getElem?_map, List.getElem?_range (by simpa [encE, encS, secsTo] using h)]; rfl
  rw [List.getElem?_eq_getElem h] at this
  simpa using this
theorem enc_mark (e : EntT) (i : Nat) (h : i < (encE e).length) : (encE e)[i][0] = if i = 0 then 87 else 119 := by
  rw [encE_nth' e i h, secOf_mark]; rfl
theorem enc_pos (e : EntT) : 1 ≤ (encE e).length := by
  rw [encE, encS_len, fullB_length]; omega
theorem enc_epoch (e : EntT) (h2 : e.2.1 < 4294967296) : numAt ((encE e)[0]'(enc_pos e)) 2 4 = e.2.1 := by
  rw [encE_nth' e 0 (enc_pos e)]
  obtain ⟨t, ht⟩ := head_list e
  unfold numAt; rw [ht]
  exact numB_four _ h2
theorem noHead_enc {ep : Nat} (e : EntT) (h2 : e.2.1 < 4294967296) (h : e.2.1 ≠ ep) : noHead ep (encE e) := by
  intro s hs ⟨h87, hep⟩
  obtain ⟨i, hi, rfl⟩ := List.mem_iff_getElem.1 hs
  rw [enc_mark e i hi] at h87
  by_cases h0 : i = 0
  · subst h0
    rw [enc_epoch e h2] at hep
    exact h hep
  · rw [if_neg h0] at h87
    exact absurd h87 (by decide)
theorem noHead_tail {ep : Nat} (e : EntT) : noHead ep (encE e).tail := by
  intro s hs ⟨h87, _⟩
  obtain ⟨i, hi, rfl⟩ := List.mem_iff_getElem.1 hs
  rw [List.getElem_tail, enc_mark, if_neg (by omega)] at h87
  exact absurd h87 (by decide)
theorem noHead_zero {ep n : Nat} : noHead ep (List.replicate n zeroSec) := by
  intro s hs ⟨h87, _⟩
  obtain ⟨_, rfl⟩ := List.mem_replicate.1 hs
  exact absurd h87 (by decide)
theorem noHead_app {ep : Nat} {a b : List Sec} : noHead ep (a ++ b) ↔ noHead ep a ∧ noHead ep b := by
  unfold noHead
  constructor
  · exact fun h => ⟨fun s hs => h s (List.mem_append.2 (.inl hs)), fun s hs => h s (List.mem_append.2 (.inr hs))⟩
  · rintro ⟨h1, h2⟩ s hs
    rcases List.mem_append.1 hs with h | h
    · exact h1 s h
    · exact h2 s h
theorem noHead_sub {ep : Nat} {a b : List Sec} (h : noHead ep b) (hs : ∀ s ∈ a, s ∈ b) : noHead ep a := fun s m => h s (hs s m)
theorem noHead_put {ep at_ : Nat} {S l : List Sec} (h : noHead ep S) (hl : noHead ep l) : noHead ep (putS S at_ l) := by
  unfold putS
  rw [noHead_app, noHead_app]
  exact ⟨⟨noHead_sub h fun s m => List.mem_of_mem_take m, hl⟩, noHead_sub h fun s m => List.mem_of_mem_drop m⟩
theorem noHead_set {ep at_ : Nat} {S : List Sec} {s : Sec} (h : noHead ep S) (hs : ¬ headOf ep s) : noHead ep (S.set at_ s) := fun x m => by
  rcases List.mem_or_eq_of_mem_set m with h1 | rfl
  · exact h x h1
  · exact hs
/-- A journal of an epoch lies on sectors, up to a place. -/
structure JI (T : List Sec) (ep : Nat) (L : List (List UInt8)) (k : Nat) : Prop where
  kle : k ≤ T.length
  eq : T.take k = jencS ep 0 L
  small : ∀ x ∈ L, x.length ≤ 4000
  rest : noHead ep (T.drop k)
theorem jenc_ge (ep : Nat) : ∀ (L : List (List UInt8)) (seq : Nat), L.length ≤ (jencS ep seq L).length
  | [], _ => Nat.le_refl _
  | x :: r, seq => by
    rw [jencS, List.length_append, List.length_cons]
    have := jenc_ge ep r (seq + 1)
    have := enc_pos (jouE ep seq x)
    omega
section
variable {T : List Sec} {ep k : Nat} {L : List (List UInt8)}
theorem JI.len (h : JI T ep L k) : (jencS ep 0 L).length = k := by rw [← h.eq, List.length_take, Nat.min_eq_left h.kle]
theorem JI.many (h : JI T ep L k) : L.length ≤ k := by have := jenc_ge ep L 0; rw [h.len] at this; exact this
theorem JI.open (h : JI T ep L k) (hep : ep < 4294967296) (hT : T.length < 4294967296) : entsF ep T.length 0 T = (L, k) := by
  have hm := h.many
  have hk := h.kle
  have e := ents_enc ep hep L T.length 0 (T.drop k) (by omega) (by omega) h.small
  rw [← h.eq, List.take_append_drop] at e
  rw [e, ents_none (fun s hs => h.rest s (List.mem_of_getElem? hs)), List.append_nil, h.eq, h.len]; rfl
theorem JI.append (h : JI T ep L k) {x : List UInt8} (hx : x.length ≤ 4000) {e : EntT} (he : e = jouE ep L.length x) (hl : k + (encE e).length ≤ T.length) : JI (putS T k (encE e)) ep (L ++ [x]) (k + (encE e).length) := by
  have hk := h.kle
  have hlen : (T.take k ++ encE e).length = k + (encE e).length := by rw [List.length_append, List.length_take, Nat.min_eq_left hk]
  refine ⟨by rw [putS_len hl]; exact hl, ?_, ?_, ?_⟩
  · unfold putS
    rw [List.take_left' hlen, jenc_snoc, h.eq, he, Nat.zero_add]
  · intro y hy
    rcases List.mem_append.1 hy with hy | hy
    · exact h.small y hy
    · obtain rfl := List.mem_singleton.1 hy; exact hx
  · unfold putS
    rw [List.drop_left' hlen]
    refine noHead_sub h.rest fun s m => ?_
    rw [← List.drop_drop] at m
    exact List.mem_of_mem_drop m
theorem JI.begin (h : noHead ep T) : JI T ep [] 0 := ⟨Nat.zero_le _, by rw [List.take_zero]; rfl, (fun x hx => by cases hx), h⟩
end
end Go.Proofs.Ytijaldfiaeafgaa
