import Derived.Test.YtjlolpmmpafjeaaGreatU05
set_option linter.unusedVariables false
set_option linter.unusedSimpArgs false
namespace Go.Proofs.YtjlolpmmpafjeaaGreat
open CN
structure Ord {α : Type} (lt : α → α → Bool) : Prop where
 ir : ∀ a, lt a a = false
 tr : ∀ a b c, lt a b = true → lt b c = true → lt a c = true
 ne : ∀ a b c, lt a c = true → lt a b = true ∨ lt b c = true
def GD {α : Type} (lt : α → α → Bool) (x : α) (l : List α) : List α := l.filter (fun y => lt y x) ++ [x] ++ l.filter (fun y => lt x y)
def F9 {α : Type} (lt : α → α → Bool) (x : α) (l : List α) : List α := l.filter (fun y => lt y x || lt x y)
def GK {α : Type} (lt : α → α → Bool) (x : α) (l : List α) : Bool := l.any (fun y => !lt y x && !lt x y)
abbrev G9 {α : Type} (lt : α → α → Bool) (l : List α) : Prop := l.Pairwise (fun a b => lt a b = true)
section
variable {α : Type} {lt : α → α → Bool}
theorem G9.get {l : List α} (h : G9 lt l) : ∀ (i j : Nat) (hi : i < l.length) (hj : j < l.length), i < j → lt l[i] l[j] = true := fun i j hi hj hij => List.pairwise_iff_getElem.1 h i j hi hj hij
theorem G9.gE (o : Ord lt) {l : List α} (h : ∀ i (hi : i < l.length), 0 < i → lt (l[i - 1]'(by omega)) l[i] = true) : G9 lt l := by
 refine List.pairwise_iff_getElem.2 fun i j hi hj hij => ?_
 induction j with
 | zero => omega
 | succ j ih =>
  have h1 := h (j + 1) hj AA
  simp only [Nat.add_sub_cancel] at h1
  rcases Nat.lt_or_ge i j with h2 | h2
  ·exact o.tr _ _ _ (ih AA h2) h1
  ·obtain rfl : i = j := by omega
   exact h1
theorem OJ (o : Ord lt) {a b : α} (h : lt a b = true) : lt b a = false := by
 cases e : lt b a with
 | false => rfl
 | true => have := o.tr _ _ _ h e; rw [o.ir] at this; cases this
def J4 (lt : α → α → Bool) (l : List α) (x : α) (k : Nat) : Prop := k ≤ l.length ∧ (∀ q (h : q < l.length), q < k → lt l[q] x = true) ∧ ∀ q (h : q < l.length), k ≤ q → lt l[q] x = false
theorem filter_all {p : α → Bool} {l : List α} (h : ∀ x ∈ l, p x = true) : l.filter p = l := List.filter_eq_self.2 h
theorem filter_none {p : α → Bool} {l : List α} (h : ∀ x ∈ l, p x = false) : l.filter p = [] := List.filter_eq_nil_iff.2 fun x hx => by rw [h x hx]; decide
theorem SH {l : List α} {x : α} {k : Nat} (h : J4 lt l x k) : ∀ y ∈ l.take k, lt y x = true := fun y hy => by
 obtain ⟨i, hi, rfl⟩ := List.getElem_of_mem hy
 rw [List.getElem_take]
 rw [List.length_take] at hi
 exact h.2.1 i AA AA
theorem fZ {l : List α} {x : α} {k : Nat} (h : J4 lt l x k) : ∀ y ∈ l.drop k, lt y x = false := fun y hy => by
 obtain ⟨i, hi, rfl⟩ := List.getElem_of_mem hy
 rw [List.getElem_drop]
 rw [List.length_drop] at hi
 exact h.2.2 (k + i) AA AA
theorem RW (l : List α) (k : Nat) (p : α → Bool) : l.filter p = (l.take k).filter p ++ (l.drop k).filter p := by
 rw [← List.filter_append, List.take_append_drop]
theorem dM (o : Ord lt) {l : List α} {x : α} {k : Nat} (h : J4 lt l x k) : l.filter (fun y => lt y x) = l.take k := by
 rw [RW l k, filter_all (SH h), filter_none (fZ h), List.append_nil]
theorem oW (o : Ord lt) {l : List α} {x : α} {k : Nat} (hs : G9 lt l) (h : J4 lt l x k) (hn : ∀ (hk : k < l.length), lt x l[k] = true) : l.filter (fun y => lt x y) = l.drop k := by
 rw [RW l k, filter_none (fun y hy => OJ o (SH h y hy)), filter_all, List.nil_append]
 intro y hy
 obtain ⟨i, hi, rfl⟩ := List.getElem_of_mem hy
 rw [List.getElem_drop]
 rw [List.length_drop] at hi
 have hk : k < l.length := by omega
 rcases Nat.eq_zero_or_pos i with h0 | h0
 ·subst h0; exact hn hk
 ·exact o.tr _ _ _ (hn hk) (hs.get k (k + i) hk AA AA)
theorem aZ (o : Ord lt) {l : List α} {x : α} {k : Nat} (hs : G9 lt l) (h : J4 lt l x k) (hk : k < l.length) (he : lt x l[k] = false) : l.filter (fun y => lt x y) = l.drop (k + 1) := by
 rw [RW l k, filter_none (fun y hy => OJ o (SH h y hy)), List.nil_append, List.drop_eq_getElem_cons hk, List.filter_cons_of_neg QL, filter_all]
 intro y hy
 obtain ⟨i, hi, rfl⟩ := List.getElem_of_mem hy
 rw [List.getElem_drop]
 rw [List.length_drop] at hi
 have h1 := hs.get k (k + 1 + i) hk AA AA
 rcases o.ne _ x _ h1 with h2 | h2
 ·rw [h.2.2 k hk (Nat.le_refl _)] at h2; cases h2
 ·exact h2
theorem RH (o : Ord lt) {l : List α} {x : α} {k : Nat} (hs : G9 lt l) (h : J4 lt l x k) : GK lt x l = true ↔ ∃ hk : k < l.length, lt x l[k] = false := by
 unfold GK
 rw [List.any_eq_true]
 constructor
 ·rintro ⟨y, hy, hp⟩
  rw [Bool.and_eq_true, Bool.not_eq_true', Bool.not_eq_true'] at hp
  obtain ⟨i, hi, rfl⟩ := List.getElem_of_mem hy
  rcases Nat.lt_trichotomy i k with h1 | h1 | h1
  ·rw [h.2.1 i hi h1] at hp; cases hp.1
  ·subst h1; exact ⟨hi, hp.2⟩
  ·have hk : k < l.length := by omega
   have h2 := hs.get k i hk hi h1
   rcases o.ne _ x _ h2 with h3 | h3
   ·rw [h.2.2 k hk (Nat.le_refl _)] at h3; cases h3
   ·rw [hp.2] at h3; cases h3
 ·rintro ⟨hk, he⟩
  exact ⟨l[k], List.getElem_mem hk, by rw [he, h.2.2 k hk (Nat.le_refl _)]; rfl⟩
theorem XL (o : Ord lt) {l : List α} {x : α} {k : Nat} (hs : G9 lt l) (h : J4 lt l x k) (hn : GK lt x l = false) : GD lt x l = l.take k ++ [x] ++ l.drop k := by
 unfold GD
 rw [dM o h, oW o hs h]
 intro hk
 cases e : lt x l[k] with
 | true => rfl
 | false => have := (RH o hs h).2 ⟨hk, e⟩; rw [this] at hn; cases hn
theorem XI (o : Ord lt) {l : List α} {x : α} {k : Nat} (hs : G9 lt l) (h : J4 lt l x k) (hn : GK lt x l = true) : k < l.length ∧ GD lt x l = l.take k ++ [x] ++ l.drop (k + 1) := by
 obtain ⟨hk, he⟩ := (RH o hs h).1 hn
 refine ⟨hk, ?_⟩
 unfold GD
 rw [dM o h, aZ o hs h hk he]
theorem US (o : Ord lt) {l : List α} {x : α} {k : Nat} (hs : G9 lt l) (h : J4 lt l x k) (hn : GK lt x l = true) : k < l.length ∧ F9 lt x l = l.take k ++ l.drop (k + 1) := by
 obtain ⟨hk, he⟩ := (RH o hs h).1 hn
 refine ⟨hk, ?_⟩
 unfold F9
 have e1 := aZ o hs h hk he
 rw [RW l k, filter_none (fun y hy => OJ o (SH h y hy)), List.nil_append] at e1
 rw [RW l k]
 congr 1
 ·exact filter_all fun y hy => by rw [SH h y hy]; rfl
 ·rw [← e1]
  refine List.filter_congr fun y hy => ?_
  rw [fZ h y hy]; rfl
theorem G9.set (o : Ord lt) {l : List α} (x : α) (h : G9 lt l) : G9 lt (GD lt x l) := by
 unfold GD
 refine List.pairwise_append.2 ⟨List.pairwise_append.2 ⟨h.filter _, List.pairwise_singleton _ _, fun a ha b hb => ?_⟩, h.filter _, fun a ha b hb => ?_⟩
 ·rw [List.mem_singleton.1 hb]
  exact (List.mem_filter.1 ha).2
 ·have hb := (List.mem_filter.1 hb).2
  rcases List.mem_append.1 ha with h1 | h1
  ·exact o.tr _ _ _ (List.mem_filter.1 h1).2 hb
  ·rw [List.mem_singleton.1 h1]; exact hb
theorem G9.del {l : List α} (x : α) (h : G9 lt l) : G9 lt (F9 lt x l) := h.filter _
theorem mem_set {l : List α} {x y : α} : y ∈ GD lt x l ↔ y = x ∨ (y ∈ l ∧ (lt y x = true ∨ lt x y = true)) := by
 unfold GD
 simp only [List.mem_append, List.mem_filter, List.mem_singleton]
 constructor
 ·rintro ((⟨h1, h2⟩ | h) | ⟨h1, h2⟩)
  ·exact .inr ⟨h1, .inl h2⟩
  ·exact .inl h
  ·exact .inr ⟨h1, .inr h2⟩
 ·rintro (h | ⟨h1, h2 | h2⟩)
  ·exact .inl (.inr h)
  ·exact .inl (.inl ⟨h1, h2⟩)
  ·exact .inr ⟨h1, h2⟩
theorem fF {l : List α} {x y : α} : y ∈ F9 lt x l ↔ y ∈ l ∧ (lt y x = true ∨ lt x y = true) := by
 unfold F9
 rw [List.mem_filter, Bool.or_eq_true]
theorem XJ {l : List α} (o : Ord lt) {x : α} : (GD lt x l).length ≤ l.length + 1 := by
 unfold GD
 simp only [List.length_append, List.length_singleton]
 have h : ∀ l : List α, (l.filter (fun y => lt y x)).length + (l.filter (fun y => lt x y)).length ≤ l.length := fun l => by
  induction l with
  | nil => simp
  | cons y r ih =>
   have ha : lt y x = true → lt x y = true → False := fun h1 h2 => by have := OJ o h1; rw [h2] at this; cases this
   cases h1 : lt y x <;> cases h2 : lt x y <;> simp only [List.filter_cons, h1, h2, if_true, Bool.false_eq_true, if_false, List.length_cons]
   ·omega
   ·omega
   ·omega
   ·exact absurd h2 (by simpa using ha h1)
 have := h l
 omega
end
def DJ (a b : EI) : Bool := decide (a.1 < b.1)
def C0 (a b : FM) : Bool := decide (a.2.1 < b.2.1 ∨ a.2.1 = b.2.1 ∧ (a.1.toNat : Int) < b.1.toNat)
theorem LF : Ord DJ := ⟨fun a => by simp [DJ], fun a b c h1 h2 => by unfold DJ at *; simp only [decide_eq_true_iff] at *; omega, fun a b c h => by unfold DJ at *; simp only [decide_eq_true_iff] at *; omega⟩
theorem KP : Ord C0 := ⟨fun a => by simp [C0], fun a b c h1 h2 => by unfold C0 at *; simp only [decide_eq_true_iff] at *; omega, fun a b c h => by unfold C0 at *; simp only [decide_eq_true_iff] at *; omega⟩
theorem PU {x y : FM} : GW x y < 0 ↔ C0 x y = true := by
 unfold GW C0
 rw [decide_eq_true_iff]
 by_cases h : HY x.2.1 y.2.1 = 0
 ·rw [if_pos h, NB]
  have := OT.1 h
  omega
 ·rw [if_neg h, NB]
  have : ¬ x.2.1 = y.2.1 := fun e => h (OT.2 e)
  omega
theorem cO {l : List EI} : HW cV l ↔ G9 DJ l := by
 constructor
 ·intro h
  exact G9.gE LF fun i hi h0 => decide_eq_true (NB.1 (h i hi h0))
 ·intro h i hi h0
  exact NB.2 (of_decide_eq_true (h.get (i - 1) i AA hi AA))
theorem oQ {l : List FM} : HW GW l ↔ G9 C0 l := by
 constructor
 ·intro h
  exact G9.gE KP fun i hi h0 => PU.1 (h i hi h0)
 ·intro h i hi h0
  exact PU.2 (h.get (i - 1) i AA hi AA)
def B8 (c : CA) (e : C5) : CA × Int :=
 if e.1 = 1 then ((e.2.2.1, c.2), 0)
 else if e.1 = 2 then ((c.1, e.2.2.1, c.2.2), 0)
 else if e.1 = 3 then ((c.1, c.2.1, e.2.2.1, c.2.2.2), 0)
 else if 4 ≤ e.1 ∧ e.1 ≤ 6 then
  if e.2.1 < 0 ∨ (c.2.2.2.1.length : Int) ≤ e.2.1 then (c, 1)
  else
   let p := c.2.2.2.1.getD e.2.1.toNat (false, 0, 0)
   let put := fun x : GI => (c.1, c.2.1, c.2.2.1, c.2.2.2.1.set e.2.1.toNat x, c.2.2.2.2)
   if e.1 = 4 then if e.2.2.1 ≠ 0 ∧ e.2.2.1 ≠ 1 then (c, 1) else (put (decide (e.2.2.1 = 1), p.2), 0)
   else if e.1 = 5 then if e.2.2.1 < 0 ∨ 4294967295 < e.2.2.1 then (c, 1) else (put (p.1, UInt32.ofNat e.2.2.1.toNat, p.2.2), 0)
   else (put (p.1, p.2.1, e.2.2.1), 0)
 else if e.1 = 7 then ((c.1, c.2.1, c.2.2.1, c.2.2.2.1, GD DJ (e.2.2.2.1, e.2.2.2.2.1, e.2.2.2.2.2.1) c.2.2.2.2.1, c.2.2.2.2.2), 0)
 else if e.1 = 9 then ((c.1, c.2.1, c.2.2.1, c.2.2.2.1, c.2.2.2.2.1, GD C0 (e.2.2.2.2.2.2, e.2.2.2.1, e.2.1) c.2.2.2.2.2), 0)
 else if e.1 = 8 then
  if GK DJ (e.2.2.2.1, 0, 0) c.2.2.2.2.1 = true then ((c.1, c.2.1, c.2.2.1, c.2.2.2.1, F9 DJ (e.2.2.2.1, 0, 0) c.2.2.2.2.1, c.2.2.2.2.2), 0) else (c, 13)
 else if e.1 = 10 then
  if GK C0 (e.2.2.2.2.2.2, e.2.2.2.1, 0) c.2.2.2.2.2 = true then ((c.1, c.2.1, c.2.2.1, c.2.2.2.1, c.2.2.2.2.1, F9 C0 (e.2.2.2.2.2.2, e.2.2.2.1, 0) c.2.2.2.2.2), 0) else (c, 13)
 else (c, 11)
def E4 (c : CA) : List C5 → CA × Int
 | [] => (c, 0)
 | e :: r => if (B8 c e).2 = 0 then E4 (B8 c e).1 r else B8 c e
theorem YC (a b : List C5) : ∀ c, E4 c (a ++ b) = if (E4 c a).2 = 0 then E4 (E4 c a).1 b else E4 c a := by
 induction a with
 | nil => intro c; simp [E4]
 | cons e r ih =>
  intro c
  by_cases h : (B8 c e).2 = 0
  ·simp only [List.cons_append, E4, if_pos h, ih]
  ·simp only [List.cons_append, E4, if_neg h]
theorem WE {c : CA} {l : List C5} {i : Nat} (hi : i < l.length) {ci : CA} (h : E4 c (l.take i) = (ci, 0)) : E4 c (l.take (i + 1)) = B8 ci l[i] := by
 rw [List.take_succ_eq_append_getElem hi, YC, h]
 simp only [E4, if_true]
 split
 ·rename_i h0
  exact Prod.ext rfl h0.symm
 ·rfl
theorem Y9 {c : CA} {l : List C5} {i : Nat} (hi : i < l.length) {ci : CA} (h : E4 c (l.take i) = (ci, 0)) (hne : (B8 ci l[i]).2 ≠ 0) : E4 c l = B8 ci l[i] := by
 have h1 := WE hi h
 have h2 := YC (l.take (i + 1)) (l.drop (i + 1)) c
 rw [List.take_append_drop, h1, if_neg hne] at h2
 exact h2
def I7 (c : CA) (l : List C5) (r : CA × Int) : Prop :=
 (¬ C4 c ∧ r = (FZ, 14)) ∨ (C4 c ∧ 32 < l.length ∧ r = (FZ, 3)) ∨ (C4 c ∧ l.length ≤ 32 ∧ (E4 c l).2 ≠ 0 ∧ r = (FZ, (E4 c l).2)) ∨
 (C4 c ∧ l.length ≤ 32 ∧ (E4 c l).2 = 0 ∧ ¬ C4 (E4 c l).1 ∧ r = (FZ, 14)) ∨ (C4 c ∧ l.length ≤ 32 ∧ (E4 c l).2 = 0 ∧ C4 (E4 c l).1 ∧ r = ((E4 c l).1, 0))
theorem I7.X3 {c : CA} {l : List C5} {r s : CA × Int} (h : I7 c l r) (k : I7 c l s) : r = s := by
 rcases h with ⟨h1, h2⟩ | ⟨h1, h2, h3⟩ | ⟨h1, h2, h3, h4⟩ | ⟨h1, h2, h3, h4, h5⟩ | ⟨h1, h2, h3, h4, h5⟩ <;> rcases k with ⟨k1, k2⟩ | ⟨k1, k2, k3⟩ | ⟨k1, k2, k3, k4⟩ | ⟨k1, k2, k3, k4, k5⟩ | ⟨k1, k2, k3, k4, k5⟩ <;> first
  | exact absurd k1 h1
  | exact absurd h1 k1
  | exact h2.trans k2.symm
  | exact h3.trans k3.symm
  | exact h4.trans k4.symm
  | exact h5.trans k5.symm
  | (exfalso; omega)
  | exact absurd h3 k3
  | exact absurd k3 h3
  | exact absurd h4 k4
  | exact absurd k4 h4
structure KK (c : CA) (k : Nat) : Prop where
 i1 : DO c.1
 i2 : DO c.2.1
 i3 : DO c.2.2.1
 p : ∀ x ∈ c.2.2.2.1, Flat.ok x
 v : ∀ x ∈ c.2.2.2.2.1, Flat.ok x
 s : ∀ x ∈ c.2.2.2.2.2, Flat.ok x
 lp : c.2.2.2.1.length ≤ 8
 lv : c.2.2.2.2.1.length ≤ 16 + k
 ls : c.2.2.2.2.2.length ≤ 16 + k
 av : G9 DJ c.2.2.2.2.1
 bs : G9 C0 c.2.2.2.2.2
theorem C4.mid {c : CA} (h : C4 c) (i1 : DO c.1) (i2 : DO c.2.1) (i3 : DO c.2.2.1) (p : ∀ x ∈ c.2.2.2.1, Flat.ok x) (v : ∀ x ∈ c.2.2.2.2.1, Flat.ok x) (s : ∀ x ∈ c.2.2.2.2.2, Flat.ok x) : KK c 0 :=
 ⟨i1, i2, i3, p, v, s, h.2.2.1.2.1, h.2.1.2.1, h.2.2.2.1, cO.1 h.2.1.2.2.2, oQ.1 h.2.2.2.2.1⟩
theorem kG {l : List GI} {i : Nat} {x y : GI} (h : y ∈ l.set i x) : y ∈ l ∨ y = x := List.mem_or_eq_of_mem_set h
theorem KK.one {c : CA} {k : Nat} (h : KK c k) {e : C5} (he : Flat.ok e) : KK (B8 c e).1 (k + 1) := by
 obtain ⟨i1, i2, i3, p, v, s, lp, lv, ls, av, bs⟩ := h
 obtain ⟨e1, e2, e3, e4⟩ := he
 have hbase : KK c (k + 1) := ⟨i1, i2, i3, p, v, s, lp, by omega, by omega, av, bs⟩
 have hput : ∀ x : GI, DO x.2.2 → KK (c.1, c.2.1, c.2.2.1, c.2.2.2.1.set e.2.1.toNat x, c.2.2.2.2) (k + 1) := fun x hx => by
  refine ⟨i1, i2, i3, fun y hy => ?_, v, s, ?_, by show c.2.2.2.2.1.length ≤ _; omega, by show c.2.2.2.2.2.length ≤ _; omega, av, bs⟩
  ·rcases kG hy with h1 | h1
   ·exact p y h1
   ·rw [h1]; exact hx
  ·show (c.2.2.2.1.set _ _).length ≤ 8
   rw [List.length_set]; exact lp
 have hpin : DO (c.2.2.2.1.getD e.2.1.toNat (false, 0, 0)).2.2 := by
  rcases Nat.lt_or_ge e.2.1.toNat c.2.2.2.1.length with h | h
  ·rw [List.getD_eq_getElem?_getD, List.getElem?_eq_getElem h]; exact p _ (List.getElem_mem h)
  ·rw [List.getD_eq_getElem?_getD, List.getElem?_eq_none h]
   show DO 0
   unfold DO; decide
 unfold B8
 split
 ·exact ⟨e3, i2, i3, p, v, s, lp, by show c.2.2.2.2.1.length ≤ _; omega, by show c.2.2.2.2.2.length ≤ _; omega, av, bs⟩
 split
 ·exact ⟨i1, e3, i3, p, v, s, lp, by show c.2.2.2.2.1.length ≤ _; omega, by show c.2.2.2.2.2.length ≤ _; omega, av, bs⟩
 split
 ·exact ⟨i1, i2, e3, p, v, s, lp, by show c.2.2.2.2.1.length ≤ _; omega, by show c.2.2.2.2.2.length ≤ _; omega, av, bs⟩
 split
 ·split
  ·exact hbase
  ·dsimp only
   split
   ·split
    ·exact hbase
    ·exact hput _ hpin
   ·split
    ·split
     ·exact hbase
     ·exact hput _ hpin
    ·exact hput _ e3
 split
 ·refine ⟨i1, i2, i3, p, fun x hx => ?_, s, lp, ?_, by show c.2.2.2.2.2.length ≤ _; omega, av.set LF _, bs⟩
  ·rcases mem_set.1 hx with h1 | ⟨h1, _⟩
   ·rw [h1]; exact e4
   ·exact v x h1
  ·have := XJ LF (l := c.2.2.2.2.1) (x := (e.2.2.2.1, e.2.2.2.2.1, e.2.2.2.2.2.1))
   show (GD DJ _ _).length ≤ _; omega
 split
 ·refine ⟨i1, i2, i3, p, v, fun x hx => ?_, lp, by show c.2.2.2.2.1.length ≤ _; omega, ?_, av, bs.set KP _⟩
  ·rcases mem_set.1 hx with h1 | ⟨h1, _⟩
   ·rw [h1]; exact ⟨e4, e2⟩
   ·exact s x h1
  ·have := XJ KP (l := c.2.2.2.2.2) (x := (e.2.2.2.2.2.2, e.2.2.2.1, e.2.1))
   show (GD C0 _ _).length ≤ _; omega
 split
 ·split
  ·refine ⟨i1, i2, i3, p, fun x hx => v x (fF.1 hx).1, s, lp, ?_, by show c.2.2.2.2.2.length ≤ _; omega, av.del _, bs⟩
   have := List.length_filter_le (fun y => DJ y (e.2.2.2.1, 0, 0) || DJ (e.2.2.2.1, 0, 0) y) c.2.2.2.2.1
   show (F9 DJ _ _).length ≤ _
   unfold F9; omega
  ·exact hbase
 split
 ·split
  ·refine ⟨i1, i2, i3, p, v, fun x hx => s x (fF.1 hx).1, lp, by show c.2.2.2.2.1.length ≤ _; omega, ?_, av, bs.del _⟩
   have := List.length_filter_le (fun y => C0 y (e.2.2.2.2.2.2, e.2.2.2.1, 0) || C0 (e.2.2.2.2.2.2, e.2.2.2.1, 0) y) c.2.2.2.2.2
   show (F9 C0 _ _).length ≤ _
   unfold F9; omega
  ·exact hbase
 ·exact hbase
theorem R6 {α : Type} {f : α → List Value} {sz : Nat} (hf : ∀ x, (f x).length = sz) : ∀ (l : List α) (k : Nat), (l.flatMap f).take (k * sz) = (l.take k).flatMap f
 | [], k => by simp
 | x :: r, 0 => by simp
 | x :: r, k + 1 => by
  rw [List.flatMap_cons, List.take_succ_cons, List.flatMap_cons, ← R6 hf r k, List.take_append, hf, List.take_of_length_le VF, show (k + 1) * sz - sz = k * sz by rw [Nat.add_mul]; omega]
theorem R7 {α : Type} {f : α → List Value} {sz : Nat} (hf : ∀ x, (f x).length = sz) : ∀ (l : List α) (k : Nat), (l.flatMap f).drop (k * sz) = (l.drop k).flatMap f
 | [], k => by simp
 | x :: r, 0 => by simp
 | x :: r, k + 1 => by
  rw [List.flatMap_cons, List.drop_succ_cons, ← R7 hf r k, List.drop_append, hf, List.drop_of_length_le VF, List.nil_append, show (k + 1) * sz - sz = k * sz by rw [Nat.add_mul]; omega]
theorem T1 {α : Type} {f : α → List Value} (hf : ∀ x, (f x).length = 3) (l : List α) (x : α) (k : Nat) : (l.flatMap f).take (k * 3) ++ f x ++ (l.flatMap f).drop (k * 3) = (l.take k ++ [x] ++ l.drop k).flatMap f := by
 rw [R6 hf, R7 hf]; simp
theorem TW {α : Type} {f : α → List Value} (hf : ∀ x, (f x).length = 3) (l : List α) (x : α) (k : Nat) : (l.flatMap f).take (k * 3) ++ f x ++ (l.flatMap f).drop (k * 3 + 3) = (l.take k ++ [x] ++ l.drop (k + 1)).flatMap f := by
 rw [R6 hf, show k * 3 + 3 = (k + 1) * 3 by omega, R7 hf]; simp
theorem aO {α : Type} {f : α → List Value} (hf : ∀ x, (f x).length = 3) (l : List α) (k : Nat) : (l.flatMap f).take (k * 3) ++ (l.flatMap f).drop (k * 3 + 3) = (l.take k ++ l.drop (k + 1)).flatMap f := by
 rw [R6 hf, show k * 3 + 3 = (k + 1) * 3 by omega, R7 hf]; simp
theorem JO (x : FM) : ∀ v ∈ BW x, v.oneCell' = true := by simp [Value.oneCell']
theorem GF (x : EI) : ∀ v ∈ BJ x, v.oneCell' = true := by simp [Value.oneCell', AU]
abbrev gZ (l : List FM) (t : FM) := { p : Nat × Bool // J4 C0 l t p.1 ∧ (p.2 = true ↔ GK C0 t l = true) }
theorem sU (n : Nat) : ((n : Int)).fdiv (2 ^ (min (Int.toNat 1) 64)) = ((n / 2 : Nat) : Int) := by
 rw [Int.fdiv_eq_ediv_of_nonneg _ AF]
 simp
theorem nO {x y : FM} : GW x y = 0 ↔ C0 x y = false ∧ C0 y x = false := by
 have h1 := PU (x := x) (y := y)
 have h2 := PU (x := y) (y := x)
 unfold GW C0 at *
 rw [decide_eq_true_iff] at h1 h2
 rw [decide_eq_false_iff_not, decide_eq_false_iff_not]
 by_cases h : HY x.2.1 y.2.1 = 0
 ·have e := OT.1 h
  rw [if_pos h, OT]
  omega
 have : ¬ x.2.1 = y.2.1 := fun e => h (OT.2 e)
 rw [if_neg h]
 omega
theorem pI (D : Nat → Prop) (w : World) (v : Value) (l : List FM) (t : FM) (hl : l.length ≤ 1000000) (hr : G9 C0 l) (HA : Old D w (AX.rep l [v])) :
  Calls Tryz.prog 131 #[v, .agg (BW t).toArray, .func (.func 119) #[] #[]] w fun e w' => ∃ b : gZ l t, e = .returned (.tuple #[.int .i64 b.1.1, .bool b.1.2]) ∧ AH D w w' [] := by
 obtain ⟨A, cap, rfl, hc1, hc2, HS, hok⟩ := HA.EG
 have HS : CS D w A (l.flatMap BW) := HS
 refine BZ (vs := [.slice A l.length cap, .agg (BW t).toArray, .func (.func 119) #[] #[]]) Tryz.func131 rfl _ Tryz.ntmps131 rfl (AH.start D w) ?_
 simp only [BX, Nat.zero_add]
 refine zg <| AV (EE rfl rfl) rfl rfl rfl fun b4 =>  ?_
 refine zs rfl <| zs rfl <| zn <| zg <| zm rfl <| zv BN <| ?_
 refine zs rfl <| zn <| zg <| zm rfl <| zs rfl <| zs rfl <| zn <| AG <| BK <| PI (σ := Nat × Nat) [0, 2, 4, 8] rfl 9 (fun s => .int .i64 (s.1 : Int)) 10 (fun s => .int .i64 (s.2 : Int)) (fun s => s.1 ≤ s.2 ∧ s.2 ≤ l.length ∧ (∀ q (h : q < l.length), q < s.1 → C0 l[q] t = true) ∧ (∀ q (h : q < l.length), s.2 ≤ q → C0 l[q] t = false)) (fun s => s.2 - s.1) ((0, l.length)) (⟨Nat.zero_le _, Nat.le_refl _, fun _ _ h => absurd h (Nat.not_lt_zero _), fun q h h2 => absurd h2 (by simpa using h)⟩) rfl rfl ?_
 rintro ⟨i, j⟩ hj_ K1 hK1
 dsimp only at hj_ ⊢
 obtain ⟨hij, hj, h1, h2⟩ := hj_
 refine AG <| zg <| zm rfl <| zm rfl <| zv (B7 rfl rfl) <| zn <| BP rfl (fun h => ?_) (fun h => ?_)
 ·have hlt : i < j := by omega
  obtain ⟨m, hm⟩ : ∃ m, (i + j) / 2 = m := ⟨_, rfl⟩
  have hmi : i ≤ m := by omega
  have hmj : m < j := by omega
  have hml : m < l.length := by omega
  have hcc := fun l' => (CS.EP (D := D) (w0 := w) (f := BW) (sz := 3) (fun _ => rfl) AF HS hml l')
  have hA := (hcc []).1
  have hlo : C0 l[m] t = true → ∀ q (h : q < l.length), q < m + 1 → C0 l[q] t = true := fun hx q hq h3 => by
   rcases Nat.lt_or_ge q m with h4 | h4
   ·exact KP.tr _ _ _ (hr.get q m hq hml h4) hx
   ·obtain rfl : q = m := by omega
    exact hx
  have hhi : C0 l[m] t = false → ∀ q (h : q < l.length), m ≤ q → C0 l[q] t = false := fun hx q hq h3 => by
   rcases Nat.lt_or_ge m q with h4 | h4
   ·cases e : C0 l[q] t with
    | false => rfl
    | true => have := KP.tr _ _ _ (hr.get m q hml hq h4) e; rw [hx] at this; cases this
   ·obtain rfl : q = m := by omega
    exact hx
  generalize l[m] = x at *
  refine zk <| BK <| zg <| zm rfl <| zm rfl <| zv (BM rfl rfl BO) <| ?_
  refine zv (CD rfl J2) <| ?_
  refine AZ (JT (m := (m : Int)) rfl rfl AF (by rw [← hm]; exact sU (i + j))) rfl ?_
  refine zv (CD rfl BO) <| ?_
  refine zs rfl <| zn <| AG <| EF [AI b4 149 (BW t)] mixed 8 rfl ?_
  refine AE 0 rfl (AO rfl) rfl <| AE 1 rfl (AO rfl) rfl <| AE 2 rfl (AO rfl) rfl <| AE 3 rfl (CZ rfl DP rfl _ rfl AA) rfl <| ?_
  refine AE 5 rfl DY rfl <| ?_
  refine AL 4 AB <| CW rfl (D4 (cs := BW x) rfl rfl (hcc _).2) rfl <| AL 6 AB <| gS rfl rfl (fun _ _ => Tryz.call119 _ _) rfl (fun w1 => D6 fun D' _ _ _ => VV D' w1 x t) ?_
  refine AE 7 rfl (B7 rfl rfl) rfl <| BY AB <| zt <| ?_
  refine BP rfl (fun hx => ?_) (fun hx => ?_)
  ·have hx' := PU.1 hx
   have hn := hlo hx'
   refine AR <| zm rfl <| zv (BM rfl rfl BO) <| ?_
   refine zs rfl <| AS <| zb <| B5 hK1 ((m + 1, j)) (⟨hmj, hj, hn, h2⟩) (by show j - (m + 1) < j - i; omega) BD BL
  have hx' : C0 x t = false := by
   cases e : C0 x t with
   | false => rfl
   | true => exact absurd (PU.2 e) hx
  have hn := hhi hx'
  refine AR <| zm rfl <| zs rfl <| AS <| zb <| B5 hK1 ((i, m)) (⟨hmi, by omega, h1, hn⟩) (by show m - i < j - i; omega) BD BL
 have hie : j = i := by omega
 subst hie
 have hat : J4 C0 l t j := ⟨hj, h1, h2⟩
 have hhas := RH KP hr hat
 refine CF <| ze <| ze <| CE <| zt <| AG <| EF [AI b4 149 (BW t)] mixed 16 rfl ?_
 refine AE 0 rfl (AO rfl) rfl <| AE 1 rfl (AO rfl) rfl <| AE 2 rfl (AO rfl) rfl <| AE 3 rfl (B7 rfl rfl) rfl <| AE 4 rfl (AO rfl) rfl <| N0 (t := 39) rfl (fun hp => ?_) (fun hp => ?_)
 ·have hjl : j < l.length := by omega
  have hcc := fun l' => (CS.EP (D := D) (w0 := w) (f := BW) (sz := 3) (fun _ => rfl) AF HS hjl l')
  have hA := (hcc []).1
  have hres : ∀ b : Bool, (b = true ↔ C0 t l[j] = false) → (b = true ↔ GK C0 t l = true) := fun b hb => by
   rw [hhas, hb]
   exact ⟨fun h => ⟨hjl, h⟩, fun ⟨_, h⟩ => h⟩
  have hlow := h2 j hjl (Nat.le_refl _)
  generalize l[j] = x at *
  refine AE 5 rfl (AO rfl) rfl <| AE 6 rfl (AO rfl) rfl <| AE 7 rfl (AO rfl) rfl <| AE 8 rfl (CZ rfl DP rfl _ rfl AA) rfl <| ?_
  refine AE 10 rfl DY rfl <| ?_
  refine AL 9 AB <| CW rfl (D4 (cs := BW x) rfl rfl (hcc _).2) rfl <| AL 11 AB <| gS rfl rfl (fun _ _ => Tryz.call119 _ _) rfl (fun w1 => D6 fun D' _ _ _ => VV D' w1 x t) ?_
  refine AE 12 rfl (CO rfl rfl) rfl <| AE 13 rfl (BF rfl rfl) rfl <| AE 14 rfl (DH rfl) rfl <| AE 15 rfl (DH rfl) rfl <| BY AB <| zt <| zq <| ?_
  exact E5 (.inr rfl) rfl rfl rfl fun w' H' => ⟨⟨(j, decide (GW x t = 0)), hat, hres _ (by rw [decide_eq_true_iff, nO]; exact ⟨fun h => h.2, fun h => ⟨hlow, h⟩⟩)⟩, rfl, H'.AK (AD.nil _)⟩
 refine CM 5 rfl rfl <| CM 6 rfl rfl <| CM 7 rfl rfl <| CM 8 rfl rfl <| CM 9 rfl rfl <| CM 10 rfl rfl <| AL 11 AB <| OC rfl rfl <| CM 12 rfl rfl <| AE 13 rfl (A8 rfl rfl) rfl <| AE 14 rfl (DH rfl) rfl <| AE 15 rfl (DH rfl) rfl <| BY AB <| zt <| zq <| ?_
 exact E5 (.inr rfl) rfl rfl rfl fun w' H' => ⟨⟨(j, false), hat, by simp only [Bool.false_eq_true, false_iff]; intro h; obtain ⟨h, _⟩ := hhas.1 h; omega⟩, rfl, H'.AK (AD.nil _)⟩
def E8 (c : CA) (e : C5) : CA × Int :=
 if e.2.1 < 0 ∨ (c.2.2.2.1.length : Int) ≤ e.2.1 then (c, 1)
 else
  let p := c.2.2.2.1.getD e.2.1.toNat (false, 0, 0)
  let put := fun x : GI => (c.1, c.2.1, c.2.2.1, c.2.2.2.1.set e.2.1.toNat x, c.2.2.2.2)
  if e.1 = 4 then if e.2.2.1 ≠ 0 ∧ e.2.2.1 ≠ 1 then (c, 1) else (put (decide (e.2.2.1 = 1), p.2), 0)
  else if e.1 = 5 then if e.2.2.1 < 0 ∨ 4294967295 < e.2.2.1 then (c, 1) else (put (p.1, UInt32.ofNat e.2.2.1.toNat, p.2.2), 0)
  else (put (p.1, p.2.1, e.2.2.1), 0)
theorem NT {c : CA} {e : C5} (h : 4 ≤ e.1 ∧ e.1 ≤ 6) : B8 c e = E8 c e := by
 unfold B8 E8
 rw [if_neg AA, if_neg AA, if_neg AA, if_pos h]
abbrev DC (g : Nat) (c : CA) (q : DA) : List AQ := AI g 49 (B3 c q) :: C6 c q
def IJ (g : Nat) (c : CA) : AQ := GQ fun q : DA => DC g c q
theorem D1 {g : Nat} {c : CA} (q : DA) {l : List AQ} : AD (DC g c q ++ l) (IJ g c :: l) := AD.GQ (L := fun q : DA => DC g c q) q
theorem WQ (D : Nat → Prop) (w : World) (g : Nat) (c : CA) (e : C5) (hi2 : DO e.2.1) (hp : c.2.2.2.1.length ≤ 1000) (hk : 4 ≤ e.1 ∧ e.1 ≤ 6) (H : AH D w w [IJ g c]) :
  Calls Tryz.prog 132 #[.pointer (some ⟨g, 0, none⟩), .agg (DL e).toArray] w fun r w' => r = .returned (.int .i64 (E8 c e).2) ∧ AH D w w' [IJ g (E8 c e).1] := by
 obtain ⟨q, H⟩ := AH.exs H
 refine BZ (vs := [.pointer (some ⟨g, 0, none⟩), .agg (DL e).toArray]) Tryz.func132 rfl _ Tryz.ntmps132 rfl H ?_
 simp only [BX, Nat.zero_add]
 refine HC.AK (l' := DC g c q) (fun _ h => h) ?_
 refine zg <| AV (EE rfl rfl) rfl rfl rfl fun b3 =>  ?_
 refine zs rfl <| zn <| AG <| AG <| GM mixed AB <| ?_
 refine AM (AP rfl) rfl <| AM (zw rfl rfl) rfl <| AM (B7 rfl rfl) rfl <| AM (AO rfl) rfl <| ?_
 refine JC (t := 9) rfl (fun h1 => ?_) (fun h1 => ?_)
 ·have hres : E8 c e = (c, 1) := by unfold E8; rw [if_pos (.inl h1)]
  refine BG rfl rfl rfl rfl rfl rfl <| BG rfl rfl rfl rfl rfl rfl <| BG rfl rfl rfl rfl rfl rfl <| BG rfl rfl rfl rfl rfl rfl <| BG rfl rfl rfl rfl rfl rfl <| BG rfl rfl rfl rfl rfl rfl <| ?_
  refine BG rfl rfl rfl rfl rfl rfl <| BG rfl rfl rfl rfl rfl rfl <| AM (BF rfl rfl) rfl <| EM <| zt <| DD rfl <| ?_
  refine zg <| zs rfl <| zn <| zq <| zr <| ?_
  exact zz rfl rfl fun w' H' => ⟨by rw [hres], H'.AK (AD.trans (b := DC g c q) Z8 S9)⟩
 refine B6 rfl rfl <| AM (AP rfl) rfl <| B6 rfl rfl <| AM (zw rfl rfl) rfl <| B6 rfl rfl <| AM (AO rfl) rfl <| B6 rfl rfl <| AM (AY rfl) rfl <| B6 rfl rfl <| AM (AP rfl) rfl <| B6 rfl rfl <| AM (zw rfl rfl) rfl <| ?_
 refine B6 rfl rfl <| AM BN rfl <| ?_
 refine B6 rfl rfl <| AM (GN rfl rfl) rfl <| AM (A8 rfl rfl) rfl <| EM <| zt <| ?_
 refine BP rfl (fun h2 => ?_) (fun h2 => ?_)
 ·have hres : E8 c e = (c, 1) := by unfold E8; rw [if_pos (.inr h2)]
  refine zg <| zs rfl <| zn <| zq <| zr <| ?_
  exact zz rfl rfl fun w' H' => ⟨by rw [hres], H'.AK (AD.trans (b := DC g c q) Z8 S9)⟩
 have hlt : e.2.1.toNat < c.2.2.2.1.length := by omega
 refine HC.fact (fun w H => AH.GS q.1.1 H) ?_
 rintro ⟨hpl, hpc, _, hA⟩
 have hA : CU q.1.1 := hA VD
 obtain ⟨i, hi⟩ : ∃ i, i = e.2.1.toNat := ⟨_, rfl⟩
 have hii : (i : Int) = e.2.1 := by omega
 rw [← hi] at hlt
 have hgd : c.2.2.2.1.getD i (false, 0, 0) = c.2.2.2.1[i] := by rw [List.getD_eq_getElem?_getD, List.getElem?_eq_getElem hlt]; rfl
 have hfl := FU (f := CJ) (sz := 3) (fun _ => rfl) c.2.2.2.1
 refine zk <| AG <| GM mixed AB <| AM (AO rfl) rfl <| AM (AY rfl) rfl <| ?_
 refine AM (AP rfl) rfl <| AM (zw rfl rfl) rfl <| AM (AP rfl) rfl <| AM (zw rfl rfl) rfl <| ?_
 refine AM (CZ rfl hA rfl i AA AA) rfl ?_
 refine AM (DH rfl) rfl <| EM <| zt <| AG <| zg <| ?_
 refine zf rfl <| zl rfl rfl <| zn <| BK <| AG <| ?_
 refine AR <| zv (CO rfl rfl) <| zs rfl <| zn <| BP rfl (fun k1 => ?_) (fun k1 => ?_)
 ·have k1 : e.1 = 4 := k1
  refine AG <| zg <| zf rfl <| zl rfl rfl <| zv (CG rfl rfl) <| ?_
  refine zm rfl <| DB (t := 38) rfl (fun k2 => ?_) (fun k2 => ?_)
  ·refine AJ rfl rfl <| zf rfl <| AJ rfl rfl <| zl rfl rfl <| AJ rfl rfl <| zv (CG rfl rfl) <| zv (BF rfl rfl) <| zn <| ?_
   refine BP rfl (fun k3 => ?_) (fun k3 => ?_)
   ·have hres : E8 c e = (c, 1) := by unfold E8; rw [if_neg AA, if_pos k1, if_pos ⟨k2, k3⟩]
    refine zg <| zs rfl <| zn <| zq <| zr <| B4 <| zr <| ?_
    exact zz rfl rfl fun w' H' => ⟨by rw [hres], H'.AK (AD.trans (b := DC g c q) Z8 S9)⟩
   have hres : E8 c e = ((c.1, c.2.1, c.2.2.1, c.2.2.2.1.set i (decide (e.2.2.1 = 1), c.2.2.2.1[i].2), c.2.2.2.2), 0) := by unfold E8; rw [if_neg AA, if_pos k1, if_neg AA, ← hi]; dsimp only; rw [hgd]
   refine zk <| AR <| zm rfl <| zf rfl <| zl rfl rfl <| ?_
   refine zv (CO rfl rfl) <| zv (AY rfl) <| zf rfl <| ?_
   refine A6 (OP (A := q.1.1) (i * 3 + 0) ((c.2.2.2.1.set i (decide (e.2.2.1 = 1), c.2.2.2.1[i].2)).flatMap CJ) rfl rfl AA O9 rfl (NV (f := CJ) (sz := 3) (fun _ => rfl) _ i 0 _ _ hlt AF rfl)) rfl rfl ?_
   refine AS <| zb <| zt <| zg <| zs rfl <| zn <| zq <| ?_
   exact zz rfl rfl fun w' H' => ⟨by rw [hres], H'.AK (AD.trans (b := DC g (E8 c e).1 q) Z1 (D1 (l := []) q))⟩
  have hres : E8 c e = ((c.1, c.2.1, c.2.2.1, c.2.2.2.1.set i (decide (e.2.2.1 = 1), c.2.2.2.1[i].2), c.2.2.2.2), 0) := by unfold E8; rw [if_neg AA, if_pos k1, if_neg AA, ← hi]; dsimp only; rw [hgd]
  refine zo rfl rfl <| zo rfl rfl <| zo rfl rfl <| zv (A8 rfl rfl) <| zn <| EU rfl <| zk <| AR <| zm rfl <| zf rfl <| ?_
  refine zl rfl rfl <| zv (CO rfl rfl) <| zv (AY rfl) <| zf rfl <| ?_
  refine A6 (OP (A := q.1.1) (i * 3 + 0) ((c.2.2.2.1.set i (decide (e.2.2.1 = 1), c.2.2.2.1[i].2)).flatMap CJ) rfl rfl AA O9 rfl (NV (f := CJ) (sz := 3) (fun _ => rfl) _ i 0 _ _ hlt AF rfl)) rfl rfl ?_
  refine AS <| zb <| zt <| zg <| zs rfl <| zn <| zq <| ?_
  exact zz rfl rfl fun w' H' => ⟨by rw [hres], H'.AK (AD.trans (b := DC g (E8 c e).1 q) Z1 (D1 (l := []) q))⟩
 refine zg <| zv (CO rfl rfl) <| zs rfl <| zn <| BP rfl (fun k2 => ?_) (fun k2 => ?_)
 ·have k2 : e.1 = 5 := k2
  refine AG <| zg <| zf rfl <| zl rfl rfl <| zv (B7 rfl rfl) <| ?_
  refine zm rfl <| DB (t := 54) rfl (fun k3 => ?_) (fun k3 => ?_)
  ·have hres : E8 c e = (c, 1) := by unfold E8; rw [if_neg AA, if_neg AA, if_pos k2, if_pos (.inl k3)]
   refine zo rfl rfl <| zo rfl rfl <| zo rfl rfl <| zv (BF rfl rfl) <| zn <| DD rfl <| zg <| zs rfl <| zn <| zq <| zr <| B4 <| zr <| ?_
   exact zz rfl rfl fun w' H' => ⟨by rw [hres], H'.AK (AD.trans (b := DC g c q) Z8 S9)⟩
  refine AJ rfl rfl <| zf rfl <| AJ rfl rfl <| zl rfl rfl <| AJ rfl rfl <| zv (DV rfl rfl) <| zv (A8 rfl rfl) <| zn <| ?_
  refine BP rfl (fun k4 => ?_) (fun k4 => ?_)
  ·have hres : E8 c e = (c, 1) := by unfold E8; rw [if_neg AA, if_neg AA, if_pos k2, if_pos (.inr k4)]
   refine zg <| zs rfl <| zn <| zq <| zr <| B4 <| zr <| ?_
   exact zz rfl rfl fun w' H' => ⟨by rw [hres], H'.AK (AD.trans (b := DC g c q) Z8 S9)⟩
  have hres : E8 c e = ((c.1, c.2.1, c.2.2.1, c.2.2.2.1.set i (c.2.2.2.1[i].1, UInt32.ofNat e.2.2.1.toNat, c.2.2.2.1[i].2.2), c.2.2.2.2), 0) := by unfold E8; rw [if_neg AA, if_neg AA, if_pos k2, if_neg AA, ← hi]; dsimp only; rw [hgd]
  have hu : ((UInt32.ofNat e.2.2.1.toNat).toNat : Int) = e.2.2.1 := by rw [UInt32.toNat_ofNat']; omega
  refine zk <| AR <| zm rfl <| zf rfl <| zl rfl rfl <| ?_
  refine AZ (CD (m := e.2.2.1) rfl (wrap_u32 AA)) rfl ?_
  refine zv (AY rfl) <| zf rfl <| ?_
  refine A6 (OP (A := q.1.1) (i * 3 + 1) ((c.2.2.2.1.set i (c.2.2.2.1[i].1, UInt32.ofNat e.2.2.1.toNat, c.2.2.2.1[i].2.2)).flatMap CJ) rfl rfl AA O9 rfl (NV (f := CJ) (sz := 3) (fun _ => rfl) _ i 1 _ _ hlt AF (by show [_, Value.int .u32 ((UInt32.ofNat e.2.2.1.toNat).toNat : Int), _] = _; rw [hu]; rfl))) rfl rfl ?_
  refine AS <| zb <| zt <| zg <| zs rfl <| zn <| zq <| ?_
  exact zz rfl rfl fun w' H' => ⟨by rw [hres], H'.AK (AD.trans (b := DC g (E8 c e).1 q) Z1 (D1 (l := []) q))⟩
 have hres : E8 c e = ((c.1, c.2.1, c.2.2.1, c.2.2.2.1.set i (c.2.2.2.1[i].1, c.2.2.2.1[i].2.1, e.2.2.1), c.2.2.2.2), 0) := by unfold E8; rw [if_neg AA, if_neg AA, if_neg AA, ← hi]; dsimp only; rw [hgd]
 refine AR <| zm rfl <| zf rfl <| zl rfl rfl <| zv (AY rfl) <| zf rfl <| ?_
 refine A6 (OP (A := q.1.1) (i * 3 + 2) ((c.2.2.2.1.set i (c.2.2.2.1[i].1, c.2.2.2.1[i].2.1, e.2.2.1)).flatMap CJ) rfl rfl AA O9 rfl (NV (f := CJ) (sz := 3) (fun _ => rfl) _ i 2 _ _ hlt AF rfl)) rfl rfl ?_
 refine AS <| zb <| zt <| zg <| zs rfl <| zn <| zq <| ?_
 exact zz rfl rfl fun w' H' => ⟨by rw [hres], H'.AK (AD.trans (b := DC g (E8 c e).1 q) Z1 (D1 (l := []) q))⟩
end Go.Proofs.YtjlolpmmpafjeaaGreat
