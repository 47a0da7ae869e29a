import Derived.Test.YtjlolpmmpafjeaaGreatV05
set_option linter.unusedVariables false
set_option linter.unusedSimpArgs false
namespace Go.Proofs.YtjlolpmmpafjeaaGreat
open Slk
structure Ord {α : Type} (lt : α → α → Bool) : Prop where
 ir : ∀ a, lt a a = false
 tr : ∀ a b c, lt a b = true → lt b c = true → lt a c = true
 ne : ∀ a b c, lt a c = true → lt a b = true ∨ lt b c = true
def setL {α : Type} (lt : α → α → Bool) (x : α) (l : List α) : List α := l.filter (fun y => lt y x) ++ [x] ++ l.filter (fun y => lt x y)
def delL {α : Type} (lt : α → α → Bool) (x : α) (l : List α) : List α := l.filter (fun y => lt y x || lt x y)
def hasL {α : Type} (lt : α → α → Bool) (x : α) (l : List α) : Bool := l.any (fun y => !lt y x && !lt x y)
abbrev Asc {α : Type} (lt : α → α → Bool) (l : List α) : Prop := l.Pairwise (fun a b => lt a b = true)
section
variable {α : Type} {lt : α → α → Bool}
theorem Asc.get {l : List α} (h : Asc lt l) : ∀ (i j : Nat) (hi : i < l.length) (hj : j < l.length), i < j → lt l[i] l[j] = true := fun i j hi hj hij => List.pairwise_iff_getElem.1 h i j hi hj hij
theorem Asc.of_adj (o : Ord lt) {l : List α} (h : ∀ i (hi : i < l.length), 0 < i → lt (l[i - 1]'(by omega)) l[i] = true) : Asc lt l := by
 refine List.pairwise_iff_getElem.2 fun i j hi hj hij => ?_
 induction j with
 | zero => omega
 | succ j ih =>
  have h1 := h (j + 1) hj Z64
  simp only [Nat.add_sub_cancel] at h1
  rcases Nat.lt_or_ge i j with h2 | h2
  ·exact o.tr _ _ _ (ih Z64 h2) h1
  ·obtain rfl : i = j := by omega
   exact h1
theorem asy (o : Ord lt) {a b : α} (h : lt a b = true) : lt b a = false := by
 cases e : lt b a with
 | false => rfl
 | true => have := o.tr _ _ _ h e; rw [o.ir] at this; cases this
def atL (lt : α → α → Bool) (l : List α) (x : α) (k : Nat) : Prop := k ≤ l.length ∧ (∀ q (h : q < l.length), q < k → lt l[q] x = true) ∧ ∀ q (h : q < l.length), k ≤ q → lt l[q] x = false
theorem filter_all {p : α → Bool} {l : List α} (h : ∀ x ∈ l, p x = true) : l.filter p = l := List.filter_eq_self.2 h
theorem filter_none {p : α → Bool} {l : List α} (h : ∀ x ∈ l, p x = false) : l.filter p = [] := List.filter_eq_nil_iff.2 fun x hx => by rw [h x hx]; decide
theorem at_take {l : List α} {x : α} {k : Nat} (h : atL lt l x k) : ∀ y ∈ l.take k, lt y x = true := fun y hy => by
 obtain ⟨i, hi, rfl⟩ := List.getElem_of_mem hy
 rw [List.getElem_take]
 rw [List.length_take] at hi
 exact h.2.1 i Z64 Z64
theorem at_drop {l : List α} {x : α} {k : Nat} (h : atL lt l x k) : ∀ y ∈ l.drop k, lt y x = false := fun y hy => by
 obtain ⟨i, hi, rfl⟩ := List.getElem_of_mem hy
 rw [List.getElem_drop]
 rw [List.length_drop] at hi
 exact h.2.2 (k + i) Z64 Z64
theorem filter_split (l : List α) (k : Nat) (p : α → Bool) : l.filter p = (l.take k).filter p ++ (l.drop k).filter p := by
 rw [← List.filter_append, List.take_append_drop]
theorem at_below (o : Ord lt) {l : List α} {x : α} {k : Nat} (h : atL lt l x k) : l.filter (fun y => lt y x) = l.take k := by
 rw [filter_split l k, filter_all (at_take h), filter_none (at_drop h), List.append_nil]
theorem at_above (o : Ord lt) {l : List α} {x : α} {k : Nat} (hs : Asc lt l) (h : atL lt l x k) (hn : ∀ (hk : k < l.length), lt x l[k] = true) : l.filter (fun y => lt x y) = l.drop k := by
 rw [filter_split l k, filter_none (fun y hy => asy o (at_take h y hy)), filter_all, List.nil_append]
 intro y hy
 obtain ⟨i, hi, rfl⟩ := List.getElem_of_mem hy
 rw [List.getElem_drop]
 rw [List.length_drop] at hi
 have hk : k < l.length := by omega
 rcases Nat.eq_zero_or_pos i with h0 | h0
 ·subst h0; exact hn hk
 ·exact o.tr _ _ _ (hn hk) (hs.get k (k + i) hk Z64 Z64)
theorem at_above1 (o : Ord lt) {l : List α} {x : α} {k : Nat} (hs : Asc lt l) (h : atL lt l x k) (hk : k < l.length) (he : lt x l[k] = false) : l.filter (fun y => lt x y) = l.drop (k + 1) := by
 rw [filter_split l k, filter_none (fun y hy => asy o (at_take h y hy)), List.nil_append, List.drop_eq_getElem_cons hk, List.filter_cons_of_neg Z54, filter_all]
 intro y hy
 obtain ⟨i, hi, rfl⟩ := List.getElem_of_mem hy
 rw [List.getElem_drop]
 rw [List.length_drop] at hi
 have h1 := hs.get k (k + 1 + i) hk Z64 Z64
 rcases o.ne _ x _ h1 with h2 | h2
 ·rw [h.2.2 k hk (Nat.le_refl _)] at h2; cases h2
 ·exact h2
theorem has_at (o : Ord lt) {l : List α} {x : α} {k : Nat} (hs : Asc lt l) (h : atL lt l x k) : hasL lt x l = true ↔ ∃ hk : k < l.length, lt x l[k] = false := by
 unfold hasL
 rw [List.any_eq_true]
 constructor
 ·rintro ⟨y, hy, hp⟩
  rw [Bool.and_eq_true, Bool.not_eq_true', Bool.not_eq_true'] at hp
  obtain ⟨i, hi, rfl⟩ := List.getElem_of_mem hy
  rcases Nat.lt_trichotomy i k with h1 | h1 | h1
  ·rw [h.2.1 i hi h1] at hp; cases hp.1
  ·subst h1; exact ⟨hi, hp.2⟩
  ·have hk : k < l.length := by omega
   have h2 := hs.get k i hk hi h1
   rcases o.ne _ x _ h2 with h3 | h3
   ·rw [h.2.2 k hk (Nat.le_refl _)] at h3; cases h3
   ·rw [hp.2] at h3; cases h3
 ·rintro ⟨hk, he⟩
  exact ⟨l[k], List.getElem_mem hk, by rw [he, h.2.2 k hk (Nat.le_refl _)]; rfl⟩
theorem set_new (o : Ord lt) {l : List α} {x : α} {k : Nat} (hs : Asc lt l) (h : atL lt l x k) (hn : hasL lt x l = false) : setL lt x l = l.take k ++ [x] ++ l.drop k := by
 unfold setL
 rw [at_below o h, at_above o hs h]
 intro hk
 cases e : lt x l[k] with
 | true => rfl
 | false => have := (has_at o hs h).2 ⟨hk, e⟩; rw [this] at hn; cases hn
theorem set_old (o : Ord lt) {l : List α} {x : α} {k : Nat} (hs : Asc lt l) (h : atL lt l x k) (hn : hasL lt x l = true) : k < l.length ∧ setL lt x l = l.take k ++ [x] ++ l.drop (k + 1) := by
 obtain ⟨hk, he⟩ := (has_at o hs h).1 hn
 refine ⟨hk, ?_⟩
 unfold setL
 rw [at_below o h, at_above1 o hs h hk he]
theorem del_old (o : Ord lt) {l : List α} {x : α} {k : Nat} (hs : Asc lt l) (h : atL lt l x k) (hn : hasL lt x l = true) : k < l.length ∧ delL lt x l = l.take k ++ l.drop (k + 1) := by
 obtain ⟨hk, he⟩ := (has_at o hs h).1 hn
 refine ⟨hk, ?_⟩
 unfold delL
 have e1 := at_above1 o hs h hk he
 rw [filter_split l k, filter_none (fun y hy => asy o (at_take h y hy)), List.nil_append] at e1
 rw [filter_split l k]
 congr 1
 ·exact filter_all fun y hy => by rw [at_take h y hy]; rfl
 ·rw [← e1]
  refine List.filter_congr fun y hy => ?_
  rw [at_drop h y hy]; rfl
theorem Asc.set (o : Ord lt) {l : List α} (x : α) (h : Asc lt l) : Asc lt (setL lt x l) := by
 unfold setL
 refine List.pairwise_append.2 ⟨List.pairwise_append.2 ⟨h.filter _, List.pairwise_singleton _ _, fun a ha b hb => ?_⟩, h.filter _, fun a ha b hb => ?_⟩
 ·rw [List.mem_singleton.1 hb]
  exact (List.mem_filter.1 ha).2
 ·have hb := (List.mem_filter.1 hb).2
  rcases List.mem_append.1 ha with h1 | h1
  ·exact o.tr _ _ _ (List.mem_filter.1 h1).2 hb
  ·rw [List.mem_singleton.1 h1]; exact hb
theorem Asc.del {l : List α} (x : α) (h : Asc lt l) : Asc lt (delL lt x l) := h.filter _
theorem mem_set {l : List α} {x y : α} : y ∈ setL lt x l ↔ y = x ∨ (y ∈ l ∧ (lt y x = true ∨ lt x y = true)) := by
 unfold setL
 simp only [List.mem_append, List.mem_filter, List.mem_singleton]
 constructor
 ·rintro ((⟨h1, h2⟩ | h) | ⟨h1, h2⟩)
  ·exact .inr ⟨h1, .inl h2⟩
  ·exact .inl h
  ·exact .inr ⟨h1, .inr h2⟩
 ·rintro (h | ⟨h1, h2 | h2⟩)
  ·exact .inl (.inr h)
  ·exact .inl (.inl ⟨h1, h2⟩)
  ·exact .inr ⟨h1, h2⟩
theorem mem_del {l : List α} {x y : α} : y ∈ delL lt x l ↔ y ∈ l ∧ (lt y x = true ∨ lt x y = true) := by
 unfold delL
 rw [List.mem_filter, Bool.or_eq_true]
theorem set_len {l : List α} (o : Ord lt) {x : α} : (setL lt x l).length ≤ l.length + 1 := by
 unfold setL
 simp only [List.length_append, List.length_singleton]
 have h : ∀ l : List α, (l.filter (fun y => lt y x)).length + (l.filter (fun y => lt x y)).length ≤ l.length := fun l => by
  induction l with
  | nil => simp
  | cons y r ih =>
   have ha : lt y x = true → lt x y = true → False := fun h1 h2 => by have := asy o h1; rw [h2] at this; cases this
   cases h1 : lt y x <;> cases h2 : lt x y <;> simp only [List.filter_cons, h1, h2, if_true, Bool.false_eq_true, if_false, List.length_cons]
   ·omega
   ·omega
   ·omega
   ·exact absurd h2 (by simpa using ha h1)
 have := h l
 omega
end
def ltV (a b : VlanC) : Bool := decide (a.1 < b.1)
def ltS (a b : StatC) : Bool := decide (a.2.1 < b.2.1 ∨ a.2.1 = b.2.1 ∧ (a.1.toNat : Int) < b.1.toNat)
theorem ordV : Ord ltV := ⟨fun a => by simp [ltV], fun a b c h1 h2 => by unfold ltV at *; simp only [decide_eq_true_iff] at *; omega, fun a b c h => by unfold ltV at *; simp only [decide_eq_true_iff] at *; omega⟩
theorem ordS : Ord ltS := ⟨fun a => by simp [ltS], fun a b c h1 h2 => by unfold ltS at *; simp only [decide_eq_true_iff] at *; omega, fun a b c h => by unfold ltS at *; simp only [decide_eq_true_iff] at *; omega⟩
theorem byPl_lt {x y : StatC} : byPl x y < 0 ↔ ltS x y = true := by
 unfold byPl ltS
 rw [decide_eq_true_iff]
 by_cases h : cmpI x.2.1 y.2.1 = 0
 ·rw [if_pos h, cmpI_neg]
  have := cmpI_zero.1 h
  omega
 ·rw [if_neg h, cmpI_neg]
  have : ¬ x.2.1 = y.2.1 := fun e => h (cmpI_zero.2 e)
  omega
theorem risV_iff {l : List VlanC} : risP cV l ↔ Asc ltV l := by
 constructor
 ·intro h
  exact Asc.of_adj ordV fun i hi h0 => decide_eq_true (cmpI_neg.1 (h i hi h0))
 ·intro h i hi h0
  exact cmpI_neg.2 (of_decide_eq_true (h.get (i - 1) i Z64 hi Z64))
theorem risS_iff {l : List StatC} : risP byPl l ↔ Asc ltS l := by
 constructor
 ·intro h
  exact Asc.of_adj ordS fun i hi h0 => byPl_lt.1 (h i hi h0)
 ·intro h i hi h0
  exact byPl_lt.2 (h.get (i - 1) i Z64 hi Z64)
def oneC (c : ConfC) (e : EditC) : ConfC × Int :=
 if e.1 = 1 then ((e.2.2.1, c.2), 0)
 else if e.1 = 2 then ((c.1, e.2.2.1, c.2.2), 0)
 else if e.1 = 3 then ((c.1, c.2.1, e.2.2.1, c.2.2.2), 0)
 else if 4 ≤ e.1 ∧ e.1 ≤ 6 then
  if e.2.1 < 0 ∨ (c.2.2.2.1.length : Int) ≤ e.2.1 then (c, 1)
  else
   let p := c.2.2.2.1.getD e.2.1.toNat (false, 0, 0)
   let put := fun x : PortC => (c.1, c.2.1, c.2.2.1, c.2.2.2.1.set e.2.1.toNat x, c.2.2.2.2)
   if e.1 = 4 then if e.2.2.1 ≠ 0 ∧ e.2.2.1 ≠ 1 then (c, 1) else (put (decide (e.2.2.1 = 1), p.2), 0)
   else if e.1 = 5 then if e.2.2.1 < 0 ∨ 4294967295 < e.2.2.1 then (c, 1) else (put (p.1, UInt32.ofNat e.2.2.1.toNat, p.2.2), 0)
   else (put (p.1, p.2.1, e.2.2.1), 0)
 else if e.1 = 7 then ((c.1, c.2.1, c.2.2.1, c.2.2.2.1, setL ltV (e.2.2.2.1, e.2.2.2.2.1, e.2.2.2.2.2.1) c.2.2.2.2.1, c.2.2.2.2.2), 0)
 else if e.1 = 9 then ((c.1, c.2.1, c.2.2.1, c.2.2.2.1, c.2.2.2.2.1, setL ltS (e.2.2.2.2.2.2, e.2.2.2.1, e.2.1) c.2.2.2.2.2), 0)
 else if e.1 = 8 then
  if hasL ltV (e.2.2.2.1, 0, 0) c.2.2.2.2.1 = true then ((c.1, c.2.1, c.2.2.1, c.2.2.2.1, delL ltV (e.2.2.2.1, 0, 0) c.2.2.2.2.1, c.2.2.2.2.2), 0) else (c, 13)
 else if e.1 = 10 then
  if hasL ltS (e.2.2.2.2.2.2, e.2.2.2.1, 0) c.2.2.2.2.2 = true then ((c.1, c.2.1, c.2.2.1, c.2.2.2.1, c.2.2.2.2.1, delL ltS (e.2.2.2.2.2.2, e.2.2.2.1, 0) c.2.2.2.2.2), 0) else (c, 13)
 else (c, 11)
def foldC (c : ConfC) : List EditC → ConfC × Int
 | [] => (c, 0)
 | e :: r => if (oneC c e).2 = 0 then foldC (oneC c e).1 r else oneC c e
theorem foldC_append (a b : List EditC) : ∀ c, foldC c (a ++ b) = if (foldC c a).2 = 0 then foldC (foldC c a).1 b else foldC c a := by
 induction a with
 | nil => intro c; simp [foldC]
 | cons e r ih =>
  intro c
  by_cases h : (oneC c e).2 = 0
  ·simp only [List.cons_append, foldC, if_pos h, ih]
  ·simp only [List.cons_append, foldC, if_neg h]
theorem foldC_snoc {c : ConfC} {l : List EditC} {i : Nat} (hi : i < l.length) {ci : ConfC} (h : foldC c (l.take i) = (ci, 0)) : foldC c (l.take (i + 1)) = oneC ci l[i] := by
 rw [List.take_succ_eq_append_getElem hi, foldC_append, h]
 simp only [foldC, if_true]
 split
 ·rename_i h0
  exact Prod.ext rfl h0.symm
 ·rfl
theorem foldC_stop {c : ConfC} {l : List EditC} {i : Nat} (hi : i < l.length) {ci : ConfC} (h : foldC c (l.take i) = (ci, 0)) (hne : (oneC ci l[i]).2 ≠ 0) : foldC c l = oneC ci l[i] := by
 have h1 := foldC_snoc hi h
 have h2 := foldC_append (l.take (i + 1)) (l.drop (i + 1)) c
 rw [List.take_append_drop, h1, if_neg hne] at h2
 exact h2
def EditR (c : ConfC) (l : List EditC) (r : ConfC × Int) : Prop :=
 (¬ goodP c ∧ r = (zeroC, 14)) ∨ (goodP c ∧ 32 < l.length ∧ r = (zeroC, 3)) ∨ (goodP c ∧ l.length ≤ 32 ∧ (foldC c l).2 ≠ 0 ∧ r = (zeroC, (foldC c l).2)) ∨
 (goodP c ∧ l.length ≤ 32 ∧ (foldC c l).2 = 0 ∧ ¬ goodP (foldC c l).1 ∧ r = (zeroC, 14)) ∨ (goodP c ∧ l.length ≤ 32 ∧ (foldC c l).2 = 0 ∧ goodP (foldC c l).1 ∧ r = ((foldC c l).1, 0))
theorem EditR.det {c : ConfC} {l : List EditC} {r s : ConfC × Int} (h : EditR c l r) (k : EditR c l s) : r = s := by
 rcases h with ⟨h1, h2⟩ | ⟨h1, h2, h3⟩ | ⟨h1, h2, h3, h4⟩ | ⟨h1, h2, h3, h4, h5⟩ | ⟨h1, h2, h3, h4, h5⟩ <;> rcases k with ⟨k1, k2⟩ | ⟨k1, k2, k3⟩ | ⟨k1, k2, k3, k4⟩ | ⟨k1, k2, k3, k4, k5⟩ | ⟨k1, k2, k3, k4, k5⟩ <;> first
  | exact absurd k1 h1
  | exact absurd h1 k1
  | exact h2.trans k2.symm
  | exact h3.trans k3.symm
  | exact h4.trans k4.symm
  | exact h5.trans k5.symm
  | (exfalso; omega)
  | exact absurd h3 k3
  | exact absurd k3 h3
  | exact absurd h4 k4
  | exact absurd k4 h4
structure Mid (c : ConfC) (k : Nat) : Prop where
 i1 : inI64 c.1
 i2 : inI64 c.2.1
 i3 : inI64 c.2.2.1
 p : ∀ x ∈ c.2.2.2.1, Flat.ok x
 v : ∀ x ∈ c.2.2.2.2.1, Flat.ok x
 s : ∀ x ∈ c.2.2.2.2.2, Flat.ok x
 lp : c.2.2.2.1.length ≤ 8
 lv : c.2.2.2.2.1.length ≤ 16 + k
 ls : c.2.2.2.2.2.length ≤ 16 + k
 av : Asc ltV c.2.2.2.2.1
 bs : Asc ltS c.2.2.2.2.2
theorem goodP.mid {c : ConfC} (h : goodP c) (i1 : inI64 c.1) (i2 : inI64 c.2.1) (i3 : inI64 c.2.2.1) (p : ∀ x ∈ c.2.2.2.1, Flat.ok x) (v : ∀ x ∈ c.2.2.2.2.1, Flat.ok x) (s : ∀ x ∈ c.2.2.2.2.2, Flat.ok x) : Mid c 0 :=
 ⟨i1, i2, i3, p, v, s, h.2.2.1.2.1, h.2.1.2.1, h.2.2.2.1, risV_iff.1 h.2.1.2.2.2, risS_iff.1 h.2.2.2.2.1⟩
theorem mem_set_or {l : List PortC} {i : Nat} {x y : PortC} (h : y ∈ l.set i x) : y ∈ l ∨ y = x := List.mem_or_eq_of_mem_set h
theorem Mid.one {c : ConfC} {k : Nat} (h : Mid c k) {e : EditC} (he : Flat.ok e) : Mid (oneC c e).1 (k + 1) := by
 obtain ⟨i1, i2, i3, p, v, s, lp, lv, ls, av, bs⟩ := h
 obtain ⟨e1, e2, e3, e4⟩ := he
 have hbase : Mid c (k + 1) := ⟨i1, i2, i3, p, v, s, lp, by omega, by omega, av, bs⟩
 have hput : ∀ x : PortC, inI64 x.2.2 → Mid (c.1, c.2.1, c.2.2.1, c.2.2.2.1.set e.2.1.toNat x, c.2.2.2.2) (k + 1) := fun x hx => by
  refine ⟨i1, i2, i3, fun y hy => ?_, v, s, ?_, by show c.2.2.2.2.1.length ≤ _; omega, by show c.2.2.2.2.2.length ≤ _; omega, av, bs⟩
  ·rcases mem_set_or hy with h1 | h1
   ·exact p y h1
   ·rw [h1]; exact hx
  ·show (c.2.2.2.1.set _ _).length ≤ 8
   rw [List.length_set]; exact lp
 have hpin : inI64 (c.2.2.2.1.getD e.2.1.toNat (false, 0, 0)).2.2 := by
  rcases Nat.lt_or_ge e.2.1.toNat c.2.2.2.1.length with h | h
  ·rw [List.getD_eq_getElem?_getD, List.getElem?_eq_getElem h]; exact p _ (List.getElem_mem h)
  ·rw [List.getD_eq_getElem?_getD, List.getElem?_eq_none h]
   show inI64 0
   unfold inI64; decide
 unfold oneC
 split
 ·exact ⟨e3, i2, i3, p, v, s, lp, by show c.2.2.2.2.1.length ≤ _; omega, by show c.2.2.2.2.2.length ≤ _; omega, av, bs⟩
 split
 ·exact ⟨i1, e3, i3, p, v, s, lp, by show c.2.2.2.2.1.length ≤ _; omega, by show c.2.2.2.2.2.length ≤ _; omega, av, bs⟩
 split
 ·exact ⟨i1, i2, e3, p, v, s, lp, by show c.2.2.2.2.1.length ≤ _; omega, by show c.2.2.2.2.2.length ≤ _; omega, av, bs⟩
 split
 ·split
  ·exact hbase
  ·dsimp only
   split
   ·split
    ·exact hbase
    ·exact hput _ hpin
   ·split
    ·split
     ·exact hbase
     ·exact hput _ hpin
    ·exact hput _ e3
 split
 ·refine ⟨i1, i2, i3, p, fun x hx => ?_, s, lp, ?_, by show c.2.2.2.2.2.length ≤ _; omega, av.set ordV _, bs⟩
  ·rcases mem_set.1 hx with h1 | ⟨h1, _⟩
   ·rw [h1]; exact e4
   ·exact v x h1
  ·have := set_len ordV (l := c.2.2.2.2.1) (x := (e.2.2.2.1, e.2.2.2.2.1, e.2.2.2.2.2.1))
   show (setL ltV _ _).length ≤ _; omega
 split
 ·refine ⟨i1, i2, i3, p, v, fun x hx => ?_, lp, by show c.2.2.2.2.1.length ≤ _; omega, ?_, av, bs.set ordS _⟩
  ·rcases mem_set.1 hx with h1 | ⟨h1, _⟩
   ·rw [h1]; exact ⟨e4, e2⟩
   ·exact s x h1
  ·have := set_len ordS (l := c.2.2.2.2.2) (x := (e.2.2.2.2.2.2, e.2.2.2.1, e.2.1))
   show (setL ltS _ _).length ≤ _; omega
 split
 ·split
  ·refine ⟨i1, i2, i3, p, fun x hx => v x (mem_del.1 hx).1, s, lp, ?_, by show c.2.2.2.2.2.length ≤ _; omega, av.del _, bs⟩
   have := List.length_filter_le (fun y => ltV y (e.2.2.2.1, 0, 0) || ltV (e.2.2.2.1, 0, 0) y) c.2.2.2.2.1
   show (delL ltV _ _).length ≤ _
   unfold delL; omega
  ·exact hbase
 split
 ·split
  ·refine ⟨i1, i2, i3, p, v, fun x hx => s x (mem_del.1 hx).1, lp, by show c.2.2.2.2.1.length ≤ _; omega, ?_, av, bs.del _⟩
   have := List.length_filter_le (fun y => ltS y (e.2.2.2.2.2.2, e.2.2.2.1, 0) || ltS (e.2.2.2.2.2.2, e.2.2.2.1, 0) y) c.2.2.2.2.2
   show (delL ltS _ _).length ≤ _
   unfold delL; omega
  ·exact hbase
 ·exact hbase
theorem flat_take {α : Type} {f : α → List Value} {sz : Nat} (hf : ∀ x, (f x).length = sz) : ∀ (l : List α) (k : Nat), (l.flatMap f).take (k * sz) = (l.take k).flatMap f
 | [], k => by simp
 | x :: r, 0 => by simp
 | x :: r, k + 1 => by
  rw [List.flatMap_cons, List.take_succ_cons, List.flatMap_cons, ← flat_take hf r k, List.take_append, hf, List.take_of_length_le Z42, show (k + 1) * sz - sz = k * sz by rw [Nat.add_mul]; omega]
theorem flat_drop {α : Type} {f : α → List Value} {sz : Nat} (hf : ∀ x, (f x).length = sz) : ∀ (l : List α) (k : Nat), (l.flatMap f).drop (k * sz) = (l.drop k).flatMap f
 | [], k => by simp
 | x :: r, 0 => by simp
 | x :: r, k + 1 => by
  rw [List.flatMap_cons, List.drop_succ_cons, ← flat_drop hf r k, List.drop_append, hf, List.drop_of_length_le Z42, List.nil_append, show (k + 1) * sz - sz = k * sz by rw [Nat.add_mul]; omega]
theorem cells_ins {α : Type} {f : α → List Value} (hf : ∀ x, (f x).length = 3) (l : List α) (x : α) (k : Nat) : (l.flatMap f).take (k * 3) ++ f x ++ (l.flatMap f).drop (k * 3) = (l.take k ++ [x] ++ l.drop k).flatMap f := by
 rw [flat_take hf, flat_drop hf]; simp
theorem cells_set {α : Type} {f : α → List Value} (hf : ∀ x, (f x).length = 3) (l : List α) (x : α) (k : Nat) : (l.flatMap f).take (k * 3) ++ f x ++ (l.flatMap f).drop (k * 3 + 3) = (l.take k ++ [x] ++ l.drop (k + 1)).flatMap f := by
 rw [flat_take hf, show k * 3 + 3 = (k + 1) * 3 by omega, flat_drop hf]; simp
theorem cells_del {α : Type} {f : α → List Value} (hf : ∀ x, (f x).length = 3) (l : List α) (k : Nat) : (l.flatMap f).take (k * 3) ++ (l.flatMap f).drop (k * 3 + 3) = (l.take k ++ l.drop (k + 1)).flatMap f := by
 rw [flat_take hf, show k * 3 + 3 = (k + 1) * 3 by omega, flat_drop hf]; simp
theorem statV_one (x : StatC) : ∀ v ∈ statV x, v.oneCell' = true := by simp [Value.oneCell']
theorem vlanV_one (x : VlanC) : ∀ v ∈ vlanV x, v.oneCell' = true := by simp [Value.oneCell', u8v]
abbrev FindS (l : List StatC) (t : StatC) := { p : Nat × Bool // atL ltS l t p.1 ∧ (p.2 = true ↔ hasL ltS t l = true) }
theorem shr1' (n : Nat) : ((n : Int)).fdiv (2 ^ (min (Int.toNat 1) 64)) = ((n / 2 : Nat) : Int) := by
 rw [Int.fdiv_eq_ediv_of_nonneg _ Z63]
 simp
theorem byPl_zero {x y : StatC} : byPl x y = 0 ↔ ltS x y = false ∧ ltS y x = false := by
 have h1 := byPl_lt (x := x) (y := y)
 have h2 := byPl_lt (x := y) (y := x)
 unfold byPl ltS at *
 rw [decide_eq_true_iff] at h1 h2
 rw [decide_eq_false_iff_not, decide_eq_false_iff_not]
 by_cases h : cmpI x.2.1 y.2.1 = 0
 ·have e := cmpI_zero.1 h
  rw [if_pos h, cmpI_zero]
  omega
 have : ¬ x.2.1 = y.2.1 := fun e => h (cmpI_zero.2 e)
 rw [if_neg h]
 omega
theorem BSS_spec (D : Nat → Prop) (w : World) (v : Value) (l : List StatC) (t : StatC) (hl : l.length ≤ 1000000) (hr : Asc ltS l) (HA : Old D w (Rep.rep l [v])) :
  Calls Tryz.prog 131 #[v, .agg (statV t).toArray, .func (.func 119) #[] #[]] w fun e w' => ∃ b : FindS l t, e = .returned (.tuple #[.int .i64 b.1.1, .bool b.1.2]) ∧ Own D w w' [] := by
 obtain ⟨A, cap, rfl, hc1, hc2, HS, hok⟩ := HA.openF
 have HS : OldS D w A (l.flatMap statV) := HS
 refine hc_enter (vs := [.slice A l.length cap, .agg (statV t).toArray, .func (.func 119) #[] #[]]) Tryz.func131 rfl _ Tryz.ntmps131 rfl (Own.start D w) ?_
 simp only [argSlots, Nat.zero_add]
 refine zg <| hl_new (on_boxN rfl rfl) rfl rfl rfl fun b4 =>  ?_
 refine zs rfl <| zs rfl <| zn <| zg <| zm rfl <| zv Z25 <| ?_
 refine zs rfl <| zn <| zg <| zm rfl <| zs rfl <| zs rfl <| zn <| hc_seq <| hc_block <| hc_loops2 (σ := Nat × Nat) [0, 2, 4, 8] rfl 9 (fun s => .int .i64 (s.1 : Int)) 10 (fun s => .int .i64 (s.2 : Int)) (fun s => s.1 ≤ s.2 ∧ s.2 ≤ l.length ∧ (∀ q (h : q < l.length), q < s.1 → ltS l[q] t = true) ∧ (∀ q (h : q < l.length), s.2 ≤ q → ltS l[q] t = false)) (fun s => s.2 - s.1) ((0, l.length)) (⟨Nat.zero_le _, Nat.le_refl _, fun _ _ h => absurd h (Nat.not_lt_zero _), fun q h h2 => absurd h2 (by simpa using h)⟩) rfl rfl ?_
 rintro ⟨i, j⟩ hj_ K1 hK1
 dsimp only at hj_ ⊢
 obtain ⟨hij, hj, h1, h2⟩ := hj_
 refine hc_seq <| zg <| zm rfl <| zm rfl <| zv (ov_lss rfl rfl) <| zn <| hc_cond rfl (fun h => ?_) (fun h => ?_)
 ·have hlt : i < j := by omega
  obtain ⟨m, hm⟩ : ∃ m, (i + j) / 2 = m := ⟨_, rfl⟩
  have hmi : i ≤ m := by omega
  have hmj : m < j := by omega
  have hml : m < l.length := by omega
  have hcc := fun l' => (OldS.cells_flat (D := D) (w0 := w) (f := statV) (sz := 3) (fun _ => rfl) Z63 HS hml l')
  have hA := (hcc []).1
  have hlo : ltS l[m] t = true → ∀ q (h : q < l.length), q < m + 1 → ltS l[q] t = true := fun hx q hq h3 => by
   rcases Nat.lt_or_ge q m with h4 | h4
   ·exact ordS.tr _ _ _ (hr.get q m hq hml h4) hx
   ·obtain rfl : q = m := by omega
    exact hx
  have hhi : ltS l[m] t = false → ∀ q (h : q < l.length), m ≤ q → ltS l[q] t = false := fun hx q hq h3 => by
   rcases Nat.lt_or_ge m q with h4 | h4
   ·cases e : ltS l[q] t with
    | false => rfl
    | true => have := ordS.tr _ _ _ (hr.get m q hml hq h4) e; rw [hx] at this; cases this
   ·obtain rfl : q = m := by omega
    exact hx
  generalize l[m] = x at *
  refine zk <| hc_block <| zg <| zm rfl <| zm rfl <| zv (ov_add rfl rfl Z28) <| ?_
  refine zv (ov_conv rfl Z29) <| ?_
  refine hl_v (ov_shr (m := (m : Int)) rfl rfl Z63 (by rw [← hm]; exact shr1' (i + j))) rfl ?_
  refine zv (ov_conv rfl Z28) <| ?_
  refine zs rfl <| zn <| hc_seq <| hc_any [blk b4 149 (statV t)] mixed 8 rfl ?_
  refine ha_v 0 rfl (ov_move rfl) rfl <| ha_v 1 rfl (ov_move rfl) rfl <| ha_v 2 rfl (ov_move rfl) rfl <| ha_v 3 rfl (ov_idxS rfl Z62 rfl _ rfl Z64) rfl <| ?_
  refine ha_v 5 rfl Z17 rfl <| ?_
  refine ha_one 4 Z61 <| ho_v rfl (ov_loadG (cs := statV x) rfl rfl (hcc _).2) rfl <| ha_one 6 Z61 <| ho_kv rfl rfl (fun _ _ => Tryz.call119 _ _) rfl (fun w1 => zun fun D' _ _ _ => byPlace_spec D' w1 x t) ?_
  refine ha_v 7 rfl (ov_lss rfl rfl) rfl <| ha_done Z61 <| zt <| ?_
  refine hc_cond rfl (fun hx => ?_) (fun hx => ?_)
  ·have hx' := byPl_lt.1 hx
   have hn := hlo hx'
   refine hc_region <| zm rfl <| zv (ov_add rfl rfl Z28) <| ?_
   refine zs rfl <| hl_nil <| zb <| hx_next hK1 ((m + 1, j)) (⟨hmj, hj, hn, h2⟩) (by show j - (m + 1) < j - i; omega) Z16 Z10
  have hx' : ltS x t = false := by
   cases e : ltS x t with
   | false => rfl
   | true => exact absurd (byPl_lt.2 e) hx
  have hn := hhi hx'
  refine hc_region <| zm rfl <| zs rfl <| hl_nil <| zb <| hx_next hK1 ((i, m)) (⟨hmi, by omega, h1, hn⟩) (by show m - i < j - i; omega) Z16 Z10
 have hie : j = i := by omega
 subst hie
 have hat : atL ltS l t j := ⟨hj, h1, h2⟩
 have hhas := has_at ordS hr hat
 refine hc_exit <| ze <| ze <| hx_block_out <| zt <| hc_seq <| hc_any [blk b4 149 (statV t)] mixed 16 rfl ?_
 refine ha_v 0 rfl (ov_move rfl) rfl <| ha_v 1 rfl (ov_move rfl) rfl <| ha_v 2 rfl (ov_move rfl) rfl <| ha_v 3 rfl (ov_lss rfl rfl) rfl <| ha_v 4 rfl (ov_move rfl) rfl <| ha_part (t := 39) rfl (fun hp => ?_) (fun hp => ?_)
 ·have hjl : j < l.length := by omega
  have hcc := fun l' => (OldS.cells_flat (D := D) (w0 := w) (f := statV) (sz := 3) (fun _ => rfl) Z63 HS hjl l')
  have hA := (hcc []).1
  have hres : ∀ b : Bool, (b = true ↔ ltS t l[j] = false) → (b = true ↔ hasL ltS t l = true) := fun b hb => by
   rw [hhas, hb]
   exact ⟨fun h => ⟨hjl, h⟩, fun ⟨_, h⟩ => h⟩
  have hlow := h2 j hjl (Nat.le_refl _)
  generalize l[j] = x at *
  refine ha_v 5 rfl (ov_move rfl) rfl <| ha_v 6 rfl (ov_move rfl) rfl <| ha_v 7 rfl (ov_move rfl) rfl <| ha_v 8 rfl (ov_idxS rfl Z62 rfl _ rfl Z64) rfl <| ?_
  refine ha_v 10 rfl Z17 rfl <| ?_
  refine ha_one 9 Z61 <| ho_v rfl (ov_loadG (cs := statV x) rfl rfl (hcc _).2) rfl <| ha_one 11 Z61 <| ho_kv rfl rfl (fun _ _ => Tryz.call119 _ _) rfl (fun w1 => zun fun D' _ _ _ => byPlace_spec D' w1 x t) ?_
  refine ha_v 12 rfl (ov_eql rfl rfl) rfl <| ha_v 13 rfl (ov_pickT rfl rfl) rfl <| ha_v 14 rfl (ov_assign rfl) rfl <| ha_v 15 rfl (ov_assign rfl) rfl <| ha_done Z61 <| zt <| zq <| ?_
  exact results_2 (.inr rfl) rfl rfl rfl fun w' H' => ⟨⟨(j, decide (byPl x t = 0)), hat, hres _ (by rw [decide_eq_true_iff, byPl_zero]; exact ⟨fun h => h.2, fun h => ⟨hlow, h⟩⟩)⟩, rfl, H'.ent (Ent.nil _)⟩
 refine ha_x 5 rfl rfl <| ha_x 6 rfl rfl <| ha_x 7 rfl rfl <| ha_x 8 rfl rfl <| ha_x 9 rfl rfl <| ha_x 10 rfl rfl <| ha_one 11 Z61 <| ho_x rfl rfl <| ha_x 12 rfl rfl <| ha_v 13 rfl (ov_pickF rfl rfl) rfl <| ha_v 14 rfl (ov_assign rfl) rfl <| ha_v 15 rfl (ov_assign rfl) rfl <| ha_done Z61 <| zt <| zq <| ?_
 exact results_2 (.inr rfl) rfl rfl rfl fun w' H' => ⟨⟨(j, false), hat, by simp only [Bool.false_eq_true, false_iff]; intro h; obtain ⟨h, _⟩ := hhas.1 h; omega⟩, rfl, H'.ent (Ent.nil _)⟩
def portC (c : ConfC) (e : EditC) : ConfC × Int :=
 if e.2.1 < 0 ∨ (c.2.2.2.1.length : Int) ≤ e.2.1 then (c, 1)
 else
  let p := c.2.2.2.1.getD e.2.1.toNat (false, 0, 0)
  let put := fun x : PortC => (c.1, c.2.1, c.2.2.1, c.2.2.2.1.set e.2.1.toNat x, c.2.2.2.2)
  if e.1 = 4 then if e.2.2.1 ≠ 0 ∧ e.2.2.1 ≠ 1 then (c, 1) else (put (decide (e.2.2.1 = 1), p.2), 0)
  else if e.1 = 5 then if e.2.2.1 < 0 ∨ 4294967295 < e.2.2.1 then (c, 1) else (put (p.1, UInt32.ofNat e.2.2.1.toNat, p.2.2), 0)
  else (put (p.1, p.2.1, e.2.2.1), 0)
theorem oneC_port {c : ConfC} {e : EditC} (h : 4 ≤ e.1 ∧ e.1 ≤ 6) : oneC c e = portC c e := by
 unfold oneC portC
 rw [if_neg Z64, if_neg Z64, if_neg Z64, if_pos h]
abbrev cfgQ (g : Nat) (c : ConfC) (q : Three) : List HProp := blk g 49 (cfgA c q) :: cfgR c q
def cfgO (g : Nat) (c : ConfC) : HProp := exS fun q : Three => cfgQ g c q
theorem cfgO_mk {g : Nat} {c : ConfC} (q : Three) {l : List HProp} : Ent (cfgQ g c q ++ l) (cfgO g c :: l) := Ent.exS (L := fun q : Three => cfgQ g c q) q
theorem port_spec (D : Nat → Prop) (w : World) (g : Nat) (c : ConfC) (e : EditC) (hi2 : inI64 e.2.1) (hp : c.2.2.2.1.length ≤ 1000) (hk : 4 ≤ e.1 ∧ e.1 ≤ 6) (H : Own D w w [cfgO g c]) :
  Calls Tryz.prog 132 #[.pointer (some ⟨g, 0, none⟩), .agg (editV e).toArray] w fun r w' => r = .returned (.int .i64 (portC c e).2) ∧ Own D w w' [cfgO g (portC c e).1] := by
 obtain ⟨q, H⟩ := Own.exs H
 refine hc_enter (vs := [.pointer (some ⟨g, 0, none⟩), .agg (editV e).toArray]) Tryz.func132 rfl _ Tryz.ntmps132 rfl H ?_
 simp only [argSlots, Nat.zero_add]
 refine HC.ent (l' := cfgQ g c q) (fun _ h => h) ?_
 refine zg <| hl_new (on_boxN rfl rfl) rfl rfl rfl fun b3 =>  ?_
 refine zs rfl <| zn <| hc_seq <| hc_seq <| hc_quiet mixed Z61 <| ?_
 refine hq_v (ov_fieldA rfl) rfl <| hq_v (zw rfl rfl) rfl <| hq_v (ov_lss rfl rfl) rfl <| hq_v (ov_move rfl) rfl <| ?_
 refine hq_part (t := 9) rfl (fun h1 => ?_) (fun h1 => ?_)
 ·have hres : portC c e = (c, 1) := by unfold portC; rw [if_pos (.inl h1)]
  refine hq_off rfl rfl rfl rfl rfl rfl <| hq_off rfl rfl rfl rfl rfl rfl <| hq_off rfl rfl rfl rfl rfl rfl <| hq_off rfl rfl rfl rfl rfl rfl <| hq_off rfl rfl rfl rfl rfl rfl <| hq_off rfl rfl rfl rfl rfl rfl <| ?_
  refine hq_off rfl rfl rfl rfl rfl rfl <| hq_off rfl rfl rfl rfl rfl rfl <| hq_v (ov_pickT rfl rfl) rfl <| hq_nil <| zt <| hc_cond_true rfl <| ?_
  refine zg <| zs rfl <| zn <| zq <| zr <| ?_
  exact zz rfl rfl fun w' H' => ⟨by rw [hres], H'.ent (Ent.trans (b := cfgQ g c q) Z8 Z32)⟩
 refine hq_on rfl rfl <| hq_v (ov_fieldA rfl) rfl <| hq_on rfl rfl <| hq_v (zw rfl rfl) rfl <| hq_on rfl rfl <| hq_v (ov_move rfl) rfl <| hq_on rfl rfl <| hq_v (ov_nil rfl) rfl <| hq_on rfl rfl <| hq_v (ov_fieldA rfl) rfl <| hq_on rfl rfl <| hq_v (zw rfl rfl) rfl <| ?_
 refine hq_on rfl rfl <| hq_v Z25 rfl <| ?_
 refine hq_on rfl rfl <| hq_v (ov_geq rfl rfl) rfl <| hq_v (ov_pickF rfl rfl) rfl <| hq_nil <| zt <| ?_
 refine hc_cond rfl (fun h2 => ?_) (fun h2 => ?_)
 ·have hres : portC c e = (c, 1) := by unfold portC; rw [if_pos (.inr h2)]
  refine zg <| zs rfl <| zn <| zq <| zr <| ?_
  exact zz rfl rfl fun w' H' => ⟨by rw [hres], H'.ent (Ent.trans (b := cfgQ g c q) Z8 Z32)⟩
 have hlt : e.2.1.toNat < c.2.2.2.1.length := by omega
 refine HC.fact (fun w H => Own.factR q.1.1 H) ?_
 rintro ⟨hpl, hpc, _, hA⟩
 have hA : isA q.1.1 := hA Z11
 obtain ⟨i, hi⟩ : ∃ i, i = e.2.1.toNat := ⟨_, rfl⟩
 have hii : (i : Int) = e.2.1 := by omega
 rw [← hi] at hlt
 have hgd : c.2.2.2.1.getD i (false, 0, 0) = c.2.2.2.1[i] := by rw [List.getD_eq_getElem?_getD, List.getElem?_eq_getElem hlt]; rfl
 have hfl := flat_len (f := portV) (sz := 3) (fun _ => rfl) c.2.2.2.1
 refine zk <| hc_seq <| hc_quiet mixed Z61 <| hq_v (ov_move rfl) rfl <| hq_v (ov_nil rfl) rfl <| ?_
 refine hq_v (ov_fieldA rfl) rfl <| hq_v (zw rfl rfl) rfl <| hq_v (ov_fieldA rfl) rfl <| hq_v (zw rfl rfl) rfl <| ?_
 refine hq_v (ov_idxS rfl hA rfl i Z64 Z64) rfl ?_
 refine hq_v (ov_assign rfl) rfl <| hq_nil <| zt <| hc_seq <| zg <| ?_
 refine zf rfl <| zl rfl rfl <| zn <| hc_block <| hc_seq <| ?_
 refine hc_region <| zv (ov_eql rfl rfl) <| zs rfl <| zn <| hc_cond rfl (fun k1 => ?_) (fun k1 => ?_)
 ·have k1 : e.1 = 4 := k1
  refine hc_seq <| zg <| zf rfl <| zl rfl rfl <| zv (ov_neq rfl rfl) <| ?_
  refine zm rfl <| hl_part (t := 38) rfl (fun k2 => ?_) (fun k2 => ?_)
  ·refine hl_on rfl rfl <| zf rfl <| hl_on rfl rfl <| zl rfl rfl <| hl_on rfl rfl <| zv (ov_neq rfl rfl) <| zv (ov_pickT rfl rfl) <| zn <| ?_
   refine hc_cond rfl (fun k3 => ?_) (fun k3 => ?_)
   ·have hres : portC c e = (c, 1) := by unfold portC; rw [if_neg Z64, if_pos k1, if_pos ⟨k2, k3⟩]
    refine zg <| zs rfl <| zn <| zq <| zr <| hx_block_ret <| zr <| ?_
    exact zz rfl rfl fun w' H' => ⟨by rw [hres], H'.ent (Ent.trans (b := cfgQ g c q) Z8 Z32)⟩
   have hres : portC c e = ((c.1, c.2.1, c.2.2.1, c.2.2.2.1.set i (decide (e.2.2.1 = 1), c.2.2.2.1[i].2), c.2.2.2.2), 0) := by unfold portC; rw [if_neg Z64, if_pos k1, if_neg Z64, ← hi]; dsimp only; rw [hgd]
   refine zk <| hc_region <| zm rfl <| zf rfl <| zl rfl rfl <| ?_
   refine zv (ov_eql rfl rfl) <| zv (ov_nil rfl) <| zf rfl <| ?_
   refine hl_u0 (on_storeRX (A := q.1.1) (i * 3 + 0) ((c.2.2.2.1.set i (decide (e.2.2.1 = 1), c.2.2.2.1[i].2)).flatMap portV) rfl rfl Z64 Z55 rfl (flat_set1 (f := portV) (sz := 3) (fun _ => rfl) _ i 0 _ _ hlt Z63 rfl)) rfl rfl ?_
   refine hl_nil <| zb <| zt <| zg <| zs rfl <| zn <| zq <| ?_
   exact zz rfl rfl fun w' H' => ⟨by rw [hres], H'.ent (Ent.trans (b := cfgQ g (portC c e).1 q) Z1 (cfgO_mk (l := []) q))⟩
  have hres : portC c e = ((c.1, c.2.1, c.2.2.1, c.2.2.2.1.set i (decide (e.2.2.1 = 1), c.2.2.2.1[i].2), c.2.2.2.2), 0) := by unfold portC; rw [if_neg Z64, if_pos k1, if_neg Z64, ← hi]; dsimp only; rw [hgd]
  refine zo rfl rfl <| zo rfl rfl <| zo rfl rfl <| zv (ov_pickF rfl rfl) <| zn <| hc_cond_false rfl <| zk <| hc_region <| zm rfl <| zf rfl <| ?_
  refine zl rfl rfl <| zv (ov_eql rfl rfl) <| zv (ov_nil rfl) <| zf rfl <| ?_
  refine hl_u0 (on_storeRX (A := q.1.1) (i * 3 + 0) ((c.2.2.2.1.set i (decide (e.2.2.1 = 1), c.2.2.2.1[i].2)).flatMap portV) rfl rfl Z64 Z55 rfl (flat_set1 (f := portV) (sz := 3) (fun _ => rfl) _ i 0 _ _ hlt Z63 rfl)) rfl rfl ?_
  refine hl_nil <| zb <| zt <| zg <| zs rfl <| zn <| zq <| ?_
  exact zz rfl rfl fun w' H' => ⟨by rw [hres], H'.ent (Ent.trans (b := cfgQ g (portC c e).1 q) Z1 (cfgO_mk (l := []) q))⟩
 refine zg <| zv (ov_eql rfl rfl) <| zs rfl <| zn <| hc_cond rfl (fun k2 => ?_) (fun k2 => ?_)
 ·have k2 : e.1 = 5 := k2
  refine hc_seq <| zg <| zf rfl <| zl rfl rfl <| zv (ov_lss rfl rfl) <| ?_
  refine zm rfl <| hl_part (t := 54) rfl (fun k3 => ?_) (fun k3 => ?_)
  ·have hres : portC c e = (c, 1) := by unfold portC; rw [if_neg Z64, if_neg Z64, if_pos k2, if_pos (.inl k3)]
   refine zo rfl rfl <| zo rfl rfl <| zo rfl rfl <| zv (ov_pickT rfl rfl) <| zn <| hc_cond_true rfl <| zg <| zs rfl <| zn <| zq <| zr <| hx_block_ret <| zr <| ?_
   exact zz rfl rfl fun w' H' => ⟨by rw [hres], H'.ent (Ent.trans (b := cfgQ g c q) Z8 Z32)⟩
  refine hl_on rfl rfl <| zf rfl <| hl_on rfl rfl <| zl rfl rfl <| hl_on rfl rfl <| zv (ov_gtr rfl rfl) <| zv (ov_pickF rfl rfl) <| zn <| ?_
  refine hc_cond rfl (fun k4 => ?_) (fun k4 => ?_)
  ·have hres : portC c e = (c, 1) := by unfold portC; rw [if_neg Z64, if_neg Z64, if_pos k2, if_pos (.inr k4)]
   refine zg <| zs rfl <| zn <| zq <| zr <| hx_block_ret <| zr <| ?_
   exact zz rfl rfl fun w' H' => ⟨by rw [hres], H'.ent (Ent.trans (b := cfgQ g c q) Z8 Z32)⟩
  have hres : portC c e = ((c.1, c.2.1, c.2.2.1, c.2.2.2.1.set i (c.2.2.2.1[i].1, UInt32.ofNat e.2.2.1.toNat, c.2.2.2.1[i].2.2), c.2.2.2.2), 0) := by unfold portC; rw [if_neg Z64, if_neg Z64, if_pos k2, if_neg Z64, ← hi]; dsimp only; rw [hgd]
  have hu : ((UInt32.ofNat e.2.2.1.toNat).toNat : Int) = e.2.2.1 := by rw [UInt32.toNat_ofNat']; omega
  refine zk <| hc_region <| zm rfl <| zf rfl <| zl rfl rfl <| ?_
  refine hl_v (ov_conv (m := e.2.2.1) rfl (wrap_u32 Z64)) rfl ?_
  refine zv (ov_nil rfl) <| zf rfl <| ?_
  refine hl_u0 (on_storeRX (A := q.1.1) (i * 3 + 1) ((c.2.2.2.1.set i (c.2.2.2.1[i].1, UInt32.ofNat e.2.2.1.toNat, c.2.2.2.1[i].2.2)).flatMap portV) rfl rfl Z64 Z55 rfl (flat_set1 (f := portV) (sz := 3) (fun _ => rfl) _ i 1 _ _ hlt Z63 (by show [_, Value.int .u32 ((UInt32.ofNat e.2.2.1.toNat).toNat : Int), _] = _; rw [hu]; rfl))) rfl rfl ?_
  refine hl_nil <| zb <| zt <| zg <| zs rfl <| zn <| zq <| ?_
  exact zz rfl rfl fun w' H' => ⟨by rw [hres], H'.ent (Ent.trans (b := cfgQ g (portC c e).1 q) Z1 (cfgO_mk (l := []) q))⟩
 have hres : portC c e = ((c.1, c.2.1, c.2.2.1, c.2.2.2.1.set i (c.2.2.2.1[i].1, c.2.2.2.1[i].2.1, e.2.2.1), c.2.2.2.2), 0) := by unfold portC; rw [if_neg Z64, if_neg Z64, if_neg Z64, ← hi]; dsimp only; rw [hgd]
 refine hc_region <| zm rfl <| zf rfl <| zl rfl rfl <| zv (ov_nil rfl) <| zf rfl <| ?_
 refine hl_u0 (on_storeRX (A := q.1.1) (i * 3 + 2) ((c.2.2.2.1.set i (c.2.2.2.1[i].1, c.2.2.2.1[i].2.1, e.2.2.1)).flatMap portV) rfl rfl Z64 Z55 rfl (flat_set1 (f := portV) (sz := 3) (fun _ => rfl) _ i 2 _ _ hlt Z63 rfl)) rfl rfl ?_
 refine hl_nil <| zb <| zt <| zg <| zs rfl <| zn <| zq <| ?_
 exact zz rfl rfl fun w' H' => ⟨by rw [hres], H'.ent (Ent.trans (b := cfgQ g (portC c e).1 q) Z1 (cfgO_mk (l := []) q))⟩
end Go.Proofs.YtjlolpmmpafjeaaGreat
