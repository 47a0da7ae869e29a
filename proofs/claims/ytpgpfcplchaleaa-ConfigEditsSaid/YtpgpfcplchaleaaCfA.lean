import Derived.Test.YtpgpfcplchaleaaM4
import Derived.Test.YtpgpfcplchaleaaKRep
set_option linter.unusedVariables false
set_option linter.unusedSimpArgs false
namespace Go.Proofs.Ytpgpfcplchaleaa
open Slk
/-! ### Lists that rise by a key -/
structure Ord {α : Type} (lt : α → α → Bool) : Prop where
  ir : ∀ a, lt a a = false
  tr : ∀ a b c, lt a b = true → lt b c = true → lt a c = true
  ne : ∀ a b c, lt a c = true → lt a b = true ∨ lt b c = true
def setL {α : Type} (lt : α → α → Bool) (x : α) (l : List α) : List α := l.filter (fun y => lt y x) ++ [x] ++ l.filter (fun y => lt x y)
def delL {α : Type} (lt : α → α → Bool) (x : α) (l : List α) : List α := l.filter (fun y => lt y x || lt x y)
def hasL {α : Type} (lt : α → α → Bool) (x : α) (l : List α) : Bool := l.any (fun y => !lt y x && !lt x y)
abbrev Asc {α : Type} (lt : α → α → Bool) (l : List α) : Prop := l.Pairwise (fun a b => lt a b = true)
section
variable {α : Type} {lt : α → α → Bool}
theorem Asc.get {l : List α} (h : Asc lt l) : ∀ (i j : Nat) (hi : i < l.length) (hj : j < l.length), i < j → lt l[i] l[j] = true := fun i j hi hj hij => List.pairwise_iff_getElem.1 h i j hi hj hij
theorem Asc.of_adj (o : Ord lt) {l : List α} (h : ∀ i (hi : i < l.length), 0 < i → lt (l[i - 1]'(by omega)) l[i] = true) : Asc lt l := by
  refine List.pairwise_iff_getElem.2 fun i j hi hj hij => ?_
  induction j with
  | zero => omega
  | succ j ih =>
    have h1 := h (j + 1) hj (by omega)
    simp only [Nat.add_sub_cancel] at h1
    rcases Nat.lt_or_ge i j with h2 | h2
    · exact o.tr _ _ _ (ih (by omega) h2) h1
    · obtain rfl : i = j := by omega
      exact h1
theorem asy (o : Ord lt) {a b : α} (h : lt a b = true) : lt b a = false := by
  cases e : lt b a with
  | false => rfl
  | true => have := o.tr _ _ _ h e; rw [o.ir] at this; cases this
/-- Where x stands, or would. -/
def atL (lt : α → α → Bool) (l : List α) (x : α) (k : Nat) : Prop := k ≤ l.length ∧ (∀ q (h : q < l.length), q < k → lt l[q] x = true) ∧ ∀ q (h : q < l.length), k ≤ q → lt l[q] x = false
theorem filter_all {p : α → Bool} {l : List α} (h : ∀ x ∈ l, p x = true) : l.filter p = l := List.filter_eq_self.2 h
theorem filter_none {p : α → Bool} {l : List α} (h : ∀ x ∈ l, p x = false) : l.filter p = [] := List.filter_eq_nil_iff.2 fun x hx => by rw [h x hx]; decide
theorem at_take {l : List α} {x : α} {k : Nat} (h : atL lt l x k) : ∀ y ∈ l.take k, lt y x = true := fun y hy => by
  obtain ⟨i, hi, rfl⟩ := List.getElem_of_mem hy
  rw [List.getElem_take]
  rw [List.length_take] at hi
  exact h.2.1 i (by omega) (by omega)
theorem at_drop {l : List α} {x : α} {k : Nat} (h : atL lt l x k) : ∀ y ∈ l.drop k, lt y x = false := fun y hy => by
  obtain ⟨i, hi, rfl⟩ := List.getElem_of_mem hy
  rw [List.getElem_drop]
  rw [List.length_drop] at hi
  exact h.2.2 (k + i) (by omega) (by omega)
theorem filter_split (l : List α) (k : Nat) (p : α → Bool) : l.filter p = (l.take k).filter p ++ (l.drop k).filter p := by
  rw [← List.filter_append, List.take_append_drop]
theorem at_below (o : Ord lt) {l : List α} {x : α} {k : Nat} (h : atL lt l x k) : l.filter (fun y => lt y x) = l.take k := by
  rw [filter_split l k, filter_all (at_take h), filter_none (at_drop h), List.append_nil]
theorem at_above (o : Ord lt) {l : List α} {x : α} {k : Nat} (hs : Asc lt l) (h : atL lt l x k) (hn : ∀ (hk : k < l.length), lt x l[k] = true) : l.filter (fun y => lt x y) = l.drop k := by
  rw [filter_split l k, filter_none (fun y hy => asy o (at_take h y hy)), filter_all, List.nil_append]
  intro y hy
  obtain ⟨i, hi, rfl⟩ := List.getElem_of_mem hy
  rw [List.getElem_drop]
  rw [List.length_drop] at hi
  have hk : k < l.length := by omega
  rcases Nat.eq_zero_or_pos i with h0 | h0
  · subst h0; exact hn hk
  · exact o.tr _ _ _ (hn hk) (hs.get k (k + i) hk (by omega) (by omega))
theorem at_above1 (o : Ord lt) {l : List α} {x : α} {k : Nat} (hs : Asc lt l) (h : atL lt l x k) (hk : k < l.length) (he : lt x l[k] = false) : l.filter (fun y => lt x y) = l.drop (k + 1) := by
  rw [filter_split l k, filter_none (fun y hy => asy o (at_take h y hy)), List.nil_append, List.drop_eq_getElem_cons hk, List.filter_cons_of_neg (by rw [he]; decide), filter_all]
  intro y hy
  obtain ⟨i, hi, rfl⟩ := List.getElem_of_mem hy
  rw [List.getElem_drop]
  rw [List.length_drop] at hi
  have h1 := hs.get k (k + 1 + i) hk (by omega) (by omega)
  rcases o.ne _ x _ h1 with h2 | h2
  · rw [h.2.2 k hk (Nat.le_refl _)] at h2; cases h2
  · exact h2
theorem has_at (o : Ord lt) {l : List α} {x : α} {k : Nat} (hs : Asc lt l) (h : atL lt l x k) : hasL lt x l = true ↔ ∃ hk : k < l.length, lt x l[k] = false := by
  unfold hasL
  rw [List.any_eq_true]
  constructor
  · rintro ⟨y, hy, hp⟩
    rw [Bool.and_eq_true, Bool.not_eq_true', Bool.not_eq_true'] at hp
    obtain ⟨i, hi, rfl⟩ := List.getElem_of_mem hy
    rcases Nat.lt_trichotomy i k with h1 | h1 | h1
    · rw [h.2.1 i hi h1] at hp; cases hp.1
    · subst h1; exact ⟨hi, hp.2⟩
    · have hk : k < l.length := by omega
      have h2 := hs.get k i hk hi h1
      rcases o.ne _ x _ h2 with h3 | h3
      · rw [h.2.2 k hk (Nat.le_refl _)] at h3; cases h3
      · rw [hp.2] at h3; cases h3
  · rintro ⟨hk, he⟩
    exact ⟨l[k], List.getElem_mem hk, by rw [he, h.2.2 k hk (Nat.le_refl _)]; rfl⟩
theorem set_new (o : Ord lt) {l : List α} {x : α} {k : Nat} (hs : Asc lt l) (h : atL lt l x k) (hn : hasL lt x l = false) : setL lt x l = l.take k ++ [x] ++ l.drop k := by
  unfold setL
  rw [at_below o h, at_above o hs h]
  intro hk
  cases e : lt x l[k] with
  | true => rfl
  | false => have := (has_at o hs h).2 ⟨hk, e⟩; rw [this] at hn; cases hn
theorem set_old (o : Ord lt) {l : List α} {x : α} {k : Nat} (hs : Asc lt l) (h : atL lt l x k) (hn : hasL lt x l = true) : k < l.length ∧ setL lt x l = l.take k ++ [x] ++ l.drop (k + 1) := by
  obtain ⟨hk, he⟩ := (has_at o hs h).1 hn
  refine ⟨hk, ?_⟩
  unfold setL
  rw [at_below o h, at_above1 o hs h hk he]
theorem del_old (o : Ord lt) {l : List α} {x : α} {k : Nat} (hs : Asc lt l) (h : atL lt l x k) (hn : hasL lt x l = true) : k < l.length ∧ delL lt x l = l.take k ++ l.drop (k + 1) := by
  obtain ⟨hk, he⟩ := (has_at o hs h).1 hn
  refine ⟨hk, ?_⟩
  unfold delL
  have e1 := at_above1 o hs h hk he
  rw [filter_split l k, filter_none (fun y hy => asy o (at_take h y hy)), List.nil_append] at e1
  rw [filter_split l k]
  congr 1
  · exact filter_all fun y hy => by rw [at_take h y hy]; rfl
  · rw [← e1]
    refine List.filter_congr fun y hy => ?_
    rw [at_drop h y hy]; rfl
theorem Asc.set (o : Ord lt) {l : List α} (x : α) (h : Asc lt l) : Asc lt (setL lt x l) := by
  unfold setL
  refine List.pairwise_append.2 ⟨List.pairwise_append.2 ⟨h.filter _, List.pairwise_singleton _ _, fun a ha b hb => ?_⟩, h.filter _, fun a ha b hb => ?_⟩
  · rw [List.mem_singleton.1 hb]
    exact (List.mem_filter.1 ha).2
  · have hb := (List.mem_filter.1 hb).2
    rcases List.mem_append.1 ha with h1 | h1
    · exact o.tr _ _ _ (List.mem_filter.1 h1).2 hb
    · rw [List.mem_singleton.1 h1]; exact hb
theorem Asc.del {l : List α} (x : α) (h : Asc lt l) : Asc lt (delL lt x l) := h.filter _
theorem mem_set {l : List α} {x y : α} : y ∈ setL lt x l ↔ y = x ∨ (y ∈ l ∧ (lt y x = true ∨ lt x y = true)) := by
  unfold setL
  simp only [List.mem_append, List.mem_filter, List.mem_singleton]
  constructor
  · rintro ((⟨h1, h2⟩ | h) | ⟨h1, h2⟩)
    · exact .inr ⟨h1, .inl h2⟩
    · exact .inl h
    · exact .inr ⟨h1, .inr h2⟩
  · rintro (h | ⟨h1, h2 | h2⟩)
    · exact .inl (.inr h)
    · exact .inl (.inl ⟨h1, h2⟩)
    · exact .inr ⟨h1, h2⟩
theorem mem_del {l : List α} {x y : α} : y ∈ delL lt x l ↔ y ∈ l ∧ (lt y x = true ∨ lt x y = true) := by
  unfold delL
  rw [List.mem_filter, Bool.or_eq_true]
theorem set_len {l : List α} (o : Ord lt) {x : α} : (setL lt x l).length ≤ l.length + 1 := by
  unfold setL
  simp only [List.length_append, List.length_singleton]
  have h : ∀ l : List α, (l.filter (fun y => lt y x)).length + (l.filter (fun y => lt x y)).length ≤ l.length := fun l => by
    induction l with
    | nil => simp
    | cons y r ih =>
      have ha : lt y x = true → lt x y = true → False := fun h1 h2 => by have := asy o h1; rw [h2] at this; cases this
      cases h1 : lt y x <;> cases h2 : lt x y <;> simp only [List.filter_cons, h1, h2, if_true, Bool.false_eq_true, if_false, List.length_cons]
      · omega
      · omega
      · omega
      · exact absurd h2 (by simpa using ha h1)
  have := h l
  omega
/-- Two lists that rise and have the same are the same. -/
theorem asc_ext (o : Ord lt) : ∀ {l m : List α}, Asc lt l → Asc lt m → (∀ x, x ∈ l ↔ x ∈ m) → l = m
  | [], [], _, _, _ => rfl
  | [], y :: r, _, _, h => by have := (h y).2 (by simp); cases this
  | y :: r, [], _, _, h => by have := (h y).1 (by simp); cases this
  | a :: r, b :: s, hl, hm, h => by
    have ha := (h a).1 (by simp)
    have hb := (h b).2 (by simp)
    obtain ⟨l1, l2⟩ := List.pairwise_cons.1 hl
    obtain ⟨m1, m2⟩ := List.pairwise_cons.1 hm
    have hab : a = b := by
      rcases List.mem_cons.1 ha with e | e
      · exact e
      · rcases List.mem_cons.1 hb with e2 | e2
        · exact e2.symm
        · have := asy o (m1 a e); rw [l1 b e2] at this; cases this
    subst hab
    congr 1
    refine asc_ext o l2 m2 fun x => ⟨fun hx => ?_, fun hx => ?_⟩
    · rcases List.mem_cons.1 ((h x).1 (by simp [hx])) with e | e
      · subst e; have := l1 x hx; rw [o.ir] at this; cases this
      · exact e
    · rcases List.mem_cons.1 ((h x).2 (by simp [hx])) with e | e
      · subst e; have := m1 x hx; rw [o.ir] at this; cases this
      · exact e
end
def ltV (a b : VlanC) : Bool := decide (a.1 < b.1)
def ltS (a b : StatC) : Bool := decide (a.2.1 < b.2.1 ∨ a.2.1 = b.2.1 ∧ (a.1.toNat : Int) < b.1.toNat)
theorem ordV : Ord ltV := ⟨fun a => by simp [ltV], fun a b c h1 h2 => by unfold ltV at *; simp only [decide_eq_true_iff] at *; omega, fun a b c h => by unfold ltV at *; simp only [decide_eq_true_iff] at *; omega⟩
theorem ordS : Ord ltS := ⟨fun a => by simp [ltS], fun a b c h1 h2 => by unfold ltS at *; simp only [decide_eq_true_iff] at *; omega, fun a b c h => by unfold ltS at *; simp only [decide_eq_true_iff] at *; omega⟩
theorem byPl_lt {x y : StatC} : byPl x y < 0 ↔ ltS x y = true := by
  unfold byPl ltS
  rw [decide_eq_true_iff]
  by_cases h : cmpI x.2.1 y.2.1 = 0
  · rw [if_pos h, cmpI_neg]
    have := cmpI_zero.1 h
    omega
  · rw [if_neg h, cmpI_neg]
    have : ¬ x.2.1 = y.2.1 := fun e => h (cmpI_zero.2 e)
    omega
theorem risV_iff {l : List VlanC} : risP cV l ↔ Asc ltV l := by
  constructor
  · intro h
    exact Asc.of_adj ordV fun i hi h0 => decide_eq_true (cmpI_neg.1 (h i hi h0))
  · intro h i hi h0
    exact cmpI_neg.2 (of_decide_eq_true (h.get (i - 1) i (by omega) hi (by omega)))
theorem risS_iff {l : List StatC} : risP byPl l ↔ Asc ltS l := by
  constructor
  · intro h
    exact Asc.of_adj ordS fun i hi h0 => byPl_lt.1 (h i hi h0)
  · intro h i hi h0
    exact byPl_lt.2 (h.get (i - 1) i (by omega) hi (by omega))
/-! ### One edit, and several -/
def oneC (c : ConfC) (e : EditC) : ConfC × Int :=
  if e.1 = 1 then ((e.2.2.1, c.2), 0)
  else if e.1 = 2 then ((c.1, e.2.2.1, c.2.2), 0)
  else if e.1 = 3 then ((c.1, c.2.1, e.2.2.1, c.2.2.2), 0)
  else if 4 ≤ e.1 ∧ e.1 ≤ 6 then
    if e.2.1 < 0 ∨ (c.2.2.2.1.length : Int) ≤ e.2.1 then (c, 1)
    else
      let p := c.2.2.2.1.getD e.2.1.toNat (false, 0, 0)
      let put := fun x : PortC => (c.1, c.2.1, c.2.2.1, c.2.2.2.1.set e.2.1.toNat x, c.2.2.2.2)
      if e.1 = 4 then if e.2.2.1 ≠ 0 ∧ e.2.2.1 ≠ 1 then (c, 1) else (put (decide (e.2.2.1 = 1), p.2), 0)
      else if e.1 = 5 then if e.2.2.1 < 0 ∨ 4294967295 < e.2.2.1 then (c, 1) else (put (p.1, UInt32.ofNat e.2.2.1.toNat, p.2.2), 0)
      else (put (p.1, p.2.1, e.2.2.1), 0)
  else if e.1 = 7 then ((c.1, c.2.1, c.2.2.1, c.2.2.2.1, setL ltV (e.2.2.2.1, e.2.2.2.2.1, e.2.2.2.2.2.1) c.2.2.2.2.1, c.2.2.2.2.2), 0)
  else if e.1 = 9 then ((c.1, c.2.1, c.2.2.1, c.2.2.2.1, c.2.2.2.2.1, setL ltS (e.2.2.2.2.2.2, e.2.2.2.1, e.2.1) c.2.2.2.2.2), 0)
  else if e.1 = 8 then
    if hasL ltV (e.2.2.2.1, 0, 0) c.2.2.2.2.1 = true then ((c.1, c.2.1, c.2.2.1, c.2.2.2.1, delL ltV (e.2.2.2.1, 0, 0) c.2.2.2.2.1, c.2.2.2.2.2), 0) else (c, 13)
  else if e.1 = 10 then
    if hasL ltS (e.2.2.2.2.2.2, e.2.2.2.1, 0) c.2.2.2.2.2 = true then ((c.1, c.2.1, c.2.2.1, c.2.2.2.1, c.2.2.2.2.1, delL ltS (e.2.2.2.2.2.2, e.2.2.2.1, 0) c.2.2.2.2.2), 0) else (c, 13)
  else (c, 11)
def foldC (c : ConfC) : List EditC → ConfC × Int
  | [] => (c, 0)
  | e :: r => if (oneC c e).2 = 0 then foldC (oneC c e).1 r else oneC c e
theorem foldC_append (a b : List EditC) : ∀ c, foldC c (a ++ b) = if (foldC c a).2 = 0 then foldC (foldC c a).1 b else foldC c a := by
  induction a with
  | nil => intro c; simp [foldC]
  | cons e r ih =>
    intro c
    by_cases h : (oneC c e).2 = 0
    · simp only [List.cons_append, foldC, if_pos h, ih]
    · simp only [List.cons_append, foldC, if_neg h]
theorem foldC_snoc {c : ConfC} {l : List EditC} {i : Nat} (hi : i < l.length) {ci : ConfC} (h : foldC c (l.take i) = (ci, 0)) : foldC c (l.take (i + 1)) = oneC ci l[i] := by
  rw [List.take_succ_eq_append_getElem hi, foldC_append, h]
  simp only [foldC, if_true]
  split
  · rename_i h0
    exact Prod.ext rfl h0.symm
  · rfl
theorem foldC_stop {c : ConfC} {l : List EditC} {i : Nat} (hi : i < l.length) {ci : ConfC} (h : foldC c (l.take i) = (ci, 0)) (hne : (oneC ci l[i]).2 ≠ 0) : foldC c l = oneC ci l[i] := by
  have h1 := foldC_snoc hi h
  have h2 := foldC_append (l.take (i + 1)) (l.drop (i + 1)) c
  rw [List.take_append_drop, h1, if_neg hne] at h2
  exact h2
/-- What Edit answers. -/
def EditR (c : ConfC) (l : List EditC) (r : ConfC × Int) : Prop :=
  (¬ goodP c ∧ r = (zeroC, 14)) ∨ (goodP c ∧ 32 < l.length ∧ r = (zeroC, 3)) ∨ (goodP c ∧ l.length ≤ 32 ∧ (foldC c l).2 ≠ 0 ∧ r = (zeroC, (foldC c l).2)) ∨
  (goodP c ∧ l.length ≤ 32 ∧ (foldC c l).2 = 0 ∧ ¬ goodP (foldC c l).1 ∧ r = (zeroC, 14)) ∨ (goodP c ∧ l.length ≤ 32 ∧ (foldC c l).2 = 0 ∧ goodP (foldC c l).1 ∧ r = ((foldC c l).1, 0))
theorem EditR.det {c : ConfC} {l : List EditC} {r s : ConfC × Int} (h : EditR c l r) (k : EditR c l s) : r = s := by
  rcases h with ⟨h1, h2⟩ | ⟨h1, h2, h3⟩ | ⟨h1, h2, h3, h4⟩ | ⟨h1, h2, h3, h4, h5⟩ | ⟨h1, h2, h3, h4, h5⟩ <;> rcases k with ⟨k1, k2⟩ | ⟨k1, k2, k3⟩ | ⟨k1, k2, k3, k4⟩ | ⟨k1, k2, k3, k4, k5⟩ | ⟨k1, k2, k3, k4, k5⟩ <;> first
    | exact absurd k1 h1
    | exact absurd h1 k1
    | exact h2.trans k2.symm
    | exact h3.trans k3.symm
    | exact h4.trans k4.symm
    | exact h5.trans k5.symm
    | (exfalso; omega)
    | exact absurd h3 k3
    | exact absurd k3 h3
    | exact absurd h4 k4
    | exact absurd k4 h4
/-- What holds of a configuration while it is edited. -/
structure Mid (c : ConfC) (k : Nat) : Prop where
  i1 : inI64 c.1
  i2 : inI64 c.2.1
  i3 : inI64 c.2.2.1
  p : ∀ x ∈ c.2.2.2.1, Flat.ok x
  v : ∀ x ∈ c.2.2.2.2.1, Flat.ok x
  s : ∀ x ∈ c.2.2.2.2.2, Flat.ok x
  lp : c.2.2.2.1.length ≤ 8
  lv : c.2.2.2.2.1.length ≤ 16 + k
  ls : c.2.2.2.2.2.length ≤ 16 + k
  av : Asc ltV c.2.2.2.2.1
  bs : Asc ltS c.2.2.2.2.2
theorem goodP.mid {c : ConfC} (h : goodP c) (i1 : inI64 c.1) (i2 : inI64 c.2.1) (i3 : inI64 c.2.2.1) (p : ∀ x ∈ c.2.2.2.1, Flat.ok x) (v : ∀ x ∈ c.2.2.2.2.1, Flat.ok x) (s : ∀ x ∈ c.2.2.2.2.2, Flat.ok x) : Mid c 0 :=
  ⟨i1, i2, i3, p, v, s, h.2.2.1.2.1, h.2.1.2.1, h.2.2.2.1, risV_iff.1 h.2.1.2.2.2, risS_iff.1 h.2.2.2.2.1⟩
theorem mem_set_or {l : List PortC} {i : Nat} {x y : PortC} (h : y ∈ l.set i x) : y ∈ l ∨ y = x := List.mem_or_eq_of_mem_set h
theorem Mid.one {c : ConfC} {k : Nat} (h : Mid c k) {e : EditC} (he : Flat.ok e) : Mid (oneC c e).1 (k + 1) := by
  obtain ⟨i1, i2, i3, p, v, s, lp, lv, ls, av, bs⟩ := h
  obtain ⟨e1, e2, e3, e4⟩ := he
  have hbase : Mid c (k + 1) := ⟨i1, i2, i3, p, v, s, lp, by omega, by omega, av, bs⟩
  have hput : ∀ x : PortC, inI64 x.2.2 → Mid (c.1, c.2.1, c.2.2.1, c.2.2.2.1.set e.2.1.toNat x, c.2.2.2.2) (k + 1) := fun x hx => by
    refine ⟨i1, i2, i3, fun y hy => ?_, v, s, ?_, by show c.2.2.2.2.1.length ≤ _; omega, by show c.2.2.2.2.2.length ≤ _; omega, av, bs⟩
    · rcases mem_set_or hy with h1 | h1
      · exact p y h1
      · rw [h1]; exact hx
    · show (c.2.2.2.1.set _ _).length ≤ 8
      rw [List.length_set]; exact lp
  have hpin : inI64 (c.2.2.2.1.getD e.2.1.toNat (false, 0, 0)).2.2 := by
    rcases Nat.lt_or_ge e.2.1.toNat c.2.2.2.1.length with h | h
    · rw [List.getD_eq_getElem?_getD, List.getElem?_eq_getElem h]; exact p _ (List.getElem_mem h)
    · rw [List.getD_eq_getElem?_getD, List.getElem?_eq_none h]
      show inI64 0
      unfold inI64; decide
  unfold oneC
  split
  · exact ⟨e3, i2, i3, p, v, s, lp, by show c.2.2.2.2.1.length ≤ _; omega, by show c.2.2.2.2.2.length ≤ _; omega, av, bs⟩
  split
  · exact ⟨i1, e3, i3, p, v, s, lp, by show c.2.2.2.2.1.length ≤ _; omega, by show c.2.2.2.2.2.length ≤ _; omega, av, bs⟩
  split
  · exact ⟨i1, i2, e3, p, v, s, lp, by show c.2.2.2.2.1.length ≤ _; omega, by show c.2.2.2.2.2.length ≤ _; omega, av, bs⟩
  split
  · split
    · exact hbase
    · dsimp only
      split
      · split
        · exact hbase
        · exact hput _ hpin
      · split
        · split
          · exact hbase
          · exact hput _ hpin
        · exact hput _ e3
  split
  · refine ⟨i1, i2, i3, p, fun x hx => ?_, s, lp, ?_, by show c.2.2.2.2.2.length ≤ _; omega, av.set ordV _, bs⟩
    · rcases mem_set.1 hx with h1 | ⟨h1, _⟩
      · rw [h1]; exact e4
      · exact v x h1
    · have := set_len ordV (l := c.2.2.2.2.1) (x := (e.2.2.2.1, e.2.2.2.2.1, e.2.2.2.2.2.1))
      show (setL ltV _ _).length ≤ _; omega
  split
  · refine ⟨i1, i2, i3, p, v, fun x hx => ?_, lp, by show c.2.2.2.2.1.length ≤ _; omega, ?_, av, bs.set ordS _⟩
    · rcases mem_set.1 hx with h1 | ⟨h1, _⟩
      · rw [h1]; exact ⟨e4, e2⟩
      · exact s x h1
    · have := set_len ordS (l := c.2.2.2.2.2) (x := (e.2.2.2.2.2.2, e.2.2.2.1, e.2.1))
      show (setL ltS _ _).length ≤ _; omega
  split
  · split
    · refine ⟨i1, i2, i3, p, fun x hx => v x (mem_del.1 hx).1, s, lp, ?_, by show c.2.2.2.2.2.length ≤ _; omega, av.del _, bs⟩
      have := List.length_filter_le (fun y => ltV y (e.2.2.2.1, 0, 0) || ltV (e.2.2.2.1, 0, 0) y) c.2.2.2.2.1
      show (delL ltV _ _).length ≤ _
      unfold delL; omega
    · exact hbase
  split
  · split
    · refine ⟨i1, i2, i3, p, v, fun x hx => s x (mem_del.1 hx).1, lp, by show c.2.2.2.2.1.length ≤ _; omega, ?_, av, bs.del _⟩
      have := List.length_filter_le (fun y => ltS y (e.2.2.2.2.2.2, e.2.2.2.1, 0) || ltS (e.2.2.2.2.2.2, e.2.2.2.1, 0) y) c.2.2.2.2.2
      show (delL ltS _ _).length ≤ _
      unfold delL; omega
    · exact hbase
  · exact hbase
end Go.Proofs.Ytpgpfcplchaleaa
