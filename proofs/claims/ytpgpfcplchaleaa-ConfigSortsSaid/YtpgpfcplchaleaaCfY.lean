import Derived.Test.YtpgpfcplchaleaaCfP
set_option linter.unusedVariables false
set_option linter.unusedSimpArgs false
namespace Go.Proofs.Ytpgpfcplchaleaa
open Slk
abbrev u16V (x : UInt16) : List Value := [.int .u16 x.toNat]
instance : Flat UInt16 where
  f := u16V
  ok _ := True
  iff := by
    intro x c h
    constructor
    · intro k
      have k : c = [.int .u16 (x.toNat : Int)] := k
      exact ⟨k, trivial⟩
    · rintro ⟨k, _⟩
      exact k
abbrev eVl (v : Int) : EditC := (7, 0, 0, v, 3, 0, 0)
abbrev eSt (m : UInt64) : EditC := (9, 1, 0, 1, 0, 0, m)
def idV (x : UInt16) : Int := 2 + ((x.toNat % 4000 : Nat) : Int)
def macS (x : UInt16) : UInt64 := UInt64.ofNat (x.toNat + 1)
theorem macS_nat (x : UInt16) : (macS x).toNat = x.toNat + 1 := by
  have := x.toNat_lt
  unfold macS; rw [UInt64.toNat_ofNat']; omega
def srtP (e : EditC) : Prop := (∃ v, (2 ≤ v ∧ v ≤ 4001) ∧ e = eVl v) ∨ ∃ m : UInt64, (1 ≤ m.toNat ∧ m.toNat ≤ 65536) ∧ e = eSt m
structure SrtI (c : ConfC) : Prop where
  h : (c.1, c.2.1, c.2.2.1, c.2.2.2.1) = ((32768, 20, 15, List.replicate 2 (true, 20000, 1)) : Int × Int × Int × List PortC)
  av : Asc ltV c.2.2.2.2.1
  bs : Asc ltS c.2.2.2.2.2
  one : ((1, 3, 0) : VlanC) ∈ c.2.2.2.2.1
  vs : ∀ x ∈ c.2.2.2.2.1, (1 ≤ x.1 ∧ x.1 ≤ 4001) ∧ x.2 = (3, 0)
  ss : ∀ x ∈ c.2.2.2.2.2, (1 ≤ x.1.toNat ∧ x.1.toNat ≤ 65536) ∧ x.2 = (1, 1)
theorem srt (L : List EditC) : ∀ c, (∀ e ∈ L, srtP e) → SrtI c → ∃ d, foldC c L = (d, 0) ∧ SrtI d ∧
    (∀ x, x ∈ d.2.2.2.2.1 ↔ x ∈ c.2.2.2.2.1 ∨ ∃ v, eVl v ∈ L ∧ x = (v, 3, 0)) ∧ (∀ x, x ∈ d.2.2.2.2.2 ↔ x ∈ c.2.2.2.2.2 ∨ ∃ m, eSt m ∈ L ∧ x = (m, 1, 1)) ∧
    d.2.2.2.2.1.length ≤ c.2.2.2.2.1.length + L.countP (fun e => decide (e.1 = 7)) ∧ d.2.2.2.2.2.length ≤ c.2.2.2.2.2.length + L.countP (fun e => decide (e.1 = 9)) := by
  induction L with
  | nil => intro c _ hI; exact ⟨c, rfl, hI, fun x => ⟨.inl, fun h => h.elim id fun ⟨_, h, _⟩ => by cases h⟩, fun x => ⟨.inl, fun h => h.elim id fun ⟨_, h, _⟩ => by cases h⟩, Nat.le_refl _, Nat.le_refl _⟩
  | cons e r ih =>
    intro c hL hI
    obtain ⟨hh, av, bs, one, vs, ss⟩ := hI
    rcases hL e (by simp) with ⟨v, hv, rfl⟩ | ⟨m, hm, rfl⟩
    · have hmem : ∀ y, y ∈ setL ltV (v, 3, 0) c.2.2.2.2.1 ↔ y = (v, 3, 0) ∨ y ∈ c.2.2.2.2.1 := fun y => by
        rw [mem_set]
        constructor
        · rintro (h | ⟨h, _⟩)
          · exact .inl h
          · exact .inr h
        · rintro (h | h)
          · exact .inl h
          · rcases Int.lt_trichotomy y.1 v with h1 | h1 | h1
            · exact .inr ⟨h, .inl (decide_eq_true h1)⟩
            · exact .inl (Prod.ext h1 (vs y h).2)
            · exact .inr ⟨h, .inr (decide_eq_true h1)⟩
      obtain ⟨d, hf, hId, h1, h2, h3, h4⟩ := ih (c.1, c.2.1, c.2.2.1, c.2.2.2.1, setL ltV (v, 3, 0) c.2.2.2.2.1, c.2.2.2.2.2) (fun e he => hL e (by simp [he])) ⟨hh, av.set ordV _, bs, (hmem _).2 (.inr one), fun x hx => by
        rcases (hmem x).1 hx with rfl | h
        · exact ⟨⟨by show 1 ≤ v; omega, hv.2⟩, rfl⟩
        · exact vs x h, ss⟩
      refine ⟨d, (fold_cons (one_vset c _ rfl)).trans hf, hId, fun x => ?_, fun x => ?_, ?_, ?_⟩
      · rw [h1 x]
        show x ∈ setL ltV (v, 3, 0) c.2.2.2.2.1 ∨ _ ↔ _
        rw [hmem x]
        constructor
        · rintro ((h | h) | ⟨u, h, k⟩)
          · exact .inr ⟨v, by simp, h⟩
          · exact .inl h
          · exact .inr ⟨u, by simp [h], k⟩
        · rintro (h | ⟨u, h, k⟩)
          · exact .inl (.inr h)
          · rcases List.mem_cons.1 h with h | h
            · have : u = v := congrArg (fun e : EditC => e.2.2.2.1) h
              subst this; exact .inl (.inl k)
            · exact .inr ⟨u, h, k⟩
      · rw [h2 x]
        constructor
        · rintro (h | ⟨u, h, k⟩)
          · exact .inl h
          · exact .inr ⟨u, by simp [h], k⟩
        · rintro (h | ⟨u, h, k⟩)
          · exact .inl h
          · rcases List.mem_cons.1 h with h | h
            · have : (9 : Int) = 7 := congrArg (fun e : EditC => e.1) h
              cases this
            · exact .inr ⟨u, h, k⟩
      · have := set_len ordV (l := c.2.2.2.2.1) (x := (v, 3, 0))
        rw [List.countP_cons_of_pos (p := fun e : EditC => decide (e.1 = 7)) (a := eVl v) (by show decide ((7 : Int) = 7) = true; decide)]
        have h3 : d.2.2.2.2.1.length ≤ (setL ltV (v, 3, 0) c.2.2.2.2.1).length + _ := h3
        omega
      · rw [List.countP_cons_of_neg (p := fun e : EditC => decide (e.1 = 9)) (a := eVl v) (by show ¬ decide ((7 : Int) = 9) = true; decide)]; exact h4
    · have hmem : ∀ y, y ∈ setL ltS (m, 1, 1) c.2.2.2.2.2 ↔ y = (m, 1, 1) ∨ y ∈ c.2.2.2.2.2 := fun y => by
        rw [mem_set]
        constructor
        · rintro (h | ⟨h, _⟩)
          · exact .inl h
          · exact .inr h
        · rintro (h | h)
          · exact .inl h
          · have hy := (ss y h).2
            have hy1 : y.2.1 = 1 := by rw [hy]
            rcases Nat.lt_trichotomy y.1.toNat m.toNat with h1 | h1 | h1
            · exact .inr ⟨h, .inl (decide_eq_true (.inr ⟨hy1, by show (y.1.toNat : Int) < m.toNat; omega⟩))⟩
            · exact .inl (Prod.ext (UInt64.toNat_inj.1 h1) hy)
            · exact .inr ⟨h, .inr (decide_eq_true (.inr ⟨hy1.symm, by show (m.toNat : Int) < y.1.toNat; omega⟩))⟩
      obtain ⟨d, hf, hId, h1, h2, h3, h4⟩ := ih (c.1, c.2.1, c.2.2.1, c.2.2.2.1, c.2.2.2.2.1, setL ltS (m, 1, 1) c.2.2.2.2.2) (fun e he => hL e (by simp [he])) ⟨hh, av, bs.set ordS _, one, vs, fun x hx => by
        rcases (hmem x).1 hx with rfl | h
        · exact ⟨hm, rfl⟩
        · exact ss x h⟩
      refine ⟨d, (fold_cons (one_sset c _ rfl)).trans hf, hId, fun x => ?_, fun x => ?_, ?_, ?_⟩
      · rw [h1 x]
        constructor
        · rintro (h | ⟨u, h, k⟩)
          · exact .inl h
          · exact .inr ⟨u, by simp [h], k⟩
        · rintro (h | ⟨u, h, k⟩)
          · exact .inl h
          · rcases List.mem_cons.1 h with h | h
            · have : (7 : Int) = 9 := congrArg (fun e : EditC => e.1) h
              cases this
            · exact .inr ⟨u, h, k⟩
      · rw [h2 x]
        show x ∈ setL ltS (m, 1, 1) c.2.2.2.2.2 ∨ _ ↔ _
        rw [hmem x]
        constructor
        · rintro ((h | h) | ⟨u, h, k⟩)
          · exact .inr ⟨m, by simp, h⟩
          · exact .inl h
          · exact .inr ⟨u, by simp [h], k⟩
        · rintro (h | ⟨u, h, k⟩)
          · exact .inl (.inr h)
          · rcases List.mem_cons.1 h with h | h
            · have : u = m := congrArg (fun e : EditC => e.2.2.2.2.2.2) h
              subst this; exact .inl (.inl k)
            · exact .inr ⟨u, h, k⟩
      · rw [List.countP_cons_of_neg (p := fun e : EditC => decide (e.1 = 7)) (a := eSt m) (by show ¬ decide ((9 : Int) = 7) = true; decide)]; exact h3
      · have := set_len ordS (l := c.2.2.2.2.2) (x := (m, 1, 1))
        rw [List.countP_cons_of_pos (p := fun e : EditC => decide (e.1 = 9)) (a := eSt m) (by show decide ((9 : Int) = 9) = true; decide)]
        have h4 : d.2.2.2.2.2.length ≤ (setL ltS (m, 1, 1) c.2.2.2.2.2).length + _ := h4
        omega
theorem SrtI.good {c : ConfC} (h : SrtI c) (h1 : c.2.2.2.2.1.length ≤ 16) (h2 : c.2.2.2.2.2.length ≤ 16) : goodP c := by
  obtain ⟨p, a, d, P, V, S⟩ := c
  obtain ⟨hh, av, bs, one, vs, ss⟩ := h
  simp only [Prod.mk.injEq] at hh
  obtain ⟨rfl, rfl, rfl, rfl⟩ := hh
  dsimp only at *
  obtain ⟨j, hj, hje⟩ := List.getElem_of_mem one
  have hV : ∃ i, ∃ h : i < V.length, V[i].1 = 1 := ⟨j, hj, by rw [hje]⟩
  have hV2 : ∃ i, ∃ h : i < V.length, V[i].1 = 1 ∧ V[i].2.1.toNat / 2 ^ (min (1 : Int).toNat 8) % 2 ≠ 0 := ⟨j, hj, by rw [hje], by rw [hje]; decide⟩
  refine ⟨(by have h : timesP ((32768, 20, 15, [], [], []) : ConfC) := by decide
              exact h), ⟨by show 1 ≤ V.length; omega, h1, fun i hi => ?_, risV_iff.2 av⟩, ⟨by show 1 ≤ 2; decide, by show 2 ≤ 8; decide, fun i hi => ?_⟩, h2, risS_iff.2 bs, fun i hi => ?_⟩
  · have hi : i < V.length := hi
    obtain ⟨⟨k1, k2⟩, k3⟩ := vs V[i] (List.getElem_mem hi)
    show vlanOk 2 V[i]
    refine ⟨k1, by omega, ?_, ?_⟩
    · rw [k3]; decide
    · rw [k3]; decide
  · have hm := List.getElem_mem (l := List.replicate 2 ((true, 20000, 1) : PortC)) hi
    have hm := List.eq_of_mem_replicate hm
    show portOk V (List.replicate 2 ((true, 20000, 1) : PortC))[i]
    rw [hm]
    exact ⟨hV, by decide, by decide⟩
  · have hi : i < S.length := hi
    obtain ⟨⟨k1, k2⟩, k3⟩ := ss S[i] (List.getElem_mem hi)
    show statOk 2 V S[i]
    have k4 : S[i].2.1 = 1 := by rw [k3]
    have k5 : S[i].2.2 = 1 := by rw [k3]
    refine ⟨by omega, by omega, by omega, by omega, by omega, ?_⟩
    rw [k4, k5]
    exact hV2
theorem first2_srt : SrtI (firstC 2) := by
  refine ⟨rfl, ?_, List.Pairwise.nil, List.mem_singleton.2 rfl, fun x hx => ?_, fun x hx => by cases hx⟩
  · exact List.pairwise_singleton _ _
  · obtain rfl := List.mem_singleton.1 (show x ∈ [((1, 3, 0) : VlanC)] from hx)
    decide
def srtL (ids macs : List UInt16) : List EditC := ids.map (fun x => eVl (idV x)) ++ macs.map (fun x => eSt (macS x))
theorem srtL_P (ids macs : List UInt16) : ∀ e ∈ srtL ids macs, srtP e := fun e he => by
  rcases List.mem_append.1 he with h | h
  · obtain ⟨x, _, rfl⟩ := List.mem_map.1 h
    exact .inl ⟨idV x, ⟨by unfold idV; omega, by unfold idV; omega⟩, rfl⟩
  · obtain ⟨x, _, rfl⟩ := List.mem_map.1 h
    have := x.toNat_lt
    exact .inr ⟨macS x, ⟨by rw [macS_nat]; omega, by rw [macS_nat]; omega⟩, rfl⟩
theorem srtP_ok {L : List EditC} (h : ∀ e ∈ L, srtP e) : ∀ e ∈ L, Flat.ok e := fun e he => by
  rcases h e he with ⟨v, hv, rfl⟩ | ⟨m, hm, rfl⟩
  · exact editOk1 _ ⟨by show -1000000000 ≤ (7 : Int); decide, by show (7 : Int) ≤ _; decide⟩ ⟨by show -1000000000 ≤ (0 : Int); decide, by show (0 : Int) ≤ _; decide⟩ (inI _ ⟨by show -1000000000 ≤ (0 : Int); decide, by show (0 : Int) ≤ _; decide⟩) ⟨by show -1000000000 ≤ v; omega, by show v ≤ 1000000000; omega⟩
  · exact editOk1 _ ⟨by show -1000000000 ≤ (9 : Int); decide, by show (9 : Int) ≤ _; decide⟩ ⟨by show -1000000000 ≤ (1 : Int); decide, by show (1 : Int) ≤ _; decide⟩ (inI _ ⟨by show -1000000000 ≤ (0 : Int); decide, by show (0 : Int) ≤ _; decide⟩) ⟨by show -1000000000 ≤ (1 : Int); decide, by show (1 : Int) ≤ _; decide⟩
theorem srtL_c7 (ids macs : List UInt16) : (srtL ids macs).countP (fun e => decide (e.1 = 7)) = ids.length := by
  unfold srtL
  rw [List.countP_append, List.countP_map, List.countP_map]
  rw [show ((fun e : EditC => decide (e.1 = 7)) ∘ fun x : UInt16 => eVl (idV x)) = fun _ => true from rfl, show ((fun e : EditC => decide (e.1 = 7)) ∘ fun x : UInt16 => eSt (macS x)) = fun _ => false from rfl]
  simp
theorem srtL_c9 (ids macs : List UInt16) : (srtL ids macs).countP (fun e => decide (e.1 = 9)) = macs.length := by
  unfold srtL
  rw [List.countP_append, List.countP_map, List.countP_map]
  rw [show ((fun e : EditC => decide (e.1 = 9)) ∘ fun x : UInt16 => eVl (idV x)) = fun _ => false from rfl, show ((fun e : EditC => decide (e.1 = 9)) ∘ fun x : UInt16 => eSt (macS x)) = fun _ => true from rfl]
  simp
theorem srtL_len (ids macs : List UInt16) : (srtL ids macs).length = ids.length + macs.length := by unfold srtL; simp
/-- Either order makes the same, and it may be. -/
theorem srt_both (ids macs : List UInt16) (h1 : ids.length ≤ 12) (h2 : macs.length ≤ 10) : ∃ d, SrtI d ∧ goodP d ∧ foldC (firstC 2) (srtL ids macs) = (d, 0) ∧ foldC (firstC 2) (srtL ids macs).reverse = (d, 0) := by
  have hP := srtL_P ids macs
  obtain ⟨d, hf, hI, m1, m2, l1, l2⟩ := srt (srtL ids macs) (firstC 2) hP first2_srt
  obtain ⟨e, kf, kI, n1, n2, _, _⟩ := srt (srtL ids macs).reverse (firstC 2) (fun e he => hP e (List.mem_reverse.1 he)) first2_srt
  rw [srtL_c7] at l1
  rw [srtL_c9] at l2
  have hg := hI.good (by have : (firstC 2).2.2.2.2.1.length = 1 := rfl; omega) (by have : (firstC 2).2.2.2.2.2.length = 0 := rfl; omega)
  have hde : d = e := by
    have hv : d.2.2.2.2.1 = e.2.2.2.2.1 := asc_ext ordV hI.av kI.av fun x => by rw [m1 x, n1 x]; simp only [List.mem_reverse]
    have hs : d.2.2.2.2.2 = e.2.2.2.2.2 := asc_ext ordS hI.bs kI.bs fun x => by rw [m2 x, n2 x]; simp only [List.mem_reverse]
    have hh := hI.h.trans kI.h.symm
    simp only [Prod.mk.injEq] at hh
    obtain ⟨a1, a2, a3, a4⟩ := hh
    exact Prod.ext a1 (Prod.ext a2 (Prod.ext a3 (Prod.ext a4 (Prod.ext hv hs))))
  rw [← hde] at kf
  exact ⟨d, hI, hg, hf, kf⟩
end Go.Proofs.Ytpgpfcplchaleaa
