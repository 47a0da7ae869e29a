import Derived.Test.YtnnhopjnpplfcaaEntP
set_option linter.unusedVariables false
set_option linter.unusedSimpArgs false
namespace Go.Proofs.Ytnnhopjnpplfcaa
open Slk
theorem encS_at (F : List UInt8) (i : Nat) (h : i < (encS F).length) : (encS F)[i] = secOf F i := by
  have : (encS F)[i]? = some (secOf F i) := by
    unfold encS secsTo
    rw [List.getElem?_map, List.getElem?_range (by simpa [encS, secsTo] using h)]; rfl
  rw [List.getElem?_eq_getElem h] at this
  simpa using this
def byteAt (F : List UInt8) (i j : Nat) : UInt8 := if j = 0 then markK i else F.getD (63 * i + (j - 1)) 0
theorem secOf_byte (F : List UInt8) (i j : Nat) (hj : j < 64) : (secOf F i)[j] = byteAt F i j := by
  refine get_of_list hj ?_
  rw [secOf_list]
  unfold byteAt
  cases j with
  | zero => rfl
  | succ j =>
    rw [if_neg (by omega), List.getElem?_cons_succ, Nat.add_sub_cancel]
    have hpl := piece_length F i
    rcases Nat.lt_or_ge j (piece F i).length with h | h
    · rw [List.getElem?_append_left h]
      unfold piece
      rw [List.getElem?_take_of_lt (by omega), List.getElem?_drop, List.getD_eq_getElem?_getD, List.getElem?_eq_getElem (by omega)]; rfl
    · rw [List.getElem?_append_right h, List.getElem?_replicate, if_pos (by omega), List.getD_eq_getElem?_getD, List.getElem?_eq_none (by omega)]; rfl
theorem numB_four_inj {a b : Nat} (ha : a < 4294967296) (hb : b < 4294967296) (h : fourB a = fourB b) : a = b := by
  rw [← numB_four a ha, ← numB_four b hb, h]
/-- Full bytes that differ in one place at most are the same. -/
theorem full_turn (e x : EntT) (hl : x.2.2.2.length = e.2.2.2.length) (p : Nat) (v : UInt8) (hp : p < 15 + e.2.2.2.length) (h : fullB x.1 x.2.1 x.2.2.1 x.2.2.2 = (fullB e.1 e.2.1 e.2.2.1 e.2.2.2).set p v) :
    fullB x.1 x.2.1 x.2.2.1 x.2.2.2 = fullB e.1 e.2.1 e.2.2.1 e.2.2.2 := by
  have hP := preB_length e.1 e.2.1 e.2.2.1 e.2.2.2
  have hQ := preB_length x.1 x.2.1 x.2.2.1 x.2.2.2
  rw [hl] at hQ
  unfold fullB at h ⊢
  generalize preB e.1 e.2.1 e.2.2.1 e.2.2.2 = P at *
  generalize preB x.1 x.2.1 x.2.2.1 x.2.2.2 = Q at *
  rcases Nat.lt_or_ge p P.length with hlt | hge
  · rw [List.set_append_left _ _ hlt] at h
    obtain ⟨h1, h2⟩ := List.append_inj h (by rw [List.length_set]; omega)
    have h3 := numB_four_inj (Sm_lt _) (Sm_lt _) h2
    rw [h1] at h3
    have h4 := (Sm_turn P p v hlt).1 h3
    have h5 : v = P[p] := UInt8.toNat_inj.1 h4
    rw [h1, h5, List.set_getElem_self]
  · rw [List.set_append_right _ _ hge] at h
    obtain ⟨h1, _⟩ := List.append_inj h (by omega)
    rw [h1]
theorem decS_some {S : List Sec} {x : EntT} {n : Nat} (h : decS S = some (x, n)) : ∃ s r, S = s :: r ∧ x = candE S s ∧ n = needM (numAt s 10 2) ∧ n ≠ 0 ∧ n ≤ S.length ∧ encE x = S.take n := by
  cases S with
  | nil => cases h
  | cons s r =>
    have hdef : decS (s :: r) = if s[0].toNat = 87 ∧ needM (numAt s 10 2) ≠ 0 ∧ needM (numAt s 10 2) ≤ (s :: r).length ∧ encE (candE (s :: r) s) = (s :: r).take (needM (numAt s 10 2)) then some (candE (s :: r) s, needM (numAt s 10 2)) else none := rfl
    rw [hdef] at h
    by_cases hc : s[0].toNat = 87 ∧ needM (numAt s 10 2) ≠ 0 ∧ needM (numAt s 10 2) ≤ (s :: r).length ∧ encE (candE (s :: r) s) = (s :: r).take (needM (numAt s 10 2))
    · rw [if_pos hc] at h
      simp only [Option.some.injEq, Prod.mk.injEq] at h
      obtain ⟨rfl, rfl⟩ := h
      exact ⟨s, r, rfl, rfl, rfl, hc.2.1, hc.2.2.1, hc.2.2.2⟩
    · rw [if_neg hc] at h; cases h
theorem head_size (e : EntT) (h : e.2.2.2.length ≤ 4000) : (secOf (fullB e.1 e.2.1 e.2.2.1 e.2.2.2) 0)[10] = UInt8.ofNat (e.2.2.2.length / 256) ∧ (secOf (fullB e.1 e.2.1 e.2.2.1 e.2.2.2) 0)[11] = UInt8.ofNat e.2.2.2.length := by
  obtain ⟨t, ht⟩ := head_list e
  exact ⟨get_of_list (by decide) (by rw [ht]; rfl), get_of_list (by decide) (by rw [ht]; rfl)⟩
theorem numAt_two (s : Sec) (j : Nat) (hj : j + 1 < 64) : numAt s j 2 = numB [s[j]'(by omega), s[j + 1]] := by
  unfold numAt
  congr 1
  apply List.ext_getElem?
  intro i
  match i with
  | 0 => rw [List.getElem?_take_of_lt (by decide), List.getElem?_drop, Vector.getElem?_toList, Nat.add_zero, Vector.getElem?_eq_getElem (by omega)]; rfl
  | 1 => rw [List.getElem?_take_of_lt (by decide), List.getElem?_drop, Vector.getElem?_toList, Vector.getElem?_eq_getElem hj]; rfl
  | i + 2 => rw [List.getElem?_eq_none (by simp; omega)]; rfl
/-- One byte turned, but for the size's two: no entry. -/
theorem turn_none (e : EntT) (hok : okE e) (i j : Nat) (hi : i < (encE e).length) (hj : j < 64) (v : UInt8) (hv : v ≠ (encE e)[i][j]) (hnot : ¬ (i = 0 ∧ (j = 10 ∨ j = 11))) :
    decS ((encE e).set i ((encE e)[i].set j v)) = none := by
  cases hd : decS ((encE e).set i ((encE e)[i].set j v)) with
  | none => rfl
  | some q =>
    exfalso
    obtain ⟨x, n⟩ := q
    obtain ⟨s, r, h1, h2, h3, h4, h5, h6⟩ := decS_some hd
    have hm := hok.2.2.2
    have hlen := encE_len e hm
    have hpos : 0 < (encE e).length := by omega
    have hat0 : (encE e)[0] = secOf (fullB e.1 e.2.1 e.2.2.1 e.2.2.2) 0 := encS_at _ 0 hpos
    obtain ⟨hs10, hs11⟩ := head_size e hm
    have hs : s = ((encE e).set i ((encE e)[i].set j v))[0]'(by rw [List.length_set]; exact hpos) := by simp [h1]
    have hb : ∀ jj (hjj : jj < 64), (jj = 10 ∨ jj = 11) → s[jj] = (secOf (fullB e.1 e.2.1 e.2.2.1 e.2.2.2) 0)[jj] := fun jj hjj hor => by
      rw [hs]
      by_cases h0 : i = 0
      · subst h0
        have hne : j ≠ jj := fun e => hnot ⟨rfl, by omega⟩
        simp only [List.getElem_set_self]
        rw [Vector.getElem_set_ne _ _ hne, hat0]
      · simp only [List.getElem_set_ne h0]
        exact congrArg (fun z : Sec => z[jj]) hat0
    have hsize : numAt s 10 2 = e.2.2.2.length := by
      rw [numAt_two s 10 (by decide), hb 10 (by decide) (.inl rfl), hb 11 (by decide) (.inr rfl), hs10, hs11]
      exact numB_two _ (by omega)
    rw [hsize] at h3
    have hn : n = (encE e).length := by omega
    have hT : encE x = (encE e).set i ((encE e)[i].set j v) := by
      rw [h6, hn, List.take_of_length_le (by rw [List.length_set]; exact Nat.le_refl _)]
    have hxl : x.2.2.2.length = e.2.2.2.length := by
      rw [h2]
      unfold candE
      rw [hsize, List.length_take, List.length_drop, bodyS_length, List.length_take, List.length_set, ← hlen, Nat.min_self, hlen]
      unfold needM
      rw [if_neg (by omega)]; omega
    have hF := fullB_length e.1 e.2.1 e.2.2.1 e.2.2.2
    have hG := fullB_length x.1 x.2.1 x.2.2.1 x.2.2.2
    rw [hxl] at hG
    have hbyte : ∀ i' j', i' < (encE e).length → j' < 64 → byteAt (fullB x.1 x.2.1 x.2.2.1 x.2.2.2) i' j' = if i' = i ∧ j' = j then v else byteAt (fullB e.1 e.2.1 e.2.2.1 e.2.2.2) i' j' := fun i' j' hi' hj' => by
      rw [← secOf_byte _ i' j' hj', ← secOf_byte _ i' j' hj']
      have e1 : secOf (fullB x.1 x.2.1 x.2.2.1 x.2.2.2) i' = ((encE e).set i ((encE e)[i].set j v))[i']'(by rw [List.length_set]; exact hi') := by
        have : i' < (encE x).length := by rw [hT, List.length_set]; exact hi'
        have e2 : (encE x)[i'] = secOf (fullB x.1 x.2.1 x.2.2.1 x.2.2.2) i' := encS_at _ i' this
        rw [← e2]; simp only [hT]
      rw [e1]
      by_cases h0 : i = i'
      · subst h0
        simp only [List.getElem_set_self, true_and]
        by_cases hjj : j = j'
        · subst hjj; simp
        · rw [Vector.getElem_set_ne _ _ hjj, if_neg (fun h => hjj h.symm)]
          have : (encE e)[i] = secOf (fullB e.1 e.2.1 e.2.2.1 e.2.2.2) i := encS_at _ i hi
          rw [this]
      · simp only [List.getElem_set_ne h0]
        rw [if_neg (fun h => h0 h.1.symm)]
        have : (encE e)[i'] = secOf (fullB e.1 e.2.1 e.2.2.1 e.2.2.2) i' := encS_at _ i' hi'
        exact congrArg (fun z : Sec => z[j']) this
    have hvb : v ≠ byteAt (fullB e.1 e.2.1 e.2.2.1 e.2.2.2) i j := by
      rw [← secOf_byte _ i j hj]
      have : (encE e)[i] = secOf (fullB e.1 e.2.1 e.2.2.1 e.2.2.2) i := encS_at _ i hi
      rw [this] at hv; exact hv
    have hij := hbyte i j hi hj
    rw [if_pos ⟨rfl, rfl⟩] at hij
    have hcount : (encE e).length = (15 + e.2.2.2.length + 62) / 63 := by rw [encE, encS_len, hF]
    by_cases hj0 : j = 0
    · subst hj0
      exact hvb (by rw [← hij]; rfl)
    · unfold byteAt at hij hvb
      rw [if_neg hj0] at hij hvb
      rcases Nat.lt_or_ge (63 * i + (j - 1)) (15 + e.2.2.2.length) with hp | hp
      · have hset : fullB x.1 x.2.1 x.2.2.1 x.2.2.2 = (fullB e.1 e.2.1 e.2.2.1 e.2.2.2).set (63 * i + (j - 1)) v := by
          apply List.ext_getElem (by rw [List.length_set, hF, hG])
          intro p hp1 hp2
          have hb := hbyte (p / 63) (p % 63 + 1) (by omega) (by omega)
          unfold byteAt at hb
          have hz : ¬ (p % 63 + 1 = 0) := by omega
          rw [if_neg hz, if_neg hz, show 63 * (p / 63) + (p % 63 + 1 - 1) = p by omega] at hb
          rw [List.getD_eq_getElem?_getD, List.getElem?_eq_getElem hp1, List.getD_eq_getElem?_getD, List.getElem?_eq_getElem (by omega)] at hb
          rw [List.getElem_set]
          by_cases hpe : 63 * i + (j - 1) = p
          · rw [if_pos hpe]
            rw [if_pos (show p / 63 = i ∧ p % 63 + 1 = j by omega)] at hb
            exact hb
          · rw [if_neg hpe]
            rw [if_neg (show ¬ (p / 63 = i ∧ p % 63 + 1 = j) by omega)] at hb
            exact hb
        have hfe := full_turn e x hxl _ v hp hset
        rw [hfe] at hij
        exact hvb hij.symm
      · rw [List.getD_eq_getElem?_getD, List.getElem?_eq_none (by omega)] at hij hvb
        exact hvb hij.symm
/-- All sectors but the last: no entry. -/
theorem cut_none (e : EntT) (hok : okE e) : decS ((encE e).take ((encE e).length - 1)) = none := by
  cases hd : decS ((encE e).take ((encE e).length - 1)) with
  | none => rfl
  | some q =>
    exfalso
    obtain ⟨x, n⟩ := q
    obtain ⟨s, r, h1, h2, h3, h4, h5, h6⟩ := decS_some hd
    have hm := hok.2.2.2
    have hlen := encE_len e hm
    have hpos : 0 < (encE e).length := by
      rw [hlen, needM, if_neg (by omega)]; omega
    have hat0 : (encE e)[0] = secOf (fullB e.1 e.2.1 e.2.2.1 e.2.2.2) 0 := encS_at _ 0 hpos
    obtain ⟨hs10, hs11⟩ := head_size e hm
    have hl : 0 < ((encE e).take ((encE e).length - 1)).length := by rw [h1]; simp
    have hs : s = (encE e)[0] := by
      have : ((encE e).take ((encE e).length - 1))[0] = s := by simp only [h1, List.getElem_cons_zero]
      rw [← this, List.getElem_take]
    have hsize : numAt s 10 2 = e.2.2.2.length := by
      rw [numAt_two s 10 (by decide), hs, hat0, hs10, hs11]
      exact numB_two _ (by omega)
    rw [hsize, ← hlen] at h3
    rw [List.length_take] at h5
    omega
end Go.Proofs.Ytnnhopjnpplfcaa
