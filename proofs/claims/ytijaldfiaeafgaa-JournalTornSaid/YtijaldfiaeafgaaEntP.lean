import Derived.Test.YtijaldfiaeafgaaEnt6
import Derived.Test.YtijaldfiaeafgaaTalP
set_option linter.unusedVariables false
set_option linter.unusedSimpArgs false
namespace Go.Proofs.Ytijaldfiaeafgaa
open Slk
/-! ### Plain facts of entries -/
theorem numB_four (a : Nat) (h : a < 4294967296) : numB (fourB a) = a := by
  simp only [numB, fourB, List.foldl_cons, List.foldl_nil, UInt8.toNat_ofNat']
  omega
theorem numB_two (n : Nat) (h : n < 65536) : numB [UInt8.ofNat (n / 256), UInt8.ofNat n] = n := by
  simp only [numB, List.foldl_cons, List.foldl_nil, UInt8.toNat_ofNat']
  omega
theorem secOf_list (F : List UInt8) (k : Nat) : (secOf F k).toList = markK k :: (piece F k ++ List.replicate (63 - (piece F k).length) 0) := by
  show (secL (markK k) (piece F k)).toArray.toList = _
  simp [secL]
theorem secOf_mark (F : List UInt8) (k : Nat) : (secOf F k)[0] = markK k := by
  have h : (secOf F k).toList[0]? = some (markK k) := by rw [secOf_list]; rfl
  rw [Vector.getElem?_toList, Vector.getElem?_eq_getElem (by decide)] at h
  simpa using h
theorem bodyS_secsTo (F : List UInt8) (k : Nat) : bodyS (secsTo F k) = F.take (63 * k) ++ List.replicate (63 * k - F.length) 0 := by
  induction k with
  | zero => simp [secsTo, bodyS]
  | succ k ih =>
    have h1 : bodyS (secsTo F (k + 1)) = bodyS (secsTo F k) ++ (piece F k ++ List.replicate (63 - (piece F k).length) 0) := by
      rw [secsTo_snoc]
      unfold bodyS
      rw [List.flatMap_append, List.flatMap_singleton, secOf_list]; rfl
    rw [h1, ih, piece_length]
    unfold piece
    rcases Nat.lt_or_ge (63 * k) F.length with h | h
    · rw [show 63 * k - F.length = 0 by omega, List.replicate_zero, List.append_nil, ← List.append_assoc]
      have h2 : F.take (63 * k) ++ (F.drop (63 * k)).take 63 = F.take (63 * (k + 1)) := by
        rw [show 63 * (k + 1) = 63 * k + 63 by omega, List.take_add]
      rw [h2, show 63 - min 63 (F.length - 63 * k) = 63 * (k + 1) - F.length by omega]
    · rw [List.take_of_length_le h, List.take_of_length_le (show F.length ≤ 63 * (k + 1) by omega), List.drop_eq_nil_of_le h]
      rw [show min 63 (F.length - 63 * k) = 0 by omega]
      simp only [List.take_nil, List.nil_append, Nat.sub_zero]
      rw [List.append_assoc, List.replicate_append_replicate, show 63 * k - F.length + 63 = 63 * (k + 1) - F.length by omega]
theorem bodyS_enc (F : List UInt8) : bodyS (encS F) = F ++ List.replicate (63 * ((F.length + 62) / 63) - F.length) 0 := by
  rw [encS, bodyS_secsTo, List.take_of_length_le (by omega)]
theorem encS_len (F : List UInt8) : (encS F).length = (F.length + 62) / 63 := by rw [encS, secsTo_len]
/-- An entry that can be written. -/
def okE (e : EntT) : Prop := e.1 < 256 ∧ e.2.1 < 4294967296 ∧ e.2.2.1 < 4294967296 ∧ e.2.2.2.length ≤ 4000
theorem encE_len (e : EntT) (h : e.2.2.2.length ≤ 4000) : (encE e).length = needM e.2.2.2.length := by
  rw [encE, encS_len, fullB_length, needM, if_neg (by omega)]; omega
theorem encS_cons (F : List UInt8) (h : 0 < F.length) : ∃ r, encS F = secOf F 0 :: r := by
  unfold encS secsTo
  obtain ⟨m, hm⟩ : ∃ m, (F.length + 62) / 63 = m + 1 := ⟨(F.length + 62) / 63 - 1, by omega⟩
  rw [hm, List.range_succ_eq_map]
  exact ⟨_, rfl⟩
theorem fullB_eq (e : EntT) : fullB e.1 e.2.1 e.2.2.1 e.2.2.2 = UInt8.ofNat e.1 :: (fourB e.2.1 ++ (fourB e.2.2.1 ++ (UInt8.ofNat (e.2.2.2.length / 256) :: UInt8.ofNat e.2.2.2.length :: (e.2.2.2 ++ fourB (Sm [preB e.1 e.2.1 e.2.2.1 e.2.2.2]))))) := by
  simp [fullB, preB, preL]
/-- The head of an entry's first sector. -/
theorem head_list (e : EntT) : ∃ t, (secOf (fullB e.1 e.2.1 e.2.2.1 e.2.2.2) 0).toList = 87 :: UInt8.ofNat e.1 :: (fourB e.2.1 ++ (fourB e.2.2.1 ++ (UInt8.ofNat (e.2.2.2.length / 256) :: UInt8.ofNat e.2.2.2.length :: t))) := by
  rw [secOf_list, show markK 0 = 87 from rfl]
  unfold piece
  rw [Nat.mul_zero, List.drop_zero, fullB_eq]
  refine ⟨(e.2.2.2 ++ fourB (Sm [preB e.1 e.2.1 e.2.2.1 e.2.2.2])).take 52 ++ List.replicate (63 - ((UInt8.ofNat e.1 :: (fourB e.2.1 ++ (fourB e.2.2.1 ++ (UInt8.ofNat (e.2.2.2.length / 256) :: UInt8.ofNat e.2.2.2.length :: (e.2.2.2 ++ fourB (Sm [preB e.1 e.2.1 e.2.2.1 e.2.2.2])))))).take 63).length) 0, ?_⟩
  generalize 63 - _ = q
  simp [fourB]
theorem get_of_list {s : Sec} {j : Nat} (hj : j < 64) {v : UInt8} (h : s.toList[j]? = some v) : s[j] = v := by
  rw [Vector.getElem?_toList, Vector.getElem?_eq_getElem hj] at h
  simpa using h
/-- The entry of an entry's sectors is it, whatever stands behind. -/
theorem decS_enc (e : EntT) (h : okE e) (rest : List Sec) : decS (encE e ++ rest) = some (e, needM e.2.2.2.length) := by
  obtain ⟨h1, h2, h3, h4⟩ := h
  obtain ⟨r, hr⟩ := encS_cons (fullB e.1 e.2.1 e.2.2.1 e.2.2.2) (by rw [fullB_length]; omega)
  obtain ⟨t, ht⟩ := head_list e
  have hlen := encE_len e h4
  have hE : encE e = encS (fullB e.1 e.2.1 e.2.2.1 e.2.2.2) := rfl
  have hbody := bodyS_enc (fullB e.1 e.2.1 e.2.2.1 e.2.2.2)
  rw [← hE] at hr hbody
  generalize hs : secOf (fullB e.1 e.2.1 e.2.2.1 e.2.2.2) 0 = s at *
  have n10 : numAt s 10 2 = e.2.2.2.length := by
    unfold numAt; rw [ht]
    show numB [UInt8.ofNat (e.2.2.2.length / 256), UInt8.ofNat e.2.2.2.length] = _
    exact numB_two _ (by omega)
  have n2 : numAt s 2 4 = e.2.1 := by
    unfold numAt; rw [ht]
    exact numB_four _ h2
  have n6 : numAt s 6 4 = e.2.2.1 := by
    unfold numAt; rw [ht]
    exact numB_four _ h3
  have n0 : s[0].toNat = 87 := by rw [get_of_list (v := 87) (by decide) (by rw [ht]; rfl)]; rfl
  have n1 : s[1].toNat = e.1 := by
    rw [get_of_list (v := UInt8.ofNat e.1) (by decide) (by rw [ht]; rfl)]
    simp only [UInt8.toNat_ofNat']; omega
  have htake : (s :: (r ++ rest)).take (needM e.2.2.2.length) = encE e := by
    rw [← List.cons_append, ← hr, ← hlen, List.take_left]
  have hcand : candE (s :: (r ++ rest)) s = e := by
    unfold candE
    rw [n10, htake, n1, n2, n6, hbody, fullB_eq]
    have : ((UInt8.ofNat e.1 :: (fourB e.2.1 ++ (fourB e.2.2.1 ++ (UInt8.ofNat (e.2.2.2.length / 256) :: UInt8.ofNat e.2.2.2.length :: (e.2.2.2 ++ fourB (Sm [preB e.1 e.2.1 e.2.2.1 e.2.2.2])))))) ++ List.replicate (63 * (((UInt8.ofNat e.1 :: (fourB e.2.1 ++ (fourB e.2.2.1 ++ (UInt8.ofNat (e.2.2.2.length / 256) :: UInt8.ofNat e.2.2.2.length :: (e.2.2.2 ++ fourB (Sm [preB e.1 e.2.1 e.2.2.1 e.2.2.2])))))).length + 62) / 63) - (UInt8.ofNat e.1 :: (fourB e.2.1 ++ (fourB e.2.2.1 ++ (UInt8.ofNat (e.2.2.2.length / 256) :: UInt8.ofNat e.2.2.2.length :: (e.2.2.2 ++ fourB (Sm [preB e.1 e.2.1 e.2.2.1 e.2.2.2])))))).length) 0).drop 11 = e.2.2.2 ++ (fourB (Sm [preB e.1 e.2.1 e.2.2.1 e.2.2.2]) ++ List.replicate (63 * (((UInt8.ofNat e.1 :: (fourB e.2.1 ++ (fourB e.2.2.1 ++ (UInt8.ofNat (e.2.2.2.length / 256) :: UInt8.ofNat e.2.2.2.length :: (e.2.2.2 ++ fourB (Sm [preB e.1 e.2.1 e.2.2.1 e.2.2.2])))))).length + 62) / 63) - (UInt8.ofNat e.1 :: (fourB e.2.1 ++ (fourB e.2.2.1 ++ (UInt8.ofNat (e.2.2.2.length / 256) :: UInt8.ofNat e.2.2.2.length :: (e.2.2.2 ++ fourB (Sm [preB e.1 e.2.1 e.2.2.1 e.2.2.2])))))).length) 0) := by
      generalize List.replicate _ _ = z
      generalize fourB (Sm _) = y
      simp [fourB]
    rw [this, List.take_left]
  rw [hr, List.cons_append]
  show (if s[0].toNat = 87 ∧ needM (numAt s 10 2) ≠ 0 ∧ needM (numAt s 10 2) ≤ (s :: (r ++ rest)).length ∧ encE (candE (s :: (r ++ rest)) s) = (s :: (r ++ rest)).take (needM (numAt s 10 2)) then some (candE (s :: (r ++ rest)) s, needM (numAt s 10 2)) else none) = _
  rw [hcand, n10, htake, if_pos]
  refine ⟨n0, ?_, ?_, rfl⟩
  · unfold needM; rw [if_neg (by omega)]; omega
  · rw [← hlen, hr]; simp
end Go.Proofs.Ytijaldfiaeafgaa
