import Derived.Test.YtijaldfiaeafgaaEntR
set_option linter.unusedVariables false
set_option linter.unusedSimpArgs false
namespace Go.Proofs.Ytijaldfiaeafgaa
open Slk
/-! ### What the reference's Decode gathers (plain) -/
def gathN : List Sec → Nat
  | [] => 0
  | s :: r => if s[0] = 119 then gathN r + 1 else 0
theorem gath_le : ∀ r : List Sec, gathN r ≤ r.length
  | [] => Nat.le_refl _
  | s :: r => by
    unfold gathN
    have := gath_le r
    rw [List.length_cons]
    split <;> omega
theorem gath_all : ∀ (r : List Sec) (j : Nat) (h : j < r.length), j < gathN r → r[j][0] = 119
  | [], j, h, _ => by simp at h
  | s :: r, 0, h, hg => by
    unfold gathN at hg
    split at hg
    · rename_i hs; exact hs
    · omega
  | s :: r, j + 1, h, hg => by
    unfold gathN at hg
    split at hg
    · exact gath_all r j (by simpa using h) (by omega)
    · omega
theorem gath_stop : ∀ (r : List Sec) (h : gathN r < r.length), r[gathN r][0] ≠ 119
  | [], h => by simp at h
  | s :: r, h => by
    by_cases hs : s[0] = 119
    · have e : gathN (s :: r) = gathN r + 1 := by simp [gathN, hs]
      have h2 : gathN r < r.length := by rw [e, List.length_cons] at h; omega
      have := gath_stop r h2
      have e2 : (s :: r)[gathN (s :: r)]'h = r[gathN r] := by simp only [e, List.getElem_cons_succ]
      rw [e2]; exact this
    · have e : gathN (s :: r) = 0 := by simp [gathN, hs]
      have e2 : (s :: r)[gathN (s :: r)]'h = s := by simp only [e, List.getElem_cons_zero]
      rw [e2]; exact hs
theorem gath_ge : ∀ (k : Nat) (r : List Sec), (∀ j, j < k → ∃ h : j < r.length, r[j][0] = 119) → k ≤ gathN r
  | 0, _, _ => Nat.zero_le _
  | k + 1, [], h => by obtain ⟨h1, _⟩ := h 0 (by omega); simp at h1
  | k + 1, s :: r, h => by
    obtain ⟨_, h0⟩ := h 0 (by omega)
    have h0 : s[0] = 119 := h0
    have := gath_ge k r fun j hj => by
      obtain ⟨h1, h2⟩ := h (j + 1) (by omega)
      exact ⟨by simpa using h1, by simpa using h2⟩
    unfold gathN
    rw [if_pos h0]; omega
theorem encE_nth (e : EntT) (i : Nat) (h : i < (encE e).length) : (encE e)[i] = secOf (fullB e.1 e.2.1 e.2.2.1 e.2.2.2) i := by
  have : (encE e)[i]? = some (secOf (fullB e.1 e.2.1 e.2.2.1 e.2.2.2) i) := by
    unfold encE encS secsTo
    rw [List.getElem?_map, List.getElem?_range (by simpa [encE, encS, secsTo] using h)]; rfl
  rw [List.getElem?_eq_getElem h] at this
  simpa using this
/-- An entry's sectors are gathered. -/
theorem gath_enc {s : Sec} {r : List Sec} {x : EntT} {n : Nat} (hn : 1 ≤ n) (hl : n ≤ (s :: r).length) (h : encE x = (s :: r).take n) : n ≤ 1 + gathN r := by
  have := gath_ge (n - 1) r fun j hj => by
    have hjr : j < r.length := by rw [List.length_cons] at hl; omega
    have hle : j + 1 < (encE x).length := by rw [h, List.length_take]; omega
    have h1 := encE_nth x (j + 1) hle
    have h2 : (encE x)[j + 1] = r[j] := by
      have : (encE x)[j + 1]? = some r[j] := by
        rw [h, List.getElem?_take_of_lt (by omega), List.getElem?_cons_succ, List.getElem?_eq_getElem hjr]
      rw [List.getElem?_eq_getElem hle] at this
      simpa using this
    refine ⟨hjr, ?_⟩
    rw [← h2, h1, secOf_mark]
    unfold markK; rw [if_neg (by omega)]
  omega
/-- What is gathered begins with what an entry's sectors hold. -/
theorem body_take (S : List Sec) (m k : Nat) (h : k ≤ m) (hm : m ≤ S.length) : bodyS (S.take k) = (bodyS (S.take m)).take (63 * k) := by
  have e : S.take m = S.take k ++ (S.take m).drop k := by
    rw [show S.take k = (S.take m).take k by rw [List.take_take, Nat.min_eq_left h], List.take_append_drop]
  have hl : (bodyS (S.take k)).length = 63 * k := by rw [bodyS_length, List.length_take, Nat.min_eq_left (by omega)]
  rw [e]
  unfold bodyS at hl ⊢
  rw [List.flatMap_append, List.take_left' hl]
/-- The bytes ahead in what is gathered are the first sector's. -/
theorem head_body (s : Sec) (r : List Sec) (k lo m : Nat) (hk : 1 ≤ k) (h : lo + m ≤ 63) : ((bodyS ((s :: r).take k)).drop lo).take m = (s.toList.drop (lo + 1)).take m := by
  obtain ⟨k', rfl⟩ : ∃ k', k = k' + 1 := ⟨k - 1, by omega⟩
  rw [List.take_succ_cons]
  unfold bodyS
  have hl : (s.toList.drop 1).length = 63 := by simp
  rw [List.flatMap_cons, List.drop_append_of_le_length (by omega), List.take_append_of_le_length (by rw [List.length_drop]; omega), List.drop_drop]
  congr 2
  omega
end Go.Proofs.Ytijaldfiaeafgaa
