import Derived.Test.YtpgpfcplchaleaaCodG
set_option linter.unusedVariables false
set_option linter.unusedSimpArgs false
namespace Go.Proofs.Ytpgpfcplchaleaa
open Slk
/-! ### What was read, written, is what was there -/
theorem numB_push (xs : List UInt8) (x : UInt8) : numB (xs ++ [x]) = numB xs * 256 + x.toNat := by
  unfold numB
  rw [List.foldl_append]; rfl
theorem beB_push (n k : Nat) (x : UInt8) : beB (n * 256 + x.toNat) (k + 1) = beB n k ++ [x] := by
  unfold beB
  rw [List.range_succ, List.map_append, List.map_cons, List.map_nil]
  congr 1
  · refine List.map_congr_left fun i hi => ?_
    have hi : i < k := List.mem_range.1 hi
    congr 1
    have e : 8 * (k + 1 - 1 - i) = 8 + 8 * (k - 1 - i) := by omega
    rw [e, Nat.pow_add, ← Nat.div_div_eq_div_mul]
    congr 1
    have := x.toNat_lt
    omega
  · have e : 8 * (k + 1 - 1 - k) = 0 := by omega
    rw [e]
    have := x.toNat_lt
    congr 1
    apply UInt8.toNat_inj.1
    rw [UInt8.toNat_ofNat']
    simp only [Nat.pow_zero, Nat.div_one]
    omega
theorem beB_numB (n : Nat) : ∀ xs : List UInt8, xs.length = n → beB (numB xs) n = xs := by
  induction n with
  | zero => intro xs h; rw [List.eq_nil_of_length_eq_zero h]; rfl
  | succ n ih =>
    intro xs h
    obtain ⟨ys, y, rfl⟩ : ∃ ys y, xs = ys ++ [y] := ⟨xs.dropLast, xs.getLast (by intro e; subst e; simp at h), (List.dropLast_concat_getLast _).symm⟩
    rw [numB_push, beB_push, ih ys (by simpa using h)]
theorem get_back (s : RS) (k : Nat) (h : (getS s k).bad = false) : beB (getN s k) k ++ (getS s k).rem = s.rem ∧ s.bad = false := by
  obtain ⟨h1, h2, h3, h4⟩ := getS_full s k h
  rw [h3, h4, beB_numB k _ (by rw [List.length_take]; omega), List.take_append_drop]
  exact ⟨rfl, h1⟩
theorem ofNat8_get (s : RS) : (UInt8.ofNat (getN s 1)).toNat = getN s 1 := by
  have := getN_lt s 1
  rw [UInt8.toNat_ofNat']
  omega
theorem ofNat32_get (s : RS) : (UInt32.ofNat (getN s 4)).toNat = getN s 4 := by
  have := getN_lt s 4
  rw [UInt32.toNat_ofNat']
  omega
theorem ofNat64_get (s : RS) : (UInt64.ofNat (getN s 6)).toNat = getN s 6 := by
  have := getN_lt s 6
  rw [UInt64.toNat_ofNat']
  omega
theorem rdE_back (s : RS) (h : (rdE s).2.bad = false) : edB (rdE s).1 ++ (rdE s).2.rem = s.rem ∧ s.bad = false := by
  have h : (getS (getS (getS (getS (getS (getS (getS s 1) 1) 4) 2) 1) 1) 6).bad = false := h
  obtain ⟨a7, h⟩ := get_back _ 6 h
  obtain ⟨a6, h⟩ := get_back _ 1 h
  obtain ⟨a5, h⟩ := get_back _ 1 h
  obtain ⟨a4, h⟩ := get_back _ 2 h
  obtain ⟨a3, h⟩ := get_back _ 4 h
  obtain ⟨a2, h⟩ := get_back _ 1 h
  obtain ⟨a1, h⟩ := get_back _ 1 h
  refine ⟨?_, h⟩
  show edB (_, _, _, _, _, _, _) ++ (getS (getS (getS (getS (getS (getS (getS s 1) 1) 4) 2) 1) 1) 6).rem = _
  unfold edB
  dsimp only
  rw [ofNat8_get, ofNat8_get, ofNat64_get]
  simp only [Int.toNat_natCast, List.append_assoc]
  rw [a7, a6, a5, a4, a3, a2, a1]
theorem rdEs_back (i : Nat) (s : RS) (h : (rdEs i s).2.bad = false) : (rdEs i s).1.flatMap edB ++ (rdEs i s).2.rem = s.rem ∧ s.bad = false := by
  induction i with
  | zero => exact ⟨rfl, h⟩
  | succ i ih =>
    obtain ⟨a, b⟩ := rdE_back (rdEs i s).2 h
    obtain ⟨c, d⟩ := ih b
    refine ⟨?_, d⟩
    show ((rdEs i s).1 ++ [(rdE (rdEs i s).2).1]).flatMap edB ++ (rdE (rdEs i s).2).2.rem = _
    rw [List.flatMap_append, List.flatMap_singleton, List.append_assoc, a, c]
theorem rdAll_back (s : RS) (h : (rdAll s).2.bad = false) : edsB (rdAll s).1 ++ (rdAll s).2.rem = s.rem := by
  obtain ⟨a, b⟩ := rdEs_back _ _ h
  obtain ⟨c, _⟩ := get_back s 1 b
  unfold edsB
  rw [rdEs_len, List.append_assoc, a, c]
theorem listP_refP (xs : List UInt8) (v v' : Value) : listP ⟨xs, v, false⟩ ↔ refP xs ⟨xs, v', false⟩ := by
  obtain ⟨e1, e2, e3⟩ := same_all (s := ⟨xs, v, false⟩) (t := ⟨xs, v', false⟩) ⟨rfl, rfl⟩
  unfold listP refP
  rw [e1, e2, e3]
  have hb := rdAll_back ⟨xs, v', false⟩
  generalize rdAll ⟨xs, v', false⟩ = r at *
  constructor
  · rintro ⟨⟨h1, h2⟩, h3⟩
    refine ⟨h1, h3, ?_⟩
    have := hb h1
    rw [h2, List.append_nil] at this
    exact this
  · rintro ⟨h1, h2, h3⟩
    refine ⟨⟨h1, ?_⟩, h2⟩
    have := hb h1
    rw [h3] at this
    exact List.append_cancel_left (this.trans (List.append_nil _).symm)
theorem listP_same (xs : List UInt8) (v v' : Value) : (rdAll ⟨xs, v, false⟩).1 = (rdAll ⟨xs, v', false⟩).1 := (same_all (s := ⟨xs, v, false⟩) (t := ⟨xs, v', false⟩) ⟨rfl, rfl⟩).1
end Go.Proofs.Ytpgpfcplchaleaa
