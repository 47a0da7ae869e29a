import Derived.Test.YtjlolpmmpafjeaaGreatW10
set_option linter.unusedVariables false
set_option linter.unusedSimpArgs false
namespace Go.Proofs.YtjlolpmmpafjeaaGreat
open Slk
/-! ### Lists are read -/
def rdL {α : Type} (f : RS → α × RS) : Nat → RS → List α × RS
  | 0, s => ([], s)
  | i + 1, s => ((rdL f i s).1 ++ [(f (rdL f i s).2).1], (f (rdL f i s).2).2)
section
variable {α : Type} {f : RS → α × RS}
theorem rdL_len (i : Nat) (s : RS) : (rdL f i s).1.length = i := by
  induction i with
  | zero => rfl
  | succ i ih => simp [rdL, ih]
theorem rdL_mem {p : α → Prop} (hf : ∀ s, p (f s).1) (i : Nat) (s : RS) : ∀ x ∈ (rdL f i s).1, p x := by
  induction i with
  | zero => intro x hx; cases hx
  | succ i ih =>
    intro x hx
    rcases List.mem_append.1 hx with h | h
    · exact ih x h
    · rw [List.mem_singleton.1 h]; exact hf _
theorem old_rdL {D : Nat → Prop} {w : World} (hf : ∀ s, Old D w (Rep.rep s.rem [s.v]) → Old D w (Rep.rep (f s).2.rem [(f s).2.v])) {s : RS} (i : Nat) (h : Old D w (Rep.rep s.rem [s.v])) : Old D w (Rep.rep (rdL f i s).2.rem [(rdL f i s).2.v]) := by
  induction i with
  | zero => exact h
  | succ i ih => exact hf _ ih
theorem rdL_read {g : α → List UInt8} {p : α → Prop} (hf : ∀ x tail s, p x → s.rem = g x ++ tail → s.bad = false → (f s).1 = x ∧ (f s).2.rem = tail ∧ (f s).2.bad = false) (n : Nat) : ∀ (l : List α) (tail : List UInt8) (s : RS), l.length = n → (∀ x ∈ l, p x) → s.rem = l.flatMap g ++ tail → s.bad = false → (rdL f n s).1 = l ∧ (rdL f n s).2.rem = tail ∧ (rdL f n s).2.bad = false := by
  induction n with
  | zero =>
    intro l tail s hl _ h hb
    rw [List.eq_nil_of_length_eq_zero hl] at h ⊢
    exact ⟨rfl, h, hb⟩
  | succ n ih =>
    intro l tail s hl hp h hb
    obtain ⟨ys, y, rfl⟩ : ∃ ys y, l = ys ++ [y] := ⟨l.dropLast, l.getLast (by intro e; subst e; simp at hl), (List.dropLast_concat_getLast _).symm⟩
    rw [List.flatMap_append, List.flatMap_singleton, List.append_assoc] at h
    obtain ⟨a1, a2, a3⟩ := ih ys (g y ++ tail) s (by simpa using hl) (fun x hx => hp x (by simp [hx])) h hb
    obtain ⟨b1, b2, b3⟩ := hf y tail _ (hp y (by simp)) a2 a3
    refine ⟨?_, b2, b3⟩
    show (rdL f n s).1 ++ [(f (rdL f n s).2).1] = _
    rw [a1, b1]
end
/-! ### The parts of a configuration -/
def mkB : Bool → RS → Nat → RS
  | true, s, n => ⟨s.rem, s.v, s.bad || decide (1 < (n : Int))⟩
  | false, s, _ => s
def rdP (m : Bool) (s : RS) : PortC × RS :=
  let s1 := mkB m (getS s 1) (getN s 1)
  ((decide ((getN s 1 : Int) = 1), UInt32.ofNat (getN s1 4), (getN (getS s1 4) 2 : Int)), getS (getS s1 4) 2)
def rdV (s : RS) : VlanC × RS := (((getN s 2 : Int), UInt8.ofNat (getN (getS s 2) 1), UInt8.ofNat (getN (getS (getS s 2) 1) 1)), getS (getS (getS s 2) 1) 1)
def rdS (s : RS) : StatC × RS := ((UInt64.ofNat (getN s 6), (getN (getS s 6) 2 : Int), (getN (getS (getS s 6) 2) 1 : Int)), getS (getS (getS s 6) 2) 1)
theorem mkB_rem (m : Bool) (s : RS) (n : Nat) : (mkB m s n).rem = s.rem := by cases m <;> rfl
theorem mkB_v (m : Bool) (s : RS) (n : Nat) : (mkB m s n).v = s.v := by cases m <;> rfl
theorem mkB_in (m : Bool) (s : RS) (n : Nat) (hn : n ≤ 1) (h : s.bad = false) : (mkB m s n).bad = false := by
  cases m
  · exact h
  · show (s.bad || decide (1 < (n : Int))) = false
    rw [h, decide_eq_false (by omega)]; rfl
theorem old_mkB {D : Nat → Prop} {w : World} {s : RS} (m : Bool) (n : Nat) (h : Old D w (Rep.rep s.rem [s.v])) : Old D w (Rep.rep (mkB m s n).rem [(mkB m s n).v]) := by
  rw [mkB_rem, mkB_v]; exact h
theorem old_rdP {D : Nat → Prop} {w : World} (m : Bool) (s : RS) (h : Old D w (Rep.rep s.rem [s.v])) : Old D w (Rep.rep (rdP m s).2.rem [(rdP m s).2.v]) := old_get 2 (old_get 4 (old_mkB m _ (old_get 1 h)))
theorem old_rdV {D : Nat → Prop} {w : World} (s : RS) (h : Old D w (Rep.rep s.rem [s.v])) : Old D w (Rep.rep (rdV s).2.rem [(rdV s).2.v]) := old_get 1 (old_get 1 (old_get 2 h))
theorem old_rdS {D : Nat → Prop} {w : World} (s : RS) (h : Old D w (Rep.rep s.rem [s.v])) : Old D w (Rep.rep (rdS s).2.rem [(rdS s).2.v]) := old_get 1 (old_get 2 (old_get 6 h))
theorem rdP_ok (m : Bool) (s : RS) : Flat.ok (rdP m s).1 := getN_in _ 2 (by decide)
theorem rdV_ok (s : RS) : Flat.ok (rdV s).1 := getN_in _ 2 (by decide)
theorem rdS_ok (s : RS) : Flat.ok (rdS s).1 := ⟨getN_in _ 2 (by decide), getN_in _ 1 (by decide)⟩
theorem rdP_cells (m : Bool) (s : RS) : portV (rdP m s).1 = [.bool (decide ((getN s 1 : Int) = 1)), .int .u32 (getN (mkB m (getS s 1) (getN s 1)) 4), .int .i64 (getN (getS (mkB m (getS s 1) (getN s 1)) 4) 2)] := by
  show [Value.bool _, Value.int .u32 ((UInt32.ofNat _).toNat : Int), _] = _
  rw [ofNat32_get]; rfl
theorem rdV_cells (s : RS) : vlanV (rdV s).1 = [.int .i64 (getN s 2), .int .u8 ((getN (getS s 2) 1 % 256 : Nat) : Int), .int .u8 ((getN (getS (getS s 2) 1) 1 % 256 : Nat) : Int)] := by
  show [_, u8v (UInt8.ofNat _), u8v (UInt8.ofNat _)] = _
  rw [u8v_ofNat, u8v_ofNat]; rfl
theorem rdS_cells (s : RS) : statV (rdS s).1 = [.int .u64 (getN s 6), .int .i64 (getN (getS s 6) 2), .int .i64 (getN (getS (getS s 6) 2) 1)] := by
  show [Value.int .u64 ((UInt64.ofNat _).toNat : Int), _, _] = _
  rw [ofNat64_get]; rfl
def rdC (m : Bool) (s : RS) : ConfC × RS :=
  let s1 := getS s 2
  let s2 := getS s1 1
  let s3 := getS s2 1
  let p := rdL (rdP m) (getN s3 1) (getS s3 1)
  let v := rdL rdV (getN p.2 1) (getS p.2 1)
  let t := rdL rdS (getN v.2 1) (getS v.2 1)
  (((getN s 2 : Int), (getN s1 1 : Int), (getN s2 1 : Int), p.1, v.1, t.1), t.2)
/-! ### What was read is what is written -/
/-! ### What was written is read -/
theorem numB_beB (k : Nat) : ∀ n : Nat, n < 256 ^ k → numB (beB n k) = n := by
  induction k with
  | zero => intro n h; have : n = 0 := by simpa using h
            subst this; rfl
  | succ k ih =>
    intro n h
    have e := beB_push (n / 256) k (UInt8.ofNat n)
    have e2 : n / 256 * 256 + (UInt8.ofNat n).toNat = n := by rw [UInt8.toNat_ofNat']; omega
    rw [e2] at e
    rw [e, numB_push, ih (n / 256) (by rw [Nat.pow_succ] at h; omega), e2]
theorem get_read {s : RS} {n k : Nat} {tail : List UInt8} (hn : n < 256 ^ k) (h : s.rem = beB n k ++ tail) (hb : s.bad = false) : getN s k = n ∧ (getS s k).rem = tail ∧ (getS s k).bad = false := by
  have hl : ¬ s.rem.length < k := by rw [h, List.length_append, beB_len]; omega
  unfold getN getS
  rw [if_neg hl, if_neg hl, h]
  have e1 : (beB n k ++ tail).take k = beB n k := by rw [List.take_append_of_le_length za24, List.take_of_length_le za24]
  have e2 : (beB n k ++ tail).drop k = tail := by
    have := List.drop_left (l₁ := beB n k) (l₂ := tail)
    rwa [beB_len] at this
  rw [e1, e2]
  exact ⟨numB_beB k n hn, rfl, hb⟩
theorem ofNat8_toNat (x : UInt8) : UInt8.ofNat x.toNat = x := by simp
theorem ofNat32_toNat (x : UInt32) : UInt32.ofNat x.toNat = x := by simp
theorem ofNat64_toNat (x : UInt64) : UInt64.ofNat x.toNat = x := by simp
theorem rdP_read (m : Bool) (x : PortC) (tail : List UInt8) (s : RS) (hx : 0 ≤ x.2.2 ∧ x.2.2 ≤ 4094) (h : s.rem = portB x ++ tail) (hb : s.bad = false) : (rdP m s).1 = x ∧ (rdP m s).2.rem = tail ∧ (rdP m s).2.bad = false := by
  obtain ⟨u, c, p⟩ := x
  dsimp only at hx
  unfold portB at h
  dsimp only at h
  simp only [List.append_assoc] at h
  have hu : (if u = true then 1 else 0) ≤ 1 := by split <;> decide
  have p1 : (256 : Nat) ^ 1 = 256 := by decide
  have p2 : (256 : Nat) ^ 2 = 65536 := by decide
  obtain ⟨n1, r1, b1⟩ := get_read (by omega) h hb
  have b1 := mkB_in m _ (getN s 1) (by rw [n1]; exact hu) b1
  rw [← mkB_rem m _ (getN s 1)] at r1
  obtain ⟨n2, r2, b2⟩ := get_read (show c.toNat < 256 ^ 4 from c.toNat_lt) r1 b1
  obtain ⟨n3, r3, b3⟩ := get_read (show p.toNat < 256 ^ 2 by omega) r2 b2
  refine ⟨?_, r3, b3⟩
  show (decide ((getN s 1 : Int) = 1), UInt32.ofNat (getN (mkB m (getS s 1) (getN s 1)) 4), (getN (getS (mkB m (getS s 1) (getN s 1)) 4) 2 : Int)) = _
  rw [n2, n3, n1, ofNat32_toNat, Int.toNat_of_nonneg hx.1]
  cases u <;> rfl
theorem rdV_read (x : VlanC) (tail : List UInt8) (s : RS) (hx : 0 ≤ x.1 ∧ x.1 ≤ 4094) (h : s.rem = vlanB x ++ tail) (hb : s.bad = false) : (rdV s).1 = x ∧ (rdV s).2.rem = tail ∧ (rdV s).2.bad = false := by
  have p1 : (256 : Nat) ^ 1 = 256 := by decide
  have p2 : (256 : Nat) ^ 2 = 65536 := by decide
  obtain ⟨u, c, p⟩ := x
  dsimp only at hx
  unfold vlanB at h
  dsimp only at h
  simp only [List.append_assoc] at h
  obtain ⟨n1, r1, b1⟩ := get_read (show u.toNat < 256 ^ 2 by omega) h hb
  obtain ⟨n2, r2, b2⟩ := get_read (show c.toNat < 256 ^ 1 from c.toNat_lt) r1 b1
  obtain ⟨n3, r3, b3⟩ := get_read (show p.toNat < 256 ^ 1 from p.toNat_lt) r2 b2
  refine ⟨?_, r3, b3⟩
  show ((getN s 2 : Int), UInt8.ofNat (getN (getS s 2) 1), UInt8.ofNat (getN (getS (getS s 2) 1) 1)) = _
  rw [n1, n2, n3, ofNat8_toNat, ofNat8_toNat, Int.toNat_of_nonneg hx.1]
theorem rdS_read (x : StatC) (tail : List UInt8) (s : RS) (hx : (0 ≤ x.2.1 ∧ x.2.1 ≤ 4094) ∧ 0 ≤ x.2.2 ∧ x.2.2 < 8 ∧ x.1.toNat < 281474976710656) (h : s.rem = statB x ++ tail) (hb : s.bad = false) : (rdS s).1 = x ∧ (rdS s).2.rem = tail ∧ (rdS s).2.bad = false := by
  have p1 : (256 : Nat) ^ 1 = 256 := by decide
  have p2 : (256 : Nat) ^ 2 = 65536 := by decide
  obtain ⟨u, c, p⟩ := x
  dsimp only at hx
  unfold statB at h
  dsimp only at h
  simp only [List.append_assoc] at h
  obtain ⟨n1, r1, b1⟩ := get_read (show u.toNat < 256 ^ 6 from hx.2.2.2) h hb
  obtain ⟨n2, r2, b2⟩ := get_read (show c.toNat < 256 ^ 2 by omega) r1 b1
  obtain ⟨n3, r3, b3⟩ := get_read (show p.toNat < 256 ^ 1 by omega) r2 b2
  refine ⟨?_, r3, b3⟩
  show (UInt64.ofNat (getN s 6), (getN (getS s 6) 2 : Int), (getN (getS (getS s 6) 2) 1 : Int)) = _
  rw [n1, n2, n3, ofNat64_toNat, Int.toNat_of_nonneg hx.1.1, Int.toNat_of_nonneg hx.2.1]
theorem rdC_read (m : Bool) (c : ConfC) (tail : List UInt8) (s : RS) (hc : Wok c) (h : s.rem = cfgB c ++ tail) (hb : s.bad = false) : (rdC m s).1 = c ∧ (rdC m s).2.rem = tail ∧ (rdC m s).2.bad = false := by
  obtain ⟨c1, c2, c3, P, V, S⟩ := c
  obtain ⟨a1, a2, a3, a4, a5, a6, a7, a8, a9⟩ := hc
  dsimp only at a1 a2 a3 a4 a5 a6 a7 a8 a9
  unfold cfgB headB at h
  dsimp only at h
  simp only [List.append_assoc] at h
  have p1 : (256 : Nat) ^ 1 = 256 := by decide
  have p2 : (256 : Nat) ^ 2 = 65536 := by decide
  obtain ⟨n1, r1, b1⟩ := get_read (by omega) h hb
  obtain ⟨n2, r2, b2⟩ := get_read (by omega) r1 b1
  obtain ⟨n3, r3, b3⟩ := get_read (by omega) r2 b2
  obtain ⟨n4, r4, b4⟩ := get_read (by omega) r3 b3
  obtain ⟨n5, r5, b5⟩ := rdL_read (rdP_read m) P.length P _ _ rfl (fun x hx => by obtain ⟨i, hi, rfl⟩ := List.getElem_of_mem hx; exact a7 i hi) r4 b4
  obtain ⟨n6, r6, b6⟩ := get_read (by omega) r5 b5
  obtain ⟨n7, r7, b7⟩ := rdL_read rdV_read V.length V _ _ rfl (fun x hx => by obtain ⟨i, hi, rfl⟩ := List.getElem_of_mem hx; exact a8 i hi) r6 b6
  obtain ⟨n8, r8, b8⟩ := get_read (by omega) r7 b7
  obtain ⟨n9, r9, b9⟩ := rdL_read rdS_read S.length S _ _ rfl (fun x hx => by obtain ⟨i, hi, rfl⟩ := List.getElem_of_mem hx; exact a9 i hi) r8 b8
  simp only [rdC]
  rw [n4, n6, n8, n1, n2, n3, n5, n7, n9, Int.toNat_of_nonneg a1.1, Int.toNat_of_nonneg a2.1, Int.toNat_of_nonneg a3.1]
  exact ⟨rfl, r9, b9⟩
end Go.Proofs.YtjlolpmmpafjeaaGreat
