import Derived.Test.YtjlolpmmpafjeaaGreatV09
set_option linter.unusedVariables false
set_option linter.unusedSimpArgs false
namespace Go.Proofs.YtjlolpmmpafjeaaGreat
open Slk
def rdL {α : Type} (f : RS → α × RS) : Nat → RS → List α × RS
 | 0, s => ([], s)
 | i + 1, s => ((rdL f i s).1 ++ [(f (rdL f i s).2).1], (f (rdL f i s).2).2)
section
variable {α : Type} {f : RS → α × RS}
theorem rdL_len (i : Nat) (s : RS) : (rdL f i s).1.length = i := by
 induction i with
 | zero => rfl
 | succ i ih => simp [rdL, ih]
theorem rdL_mem {p : α → Prop} (hf : ∀ s, p (f s).1) (i : Nat) (s : RS) : ∀ x ∈ (rdL f i s).1, p x := by
 induction i with
 | zero => intro x hx; cases hx
 | succ i ih =>
  intro x hx
  rcases List.mem_append.1 hx with h | h
  ·exact ih x h
  ·rw [List.mem_singleton.1 h]; exact hf _
theorem old_rdL {D : Nat → Prop} {w : World} (hf : ∀ s, Old D w (Rep.rep s.rem [s.v]) → Old D w (Rep.rep (f s).2.rem [(f s).2.v])) {s : RS} (i : Nat) (h : Old D w (Rep.rep s.rem [s.v])) : Old D w (Rep.rep (rdL f i s).2.rem [(rdL f i s).2.v]) := by
 induction i with
 | zero => exact h
 | succ i ih => exact hf _ ih
theorem rdL_read {g : α → List UInt8} {p : α → Prop} (hf : ∀ x tail s, p x → s.rem = g x ++ tail → s.bad = false → (f s).1 = x ∧ (f s).2.rem = tail ∧ (f s).2.bad = false) (n : Nat) : ∀ (l : List α) (tail : List UInt8) (s : RS), l.length = n → (∀ x ∈ l, p x) → s.rem = l.flatMap g ++ tail → s.bad = false → (rdL f n s).1 = l ∧ (rdL f n s).2.rem = tail ∧ (rdL f n s).2.bad = false := by
 induction n with
 | zero =>
  intro l tail s hl _ h hb
  rw [List.eq_nil_of_length_eq_zero hl] at h ⊢
  exact ⟨rfl, h, hb⟩
 | succ n ih =>
  intro l tail s hl hp h hb
  obtain ⟨ys, y, rfl⟩ : ∃ ys y, l = ys ++ [y] := ⟨l.dropLast, l.getLast (by intro e; subst e; simp at hl), (List.dropLast_concat_getLast _).symm⟩
  rw [List.flatMap_append, List.flatMap_singleton, List.append_assoc] at h
  obtain ⟨a1, a2, a3⟩ := ih ys (g y ++ tail) s (by simpa using hl) (fun x hx => hp x (by simp [hx])) h hb
  obtain ⟨b1, b2, b3⟩ := hf y tail _ (hp y (by simp)) a2 a3
  refine ⟨?_, b2, b3⟩
  show (rdL f n s).1 ++ [(f (rdL f n s).2).1] = _
  rw [a1, b1]
theorem rdL_sticky (hf : ∀ s : RS, s.bad = true → (f s).2.bad = true) (i j : Nat) (hij : i ≤ j) (s : RS) (h : (rdL f i s).2.bad = true) : (rdL f j s).2.bad = true := by
 induction j with
 | zero =>
  obtain rfl : i = 0 := by omega
  exact h
 | succ j ih =>
  rcases Nat.lt_or_ge i (j + 1) with h1 | h1
  ·exact hf _ (ih Z64)
  ·obtain rfl : i = j + 1 := by omega
   exact h
end
theorem getS_badT (s : RS) (k : Nat) (h : s.bad = true) : (getS s k).bad = true := by
 unfold getS
 split
 ·rfl
 ·exact h
def mkB : Bool → RS → Nat → RS
 | true, s, n => ⟨s.rem, s.v, s.bad || decide (1 < (n : Int))⟩
 | false, s, _ => s
def rdP (m : Bool) (s : RS) : PortC × RS :=
 let s1 := mkB m (getS s 1) (getN s 1)
 ((decide ((getN s 1 : Int) = 1), UInt32.ofNat (getN s1 4), (getN (getS s1 4) 2 : Int)), getS (getS s1 4) 2)
def rdV (s : RS) : VlanC × RS := (((getN s 2 : Int), UInt8.ofNat (getN (getS s 2) 1), UInt8.ofNat (getN (getS (getS s 2) 1) 1)), getS (getS (getS s 2) 1) 1)
def rdS (s : RS) : StatC × RS := ((UInt64.ofNat (getN s 6), (getN (getS s 6) 2 : Int), (getN (getS (getS s 6) 2) 1 : Int)), getS (getS (getS s 6) 2) 1)
theorem mkB_rem (m : Bool) (s : RS) (n : Nat) : (mkB m s n).rem = s.rem := by cases m <;> rfl
theorem mkB_v (m : Bool) (s : RS) (n : Nat) : (mkB m s n).v = s.v := by cases m <;> rfl
theorem mkB_in (m : Bool) (s : RS) (n : Nat) (hn : n ≤ 1) (h : s.bad = false) : (mkB m s n).bad = false := by
 cases m
 ·exact h
 ·show (s.bad || decide (1 < (n : Int))) = false
  rw [h, decide_eq_false Z64]; rfl
theorem old_mkB {D : Nat → Prop} {w : World} {s : RS} (m : Bool) (n : Nat) (h : Old D w (Rep.rep s.rem [s.v])) : Old D w (Rep.rep (mkB m s n).rem [(mkB m s n).v]) := by
 rw [mkB_rem, mkB_v]; exact h
theorem old_rdP {D : Nat → Prop} {w : World} (m : Bool) (s : RS) (h : Old D w (Rep.rep s.rem [s.v])) : Old D w (Rep.rep (rdP m s).2.rem [(rdP m s).2.v]) := old_get 2 (old_get 4 (old_mkB m _ (old_get 1 h)))
theorem old_rdV {D : Nat → Prop} {w : World} (s : RS) (h : Old D w (Rep.rep s.rem [s.v])) : Old D w (Rep.rep (rdV s).2.rem [(rdV s).2.v]) := old_get 1 (old_get 1 (old_get 2 h))
theorem old_rdS {D : Nat → Prop} {w : World} (s : RS) (h : Old D w (Rep.rep s.rem [s.v])) : Old D w (Rep.rep (rdS s).2.rem [(rdS s).2.v]) := old_get 1 (old_get 2 (old_get 6 h))
theorem rdP_ok (m : Bool) (s : RS) : Flat.ok (rdP m s).1 := getN_in _ 2 Z63
theorem rdV_ok (s : RS) : Flat.ok (rdV s).1 := getN_in _ 2 Z63
theorem rdS_ok (s : RS) : Flat.ok (rdS s).1 := ⟨getN_in _ 2 Z63, getN_in _ 1 Z63⟩
theorem rdP_cells (m : Bool) (s : RS) : portV (rdP m s).1 = [.bool (decide ((getN s 1 : Int) = 1)), .int .u32 (getN (mkB m (getS s 1) (getN s 1)) 4), .int .i64 (getN (getS (mkB m (getS s 1) (getN s 1)) 4) 2)] := by
 show [Value.bool _, Value.int .u32 ((UInt32.ofNat _).toNat : Int), _] = _
 rw [ofNat32_get]; rfl
theorem rdV_cells (s : RS) : vlanV (rdV s).1 = [.int .i64 (getN s 2), .int .u8 ((getN (getS s 2) 1 % 256 : Nat) : Int), .int .u8 ((getN (getS (getS s 2) 1) 1 % 256 : Nat) : Int)] := by
 show [_, u8v (UInt8.ofNat _), u8v (UInt8.ofNat _)] = _
 rw [u8v_ofNat, u8v_ofNat]; rfl
theorem rdS_cells (s : RS) : statV (rdS s).1 = [.int .u64 (getN s 6), .int .i64 (getN (getS s 6) 2), .int .i64 (getN (getS (getS s 6) 2) 1)] := by
 show [Value.int .u64 ((UInt64.ofNat _).toNat : Int), _, _] = _
 rw [ofNat64_get]; rfl
def rdC (m : Bool) (s : RS) : ConfC × RS :=
 let s1 := getS s 2
 let s2 := getS s1 1
 let s3 := getS s2 1
 let p := rdL (rdP m) (getN s3 1) (getS s3 1)
 let v := rdL rdV (getN p.2 1) (getS p.2 1)
 let t := rdL rdS (getN v.2 1) (getS v.2 1)
 (((getN s 2 : Int), (getN s1 1 : Int), (getN s2 1 : Int), p.1, v.1, t.1), t.2)
theorem numB_beB (k : Nat) : ∀ n : Nat, n < 256 ^ k → numB (beB n k) = n := by
 induction k with
 | zero => intro n h; have : n = 0 := by simpa using h
           subst this; rfl
 | succ k ih =>
  intro n h
  have e := beB_push (n / 256) k (UInt8.ofNat n)
  have e2 : n / 256 * 256 + (UInt8.ofNat n).toNat = n := by rw [UInt8.toNat_ofNat']; omega
  rw [e2] at e
  rw [e, numB_push, ih (n / 256) (by rw [Nat.pow_succ] at h; omega), e2]
theorem get_read {s : RS} {n k : Nat} {tail : List UInt8} (hn : n < 256 ^ k) (h : s.rem = beB n k ++ tail) (hb : s.bad = false) : getN s k = n ∧ (getS s k).rem = tail ∧ (getS s k).bad = false := by
 have hl : ¬ s.rem.length < k := by rw [h, List.length_append, beB_len]; omega
 unfold getN getS
 rw [if_neg hl, if_neg hl, h]
 have e1 : (beB n k ++ tail).take k = beB n k := by rw [List.take_append_of_le_length Z34, List.take_of_length_le Z34]
 have e2 : (beB n k ++ tail).drop k = tail := by
  have := List.drop_left (l₁ := beB n k) (l₂ := tail)
  rwa [beB_len] at this
 rw [e1, e2]
 exact ⟨numB_beB k n hn, rfl, hb⟩
theorem ofNat8_toNat (x : UInt8) : UInt8.ofNat x.toNat = x := by simp
theorem ofNat32_toNat (x : UInt32) : UInt32.ofNat x.toNat = x := by simp
theorem ofNat64_toNat (x : UInt64) : UInt64.ofNat x.toNat = x := by simp
theorem rdP_read (m : Bool) (x : PortC) (tail : List UInt8) (s : RS) (hx : 0 ≤ x.2.2 ∧ x.2.2 ≤ 4094) (h : s.rem = portB x ++ tail) (hb : s.bad = false) : (rdP m s).1 = x ∧ (rdP m s).2.rem = tail ∧ (rdP m s).2.bad = false := by
 obtain ⟨u, c, p⟩ := x
 dsimp only at hx
 unfold portB at h
 dsimp only at h
 simp only [List.append_assoc] at h
 have hu : (if u = true then 1 else 0) ≤ 1 := by split <;> decide
 have p1 : (256 : Nat) ^ 1 = 256 := by decide
 have p2 : (256 : Nat) ^ 2 = 65536 := by decide
 obtain ⟨n1, r1, b1⟩ := get_read Z64 h hb
 have b1 := mkB_in m _ (getN s 1) (by rw [n1]; exact hu) b1
 rw [← mkB_rem m _ (getN s 1)] at r1
 obtain ⟨n2, r2, b2⟩ := get_read (show c.toNat < 256 ^ 4 from c.toNat_lt) r1 b1
 obtain ⟨n3, r3, b3⟩ := get_read (show p.toNat < 256 ^ 2 by omega) r2 b2
 refine ⟨?_, r3, b3⟩
 show (decide ((getN s 1 : Int) = 1), UInt32.ofNat (getN (mkB m (getS s 1) (getN s 1)) 4), (getN (getS (mkB m (getS s 1) (getN s 1)) 4) 2 : Int)) = _
 rw [n2, n3, n1, ofNat32_toNat, Int.toNat_of_nonneg hx.1]
 cases u <;> rfl
theorem rdV_read (x : VlanC) (tail : List UInt8) (s : RS) (hx : 0 ≤ x.1 ∧ x.1 ≤ 4094) (h : s.rem = vlanB x ++ tail) (hb : s.bad = false) : (rdV s).1 = x ∧ (rdV s).2.rem = tail ∧ (rdV s).2.bad = false := by
 have p1 : (256 : Nat) ^ 1 = 256 := by decide
 have p2 : (256 : Nat) ^ 2 = 65536 := by decide
 obtain ⟨u, c, p⟩ := x
 dsimp only at hx
 unfold vlanB at h
 dsimp only at h
 simp only [List.append_assoc] at h
 obtain ⟨n1, r1, b1⟩ := get_read (show u.toNat < 256 ^ 2 by omega) h hb
 obtain ⟨n2, r2, b2⟩ := get_read (show c.toNat < 256 ^ 1 from c.toNat_lt) r1 b1
 obtain ⟨n3, r3, b3⟩ := get_read (show p.toNat < 256 ^ 1 from p.toNat_lt) r2 b2
 refine ⟨?_, r3, b3⟩
 show ((getN s 2 : Int), UInt8.ofNat (getN (getS s 2) 1), UInt8.ofNat (getN (getS (getS s 2) 1) 1)) = _
 rw [n1, n2, n3, ofNat8_toNat, ofNat8_toNat, Int.toNat_of_nonneg hx.1]
theorem rdS_read (x : StatC) (tail : List UInt8) (s : RS) (hx : (0 ≤ x.2.1 ∧ x.2.1 ≤ 4094) ∧ 0 ≤ x.2.2 ∧ x.2.2 < 8 ∧ x.1.toNat < 281474976710656) (h : s.rem = statB x ++ tail) (hb : s.bad = false) : (rdS s).1 = x ∧ (rdS s).2.rem = tail ∧ (rdS s).2.bad = false := by
 have p1 : (256 : Nat) ^ 1 = 256 := by decide
 have p2 : (256 : Nat) ^ 2 = 65536 := by decide
 obtain ⟨u, c, p⟩ := x
 dsimp only at hx
 unfold statB at h
 dsimp only at h
 simp only [List.append_assoc] at h
 obtain ⟨n1, r1, b1⟩ := get_read (show u.toNat < 256 ^ 6 from hx.2.2.2) h hb
 obtain ⟨n2, r2, b2⟩ := get_read (show c.toNat < 256 ^ 2 by omega) r1 b1
 obtain ⟨n3, r3, b3⟩ := get_read (show p.toNat < 256 ^ 1 by omega) r2 b2
 refine ⟨?_, r3, b3⟩
 show (UInt64.ofNat (getN s 6), (getN (getS s 6) 2 : Int), (getN (getS (getS s 6) 2) 1 : Int)) = _
 rw [n1, n2, n3, ofNat64_toNat, Int.toNat_of_nonneg hx.1.1, Int.toNat_of_nonneg hx.2.1]
theorem rdC_read (m : Bool) (c : ConfC) (tail : List UInt8) (s : RS) (hc : Wok c) (h : s.rem = cfgB c ++ tail) (hb : s.bad = false) : (rdC m s).1 = c ∧ (rdC m s).2.rem = tail ∧ (rdC m s).2.bad = false := by
 obtain ⟨c1, c2, c3, P, V, S⟩ := c
 obtain ⟨a1, a2, a3, a4, a5, a6, a7, a8, a9⟩ := hc
 dsimp only at a1 a2 a3 a4 a5 a6 a7 a8 a9
 unfold cfgB headB at h
 dsimp only at h
 simp only [List.append_assoc] at h
 have p1 : (256 : Nat) ^ 1 = 256 := by decide
 have p2 : (256 : Nat) ^ 2 = 65536 := by decide
 obtain ⟨n1, r1, b1⟩ := get_read Z64 h hb
 obtain ⟨n2, r2, b2⟩ := get_read Z64 r1 b1
 obtain ⟨n3, r3, b3⟩ := get_read Z64 r2 b2
 obtain ⟨n4, r4, b4⟩ := get_read Z64 r3 b3
 obtain ⟨n5, r5, b5⟩ := rdL_read (rdP_read m) P.length P _ _ rfl (fun x hx => by obtain ⟨i, hi, rfl⟩ := List.getElem_of_mem hx; exact a7 i hi) r4 b4
 obtain ⟨n6, r6, b6⟩ := get_read Z64 r5 b5
 obtain ⟨n7, r7, b7⟩ := rdL_read rdV_read V.length V _ _ rfl (fun x hx => by obtain ⟨i, hi, rfl⟩ := List.getElem_of_mem hx; exact a8 i hi) r6 b6
 obtain ⟨n8, r8, b8⟩ := get_read Z64 r7 b7
 obtain ⟨n9, r9, b9⟩ := rdL_read rdS_read S.length S _ _ rfl (fun x hx => by obtain ⟨i, hi, rfl⟩ := List.getElem_of_mem hx; exact a9 i hi) r8 b8
 simp only [rdC]
 rw [n4, n6, n8, n1, n2, n3, n5, n7, n9, Int.toNat_of_nonneg a1.1, Int.toNat_of_nonneg a2.1, Int.toNat_of_nonneg a3.1]
 exact ⟨rfl, r9, b9⟩
theorem rdV_cells' (s : RS) : vlanV (rdV s).1 = [.int .i64 (getN s 2), .int .u8 (getN (getS s 2) 1), .int .u8 (getN (getS (getS s 2) 1) 1)] := by
 rw [rdV_cells, Nat.mod_eq_of_lt (show getN (getS s 2) 1 < 256 from getN_lt _ 1), Nat.mod_eq_of_lt (show getN (getS (getS s 2) 1) 1 < 256 from getN_lt _ 1)]
theorem snocF {α : Type} (V : α → List Value) (f : RS → α × RS) (i : Nat) (s : RS) : (rdL f i s).1.flatMap V ++ V (f (rdL f i s).2).1 = (rdL f (i + 1) s).1.flatMap V := by
 show _ = ((rdL f i s).1 ++ [(f (rdL f i s).2).1]).flatMap V
 rw [List.flatMap_append, List.flatMap_singleton]
theorem rconfig_spec (D : Nat → Prop) (w : World) (g t : Nat) (s : RS) (H : Own D w w [blk g t [s.v, .bool s.bad]]) (HA : Old D w (Rep.rep s.rem [s.v])) :
  Calls Tryz.prog 75 #[.pointer (some ⟨g, 0, none⟩)] w fun e w' => ∃ q : Three, e = .returned (.agg (cfgA (rdC true s).1 q).toArray) ∧
   Own D w w' [row q.1.1 83 3 (rdC true s).1.2.2.2.1.length q.1.2 ((rdC true s).1.2.2.2.1.flatMap portV), row q.2.1.1 147 3 (rdC true s).1.2.2.2.2.1.length q.2.1.2 ((rdC true s).1.2.2.2.2.1.flatMap vlanV), row q.2.2.1 149 3 (rdC true s).1.2.2.2.2.2.length q.2.2.2 ((rdC true s).1.2.2.2.2.2.flatMap statV), blk g t [(rdC true s).2.v, .bool (rdC true s).2.bad]] := by
 have hrd : rdC true s = (((getN s 2 : Int), (getN (getS s 2) 1 : Int), (getN (getS (getS s 2) 1) 1 : Int), (rdL (rdP true) (getN (getS (getS (getS s 2) 1) 1) 1) (getS (getS (getS (getS s 2) 1) 1) 1)).1, (rdL rdV (getN (rdL (rdP true) (getN (getS (getS (getS s 2) 1) 1) 1) (getS (getS (getS (getS s 2) 1) 1) 1)).2 1) (getS (rdL (rdP true) (getN (getS (getS (getS s 2) 1) 1) 1) (getS (getS (getS (getS s 2) 1) 1) 1)).2 1)).1, (rdL rdS (getN (rdL rdV (getN (rdL (rdP true) (getN (getS (getS (getS s 2) 1) 1) 1) (getS (getS (getS (getS s 2) 1) 1) 1)).2 1) (getS (rdL (rdP true) (getN (getS (getS (getS s 2) 1) 1) 1) (getS (getS (getS (getS s 2) 1) 1) 1)).2 1)).2 1) (getS (rdL rdV (getN (rdL (rdP true) (getN (getS (getS (getS s 2) 1) 1) 1) (getS (getS (getS (getS s 2) 1) 1) 1)).2 1) (getS (rdL (rdP true) (getN (getS (getS (getS s 2) 1) 1) 1) (getS (getS (getS (getS s 2) 1) 1) 1)).2 1)).2 1)).1), (rdL rdS (getN (rdL rdV (getN (rdL (rdP true) (getN (getS (getS (getS s 2) 1) 1) 1) (getS (getS (getS (getS s 2) 1) 1) 1)).2 1) (getS (rdL (rdP true) (getN (getS (getS (getS s 2) 1) 1) 1) (getS (getS (getS (getS s 2) 1) 1) 1)).2 1)).2 1) (getS (rdL rdV (getN (rdL (rdP true) (getN (getS (getS (getS s 2) 1) 1) 1) (getS (getS (getS (getS s 2) 1) 1) 1)).2 1) (getS (rdL (rdP true) (getN (getS (getS (getS s 2) 1) 1) 1) (getS (getS (getS (getS s 2) 1) 1) 1)).2 1)).2 1)).2) := rfl
 rw [hrd]
 clear hrd
 have HA1 := old_get 2 HA
 have HA2 := old_get 1 HA1
 have HA3 := old_get 1 HA2
 have HA4 := old_get 1 HA3
 have hn : getN (getS (getS (getS s 2) 1) 1) 1 < 256 := getN_lt _ 1
 generalize hs1 : getS s 2 = s1 at *
 generalize hs2 : getS s1 1 = s2 at *
 generalize hs3 : getS s2 1 = s3 at *
 generalize hs4 : getS s3 1 = s4 at *
 generalize hc1 : getN s 2 = c1 at *
 generalize hc2 : getN s1 1 = c2 at *
 generalize hc3 : getN s2 1 = c3 at *
 generalize hnn : getN s3 1 = n at *
 have HA5 := old_rdL (old_rdP true) n HA4
 have hPl : (rdL (rdP true) n s4).1.length = n := rdL_len _ _
 generalize hPL : rdL (rdP true) n s4 = PL at *
 have hn5 : getN PL.2 1 < 256 := getN_lt _ 1
 have HA6 := old_get 1 HA5
 generalize hs5 : getS PL.2 1 = s5 at *
 generalize hnv : getN PL.2 1 = nv at *
 have HA7 := old_rdL old_rdV nv HA6
 have hVl : (rdL rdV nv s5).1.length = nv := rdL_len _ _
 generalize hVL : rdL rdV nv s5 = VL at *
 have hn6 : getN VL.2 1 < 256 := getN_lt _ 1
 have HA8 := old_get 1 HA7
 generalize hs6 : getS VL.2 1 = s6 at *
 generalize hns : getN VL.2 1 = ns at *
 have hSl : (rdL rdS ns s6).1.length = ns := rdL_len _ _
 generalize hSL : rdL rdS ns s6 = SL at *
 dsimp only [cfgA]
 rw [hPl, hVl, hSl]
 refine hc_enter (vs := [.pointer (some ⟨g, 0, none⟩)]) Tryz.func75 rfl _ Tryz.ntmps75 rfl H ?_
 simp only [argSlots, Nat.zero_add]
 refine zg <| hl_new (on_alloc) rfl rfl rfl fun b2 =>
  zn <| hc_seq <| ?_
 refine hc_cutK1 (σ := Nat) [0, 2] rfl 3 (fun q => .pointer (some ⟨q, 0, none⟩)) (fun q => [blk q 49 [.int .i64 c1, .int .i64 c2, .int .i64 c3, .slice none 0 0, .slice none 0 0, .slice none 0 0], blk b2 49 [.int .i64 0, .int .i64 0, .int .i64 0, .slice none 0 0, .slice none 0 0, .slice none 0 0], blk g t [s3.v, .bool s3.bad]]) (fun K1 hK1 => ?_) (fun q => ?_)
 ·refine hc_any [] mixed 15 rfl ?_
  refine ha_v 0 rfl (ov_move rfl) rfl <| ha_v 1 rfl (ov_nil rfl) rfl <| ha_v 2 rfl (ov_fieldA rfl) rfl <| ha_v 4 rfl (ov_move rfl) rfl <| ha_v 5 rfl (ov_nil rfl) rfl <| ha_v 6 rfl (ov_fieldA rfl) rfl <| ha_v 8 rfl (ov_move rfl) rfl <| ha_v 9 rfl (ov_nil rfl) rfl <| ha_v 10 rfl (ov_fieldA rfl) rfl <| ha_two 3 13 Z61 ?_ ?_
  ·skip
   refine ho_k rfl Tryz.call113 rfl (fun w1 => zp (blk g t [s.v, .bool s.bad]) fun D' hold _ H2 => int_spec D' w1 g t 2 s Z63 H2 (hold _ HA)) ?_
   rw [hs1, hc1]
   refine ha_two 7 13 Z61 ?_ ?_
   ·skip
    refine ho_k rfl Tryz.call113 rfl (fun w1 => zp (blk g t [s1.v, .bool s1.bad]) fun D' hold _ H2 => int_spec D' w1 g t 1 s1 Z63 H2 (hold _ HA1)) ?_
    rw [hs2, hc2]
    refine ha_two 11 13 Z61 ?_ ?_
    ·skip
     refine ho_k rfl Tryz.call113 rfl (fun w1 => zp (blk g t [s2.v, .bool s2.bad]) fun D' hold _ H2 => int_spec D' w1 g t 1 s2 Z63 H2 (hold _ HA2)) ?_
     rw [hs3, hc3]
     refine ha_v 12 rfl (ov_buildSN rfl rfl) rfl <| ?_
     refine ha_one 13 Z61 <| ho_n rfl (on_alloc) rfl fun b3 =>  ?_
     refine ha_one 14 Z61 <| ho_w0 rfl (on_storeGN rfl rfl rfl rfl rfl rfl) rfl <| ?_
     refine ha_done Z61 <| ?_
     refine hx_cut hK1 (b3) Z16 Z10
    skip
    refine ho_n rfl (on_alloc) rfl fun b3 =>  ?_
    refine ha_one 11 Z61 <| ho_k rfl Tryz.call113 rfl (fun w1 => zp (blk g t [s2.v, .bool s2.bad]) fun D' hold _ H2 => int_spec D' w1 g t 1 s2 Z63 H2 (hold _ HA2)) ?_
    rw [hs3, hc3]
    refine ha_v 12 rfl (ov_buildSN rfl rfl) rfl <| ?_
    refine ha_one 14 Z61 <| ho_w0 rfl (on_storeGN rfl rfl rfl rfl rfl rfl) rfl <| ?_
    refine ha_done Z61 <| ?_
    refine hx_cut hK1 (b3) Z16 Z10
   skip
   refine ho_n rfl (on_alloc) rfl fun b3 =>  ?_
   refine ha_one 7 Z61 <| ho_k rfl Tryz.call113 rfl (fun w1 => zp (blk g t [s1.v, .bool s1.bad]) fun D' hold _ H2 => int_spec D' w1 g t 1 s1 Z63 H2 (hold _ HA1)) ?_
   rw [hs2, hc2]
   refine ha_one 11 Z61 <| ho_k rfl Tryz.call113 rfl (fun w1 => zp (blk g t [s2.v, .bool s2.bad]) fun D' hold _ H2 => int_spec D' w1 g t 1 s2 Z63 H2 (hold _ HA2)) ?_
   rw [hs3, hc3]
   refine ha_v 12 rfl (ov_buildSN rfl rfl) rfl <| ?_
   refine ha_one 14 Z61 <| ho_w0 rfl (on_storeGN rfl rfl rfl rfl rfl rfl) rfl <| ?_
   refine ha_done Z61 <| ?_
   refine hx_cut hK1 (b3) Z16 Z10
  skip
  refine ho_n rfl (on_alloc) rfl fun b3 =>  ?_
  refine ha_one 3 Z61 <| ho_k rfl Tryz.call113 rfl (fun w1 => zp (blk g t [s.v, .bool s.bad]) fun D' hold _ H2 => int_spec D' w1 g t 2 s Z63 H2 (hold _ HA)) ?_
  rw [hs1, hc1]
  refine ha_one 7 Z61 <| ho_k rfl Tryz.call113 rfl (fun w1 => zp (blk g t [s1.v, .bool s1.bad]) fun D' hold _ H2 => int_spec D' w1 g t 1 s1 Z63 H2 (hold _ HA1)) ?_
  rw [hs2, hc2]
  refine ha_one 11 Z61 <| ho_k rfl Tryz.call113 rfl (fun w1 => zp (blk g t [s2.v, .bool s2.bad]) fun D' hold _ H2 => int_spec D' w1 g t 1 s2 Z63 H2 (hold _ HA2)) ?_
  rw [hs3, hc3]
  refine ha_v 12 rfl (ov_buildSN rfl rfl) rfl <| ?_
  refine ha_one 14 Z61 <| ho_w0 rfl (on_storeGN rfl rfl rfl rfl rfl rfl) rfl <| ?_
  refine ha_done Z61 <| ?_
  refine hx_cut hK1 (b3) Z16 Z10
 refine zt <| hc_seq <| zg <| zm rfl <| zv (ov_nil rfl) <| zf rfl <| ?_
 refine hl_c Tryz.call113 rfl rfl (fun w1 => zp (blk g t [s3.v, .bool s3.bad]) fun D' hold _ H2 => int_spec D' w1 g t 1 s3 Z63 H2 (hold _ HA3)) ?_
 rw [hs4, hnn]
 refine zm rfl <| zn <| hc_block <| hc_loopK1 (σ := Nat × Option Addr × Nat) [0, 2, 3, 21] rfl 22 (fun u => .int .i64 (u.1 : Int)) (fun u => [row u.2.1 83 3 u.1 u.2.2 ((rdL (rdP true) u.1 s4).1.flatMap portV), blk g t [(rdL (rdP true) u.1 s4).2.v, .bool (rdL (rdP true) u.1 s4).2.bad], blk q 49 [.int .i64 c1, .int .i64 c2, .int .i64 c3, .slice u.2.1 u.1 u.2.2, .slice none 0 0, .slice none 0 0], blk b2 49 [.int .i64 0, .int .i64 0, .int .i64 0, .slice none 0 0, .slice none 0 0, .slice none 0 0]]) (fun u => u.1 ≤ n) (fun u => n - u.1) ((0, none, 0)) (Nat.zero_le _) rfl (Ent.nil_row 83 3) ?_
 rintro ⟨i, A, c⟩ hi K2 hK2
 dsimp only at hi ⊢
 have HAi := old_rdL (old_rdP true) i HA4
 refine zg <| zv (ov_lss rfl rfl) <| zn <| hc_seq <| hc_cond rfl (fun h => ?_) (fun h => ?_)
 ·have hlt : i < n := by omega
  have hme : n - (i + 1) < n - i := by omega
  have hce := rdP_cells true (rdL (rdP true) i s4).2
  have hl7 := snocF portV (rdP true) i s4
  have hs7 : (rdL (rdP true) (i + 1) s4).2 = getS (getS (mkB true (getS (rdL (rdP true) i s4).2 1) (getN (rdL (rdP true) i s4).2 1)) 4) 2 := rfl
  generalize (rdL (rdP true) i s4).2 = r0 at *
  have K0 := HAi
  have KA := old_get 1 K0
  have KB := old_mkB true (getN r0 1) KA
  have KC := old_get 4 KB
  have hnb : getN (mkB true (getS r0 1) (getN r0 1)) 4 < 4294967296 := getN_lt _ 4
  refine zk <| hc_seq <| hc_block <| zg <| zm rfl <| zv (ov_nil rfl) <| zf rfl <| ?_
  refine hl_c Tryz.call113 rfl rfl (fun w1 => zp (blk g t [r0.v, .bool r0.bad]) fun D' hold _ H2 => int_spec D' w1 g t 1 r0 Z63 H2 (hold _ K0)) ?_
  generalize hsA : getS r0 1 = sA at *
  generalize hnA : getN r0 1 = nA at *
  have hsBv : (mkB true sA nA).v = sA.v := rfl
  have hsBb : (mkB true sA nA).bad = (sA.bad || decide (1 < (nA : Int))) := rfl
  generalize hsB : mkB true sA nA = sB at *
  generalize hsC : getS sB 4 = sC at *
  refine zs rfl <| zn <| zg <| zm rfl <| zm rfl <| zv (ov_nil rfl) <| zf rfl <| zf rfl <| zl rfl rfl <| zm rfl <| ?_
  refine hl_partb (t := 34) rfl (fun hb => ?_) (fun hb => ?_)
  ·rw [hb, Bool.true_or] at hsBb
   refine zo rfl rfl <| zo rfl rfl <| zv (ov_pickT rfl rfl) <| zv (ov_nil rfl) <| zf rfl <| zf rfl <| ?_
   refine hl_u0 (on_storeE [sB.v, .bool sB.bad] rfl rfl (by simp) rfl (by rw [hsBv, hsBb]; rfl)) rfl rfl ?_
   refine zn <| hc_any [] mixed 18 rfl ?_
   refine ha_v 0 rfl (ov_fieldA rfl) rfl <| ha_v 2 rfl (ov_move rfl) rfl <| ha_v 3 rfl (ov_eql rfl rfl) rfl <| ha_v 4 rfl (ov_move rfl) rfl <| ha_v 5 rfl (ov_nil rfl) rfl <| ha_v 6 rfl (ov_fieldA rfl) rfl <| ha_v 9 rfl (ov_move rfl) rfl <| ha_v 10 rfl (ov_nil rfl) rfl <| ha_v 11 rfl (ov_fieldA rfl) rfl <| ha_two 1 7 Z61 ?_ ?_
   ·skip
    refine ho_v rfl (zw rfl rfl) rfl <| ha_one 7 Z61 <| ho_k rfl Tryz.call114 rfl (fun w1 => zp (blk g t [sB.v, .bool sB.bad]) fun D' hold _ H2 => get_spec D' w1 g t 4 sB Z63 H2 (hold _ KB)) ?_
    rw [hsC]
    refine ha_v 8 rfl (ov_conv rfl Z30) rfl <| ?_
    refine ha_one 12 Z61 <| ho_k rfl Tryz.call113 rfl (fun w1 => zp (blk g t [sC.v, .bool sC.bad]) fun D' hold _ H2 => int_spec D' w1 g t 2 sC Z63 H2 (hold _ KC)) ?_
    refine ha_v 13 rfl (ov_buildSN rfl rfl) rfl <| ?_
    refine ha_one 14 Z61 <| ho_n rfl (on_buildSliceN rfl rfl rfl) rfl fun b55 =>  ?_
    refine ha_one 15 Z61 <| ?_
    rw [← hce]
    refine ho_n rfl (on_appendR (A := A) (news := portV (rdP true r0).1) rfl rfl (SrcIs.blk (b := b55)) rfl Z49 Z63 Z64) rfl (fun q2 => ?_)
    rw [hl7]
    refine ha_v 16 rfl (ov_fieldA rfl) rfl <| ha_one 17 Z61 <| ho_w0 rfl (on_storeE [.int .i64 c1, .int .i64 c2, .int .i64 c3, .slice q2.1 (i + 1) q2.2, .slice none 0 0, .slice none 0 0] rfl rfl (by simp) rfl rfl) rfl ?_
    refine ha_done Z61 <| zb <| zt <| hc_region <| zv (ov_add rfl rfl Z28) <| ?_
    refine zm rfl <| hl_nil <| ?_
    rw [← hs7]
    refine hx_next hK2 ((i + 1, q2)) (hlt) (hme) Z16 Z10
   skip
   refine ho_k rfl Tryz.call114 rfl (fun w1 => zp (blk g t [sB.v, .bool sB.bad]) fun D' hold _ H2 => get_spec D' w1 g t 4 sB Z63 H2 (hold _ KB)) ?_
   rw [hsC]
   refine ha_v 8 rfl (ov_conv rfl Z30) rfl <| ?_
   refine ha_two 1 12 Z61 ?_ ?_
   ·skip
    refine ho_v rfl (zw rfl rfl) rfl <| ha_one 12 Z61 <| ho_k rfl Tryz.call113 rfl (fun w1 => zp (blk g t [sC.v, .bool sC.bad]) fun D' hold _ H2 => int_spec D' w1 g t 2 sC Z63 H2 (hold _ KC)) ?_
    refine ha_v 13 rfl (ov_buildSN rfl rfl) rfl <| ?_
    refine ha_one 14 Z61 <| ho_n rfl (on_buildSliceN rfl rfl rfl) rfl fun b55 =>  ?_
    refine ha_one 15 Z61 <| ?_
    rw [← hce]
    refine ho_n rfl (on_appendR (A := A) (news := portV (rdP true r0).1) rfl rfl (SrcIs.blk (b := b55)) rfl Z49 Z63 Z64) rfl (fun q2 => ?_)
    rw [hl7]
    refine ha_v 16 rfl (ov_fieldA rfl) rfl <| ha_one 17 Z61 <| ho_w0 rfl (on_storeE [.int .i64 c1, .int .i64 c2, .int .i64 c3, .slice q2.1 (i + 1) q2.2, .slice none 0 0, .slice none 0 0] rfl rfl (by simp) rfl rfl) rfl ?_
    refine ha_done Z61 <| zb <| zt <| hc_region <| zv (ov_add rfl rfl Z28) <| ?_
    refine zm rfl <| hl_nil <| ?_
    rw [← hs7]
    refine hx_next hK2 ((i + 1, q2)) (hlt) (hme) Z16 Z10
   skip
   refine ho_k rfl Tryz.call113 rfl (fun w1 => zp (blk g t [sC.v, .bool sC.bad]) fun D' hold _ H2 => int_spec D' w1 g t 2 sC Z63 H2 (hold _ KC)) ?_
   refine ha_v 13 rfl (ov_buildSN rfl rfl) rfl <| ?_
   refine ha_two 1 14 Z61 ?_ ?_
   ·skip
    refine ho_v rfl (zw rfl rfl) rfl <| ha_one 14 Z61 <| ho_n rfl (on_buildSliceN rfl rfl rfl) rfl fun b55 =>  ?_
    refine ha_one 15 Z61 <| ?_
    rw [← hce]
    refine ho_n rfl (on_appendR (A := A) (news := portV (rdP true r0).1) rfl rfl (SrcIs.blk (b := b55)) rfl Z49 Z63 Z64) rfl (fun q2 => ?_)
    rw [hl7]
    refine ha_v 16 rfl (ov_fieldA rfl) rfl <| ha_one 17 Z61 <| ho_w0 rfl (on_storeE [.int .i64 c1, .int .i64 c2, .int .i64 c3, .slice q2.1 (i + 1) q2.2, .slice none 0 0, .slice none 0 0] rfl rfl (by simp) rfl rfl) rfl ?_
    refine ha_done Z61 <| zb <| zt <| hc_region <| zv (ov_add rfl rfl Z28) <| ?_
    refine zm rfl <| hl_nil <| ?_
    rw [← hs7]
    refine hx_next hK2 ((i + 1, q2)) (hlt) (hme) Z16 Z10
   skip
   refine ho_n rfl (on_buildSliceN rfl rfl rfl) rfl fun b55 =>  ?_
   refine ha_one 1 Z61 <| ho_v rfl (zw rfl rfl) rfl <| ha_one 15 Z61 <| ?_
   rw [← hce]
   refine ho_n rfl (on_appendR (A := A) (news := portV (rdP true r0).1) rfl rfl (SrcIs.blk (b := b55)) rfl Z49 Z63 Z64) rfl (fun q2 => ?_)
   rw [hl7]
   refine ha_v 16 rfl (ov_fieldA rfl) rfl <| ha_one 17 Z61 <| ho_w0 rfl (on_storeE [.int .i64 c1, .int .i64 c2, .int .i64 c3, .slice q2.1 (i + 1) q2.2, .slice none 0 0, .slice none 0 0] rfl rfl (by simp) rfl rfl) rfl ?_
   refine ha_done Z61 <| zb <| zt <| hc_region <| zv (ov_add rfl rfl Z28) <| ?_
   refine zm rfl <| hl_nil <| ?_
   rw [← hs7]
   refine hx_next hK2 ((i + 1, q2)) (hlt) (hme) Z16 Z10
  rw [hb, Bool.false_or] at hsBb
  refine hl_on rfl rfl <| zm rfl <| hl_on rfl rfl <| zv (ov_gtr rfl rfl) <| zv (ov_pickF rfl rfl) <| zv (ov_nil rfl) <| zf rfl <| zf rfl <| ?_
  refine hl_u0 (on_storeE [sB.v, .bool sB.bad] rfl rfl (by simp) rfl (by rw [hsBv, hsBb]; rfl)) rfl rfl ?_
  refine zn <| hc_any [] mixed 18 rfl ?_
  refine ha_v 0 rfl (ov_fieldA rfl) rfl <| ha_v 2 rfl (ov_move rfl) rfl <| ha_v 3 rfl (ov_eql rfl rfl) rfl <| ha_v 4 rfl (ov_move rfl) rfl <| ha_v 5 rfl (ov_nil rfl) rfl <| ha_v 6 rfl (ov_fieldA rfl) rfl <| ha_v 9 rfl (ov_move rfl) rfl <| ha_v 10 rfl (ov_nil rfl) rfl <| ha_v 11 rfl (ov_fieldA rfl) rfl <| ha_two 1 7 Z61 ?_ ?_
  ·skip
   refine ho_v rfl (zw rfl rfl) rfl <| ha_one 7 Z61 <| ho_k rfl Tryz.call114 rfl (fun w1 => zp (blk g t [sB.v, .bool sB.bad]) fun D' hold _ H2 => get_spec D' w1 g t 4 sB Z63 H2 (hold _ KB)) ?_
   rw [hsC]
   refine ha_v 8 rfl (ov_conv rfl Z30) rfl <| ?_
   refine ha_one 12 Z61 <| ho_k rfl Tryz.call113 rfl (fun w1 => zp (blk g t [sC.v, .bool sC.bad]) fun D' hold _ H2 => int_spec D' w1 g t 2 sC Z63 H2 (hold _ KC)) ?_
   refine ha_v 13 rfl (ov_buildSN rfl rfl) rfl <| ?_
   refine ha_one 14 Z61 <| ho_n rfl (on_buildSliceN rfl rfl rfl) rfl fun b55 =>  ?_
   refine ha_one 15 Z61 <| ?_
   rw [← hce]
   refine ho_n rfl (on_appendR (A := A) (news := portV (rdP true r0).1) rfl rfl (SrcIs.blk (b := b55)) rfl Z49 Z63 Z64) rfl (fun q2 => ?_)
   rw [hl7]
   refine ha_v 16 rfl (ov_fieldA rfl) rfl <| ha_one 17 Z61 <| ho_w0 rfl (on_storeE [.int .i64 c1, .int .i64 c2, .int .i64 c3, .slice q2.1 (i + 1) q2.2, .slice none 0 0, .slice none 0 0] rfl rfl (by simp) rfl rfl) rfl ?_
   refine ha_done Z61 <| zb <| zt <| hc_region <| zv (ov_add rfl rfl Z28) <| ?_
   refine zm rfl <| hl_nil <| ?_
   rw [← hs7]
   refine hx_next hK2 ((i + 1, q2)) (hlt) (hme) Z16 Z10
  skip
  refine ho_k rfl Tryz.call114 rfl (fun w1 => zp (blk g t [sB.v, .bool sB.bad]) fun D' hold _ H2 => get_spec D' w1 g t 4 sB Z63 H2 (hold _ KB)) ?_
  rw [hsC]
  refine ha_v 8 rfl (ov_conv rfl Z30) rfl <| ?_
  refine ha_two 1 12 Z61 ?_ ?_
  ·skip
   refine ho_v rfl (zw rfl rfl) rfl <| ha_one 12 Z61 <| ho_k rfl Tryz.call113 rfl (fun w1 => zp (blk g t [sC.v, .bool sC.bad]) fun D' hold _ H2 => int_spec D' w1 g t 2 sC Z63 H2 (hold _ KC)) ?_
   refine ha_v 13 rfl (ov_buildSN rfl rfl) rfl <| ?_
   refine ha_one 14 Z61 <| ho_n rfl (on_buildSliceN rfl rfl rfl) rfl fun b55 =>  ?_
   refine ha_one 15 Z61 <| ?_
   rw [← hce]
   refine ho_n rfl (on_appendR (A := A) (news := portV (rdP true r0).1) rfl rfl (SrcIs.blk (b := b55)) rfl Z49 Z63 Z64) rfl (fun q2 => ?_)
   rw [hl7]
   refine ha_v 16 rfl (ov_fieldA rfl) rfl <| ha_one 17 Z61 <| ho_w0 rfl (on_storeE [.int .i64 c1, .int .i64 c2, .int .i64 c3, .slice q2.1 (i + 1) q2.2, .slice none 0 0, .slice none 0 0] rfl rfl (by simp) rfl rfl) rfl ?_
   refine ha_done Z61 <| zb <| zt <| hc_region <| zv (ov_add rfl rfl Z28) <| ?_
   refine zm rfl <| hl_nil <| ?_
   rw [← hs7]
   refine hx_next hK2 ((i + 1, q2)) (hlt) (hme) Z16 Z10
  skip
  refine ho_k rfl Tryz.call113 rfl (fun w1 => zp (blk g t [sC.v, .bool sC.bad]) fun D' hold _ H2 => int_spec D' w1 g t 2 sC Z63 H2 (hold _ KC)) ?_
  refine ha_v 13 rfl (ov_buildSN rfl rfl) rfl <| ?_
  refine ha_two 1 14 Z61 ?_ ?_
  ·skip
   refine ho_v rfl (zw rfl rfl) rfl <| ha_one 14 Z61 <| ho_n rfl (on_buildSliceN rfl rfl rfl) rfl fun b55 =>  ?_
   refine ha_one 15 Z61 <| ?_
   rw [← hce]
   refine ho_n rfl (on_appendR (A := A) (news := portV (rdP true r0).1) rfl rfl (SrcIs.blk (b := b55)) rfl Z49 Z63 Z64) rfl (fun q2 => ?_)
   rw [hl7]
   refine ha_v 16 rfl (ov_fieldA rfl) rfl <| ha_one 17 Z61 <| ho_w0 rfl (on_storeE [.int .i64 c1, .int .i64 c2, .int .i64 c3, .slice q2.1 (i + 1) q2.2, .slice none 0 0, .slice none 0 0] rfl rfl (by simp) rfl rfl) rfl ?_
   refine ha_done Z61 <| zb <| zt <| hc_region <| zv (ov_add rfl rfl Z28) <| ?_
   refine zm rfl <| hl_nil <| ?_
   rw [← hs7]
   refine hx_next hK2 ((i + 1, q2)) (hlt) (hme) Z16 Z10
  skip
  refine ho_n rfl (on_buildSliceN rfl rfl rfl) rfl fun b55 =>  ?_
  refine ha_one 1 Z61 <| ho_v rfl (zw rfl rfl) rfl <| ha_one 15 Z61 <| ?_
  rw [← hce]
  refine ho_n rfl (on_appendR (A := A) (news := portV (rdP true r0).1) rfl rfl (SrcIs.blk (b := b55)) rfl Z49 Z63 Z64) rfl (fun q2 => ?_)
  rw [hl7]
  refine ha_v 16 rfl (ov_fieldA rfl) rfl <| ha_one 17 Z61 <| ho_w0 rfl (on_storeE [.int .i64 c1, .int .i64 c2, .int .i64 c3, .slice q2.1 (i + 1) q2.2, .slice none 0 0, .slice none 0 0] rfl rfl (by simp) rfl rfl) rfl ?_
  refine ha_done Z61 <| zb <| zt <| hc_region <| zv (ov_add rfl rfl Z28) <| ?_
  refine zm rfl <| hl_nil <| ?_
  rw [← hs7]
  refine hx_next hK2 ((i + 1, q2)) (hlt) (hme) Z16 Z10
 have hin : i = n := by omega
 subst hin
 rw [hPL]
 refine hc_exit <| ze <| ze <| hx_block_out <| zt <| hc_seq <| zg <| zm rfl <| zv (ov_nil rfl) <| zf rfl <| ?_
 refine hl_c Tryz.call113 rfl rfl (fun w1 => zp (blk g t [PL.2.v, .bool PL.2.bad]) fun D' hold _ H2 => int_spec D' w1 g t 1 PL.2 Z63 H2 (hold _ HA5)) ?_
 rw [hs5, hnv]
 refine zm rfl <| zn <| hc_block <| hc_loopK1 (σ := Nat × Option Addr × Nat) [0, 2, 3, 62] rfl 63 (fun u => .int .i64 (u.1 : Int)) (fun u => [row u.2.1 147 3 u.1 u.2.2 ((rdL rdV u.1 s5).1.flatMap vlanV), blk g t [(rdL rdV u.1 s5).2.v, .bool (rdL rdV u.1 s5).2.bad], row A 83 3 i c (PL.1.flatMap portV), blk q 49 [.int .i64 c1, .int .i64 c2, .int .i64 c3, .slice A i c, .slice u.2.1 u.1 u.2.2, .slice none 0 0], blk b2 49 [.int .i64 0, .int .i64 0, .int .i64 0, .slice none 0 0, .slice none 0 0, .slice none 0 0]]) (fun u => u.1 ≤ nv) (fun u => nv - u.1) ((0, none, 0)) (Nat.zero_le _) rfl (Ent.nil_row 147 3) ?_
 rintro ⟨j, B, d⟩ hj K3 hK3
 dsimp only at hj ⊢
 have HAj := old_rdL old_rdV j HA6
 refine zg <| zv (ov_lss rfl rfl) <| zn <| hc_seq <| hc_cond rfl (fun h2 => ?_) (fun h2 => ?_)
 ·have hlt : j < nv := by omega
  have hme : nv - (j + 1) < nv - j := by omega
  have hce := rdV_cells' (rdL rdV j s5).2
  have hl7 := snocF vlanV rdV j s5
  have hs7 : (rdL rdV (j + 1) s5).2 = getS (getS (getS (rdL rdV j s5).2 2) 1) 1 := rfl
  generalize (rdL rdV j s5).2 = r0 at *
  have K0 := HAj
  have KA := old_get 2 K0
  have KB := old_get 1 KA
  have hb1 : getN (getS r0 2) 1 < 256 := getN_lt _ 1
  have hb2 : getN (getS (getS r0 2) 1) 1 < 256 := getN_lt _ 1
  generalize hsA : getS r0 2 = sA at *
  generalize hsB : getS sA 1 = sB at *
  refine zk <| hc_seq <| hc_block <| hc_any [] mixed 21 rfl ?_
  refine ha_v 0 rfl (ov_fieldA rfl) rfl <| ha_v 2 rfl (ov_move rfl) rfl <| ha_v 3 rfl (ov_nil rfl) rfl <| ha_v 4 rfl (ov_fieldA rfl) rfl <| ha_v 6 rfl (ov_move rfl) rfl <| ha_v 7 rfl (ov_nil rfl) rfl <| ha_v 8 rfl (ov_fieldA rfl) rfl <| ha_v 11 rfl (ov_move rfl) rfl <| ha_v 12 rfl (ov_nil rfl) rfl <| ha_v 13 rfl (ov_fieldA rfl) rfl <| ha_two 1 5 Z61 ?_ ?_
  ·skip
   refine ho_v rfl (zw rfl rfl) rfl <| ha_one 5 Z61 <| ho_k rfl Tryz.call113 rfl (fun w1 => zp (blk g t [r0.v, .bool r0.bad]) fun D' hold _ H2 => int_spec D' w1 g t 2 r0 Z63 H2 (hold _ K0)) ?_
   rw [hsA]
   refine ha_one 9 Z61 <| ho_k rfl Tryz.call114 rfl (fun w1 => zp (blk g t [sA.v, .bool sA.bad]) fun D' hold _ H2 => get_spec D' w1 g t 1 sA Z63 H2 (hold _ KA)) ?_
   rw [hsB]
   refine ha_v 10 rfl (ov_conv rfl Z31) rfl <| ?_
   refine ha_one 14 Z61 <| ho_k rfl Tryz.call114 rfl (fun w1 => zp (blk g t [sB.v, .bool sB.bad]) fun D' hold _ H2 => get_spec D' w1 g t 1 sB Z63 H2 (hold _ KB)) ?_
   refine ha_v 15 rfl (ov_conv rfl Z31) rfl <| ?_
   refine ha_v 16 rfl (ov_buildSN rfl rfl) rfl <| ?_
   refine ha_one 17 Z61 <| ho_n rfl (on_buildSliceN rfl rfl rfl) rfl fun b82 =>  ?_
   refine ha_one 18 Z61 <| ?_
   rw [← hce]
   refine ho_n rfl (on_appendR (A := B) (news := vlanV (rdV r0).1) rfl rfl (SrcIs.blk (b := b82)) rfl Z44 Z63 Z64) rfl (fun q2 => ?_)
   rw [hl7]
   refine ha_v 19 rfl (ov_fieldA rfl) rfl <| ha_one 20 Z61 <| ho_w0 rfl (on_storeE [.int .i64 c1, .int .i64 c2, .int .i64 c3, .slice A i c, .slice q2.1 (j + 1) q2.2, .slice none 0 0] rfl rfl (by simp) rfl rfl) rfl ?_
   refine ha_done Z61 <| zb <| zt <| hc_region <| zv (ov_add rfl rfl Z28) <| ?_
   refine zm rfl <| hl_nil <| ?_
   rw [← hs7]
   refine hx_next hK3 ((j + 1, q2)) (hlt) (hme) Z16 Z10
  skip
  refine ho_k rfl Tryz.call113 rfl (fun w1 => zp (blk g t [r0.v, .bool r0.bad]) fun D' hold _ H2 => int_spec D' w1 g t 2 r0 Z63 H2 (hold _ K0)) ?_
  rw [hsA]
  refine ha_two 1 9 Z61 ?_ ?_
  ·skip
   refine ho_v rfl (zw rfl rfl) rfl <| ha_one 9 Z61 <| ho_k rfl Tryz.call114 rfl (fun w1 => zp (blk g t [sA.v, .bool sA.bad]) fun D' hold _ H2 => get_spec D' w1 g t 1 sA Z63 H2 (hold _ KA)) ?_
   rw [hsB]
   refine ha_v 10 rfl (ov_conv rfl Z31) rfl <| ?_
   refine ha_one 14 Z61 <| ho_k rfl Tryz.call114 rfl (fun w1 => zp (blk g t [sB.v, .bool sB.bad]) fun D' hold _ H2 => get_spec D' w1 g t 1 sB Z63 H2 (hold _ KB)) ?_
   refine ha_v 15 rfl (ov_conv rfl Z31) rfl <| ?_
   refine ha_v 16 rfl (ov_buildSN rfl rfl) rfl <| ?_
   refine ha_one 17 Z61 <| ho_n rfl (on_buildSliceN rfl rfl rfl) rfl fun b82 =>  ?_
   refine ha_one 18 Z61 <| ?_
   rw [← hce]
   refine ho_n rfl (on_appendR (A := B) (news := vlanV (rdV r0).1) rfl rfl (SrcIs.blk (b := b82)) rfl Z44 Z63 Z64) rfl (fun q2 => ?_)
   rw [hl7]
   refine ha_v 19 rfl (ov_fieldA rfl) rfl <| ha_one 20 Z61 <| ho_w0 rfl (on_storeE [.int .i64 c1, .int .i64 c2, .int .i64 c3, .slice A i c, .slice q2.1 (j + 1) q2.2, .slice none 0 0] rfl rfl (by simp) rfl rfl) rfl ?_
   refine ha_done Z61 <| zb <| zt <| hc_region <| zv (ov_add rfl rfl Z28) <| ?_
   refine zm rfl <| hl_nil <| ?_
   rw [← hs7]
   refine hx_next hK3 ((j + 1, q2)) (hlt) (hme) Z16 Z10
  skip
  refine ho_k rfl Tryz.call114 rfl (fun w1 => zp (blk g t [sA.v, .bool sA.bad]) fun D' hold _ H2 => get_spec D' w1 g t 1 sA Z63 H2 (hold _ KA)) ?_
  rw [hsB]
  refine ha_v 10 rfl (ov_conv rfl Z31) rfl <| ?_
  refine ha_two 1 14 Z61 ?_ ?_
  ·skip
   refine ho_v rfl (zw rfl rfl) rfl <| ha_one 14 Z61 <| ho_k rfl Tryz.call114 rfl (fun w1 => zp (blk g t [sB.v, .bool sB.bad]) fun D' hold _ H2 => get_spec D' w1 g t 1 sB Z63 H2 (hold _ KB)) ?_
   refine ha_v 15 rfl (ov_conv rfl Z31) rfl <| ?_
   refine ha_v 16 rfl (ov_buildSN rfl rfl) rfl <| ?_
   refine ha_one 17 Z61 <| ho_n rfl (on_buildSliceN rfl rfl rfl) rfl fun b82 =>  ?_
   refine ha_one 18 Z61 <| ?_
   rw [← hce]
   refine ho_n rfl (on_appendR (A := B) (news := vlanV (rdV r0).1) rfl rfl (SrcIs.blk (b := b82)) rfl Z44 Z63 Z64) rfl (fun q2 => ?_)
   rw [hl7]
   refine ha_v 19 rfl (ov_fieldA rfl) rfl <| ha_one 20 Z61 <| ho_w0 rfl (on_storeE [.int .i64 c1, .int .i64 c2, .int .i64 c3, .slice A i c, .slice q2.1 (j + 1) q2.2, .slice none 0 0] rfl rfl (by simp) rfl rfl) rfl ?_
   refine ha_done Z61 <| zb <| zt <| hc_region <| zv (ov_add rfl rfl Z28) <| ?_
   refine zm rfl <| hl_nil <| ?_
   rw [← hs7]
   refine hx_next hK3 ((j + 1, q2)) (hlt) (hme) Z16 Z10
  skip
  refine ho_k rfl Tryz.call114 rfl (fun w1 => zp (blk g t [sB.v, .bool sB.bad]) fun D' hold _ H2 => get_spec D' w1 g t 1 sB Z63 H2 (hold _ KB)) ?_
  refine ha_v 15 rfl (ov_conv rfl Z31) rfl <| ?_
  refine ha_v 16 rfl (ov_buildSN rfl rfl) rfl <| ?_
  refine ha_two 1 17 Z61 ?_ ?_
  ·skip
   refine ho_v rfl (zw rfl rfl) rfl <| ha_one 17 Z61 <| ho_n rfl (on_buildSliceN rfl rfl rfl) rfl fun b82 =>  ?_
   refine ha_one 18 Z61 <| ?_
   rw [← hce]
   refine ho_n rfl (on_appendR (A := B) (news := vlanV (rdV r0).1) rfl rfl (SrcIs.blk (b := b82)) rfl Z44 Z63 Z64) rfl (fun q2 => ?_)
   rw [hl7]
   refine ha_v 19 rfl (ov_fieldA rfl) rfl <| ha_one 20 Z61 <| ho_w0 rfl (on_storeE [.int .i64 c1, .int .i64 c2, .int .i64 c3, .slice A i c, .slice q2.1 (j + 1) q2.2, .slice none 0 0] rfl rfl (by simp) rfl rfl) rfl ?_
   refine ha_done Z61 <| zb <| zt <| hc_region <| zv (ov_add rfl rfl Z28) <| ?_
   refine zm rfl <| hl_nil <| ?_
   rw [← hs7]
   refine hx_next hK3 ((j + 1, q2)) (hlt) (hme) Z16 Z10
  skip
  refine ho_n rfl (on_buildSliceN rfl rfl rfl) rfl fun b82 =>  ?_
  refine ha_one 1 Z61 <| ho_v rfl (zw rfl rfl) rfl <| ha_one 18 Z61 <| ?_
  rw [← hce]
  refine ho_n rfl (on_appendR (A := B) (news := vlanV (rdV r0).1) rfl rfl (SrcIs.blk (b := b82)) rfl Z44 Z63 Z64) rfl (fun q2 => ?_)
  rw [hl7]
  refine ha_v 19 rfl (ov_fieldA rfl) rfl <| ha_one 20 Z61 <| ho_w0 rfl (on_storeE [.int .i64 c1, .int .i64 c2, .int .i64 c3, .slice A i c, .slice q2.1 (j + 1) q2.2, .slice none 0 0] rfl rfl (by simp) rfl rfl) rfl ?_
  refine ha_done Z61 <| zb <| zt <| hc_region <| zv (ov_add rfl rfl Z28) <| ?_
  refine zm rfl <| hl_nil <| ?_
  rw [← hs7]
  refine hx_next hK3 ((j + 1, q2)) (hlt) (hme) Z16 Z10
 have hjn : j = nv := by omega
 subst hjn
 rw [hVL]
 refine hc_exit <| ze <| ze <| hx_block_out <| zt <| hc_seq <| zg <| zm rfl <| zv (ov_nil rfl) <| zf rfl <| ?_
 refine hl_c Tryz.call113 rfl rfl (fun w1 => zp (blk g t [VL.2.v, .bool VL.2.bad]) fun D' hold _ H2 => int_spec D' w1 g t 1 VL.2 Z63 H2 (hold _ HA7)) ?_
 rw [hs6, hns]
 refine zm rfl <| zn <| hc_block <| hc_loopK1 (σ := Nat × Option Addr × Nat) [0, 2, 3, 89] rfl 90 (fun u => .int .i64 (u.1 : Int)) (fun u => [row u.2.1 149 3 u.1 u.2.2 ((rdL rdS u.1 s6).1.flatMap statV), blk g t [(rdL rdS u.1 s6).2.v, .bool (rdL rdS u.1 s6).2.bad], row B 147 3 j d (VL.1.flatMap vlanV), row A 83 3 i c (PL.1.flatMap portV), blk q 49 [.int .i64 c1, .int .i64 c2, .int .i64 c3, .slice A i c, .slice B j d, .slice u.2.1 u.1 u.2.2], blk b2 49 [.int .i64 0, .int .i64 0, .int .i64 0, .slice none 0 0, .slice none 0 0, .slice none 0 0]]) (fun u => u.1 ≤ ns) (fun u => ns - u.1) ((0, none, 0)) (Nat.zero_le _) rfl (Ent.nil_row 149 3) ?_
 rintro ⟨k, C, e⟩ hk K4 hK4
 dsimp only at hk ⊢
 have HAk := old_rdL old_rdS k HA8
 refine zg <| zv (ov_lss rfl rfl) <| zn <| hc_seq <| hc_cond rfl (fun h3 => ?_) (fun h3 => ?_)
 ·have hlt : k < ns := by omega
  have hme : ns - (k + 1) < ns - k := by omega
  have hce := rdS_cells (rdL rdS k s6).2
  have hl7 := snocF statV rdS k s6
  have hs7 : (rdL rdS (k + 1) s6).2 = getS (getS (getS (rdL rdS k s6).2 6) 2) 1 := rfl
  generalize (rdL rdS k s6).2 = r0 at *
  have K0 := HAk
  have KA := old_get 6 K0
  have KB := old_get 2 KA
  generalize hsA : getS r0 6 = sA at *
  generalize hsB : getS sA 2 = sB at *
  refine zk <| hc_seq <| hc_block <| hc_any [] mixed 19 rfl ?_
  refine ha_v 0 rfl (ov_fieldA rfl) rfl <| ha_v 2 rfl (ov_move rfl) rfl <| ha_v 3 rfl (ov_nil rfl) rfl <| ha_v 4 rfl (ov_fieldA rfl) rfl <| ha_v 6 rfl (ov_move rfl) rfl <| ha_v 7 rfl (ov_nil rfl) rfl <| ha_v 8 rfl (ov_fieldA rfl) rfl <| ha_v 10 rfl (ov_move rfl) rfl <| ha_v 11 rfl (ov_nil rfl) rfl <| ha_v 12 rfl (ov_fieldA rfl) rfl <| ha_two 1 5 Z61 ?_ ?_
  ·skip
   refine ho_v rfl (zw rfl rfl) rfl <| ha_one 5 Z61 <| ho_k rfl Tryz.call114 rfl (fun w1 => zp (blk g t [r0.v, .bool r0.bad]) fun D' hold _ H2 => get_spec D' w1 g t 6 r0 Z63 H2 (hold _ K0)) ?_
   rw [hsA]
   refine ha_one 9 Z61 <| ho_k rfl Tryz.call113 rfl (fun w1 => zp (blk g t [sA.v, .bool sA.bad]) fun D' hold _ H2 => int_spec D' w1 g t 2 sA Z63 H2 (hold _ KA)) ?_
   rw [hsB]
   refine ha_one 13 Z61 <| ho_k rfl Tryz.call113 rfl (fun w1 => zp (blk g t [sB.v, .bool sB.bad]) fun D' hold _ H2 => int_spec D' w1 g t 1 sB Z63 H2 (hold _ KB)) ?_
   refine ha_v 14 rfl (ov_buildSN rfl rfl) rfl <| ?_
   refine ha_one 15 Z61 <| ho_n rfl (on_buildSliceN rfl rfl rfl) rfl fun b107 =>  ?_
   refine ha_one 16 Z61 <| ?_
   rw [← hce]
   refine ho_n rfl (on_appendR (A := C) (news := statV (rdS r0).1) rfl rfl (SrcIs.blk (b := b107)) rfl Z49 Z63 Z64) rfl (fun q2 => ?_)
   rw [hl7]
   refine ha_v 17 rfl (ov_fieldA rfl) rfl <| ha_one 18 Z61 <| ho_w0 rfl (on_storeE [.int .i64 c1, .int .i64 c2, .int .i64 c3, .slice A i c, .slice B j d, .slice q2.1 (k + 1) q2.2] rfl rfl (by simp) rfl rfl) rfl ?_
   refine ha_done Z61 <| zb <| zt <| hc_region <| zv (ov_add rfl rfl Z28) <| ?_
   refine zm rfl <| hl_nil <| ?_
   rw [← hs7]
   refine hx_next hK4 ((k + 1, q2)) (hlt) (hme) Z16 Z10
  skip
  refine ho_k rfl Tryz.call114 rfl (fun w1 => zp (blk g t [r0.v, .bool r0.bad]) fun D' hold _ H2 => get_spec D' w1 g t 6 r0 Z63 H2 (hold _ K0)) ?_
  rw [hsA]
  refine ha_two 1 9 Z61 ?_ ?_
  ·skip
   refine ho_v rfl (zw rfl rfl) rfl <| ha_one 9 Z61 <| ho_k rfl Tryz.call113 rfl (fun w1 => zp (blk g t [sA.v, .bool sA.bad]) fun D' hold _ H2 => int_spec D' w1 g t 2 sA Z63 H2 (hold _ KA)) ?_
   rw [hsB]
   refine ha_one 13 Z61 <| ho_k rfl Tryz.call113 rfl (fun w1 => zp (blk g t [sB.v, .bool sB.bad]) fun D' hold _ H2 => int_spec D' w1 g t 1 sB Z63 H2 (hold _ KB)) ?_
   refine ha_v 14 rfl (ov_buildSN rfl rfl) rfl <| ?_
   refine ha_one 15 Z61 <| ho_n rfl (on_buildSliceN rfl rfl rfl) rfl fun b107 =>  ?_
   refine ha_one 16 Z61 <| ?_
   rw [← hce]
   refine ho_n rfl (on_appendR (A := C) (news := statV (rdS r0).1) rfl rfl (SrcIs.blk (b := b107)) rfl Z49 Z63 Z64) rfl (fun q2 => ?_)
   rw [hl7]
   refine ha_v 17 rfl (ov_fieldA rfl) rfl <| ha_one 18 Z61 <| ho_w0 rfl (on_storeE [.int .i64 c1, .int .i64 c2, .int .i64 c3, .slice A i c, .slice B j d, .slice q2.1 (k + 1) q2.2] rfl rfl (by simp) rfl rfl) rfl ?_
   refine ha_done Z61 <| zb <| zt <| hc_region <| zv (ov_add rfl rfl Z28) <| ?_
   refine zm rfl <| hl_nil <| ?_
   rw [← hs7]
   refine hx_next hK4 ((k + 1, q2)) (hlt) (hme) Z16 Z10
  skip
  refine ho_k rfl Tryz.call113 rfl (fun w1 => zp (blk g t [sA.v, .bool sA.bad]) fun D' hold _ H2 => int_spec D' w1 g t 2 sA Z63 H2 (hold _ KA)) ?_
  rw [hsB]
  refine ha_two 1 13 Z61 ?_ ?_
  ·skip
   refine ho_v rfl (zw rfl rfl) rfl <| ha_one 13 Z61 <| ho_k rfl Tryz.call113 rfl (fun w1 => zp (blk g t [sB.v, .bool sB.bad]) fun D' hold _ H2 => int_spec D' w1 g t 1 sB Z63 H2 (hold _ KB)) ?_
   refine ha_v 14 rfl (ov_buildSN rfl rfl) rfl <| ?_
   refine ha_one 15 Z61 <| ho_n rfl (on_buildSliceN rfl rfl rfl) rfl fun b107 =>  ?_
   refine ha_one 16 Z61 <| ?_
   rw [← hce]
   refine ho_n rfl (on_appendR (A := C) (news := statV (rdS r0).1) rfl rfl (SrcIs.blk (b := b107)) rfl Z49 Z63 Z64) rfl (fun q2 => ?_)
   rw [hl7]
   refine ha_v 17 rfl (ov_fieldA rfl) rfl <| ha_one 18 Z61 <| ho_w0 rfl (on_storeE [.int .i64 c1, .int .i64 c2, .int .i64 c3, .slice A i c, .slice B j d, .slice q2.1 (k + 1) q2.2] rfl rfl (by simp) rfl rfl) rfl ?_
   refine ha_done Z61 <| zb <| zt <| hc_region <| zv (ov_add rfl rfl Z28) <| ?_
   refine zm rfl <| hl_nil <| ?_
   rw [← hs7]
   refine hx_next hK4 ((k + 1, q2)) (hlt) (hme) Z16 Z10
  skip
  refine ho_k rfl Tryz.call113 rfl (fun w1 => zp (blk g t [sB.v, .bool sB.bad]) fun D' hold _ H2 => int_spec D' w1 g t 1 sB Z63 H2 (hold _ KB)) ?_
  refine ha_v 14 rfl (ov_buildSN rfl rfl) rfl <| ?_
  refine ha_two 1 15 Z61 ?_ ?_
  ·skip
   refine ho_v rfl (zw rfl rfl) rfl <| ha_one 15 Z61 <| ho_n rfl (on_buildSliceN rfl rfl rfl) rfl fun b107 =>  ?_
   refine ha_one 16 Z61 <| ?_
   rw [← hce]
   refine ho_n rfl (on_appendR (A := C) (news := statV (rdS r0).1) rfl rfl (SrcIs.blk (b := b107)) rfl Z49 Z63 Z64) rfl (fun q2 => ?_)
   rw [hl7]
   refine ha_v 17 rfl (ov_fieldA rfl) rfl <| ha_one 18 Z61 <| ho_w0 rfl (on_storeE [.int .i64 c1, .int .i64 c2, .int .i64 c3, .slice A i c, .slice B j d, .slice q2.1 (k + 1) q2.2] rfl rfl (by simp) rfl rfl) rfl ?_
   refine ha_done Z61 <| zb <| zt <| hc_region <| zv (ov_add rfl rfl Z28) <| ?_
   refine zm rfl <| hl_nil <| ?_
   rw [← hs7]
   refine hx_next hK4 ((k + 1, q2)) (hlt) (hme) Z16 Z10
  skip
  refine ho_n rfl (on_buildSliceN rfl rfl rfl) rfl fun b107 =>  ?_
  refine ha_one 1 Z61 <| ho_v rfl (zw rfl rfl) rfl <| ha_one 16 Z61 <| ?_
  rw [← hce]
  refine ho_n rfl (on_appendR (A := C) (news := statV (rdS r0).1) rfl rfl (SrcIs.blk (b := b107)) rfl Z49 Z63 Z64) rfl (fun q2 => ?_)
  rw [hl7]
  refine ha_v 17 rfl (ov_fieldA rfl) rfl <| ha_one 18 Z61 <| ho_w0 rfl (on_storeE [.int .i64 c1, .int .i64 c2, .int .i64 c3, .slice A i c, .slice B j d, .slice q2.1 (k + 1) q2.2] rfl rfl (by simp) rfl rfl) rfl ?_
  refine ha_done Z61 <| zb <| zt <| hc_region <| zv (ov_add rfl rfl Z28) <| ?_
  refine zm rfl <| hl_nil <| ?_
  rw [← hs7]
  refine hx_next hK4 ((k + 1, q2)) (hlt) (hme) Z16 Z10
 have hkn : k = ns := by omega
 subst hkn
 rw [hSL]
 refine hc_exit <| ze <| ze <| hx_block_out <| zt <| hc_seq <| hc_region <| zv Z17 <| ?_
 refine hl_u0 (on_storeGN rfl rfl rfl rfl rfl rfl) rfl rfl <| zn <| zq <| ?_
 exact results_c (.inr rfl) rfl rfl (by simp) fun w' H' => ⟨((A, c), (B, d), (C, e)), rfl, H'.ent Z8⟩
theorem rdC_ok (m : Bool) (s : RS) : OkC (rdC m s).1 := by
 have h : ∀ s, getN s 1 < 256 := fun s => getN_lt s 1
 refine ⟨getN_in _ 2 Z63, getN_in _ 1 Z63, getN_in _ 1 Z63, rdL_mem (rdP_ok m) _ _, rdL_mem rdV_ok _ _, rdL_mem rdS_ok _ _, ?_, ?_, ?_⟩
 ·show (rdL _ _ _).1.length ≤ 1000
  rw [rdL_len]; have := h (getS (getS (getS s 2) 1) 1); omega
 ·show (rdL rdV _ _).1.length ≤ 1000
  rw [rdL_len]; have := h (rdL (rdP m) (getN (getS (getS (getS s 2) 1) 1) 1) (getS (getS (getS (getS s 2) 1) 1) 1)).2; omega
 show (rdL rdS _ _).1.length ≤ 1000
 rw [rdL_len]; exact Nat.le_trans (Nat.le_of_lt (h _)) Z63
def parseP (s : RS) : Prop := ((rdC true s).2.bad = false ∧ (rdC true s).2.rem = []) ∧ goodP (rdC true s).1
abbrev ParseT (p : Prop) (c : ConfC) := { r : Three × ConfC × Int // (¬ p ∧ r.2.1 = zeroC ∧ r.2.2 = 11) ∨ (p ∧ r.2.1 = c ∧ r.2.2 = 0) }
theorem Parse_spec (D : Nat → Prop) (w : World) (v : Value) (xs : List UInt8) (HA : Old D w (Rep.rep xs [v])) :
  Calls Tryz.prog 46 #[v] w fun e w' => ∃ r : ParseT (parseP ⟨xs, v, false⟩) (rdC true ⟨xs, v, false⟩).1, e = .returned (.tuple #[.agg (cfgA r.1.2.1 r.1.1).toArray, .int .i64 r.1.2.2]) ∧ Own D w w' (cfgR r.1.2.1 r.1.1) := by
 have HA0 := HA
 obtain ⟨A, cap, rfl, _⟩ := HA0.openB
 obtain ⟨s, hs⟩ : ∃ s : RS, s = ⟨xs, .slice A xs.length cap, false⟩ := ⟨_, rfl⟩
 have HA : Old D w (Rep.rep s.rem [s.v]) := by rw [hs]; exact HA
 rw [← hs]
 have HAe : ∀ m : Bool, Old D w (Rep.rep (rdC m s).2.rem [(rdC m s).2.v]) := fun m => old_rdL old_rdS _ (old_get 1 (old_rdL old_rdV _ (old_get 1 (old_rdL (old_rdP m) _ (old_get 1 (old_get 1 (old_get 1 (old_get 2 HA))))))))
 have HAe := HAe true
 have hokc := rdC_ok true s
 refine hc_enter (vs := [.slice A xs.length cap]) Tryz.func46 rfl _ Tryz.ntmps46 rfl (Own.start D w) ?_
 simp only [argSlots, Nat.zero_add]
 refine zg <| hl_new (on_alloc) rfl rfl rfl fun b2 =>
  zs rfl <| zn <| ?_
 refine zg <| zm rfl <| zv (ov_buildSN rfl rfl) <| ?_
 refine zv (ov_buildSN rfl rfl) <| ?_
 refine hl_new (on_boxN rfl rfl) rfl rfl rfl fun b9 =>  ?_
 refine zs rfl <| zn <| hc_seq <| zg <| zm rfl <| HL.ent (show Ent _ [blk b9 165 [s.v, .bool s.bad], blk b2 49 [.int .i64 0, .int .i64 0, .int .i64 0, .slice none 0 0, .slice none 0 0, .slice none 0 0]] by rw [hs]; exact Z8) ?_
 refine hl_call (σ := Three) Tryz.call75 rfl rfl (fun w1 => zpx (blk b9 165 [s.v, .bool s.bad]) fun D' hold _ H2 => rconfig_spec D' w1 b9 165 s H2 (hold _ HA)) ?_
 intro q
 have hP : parseP s ↔ ((rdC true s).2.bad = false ∧ (rdC true s).2.rem = []) ∧ goodP (rdC true s).1 := Iff.rfl
 generalize rdC true s = rc at *
 obtain ⟨c, r⟩ := rc
 dsimp only at hokc HAe hP ⊢
 refine hl_new (on_alloc) rfl rfl rfl fun b5 =>  ?_
 refine hl_u0 (on_storeW (vs := cfgA c q) rfl rfl rfl (by simp) Z49) rfl rfl ?_
 refine zn <| zg <| zm rfl <| hl_call (σ := BIff (r.bad = false ∧ r.rem = [])) Tryz.call76 rfl rfl (fun w1 => zpx (blk b9 165 [r.v, .bool r.bad]) fun D' hold _ H2 => ended_spec D' w1 b9 165 r H2 (hold _ HAe)) ?_
 intro e1
 refine zm rfl <| hl_partb (t := 14) rfl (fun a1 => ?_) (fun a1 => ?_)
 ·have hend := e1.2.1 a1
  refine hl_on rfl rfl <| zv Z17 <| ?_
  refine hl_on rfl rfl <| hl_call (σ := BIff (goodP c)) Tryz.call77 rfl rfl (fun w1 => zu fun D' _ hin _ => Good_spec D' w1 c _ _ _ (ConfOld.rows (q := q) hokc hin)) ?_
  intro e2
  try rw [List.nil_append]
  refine zv (ov_pickT rfl rfl) <| zn <| hc_cond_bool rfl (fun a2 => ?_) (fun a2 => ?_)
  ·have hyes : parseP s := hP.2 ⟨hend, e2.2.1 a2⟩
   refine zg <| zv Z17 <| ?_
   refine hl_u0 (on_storeGN rfl rfl rfl rfl rfl rfl) rfl rfl <| zs rfl <| zn <| zq <| zr <| ?_
   exact results_ct (.inr rfl) rfl rfl (by simp) rfl fun w' H' => ⟨⟨(q, c, 0), .inr ⟨hyes, rfl, rfl⟩⟩, rfl, H'.ent Z8⟩
  have hno : ¬ parseP s := fun h => by have := e2.2.2 (hP.1 h).2; rw [this] at a2; cases a2
  refine zk <| zg <| zv (ov_buildSN rfl rfl) <| ?_
  refine hl_u0 (on_storeGN rfl rfl rfl rfl rfl rfl) rfl rfl <| zs rfl <| zn <| zq <| ?_
  exact results_ct (.inr rfl) rfl rfl (by simp) rfl fun w' H' => ⟨⟨(q0, zeroC, 11), .inl ⟨hno, rfl, rfl⟩⟩, rfl, H'.ent (Ent.trans (Ent.cfgR0 _) Ent.append_l)⟩
 have hno : ¬ parseP s := fun h => by have := e1.2.2 (hP.1 h).1; rw [this] at a1; cases a1
 refine zo rfl rfl <| zo rfl rfl <| zv (ov_pickF rfl rfl) <| zn <| hc_cond_false rfl <| zk <| zg <| zv (ov_buildSN rfl rfl) <| ?_
 refine hl_u0 (on_storeGN rfl rfl rfl rfl rfl rfl) rfl rfl <| zs rfl <| zn <| zq <| ?_
 exact results_ct (.inr rfl) rfl rfl (by simp) rfl fun w' H' => ⟨⟨(q0, zeroC, 11), .inl ⟨hno, rfl, rfl⟩⟩, rfl, H'.ent (Ent.trans (Ent.cfgR0 _) Ent.append_l)⟩
theorem parse_of {xs : List UInt8} {c : ConfC} (v : Value) (hc : goodP c) (h : xs = cfgB c) : parseP ⟨xs, v, false⟩ ∧ (rdC true ⟨xs, v, false⟩).1 = c := by
 obtain ⟨a, b, d⟩ := rdC_read true c [] ⟨xs, v, false⟩ hc.wok (by rw [List.append_nil]; exact h) rfl
 exact ⟨⟨⟨d, b⟩, by rw [a]; exact hc⟩, a⟩
theorem rdE_read (x : EditC) (tail : List UInt8) (s : RS) (hx : goodE x) (h : s.rem = edB x ++ tail) (hb : s.bad = false) : (rdE s).1 = x ∧ (rdE s).2.rem = tail ∧ (rdE s).2.bad = false := by
 have p1 : (256 : Nat) ^ 1 = 256 := by decide
 have p2 : (256 : Nat) ^ 2 = 65536 := by decide
 have p4 : (256 : Nat) ^ 4 = 4294967296 := by decide
 obtain ⟨a1, a2, a3, a4, a5, a6, a7⟩ := x
 obtain ⟨g1, g2, g3, g4, g5, g6, g7, g8, g9⟩ := hx
 dsimp only at *
 unfold edB at h
 dsimp only at h
 simp only [List.append_assoc] at h
 obtain ⟨n1, r1, b1⟩ := get_read Z64 h hb
 obtain ⟨n2, r2, b2⟩ := get_read Z64 r1 b1
 obtain ⟨n3, r3, b3⟩ := get_read Z64 r2 b2
 obtain ⟨n4, r4, b4⟩ := get_read Z64 r3 b3
 obtain ⟨n5, r5, b5⟩ := get_read (show a5.toNat < 256 ^ 1 from a5.toNat_lt) r4 b4
 obtain ⟨n6, r6, b6⟩ := get_read (show a6.toNat < 256 ^ 1 from a6.toNat_lt) r5 b5
 obtain ⟨n7, r7, b7⟩ := get_read (show a7.toNat < 256 ^ 6 from g9) r6 b6
 refine ⟨?_, r7, b7⟩
 simp only [rdE]
 rw [n1, n2, n3, n4, n5, n6, n7, ofNat8_toNat, ofNat8_toNat, ofNat64_toNat, Int.toNat_of_nonneg Z64, Int.toNat_of_nonneg g3, Int.toNat_of_nonneg g5, Int.toNat_of_nonneg g7]
theorem rdEs_L (i : Nat) (s : RS) : rdEs i s = rdL rdE i s := by
 induction i with
 | zero => rfl
 | succ i ih => simp only [rdEs, rdL, ih]
theorem list_of {l : List EditC} (v : Value) (h : okEds l) : listP ⟨edsB l, v, false⟩ ∧ (rdAll ⟨edsB l, v, false⟩).1 = l := by
 have p1 : (256 : Nat) ^ 1 = 256 := by decide
 obtain ⟨n1, r1, b1⟩ := get_read (s := ⟨edsB l, v, false⟩) (n := l.length) (k := 1) (tail := l.flatMap edB) (by have := h.1; omega) rfl rfl
 obtain ⟨a, b, c⟩ := rdL_read rdE_read l.length l [] _ rfl (fun x hx => by obtain ⟨i, hi, rfl⟩ := List.getElem_of_mem hx; exact h.2 i hi) (by rw [List.append_nil]; exact r1) b1
 have e : rdAll ⟨edsB l, v, false⟩ = rdL rdE l.length (getS ⟨edsB l, v, false⟩ 1) := by
  show rdEs (getN ⟨edsB l, v, false⟩ 1) (getS ⟨edsB l, v, false⟩ 1) = _
  rw [n1, rdEs_L]
 unfold listP
 rw [e]
 exact ⟨⟨⟨c, b⟩, by rw [a]; exact h⟩, a⟩
end Go.Proofs.YtjlolpmmpafjeaaGreat
