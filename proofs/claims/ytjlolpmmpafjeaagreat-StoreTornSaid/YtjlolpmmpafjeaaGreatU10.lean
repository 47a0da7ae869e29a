import Derived.Test.YtjlolpmmpafjeaaGreatU09
set_option linter.unusedVariables false
set_option linter.unusedSimpArgs false
namespace Go.Proofs.YtjlolpmmpafjeaaGreat
open CN
def CC {α : Type} (f : RS → α × RS) : Nat → RS → List α × RS
 | 0, s => ([], s)
 | i + 1, s => ((CC f i s).1 ++ [(f (CC f i s).2).1], (f (CC f i s).2).2)
section
variable {α : Type} {f : RS → α × RS}
theorem N2 (i : Nat) (s : RS) : (CC f i s).1.length = i := by
 induction i with
 | zero => rfl
 | succ i ih => simp [CC, ih]
theorem Q8 {p : α → Prop} (hf : ∀ s, p (f s).1) (i : Nat) (s : RS) : ∀ x ∈ (CC f i s).1, p x := by
 induction i with
 | zero => intro x hx; cases hx
 | succ i ih =>
  intro x hx
  rcases List.mem_append.1 hx with h | h
  ·exact ih x h
  ·rw [List.mem_singleton.1 h]; exact hf _
theorem LR {D : Nat → Prop} {w : World} (hf : ∀ s, Old D w (AX.rep s.rem [s.v]) → Old D w (AX.rep (f s).2.rem [(f s).2.v])) {s : RS} (i : Nat) (h : Old D w (AX.rep s.rem [s.v])) : Old D w (AX.rep (CC f i s).2.rem [(CC f i s).2.v]) := by
 induction i with
 | zero => exact h
 | succ i ih => exact hf _ ih
theorem UD {g : α → List UInt8} {p : α → Prop} (hf : ∀ x tail s, p x → s.rem = g x ++ tail → s.bad = false → (f s).1 = x ∧ (f s).2.rem = tail ∧ (f s).2.bad = false) (n : Nat) : ∀ (l : List α) (tail : List UInt8) (s : RS), l.length = n → (∀ x ∈ l, p x) → s.rem = l.flatMap g ++ tail → s.bad = false → (CC f n s).1 = l ∧ (CC f n s).2.rem = tail ∧ (CC f n s).2.bad = false := by
 induction n with
 | zero =>
  intro l tail s hl _ h hb
  rw [List.eq_nil_of_length_eq_zero hl] at h ⊢
  exact ⟨rfl, h, hb⟩
 | succ n ih =>
  intro l tail s hl hp h hb
  obtain ⟨ys, y, rfl⟩ : ∃ ys y, l = ys ++ [y] := ⟨l.dropLast, l.getLast (by intro e; subst e; simp at hl), (List.dropLast_concat_getLast _).symm⟩
  rw [List.flatMap_append, List.flatMap_singleton, List.append_assoc] at h
  obtain ⟨a1, a2, a3⟩ := ih ys (g y ++ tail) s (by simpa using hl) (fun x hx => hp x (by simp [hx])) h hb
  obtain ⟨b1, b2, b3⟩ := hf y tail _ (hp y (by simp)) a2 a3
  refine ⟨?_, b2, b3⟩
  show (CC f n s).1 ++ [(f (CC f n s).2).1] = _
  rw [a1, b1]
theorem MQ (hf : ∀ s : RS, s.bad = true → (f s).2.bad = true) (i j : Nat) (hij : i ≤ j) (s : RS) (h : (CC f i s).2.bad = true) : (CC f j s).2.bad = true := by
 induction j with
 | zero =>
  obtain rfl : i = 0 := by omega
  exact h
 | succ j ih =>
  rcases Nat.lt_or_ge i (j + 1) with h1 | h1
  ·exact hf _ (ih AA)
  ·obtain rfl : i = j + 1 := by omega
   exact h
end
theorem J7 (s : RS) (k : Nat) (h : s.bad = true) : (AN s k).bad = true := by
 unfold AN
 split
 ·rfl
 ·exact h
def LK : Bool → RS → Nat → RS
 | true, s, n => ⟨s.rem, s.v, s.bad || decide (1 < (n : Int))⟩
 | false, s, _ => s
def D0 (m : Bool) (s : RS) : GI × RS :=
 let s1 := LK m (AN s 1) (BU s 1)
 ((decide ((BU s 1 : Int) = 1), UInt32.ofNat (BU s1 4), (BU (AN s1 4) 2 : Int)), AN (AN s1 4) 2)
def EK (s : RS) : EI × RS := (((BU s 2 : Int), UInt8.ofNat (BU (AN s 2) 1), UInt8.ofNat (BU (AN (AN s 2) 1) 1)), AN (AN (AN s 2) 1) 1)
def ET (s : RS) : FM × RS := ((UInt64.ofNat (BU s 6), (BU (AN s 6) 2 : Int), (BU (AN (AN s 6) 2) 1 : Int)), AN (AN (AN s 6) 2) 1)
theorem fO (m : Bool) (s : RS) (n : Nat) : (LK m s n).rem = s.rem := by cases m <;> rfl
theorem sR (m : Bool) (s : RS) (n : Nat) : (LK m s n).v = s.v := by cases m <;> rfl
theorem sH (m : Bool) (s : RS) (n : Nat) (hn : n ≤ 1) (h : s.bad = false) : (LK m s n).bad = false := by
 cases m
 ·exact h
 ·show (s.bad || decide (1 < (n : Int))) = false
  rw [h, decide_eq_false AA]; rfl
theorem fR {D : Nat → Prop} {w : World} {s : RS} (m : Bool) (n : Nat) (h : Old D w (AX.rep s.rem [s.v])) : Old D w (AX.rep (LK m s n).rem [(LK m s n).v]) := by
 rw [fO, sR]; exact h
theorem SF {D : Nat → Prop} {w : World} (m : Bool) (s : RS) (h : Old D w (AX.rep s.rem [s.v])) : Old D w (AX.rep (D0 m s).2.rem [(D0 m s).2.v]) := EA 2 (EA 4 (fR m _ (EA 1 h)))
theorem SJ {D : Nat → Prop} {w : World} (s : RS) (h : Old D w (AX.rep s.rem [s.v])) : Old D w (AX.rep (EK s).2.rem [(EK s).2.v]) := EA 1 (EA 1 (EA 2 h))
theorem UU {D : Nat → Prop} {w : World} (s : RS) (h : Old D w (AX.rep s.rem [s.v])) : Old D w (AX.rep (ET s).2.rem [(ET s).2.v]) := EA 1 (EA 2 (EA 6 h))
theorem gA (m : Bool) (s : RS) : Flat.ok (D0 m s).1 := LQ _ 2 AF
theorem gM (s : RS) : Flat.ok (EK s).1 := LQ _ 2 AF
theorem gP (s : RS) : Flat.ok (ET s).1 := ⟨LQ _ 2 AF, LQ _ 1 AF⟩
theorem aV (m : Bool) (s : RS) : CJ (D0 m s).1 = [.bool (decide ((BU s 1 : Int) = 1)), .int .u32 (BU (LK m (AN s 1) (BU s 1)) 4), .int .i64 (BU (AN (LK m (AN s 1) (BU s 1)) 4) 2)] := by
 show [Value.bool _, Value.int .u32 ((UInt32.ofNat _).toNat : Int), _] = _
 rw [jE]; rfl
theorem lW (s : RS) : BJ (EK s).1 = [.int .i64 (BU s 2), .int .u8 ((BU (AN s 2) 1 % 256 : Nat) : Int), .int .u8 ((BU (AN (AN s 2) 1) 1 % 256 : Nat) : Int)] := by
 show [_, AU (UInt8.ofNat _), AU (UInt8.ofNat _)] = _
 rw [NU, NU]; rfl
theorem bX (s : RS) : BW (ET s).1 = [.int .u64 (BU s 6), .int .i64 (BU (AN s 6) 2), .int .i64 (BU (AN (AN s 6) 2) 1)] := by
 show [Value.int .u64 ((UInt64.ofNat _).toNat : Int), _, _] = _
 rw [jD]; rfl
def GA (m : Bool) (s : RS) : CA × RS :=
 let s1 := AN s 2
 let s2 := AN s1 1
 let s3 := AN s2 1
 let p := CC (D0 m) (BU s3 1) (AN s3 1)
 let v := CC EK (BU p.2 1) (AN p.2 1)
 let t := CC ET (BU v.2 1) (AN v.2 1)
 (((BU s 2 : Int), (BU s1 1 : Int), (BU s2 1 : Int), p.1, v.1, t.1), t.2)
theorem oE (k : Nat) : ∀ n : Nat, n < 256 ^ k → JY (BE n k) = n := by
 induction k with
 | zero => intro n h; have : n = 0 := by simpa using h
           subst this; rfl
 | succ k ih =>
  intro n h
  have e := p8 (n / 256) k (UInt8.ofNat n)
  have e2 : n / 256 * 256 + (UInt8.ofNat n).toNat = n := by rw [UInt8.toNat_ofNat']; omega
  rw [e2] at e
  rw [e, nB, ih (n / 256) (by rw [Nat.pow_succ] at h; omega), e2]
theorem IK {s : RS} {n k : Nat} {tail : List UInt8} (hn : n < 256 ^ k) (h : s.rem = BE n k ++ tail) (hb : s.bad = false) : BU s k = n ∧ (AN s k).rem = tail ∧ (AN s k).bad = false := by
 have hl : ¬ s.rem.length < k := by rw [h, List.length_append, IV]; omega
 unfold BU AN
 rw [if_neg hl, if_neg hl, h]
 have e1 : (BE n k ++ tail).take k = BE n k := by rw [List.take_append_of_le_length U9, List.take_of_length_le U9]
 have e2 : (BE n k ++ tail).drop k = tail := by
  have := List.drop_left (l₁ := BE n k) (l₂ := tail)
  rwa [IV] at this
 rw [e1, e2]
 exact ⟨oE k n hn, rfl, hb⟩
theorem TD (x : UInt8) : UInt8.ofNat x.toNat = x := by simp
theorem iP (x : UInt32) : UInt32.ofNat x.toNat = x := by simp
theorem YA (x : UInt64) : UInt64.ofNat x.toNat = x := by simp
theorem oU (m : Bool) (x : GI) (tail : List UInt8) (s : RS) (hx : 0 ≤ x.2.2 ∧ x.2.2 ≤ 4094) (h : s.rem = IN x ++ tail) (hb : s.bad = false) : (D0 m s).1 = x ∧ (D0 m s).2.rem = tail ∧ (D0 m s).2.bad = false := by
 obtain ⟨u, c, p⟩ := x
 dsimp only at hx
 unfold IN at h
 dsimp only at h
 simp only [List.append_assoc] at h
 have hu : (if u = true then 1 else 0) ≤ 1 := by split <;> decide
 have p1 : (256 : Nat) ^ 1 = 256 := by decide
 have p2 : (256 : Nat) ^ 2 = 65536 := by decide
 obtain ⟨n1, r1, b1⟩ := IK AA h hb
 have b1 := sH m _ (BU s 1) (by rw [n1]; exact hu) b1
 rw [← fO m _ (BU s 1)] at r1
 obtain ⟨n2, r2, b2⟩ := IK (show c.toNat < 256 ^ 4 from c.toNat_lt) r1 b1
 obtain ⟨n3, r3, b3⟩ := IK (show p.toNat < 256 ^ 2 by omega) r2 b2
 refine ⟨?_, r3, b3⟩
 show (decide ((BU s 1 : Int) = 1), UInt32.ofNat (BU (LK m (AN s 1) (BU s 1)) 4), (BU (AN (LK m (AN s 1) (BU s 1)) 4) 2 : Int)) = _
 rw [n2, n3, n1, iP, Int.toNat_of_nonneg hx.1]
 cases u <;> rfl
theorem pF (x : EI) (tail : List UInt8) (s : RS) (hx : 0 ≤ x.1 ∧ x.1 ≤ 4094) (h : s.rem = IQ x ++ tail) (hb : s.bad = false) : (EK s).1 = x ∧ (EK s).2.rem = tail ∧ (EK s).2.bad = false := by
 have p1 : (256 : Nat) ^ 1 = 256 := by decide
 have p2 : (256 : Nat) ^ 2 = 65536 := by decide
 obtain ⟨u, c, p⟩ := x
 dsimp only at hx
 unfold IQ at h
 dsimp only at h
 simp only [List.append_assoc] at h
 obtain ⟨n1, r1, b1⟩ := IK (show u.toNat < 256 ^ 2 by omega) h hb
 obtain ⟨n2, r2, b2⟩ := IK (show c.toNat < 256 ^ 1 from c.toNat_lt) r1 b1
 obtain ⟨n3, r3, b3⟩ := IK (show p.toNat < 256 ^ 1 from p.toNat_lt) r2 b2
 refine ⟨?_, r3, b3⟩
 show ((BU s 2 : Int), UInt8.ofNat (BU (AN s 2) 1), UInt8.ofNat (BU (AN (AN s 2) 1) 1)) = _
 rw [n1, n2, n3, TD, TD, Int.toNat_of_nonneg hx.1]
theorem oJ (x : FM) (tail : List UInt8) (s : RS) (hx : (0 ≤ x.2.1 ∧ x.2.1 ≤ 4094) ∧ 0 ≤ x.2.2 ∧ x.2.2 < 8 ∧ x.1.toNat < 281474976710656) (h : s.rem = IM x ++ tail) (hb : s.bad = false) : (ET s).1 = x ∧ (ET s).2.rem = tail ∧ (ET s).2.bad = false := by
 have p1 : (256 : Nat) ^ 1 = 256 := by decide
 have p2 : (256 : Nat) ^ 2 = 65536 := by decide
 obtain ⟨u, c, p⟩ := x
 dsimp only at hx
 unfold IM at h
 dsimp only at h
 simp only [List.append_assoc] at h
 obtain ⟨n1, r1, b1⟩ := IK (show u.toNat < 256 ^ 6 from hx.2.2.2) h hb
 obtain ⟨n2, r2, b2⟩ := IK (show c.toNat < 256 ^ 2 by omega) r1 b1
 obtain ⟨n3, r3, b3⟩ := IK (show p.toNat < 256 ^ 1 by omega) r2 b2
 refine ⟨?_, r3, b3⟩
 show (UInt64.ofNat (BU s 6), (BU (AN s 6) 2 : Int), (BU (AN (AN s 6) 2) 1 : Int)) = _
 rw [n1, n2, n3, YA, Int.toNat_of_nonneg hx.1.1, Int.toNat_of_nonneg hx.2.1]
theorem cP (m : Bool) (c : CA) (tail : List UInt8) (s : RS) (hc : VC c) (h : s.rem = C8 c ++ tail) (hb : s.bad = false) : (GA m s).1 = c ∧ (GA m s).2.rem = tail ∧ (GA m s).2.bad = false := by
 obtain ⟨c1, c2, c3, P, V, S⟩ := c
 obtain ⟨a1, a2, a3, a4, a5, a6, a7, a8, a9⟩ := hc
 dsimp only at a1 a2 a3 a4 a5 a6 a7 a8 a9
 unfold C8 JM at h
 dsimp only at h
 simp only [List.append_assoc] at h
 have p1 : (256 : Nat) ^ 1 = 256 := by decide
 have p2 : (256 : Nat) ^ 2 = 65536 := by decide
 obtain ⟨n1, r1, b1⟩ := IK AA h hb
 obtain ⟨n2, r2, b2⟩ := IK AA r1 b1
 obtain ⟨n3, r3, b3⟩ := IK AA r2 b2
 obtain ⟨n4, r4, b4⟩ := IK AA r3 b3
 obtain ⟨n5, r5, b5⟩ := UD (oU m) P.length P _ _ rfl (fun x hx => by obtain ⟨i, hi, rfl⟩ := List.getElem_of_mem hx; exact a7 i hi) r4 b4
 obtain ⟨n6, r6, b6⟩ := IK AA r5 b5
 obtain ⟨n7, r7, b7⟩ := UD pF V.length V _ _ rfl (fun x hx => by obtain ⟨i, hi, rfl⟩ := List.getElem_of_mem hx; exact a8 i hi) r6 b6
 obtain ⟨n8, r8, b8⟩ := IK AA r7 b7
 obtain ⟨n9, r9, b9⟩ := UD oJ S.length S _ _ rfl (fun x hx => by obtain ⟨i, hi, rfl⟩ := List.getElem_of_mem hx; exact a9 i hi) r8 b8
 simp only [GA]
 rw [n4, n6, n8, n1, n2, n3, n5, n7, n9, Int.toNat_of_nonneg a1.1, Int.toNat_of_nonneg a2.1, Int.toNat_of_nonneg a3.1]
 exact ⟨rfl, r9, b9⟩
theorem ZK (s : RS) : BJ (EK s).1 = [.int .i64 (BU s 2), .int .u8 (BU (AN s 2) 1), .int .u8 (BU (AN (AN s 2) 1) 1)] := by
 rw [lW, Nat.mod_eq_of_lt (show BU (AN s 2) 1 < 256 from G7 _ 1), Nat.mod_eq_of_lt (show BU (AN (AN s 2) 1) 1 < 256 from G7 _ 1)]
theorem RJ {α : Type} (V : α → List Value) (f : RS → α × RS) (i : Nat) (s : RS) : (CC f i s).1.flatMap V ++ V (f (CC f i s).2).1 = (CC f (i + 1) s).1.flatMap V := by
 show _ = ((CC f i s).1 ++ [(f (CC f i s).2).1]).flatMap V
 rw [List.flatMap_append, List.flatMap_singleton]
theorem iX (D : Nat → Prop) (w : World) (g t : Nat) (s : RS) (H : AH D w w [AI g t [s.v, .bool s.bad]]) (HA : Old D w (AX.rep s.rem [s.v])) :
  Calls Tryz.prog 75 #[.pointer (some ⟨g, 0, none⟩)] w fun e w' => ∃ q : DA, e = .returned (.agg (B3 (GA true s).1 q).toArray) ∧
   AH D w w' [row q.1.1 83 3 (GA true s).1.2.2.2.1.length q.1.2 ((GA true s).1.2.2.2.1.flatMap CJ), row q.2.1.1 147 3 (GA true s).1.2.2.2.2.1.length q.2.1.2 ((GA true s).1.2.2.2.2.1.flatMap BJ), row q.2.2.1 149 3 (GA true s).1.2.2.2.2.2.length q.2.2.2 ((GA true s).1.2.2.2.2.2.flatMap BW), AI g t [(GA true s).2.v, .bool (GA true s).2.bad]] := by
 have hrd : GA true s = (((BU s 2 : Int), (BU (AN s 2) 1 : Int), (BU (AN (AN s 2) 1) 1 : Int), (CC (D0 true) (BU (AN (AN (AN s 2) 1) 1) 1) (AN (AN (AN (AN s 2) 1) 1) 1)).1, (CC EK (BU (CC (D0 true) (BU (AN (AN (AN s 2) 1) 1) 1) (AN (AN (AN (AN s 2) 1) 1) 1)).2 1) (AN (CC (D0 true) (BU (AN (AN (AN s 2) 1) 1) 1) (AN (AN (AN (AN s 2) 1) 1) 1)).2 1)).1, (CC ET (BU (CC EK (BU (CC (D0 true) (BU (AN (AN (AN s 2) 1) 1) 1) (AN (AN (AN (AN s 2) 1) 1) 1)).2 1) (AN (CC (D0 true) (BU (AN (AN (AN s 2) 1) 1) 1) (AN (AN (AN (AN s 2) 1) 1) 1)).2 1)).2 1) (AN (CC EK (BU (CC (D0 true) (BU (AN (AN (AN s 2) 1) 1) 1) (AN (AN (AN (AN s 2) 1) 1) 1)).2 1) (AN (CC (D0 true) (BU (AN (AN (AN s 2) 1) 1) 1) (AN (AN (AN (AN s 2) 1) 1) 1)).2 1)).2 1)).1), (CC ET (BU (CC EK (BU (CC (D0 true) (BU (AN (AN (AN s 2) 1) 1) 1) (AN (AN (AN (AN s 2) 1) 1) 1)).2 1) (AN (CC (D0 true) (BU (AN (AN (AN s 2) 1) 1) 1) (AN (AN (AN (AN s 2) 1) 1) 1)).2 1)).2 1) (AN (CC EK (BU (CC (D0 true) (BU (AN (AN (AN s 2) 1) 1) 1) (AN (AN (AN (AN s 2) 1) 1) 1)).2 1) (AN (CC (D0 true) (BU (AN (AN (AN s 2) 1) 1) 1) (AN (AN (AN (AN s 2) 1) 1) 1)).2 1)).2 1)).2) := rfl
 rw [hrd]
 clear hrd
 have HA1 := EA 2 HA
 have HA2 := EA 1 HA1
 have HA3 := EA 1 HA2
 have HA4 := EA 1 HA3
 have hn : BU (AN (AN (AN s 2) 1) 1) 1 < 256 := G7 _ 1
 generalize hs1 : AN s 2 = s1 at *
 generalize hs2 : AN s1 1 = s2 at *
 generalize hs3 : AN s2 1 = s3 at *
 generalize hs4 : AN s3 1 = s4 at *
 generalize hc1 : BU s 2 = c1 at *
 generalize hc2 : BU s1 1 = c2 at *
 generalize hc3 : BU s2 1 = c3 at *
 generalize hnn : BU s3 1 = n at *
 have HA5 := LR (SF true) n HA4
 have hPl : (CC (D0 true) n s4).1.length = n := N2 _ _
 generalize hPL : CC (D0 true) n s4 = PL at *
 have hn5 : BU PL.2 1 < 256 := G7 _ 1
 have HA6 := EA 1 HA5
 generalize hs5 : AN PL.2 1 = s5 at *
 generalize hnv : BU PL.2 1 = nv at *
 have HA7 := LR SJ nv HA6
 have hVl : (CC EK nv s5).1.length = nv := N2 _ _
 generalize hVL : CC EK nv s5 = VL at *
 have hn6 : BU VL.2 1 < 256 := G7 _ 1
 have HA8 := EA 1 HA7
 generalize hs6 : AN VL.2 1 = s6 at *
 generalize hns : BU VL.2 1 = ns at *
 have hSl : (CC ET ns s6).1.length = ns := N2 _ _
 generalize hSL : CC ET ns s6 = SL at *
 dsimp only [B3]
 rw [hPl, hVl, hSl]
 refine BZ (vs := [.pointer (some ⟨g, 0, none⟩)]) Tryz.func75 rfl _ Tryz.ntmps75 rfl H ?_
 simp only [BX, Nat.zero_add]
 refine zg <| AV (B9) rfl rfl rfl fun b2 =>
  zn <| AG <| ?_
 refine NX (σ := Nat) [0, 2] rfl 3 (fun q => .pointer (some ⟨q, 0, none⟩)) (fun q => [AI q 49 [.int .i64 c1, .int .i64 c2, .int .i64 c3, .slice none 0 0, .slice none 0 0, .slice none 0 0], AI b2 49 [.int .i64 0, .int .i64 0, .int .i64 0, .slice none 0 0, .slice none 0 0, .slice none 0 0], AI g t [s3.v, .bool s3.bad]]) (fun K1 hK1 => ?_) (fun q => ?_)
 ·refine EF [] mixed 15 rfl ?_
  refine AE 0 rfl (AO rfl) rfl <| AE 1 rfl (AY rfl) rfl <| AE 2 rfl (AP rfl) rfl <| AE 4 rfl (AO rfl) rfl <| AE 5 rfl (AY rfl) rfl <| AE 6 rfl (AP rfl) rfl <| AE 8 rfl (AO rfl) rfl <| AE 9 rfl (AY rfl) rfl <| AE 10 rfl (AP rfl) rfl <| DE 3 13 AB ?_ ?_
  ·skip
   refine CY rfl Tryz.call113 rfl (fun w1 => zp (AI g t [s.v, .bool s.bad]) fun D' hold _ H2 => GG D' w1 g t 2 s AF H2 (hold _ HA)) ?_
   rw [hs1, hc1]
   refine DE 7 13 AB ?_ ?_
   ·skip
    refine CY rfl Tryz.call113 rfl (fun w1 => zp (AI g t [s1.v, .bool s1.bad]) fun D' hold _ H2 => GG D' w1 g t 1 s1 AF H2 (hold _ HA1)) ?_
    rw [hs2, hc2]
    refine DE 11 13 AB ?_ ?_
    ·skip
     refine CY rfl Tryz.call113 rfl (fun w1 => zp (AI g t [s2.v, .bool s2.bad]) fun D' hold _ H2 => GG D' w1 g t 1 s2 AF H2 (hold _ HA2)) ?_
     rw [hs3, hc3]
     refine AE 12 rfl (CH rfl rfl) rfl <| ?_
     refine AL 13 AB <| BC rfl (B9) rfl fun b3 =>  ?_
     refine AL 14 AB <| CB rfl (DT rfl rfl rfl rfl rfl rfl) rfl <| ?_
     refine BY AB <| ?_
     refine DF hK1 (b3) BD BL
    skip
    refine BC rfl (B9) rfl fun b3 =>  ?_
    refine AL 11 AB <| CY rfl Tryz.call113 rfl (fun w1 => zp (AI g t [s2.v, .bool s2.bad]) fun D' hold _ H2 => GG D' w1 g t 1 s2 AF H2 (hold _ HA2)) ?_
    rw [hs3, hc3]
    refine AE 12 rfl (CH rfl rfl) rfl <| ?_
    refine AL 14 AB <| CB rfl (DT rfl rfl rfl rfl rfl rfl) rfl <| ?_
    refine BY AB <| ?_
    refine DF hK1 (b3) BD BL
   skip
   refine BC rfl (B9) rfl fun b3 =>  ?_
   refine AL 7 AB <| CY rfl Tryz.call113 rfl (fun w1 => zp (AI g t [s1.v, .bool s1.bad]) fun D' hold _ H2 => GG D' w1 g t 1 s1 AF H2 (hold _ HA1)) ?_
   rw [hs2, hc2]
   refine AL 11 AB <| CY rfl Tryz.call113 rfl (fun w1 => zp (AI g t [s2.v, .bool s2.bad]) fun D' hold _ H2 => GG D' w1 g t 1 s2 AF H2 (hold _ HA2)) ?_
   rw [hs3, hc3]
   refine AE 12 rfl (CH rfl rfl) rfl <| ?_
   refine AL 14 AB <| CB rfl (DT rfl rfl rfl rfl rfl rfl) rfl <| ?_
   refine BY AB <| ?_
   refine DF hK1 (b3) BD BL
  skip
  refine BC rfl (B9) rfl fun b3 =>  ?_
  refine AL 3 AB <| CY rfl Tryz.call113 rfl (fun w1 => zp (AI g t [s.v, .bool s.bad]) fun D' hold _ H2 => GG D' w1 g t 2 s AF H2 (hold _ HA)) ?_
  rw [hs1, hc1]
  refine AL 7 AB <| CY rfl Tryz.call113 rfl (fun w1 => zp (AI g t [s1.v, .bool s1.bad]) fun D' hold _ H2 => GG D' w1 g t 1 s1 AF H2 (hold _ HA1)) ?_
  rw [hs2, hc2]
  refine AL 11 AB <| CY rfl Tryz.call113 rfl (fun w1 => zp (AI g t [s2.v, .bool s2.bad]) fun D' hold _ H2 => GG D' w1 g t 1 s2 AF H2 (hold _ HA2)) ?_
  rw [hs3, hc3]
  refine AE 12 rfl (CH rfl rfl) rfl <| ?_
  refine AL 14 AB <| CB rfl (DT rfl rfl rfl rfl rfl rfl) rfl <| ?_
  refine BY AB <| ?_
  refine DF hK1 (b3) BD BL
 refine zt <| AG <| zg <| zm rfl <| zv (AY rfl) <| zf rfl <| ?_
 refine B2 Tryz.call113 rfl rfl (fun w1 => zp (AI g t [s3.v, .bool s3.bad]) fun D' hold _ H2 => GG D' w1 g t 1 s3 AF H2 (hold _ HA3)) ?_
 rw [hs4, hnn]
 refine zm rfl <| zn <| BK <| GL (σ := Nat × Option Addr × Nat) [0, 2, 3, 21] rfl 22 (fun u => .int .i64 (u.1 : Int)) (fun u => [row u.2.1 83 3 u.1 u.2.2 ((CC (D0 true) u.1 s4).1.flatMap CJ), AI g t [(CC (D0 true) u.1 s4).2.v, .bool (CC (D0 true) u.1 s4).2.bad], AI q 49 [.int .i64 c1, .int .i64 c2, .int .i64 c3, .slice u.2.1 u.1 u.2.2, .slice none 0 0, .slice none 0 0], AI b2 49 [.int .i64 0, .int .i64 0, .int .i64 0, .slice none 0 0, .slice none 0 0, .slice none 0 0]]) (fun u => u.1 ≤ n) (fun u => n - u.1) ((0, none, 0)) (Nat.zero_le _) rfl (AD.EB 83 3) ?_
 rintro ⟨i, A, c⟩ hi K2 hK2
 dsimp only at hi ⊢
 have HAi := LR (SF true) i HA4
 refine zg <| zv (B7 rfl rfl) <| zn <| AG <| BP rfl (fun h => ?_) (fun h => ?_)
 ·have hlt : i < n := by omega
  have hme : n - (i + 1) < n - i := by omega
  have hce := aV true (CC (D0 true) i s4).2
  have hl7 := RJ CJ (D0 true) i s4
  have hs7 : (CC (D0 true) (i + 1) s4).2 = AN (AN (LK true (AN (CC (D0 true) i s4).2 1) (BU (CC (D0 true) i s4).2 1)) 4) 2 := rfl
  generalize (CC (D0 true) i s4).2 = r0 at *
  have K0 := HAi
  have KA := EA 1 K0
  have KB := fR true (BU r0 1) KA
  have KC := EA 4 KB
  have hnb : BU (LK true (AN r0 1) (BU r0 1)) 4 < 4294967296 := G7 _ 4
  refine zk <| AG <| BK <| zg <| zm rfl <| zv (AY rfl) <| zf rfl <| ?_
  refine B2 Tryz.call113 rfl rfl (fun w1 => zp (AI g t [r0.v, .bool r0.bad]) fun D' hold _ H2 => GG D' w1 g t 1 r0 AF H2 (hold _ K0)) ?_
  generalize hsA : AN r0 1 = sA at *
  generalize hnA : BU r0 1 = nA at *
  have hsBv : (LK true sA nA).v = sA.v := rfl
  have hsBb : (LK true sA nA).bad = (sA.bad || decide (1 < (nA : Int))) := rfl
  generalize hsB : LK true sA nA = sB at *
  generalize hsC : AN sB 4 = sC at *
  refine zs rfl <| zn <| zg <| zm rfl <| zm rfl <| zv (AY rfl) <| zf rfl <| zf rfl <| zl rfl rfl <| zm rfl <| ?_
  refine KY (t := 34) rfl (fun hb => ?_) (fun hb => ?_)
  ·rw [hb, Bool.true_or] at hsBb
   refine zo rfl rfl <| zo rfl rfl <| zv (BF rfl rfl) <| zv (AY rfl) <| zf rfl <| zf rfl <| ?_
   refine A6 (CI [sB.v, .bool sB.bad] rfl rfl (by simp) rfl (by rw [hsBv, hsBb]; rfl)) rfl rfl ?_
   refine zn <| EF [] mixed 18 rfl ?_
   refine AE 0 rfl (AP rfl) rfl <| AE 2 rfl (AO rfl) rfl <| AE 3 rfl (CO rfl rfl) rfl <| AE 4 rfl (AO rfl) rfl <| AE 5 rfl (AY rfl) rfl <| AE 6 rfl (AP rfl) rfl <| AE 9 rfl (AO rfl) rfl <| AE 10 rfl (AY rfl) rfl <| AE 11 rfl (AP rfl) rfl <| DE 1 7 AB ?_ ?_
   ·skip
    refine CW rfl (zw rfl rfl) rfl <| AL 7 AB <| CY rfl Tryz.call114 rfl (fun w1 => zp (AI g t [sB.v, .bool sB.bad]) fun D' hold _ H2 => J8 D' w1 g t 4 sB AF H2 (hold _ KB)) ?_
    rw [hsC]
    refine AE 8 rfl (CD rfl NP) rfl <| ?_
    refine AL 12 AB <| CY rfl Tryz.call113 rfl (fun w1 => zp (AI g t [sC.v, .bool sC.bad]) fun D' hold _ H2 => GG D' w1 g t 2 sC AF H2 (hold _ KC)) ?_
    refine AE 13 rfl (CH rfl rfl) rfl <| ?_
    refine AL 14 AB <| BC rfl (BS rfl rfl rfl) rfl fun b55 =>  ?_
    refine AL 15 AB <| ?_
    rw [← hce]
    refine BC rfl (BT (A := A) (news := CJ (D0 true r0).1) rfl rfl (BB.AI (b := b55)) rfl CL AF AA) rfl (fun q2 => ?_)
    rw [hl7]
    refine AE 16 rfl (AP rfl) rfl <| AL 17 AB <| CB rfl (CI [.int .i64 c1, .int .i64 c2, .int .i64 c3, .slice q2.1 (i + 1) q2.2, .slice none 0 0, .slice none 0 0] rfl rfl (by simp) rfl rfl) rfl ?_
    refine BY AB <| zb <| zt <| AR <| zv (BM rfl rfl BO) <| ?_
    refine zm rfl <| AS <| ?_
    rw [← hs7]
    refine B5 hK2 ((i + 1, q2)) (hlt) (hme) BD BL
   skip
   refine CY rfl Tryz.call114 rfl (fun w1 => zp (AI g t [sB.v, .bool sB.bad]) fun D' hold _ H2 => J8 D' w1 g t 4 sB AF H2 (hold _ KB)) ?_
   rw [hsC]
   refine AE 8 rfl (CD rfl NP) rfl <| ?_
   refine DE 1 12 AB ?_ ?_
   ·skip
    refine CW rfl (zw rfl rfl) rfl <| AL 12 AB <| CY rfl Tryz.call113 rfl (fun w1 => zp (AI g t [sC.v, .bool sC.bad]) fun D' hold _ H2 => GG D' w1 g t 2 sC AF H2 (hold _ KC)) ?_
    refine AE 13 rfl (CH rfl rfl) rfl <| ?_
    refine AL 14 AB <| BC rfl (BS rfl rfl rfl) rfl fun b55 =>  ?_
    refine AL 15 AB <| ?_
    rw [← hce]
    refine BC rfl (BT (A := A) (news := CJ (D0 true r0).1) rfl rfl (BB.AI (b := b55)) rfl CL AF AA) rfl (fun q2 => ?_)
    rw [hl7]
    refine AE 16 rfl (AP rfl) rfl <| AL 17 AB <| CB rfl (CI [.int .i64 c1, .int .i64 c2, .int .i64 c3, .slice q2.1 (i + 1) q2.2, .slice none 0 0, .slice none 0 0] rfl rfl (by simp) rfl rfl) rfl ?_
    refine BY AB <| zb <| zt <| AR <| zv (BM rfl rfl BO) <| ?_
    refine zm rfl <| AS <| ?_
    rw [← hs7]
    refine B5 hK2 ((i + 1, q2)) (hlt) (hme) BD BL
   skip
   refine CY rfl Tryz.call113 rfl (fun w1 => zp (AI g t [sC.v, .bool sC.bad]) fun D' hold _ H2 => GG D' w1 g t 2 sC AF H2 (hold _ KC)) ?_
   refine AE 13 rfl (CH rfl rfl) rfl <| ?_
   refine DE 1 14 AB ?_ ?_
   ·skip
    refine CW rfl (zw rfl rfl) rfl <| AL 14 AB <| BC rfl (BS rfl rfl rfl) rfl fun b55 =>  ?_
    refine AL 15 AB <| ?_
    rw [← hce]
    refine BC rfl (BT (A := A) (news := CJ (D0 true r0).1) rfl rfl (BB.AI (b := b55)) rfl CL AF AA) rfl (fun q2 => ?_)
    rw [hl7]
    refine AE 16 rfl (AP rfl) rfl <| AL 17 AB <| CB rfl (CI [.int .i64 c1, .int .i64 c2, .int .i64 c3, .slice q2.1 (i + 1) q2.2, .slice none 0 0, .slice none 0 0] rfl rfl (by simp) rfl rfl) rfl ?_
    refine BY AB <| zb <| zt <| AR <| zv (BM rfl rfl BO) <| ?_
    refine zm rfl <| AS <| ?_
    rw [← hs7]
    refine B5 hK2 ((i + 1, q2)) (hlt) (hme) BD BL
   skip
   refine BC rfl (BS rfl rfl rfl) rfl fun b55 =>  ?_
   refine AL 1 AB <| CW rfl (zw rfl rfl) rfl <| AL 15 AB <| ?_
   rw [← hce]
   refine BC rfl (BT (A := A) (news := CJ (D0 true r0).1) rfl rfl (BB.AI (b := b55)) rfl CL AF AA) rfl (fun q2 => ?_)
   rw [hl7]
   refine AE 16 rfl (AP rfl) rfl <| AL 17 AB <| CB rfl (CI [.int .i64 c1, .int .i64 c2, .int .i64 c3, .slice q2.1 (i + 1) q2.2, .slice none 0 0, .slice none 0 0] rfl rfl (by simp) rfl rfl) rfl ?_
   refine BY AB <| zb <| zt <| AR <| zv (BM rfl rfl BO) <| ?_
   refine zm rfl <| AS <| ?_
   rw [← hs7]
   refine B5 hK2 ((i + 1, q2)) (hlt) (hme) BD BL
  rw [hb, Bool.false_or] at hsBb
  refine AJ rfl rfl <| zm rfl <| AJ rfl rfl <| zv (DV rfl rfl) <| zv (A8 rfl rfl) <| zv (AY rfl) <| zf rfl <| zf rfl <| ?_
  refine A6 (CI [sB.v, .bool sB.bad] rfl rfl (by simp) rfl (by rw [hsBv, hsBb]; rfl)) rfl rfl ?_
  refine zn <| EF [] mixed 18 rfl ?_
  refine AE 0 rfl (AP rfl) rfl <| AE 2 rfl (AO rfl) rfl <| AE 3 rfl (CO rfl rfl) rfl <| AE 4 rfl (AO rfl) rfl <| AE 5 rfl (AY rfl) rfl <| AE 6 rfl (AP rfl) rfl <| AE 9 rfl (AO rfl) rfl <| AE 10 rfl (AY rfl) rfl <| AE 11 rfl (AP rfl) rfl <| DE 1 7 AB ?_ ?_
  ·skip
   refine CW rfl (zw rfl rfl) rfl <| AL 7 AB <| CY rfl Tryz.call114 rfl (fun w1 => zp (AI g t [sB.v, .bool sB.bad]) fun D' hold _ H2 => J8 D' w1 g t 4 sB AF H2 (hold _ KB)) ?_
   rw [hsC]
   refine AE 8 rfl (CD rfl NP) rfl <| ?_
   refine AL 12 AB <| CY rfl Tryz.call113 rfl (fun w1 => zp (AI g t [sC.v, .bool sC.bad]) fun D' hold _ H2 => GG D' w1 g t 2 sC AF H2 (hold _ KC)) ?_
   refine AE 13 rfl (CH rfl rfl) rfl <| ?_
   refine AL 14 AB <| BC rfl (BS rfl rfl rfl) rfl fun b55 =>  ?_
   refine AL 15 AB <| ?_
   rw [← hce]
   refine BC rfl (BT (A := A) (news := CJ (D0 true r0).1) rfl rfl (BB.AI (b := b55)) rfl CL AF AA) rfl (fun q2 => ?_)
   rw [hl7]
   refine AE 16 rfl (AP rfl) rfl <| AL 17 AB <| CB rfl (CI [.int .i64 c1, .int .i64 c2, .int .i64 c3, .slice q2.1 (i + 1) q2.2, .slice none 0 0, .slice none 0 0] rfl rfl (by simp) rfl rfl) rfl ?_
   refine BY AB <| zb <| zt <| AR <| zv (BM rfl rfl BO) <| ?_
   refine zm rfl <| AS <| ?_
   rw [← hs7]
   refine B5 hK2 ((i + 1, q2)) (hlt) (hme) BD BL
  skip
  refine CY rfl Tryz.call114 rfl (fun w1 => zp (AI g t [sB.v, .bool sB.bad]) fun D' hold _ H2 => J8 D' w1 g t 4 sB AF H2 (hold _ KB)) ?_
  rw [hsC]
  refine AE 8 rfl (CD rfl NP) rfl <| ?_
  refine DE 1 12 AB ?_ ?_
  ·skip
   refine CW rfl (zw rfl rfl) rfl <| AL 12 AB <| CY rfl Tryz.call113 rfl (fun w1 => zp (AI g t [sC.v, .bool sC.bad]) fun D' hold _ H2 => GG D' w1 g t 2 sC AF H2 (hold _ KC)) ?_
   refine AE 13 rfl (CH rfl rfl) rfl <| ?_
   refine AL 14 AB <| BC rfl (BS rfl rfl rfl) rfl fun b55 =>  ?_
   refine AL 15 AB <| ?_
   rw [← hce]
   refine BC rfl (BT (A := A) (news := CJ (D0 true r0).1) rfl rfl (BB.AI (b := b55)) rfl CL AF AA) rfl (fun q2 => ?_)
   rw [hl7]
   refine AE 16 rfl (AP rfl) rfl <| AL 17 AB <| CB rfl (CI [.int .i64 c1, .int .i64 c2, .int .i64 c3, .slice q2.1 (i + 1) q2.2, .slice none 0 0, .slice none 0 0] rfl rfl (by simp) rfl rfl) rfl ?_
   refine BY AB <| zb <| zt <| AR <| zv (BM rfl rfl BO) <| ?_
   refine zm rfl <| AS <| ?_
   rw [← hs7]
   refine B5 hK2 ((i + 1, q2)) (hlt) (hme) BD BL
  skip
  refine CY rfl Tryz.call113 rfl (fun w1 => zp (AI g t [sC.v, .bool sC.bad]) fun D' hold _ H2 => GG D' w1 g t 2 sC AF H2 (hold _ KC)) ?_
  refine AE 13 rfl (CH rfl rfl) rfl <| ?_
  refine DE 1 14 AB ?_ ?_
  ·skip
   refine CW rfl (zw rfl rfl) rfl <| AL 14 AB <| BC rfl (BS rfl rfl rfl) rfl fun b55 =>  ?_
   refine AL 15 AB <| ?_
   rw [← hce]
   refine BC rfl (BT (A := A) (news := CJ (D0 true r0).1) rfl rfl (BB.AI (b := b55)) rfl CL AF AA) rfl (fun q2 => ?_)
   rw [hl7]
   refine AE 16 rfl (AP rfl) rfl <| AL 17 AB <| CB rfl (CI [.int .i64 c1, .int .i64 c2, .int .i64 c3, .slice q2.1 (i + 1) q2.2, .slice none 0 0, .slice none 0 0] rfl rfl (by simp) rfl rfl) rfl ?_
   refine BY AB <| zb <| zt <| AR <| zv (BM rfl rfl BO) <| ?_
   refine zm rfl <| AS <| ?_
   rw [← hs7]
   refine B5 hK2 ((i + 1, q2)) (hlt) (hme) BD BL
  skip
  refine BC rfl (BS rfl rfl rfl) rfl fun b55 =>  ?_
  refine AL 1 AB <| CW rfl (zw rfl rfl) rfl <| AL 15 AB <| ?_
  rw [← hce]
  refine BC rfl (BT (A := A) (news := CJ (D0 true r0).1) rfl rfl (BB.AI (b := b55)) rfl CL AF AA) rfl (fun q2 => ?_)
  rw [hl7]
  refine AE 16 rfl (AP rfl) rfl <| AL 17 AB <| CB rfl (CI [.int .i64 c1, .int .i64 c2, .int .i64 c3, .slice q2.1 (i + 1) q2.2, .slice none 0 0, .slice none 0 0] rfl rfl (by simp) rfl rfl) rfl ?_
  refine BY AB <| zb <| zt <| AR <| zv (BM rfl rfl BO) <| ?_
  refine zm rfl <| AS <| ?_
  rw [← hs7]
  refine B5 hK2 ((i + 1, q2)) (hlt) (hme) BD BL
 have hin : i = n := by omega
 subst hin
 rw [hPL]
 refine CF <| ze <| ze <| CE <| zt <| AG <| zg <| zm rfl <| zv (AY rfl) <| zf rfl <| ?_
 refine B2 Tryz.call113 rfl rfl (fun w1 => zp (AI g t [PL.2.v, .bool PL.2.bad]) fun D' hold _ H2 => GG D' w1 g t 1 PL.2 AF H2 (hold _ HA5)) ?_
 rw [hs5, hnv]
 refine zm rfl <| zn <| BK <| GL (σ := Nat × Option Addr × Nat) [0, 2, 3, 62] rfl 63 (fun u => .int .i64 (u.1 : Int)) (fun u => [row u.2.1 147 3 u.1 u.2.2 ((CC EK u.1 s5).1.flatMap BJ), AI g t [(CC EK u.1 s5).2.v, .bool (CC EK u.1 s5).2.bad], row A 83 3 i c (PL.1.flatMap CJ), AI q 49 [.int .i64 c1, .int .i64 c2, .int .i64 c3, .slice A i c, .slice u.2.1 u.1 u.2.2, .slice none 0 0], AI b2 49 [.int .i64 0, .int .i64 0, .int .i64 0, .slice none 0 0, .slice none 0 0, .slice none 0 0]]) (fun u => u.1 ≤ nv) (fun u => nv - u.1) ((0, none, 0)) (Nat.zero_le _) rfl (AD.EB 147 3) ?_
 rintro ⟨j, B, d⟩ hj K3 hK3
 dsimp only at hj ⊢
 have HAj := LR SJ j HA6
 refine zg <| zv (B7 rfl rfl) <| zn <| AG <| BP rfl (fun h2 => ?_) (fun h2 => ?_)
 ·have hlt : j < nv := by omega
  have hme : nv - (j + 1) < nv - j := by omega
  have hce := ZK (CC EK j s5).2
  have hl7 := RJ BJ EK j s5
  have hs7 : (CC EK (j + 1) s5).2 = AN (AN (AN (CC EK j s5).2 2) 1) 1 := rfl
  generalize (CC EK j s5).2 = r0 at *
  have K0 := HAj
  have KA := EA 2 K0
  have KB := EA 1 KA
  have hb1 : BU (AN r0 2) 1 < 256 := G7 _ 1
  have hb2 : BU (AN (AN r0 2) 1) 1 < 256 := G7 _ 1
  generalize hsA : AN r0 2 = sA at *
  generalize hsB : AN sA 1 = sB at *
  refine zk <| AG <| BK <| EF [] mixed 21 rfl ?_
  refine AE 0 rfl (AP rfl) rfl <| AE 2 rfl (AO rfl) rfl <| AE 3 rfl (AY rfl) rfl <| AE 4 rfl (AP rfl) rfl <| AE 6 rfl (AO rfl) rfl <| AE 7 rfl (AY rfl) rfl <| AE 8 rfl (AP rfl) rfl <| AE 11 rfl (AO rfl) rfl <| AE 12 rfl (AY rfl) rfl <| AE 13 rfl (AP rfl) rfl <| DE 1 5 AB ?_ ?_
  ·skip
   refine CW rfl (zw rfl rfl) rfl <| AL 5 AB <| CY rfl Tryz.call113 rfl (fun w1 => zp (AI g t [r0.v, .bool r0.bad]) fun D' hold _ H2 => GG D' w1 g t 2 r0 AF H2 (hold _ K0)) ?_
   rw [hsA]
   refine AL 9 AB <| CY rfl Tryz.call114 rfl (fun w1 => zp (AI g t [sA.v, .bool sA.bad]) fun D' hold _ H2 => J8 D' w1 g t 1 sA AF H2 (hold _ KA)) ?_
   rw [hsB]
   refine AE 10 rfl (CD rfl IC) rfl <| ?_
   refine AL 14 AB <| CY rfl Tryz.call114 rfl (fun w1 => zp (AI g t [sB.v, .bool sB.bad]) fun D' hold _ H2 => J8 D' w1 g t 1 sB AF H2 (hold _ KB)) ?_
   refine AE 15 rfl (CD rfl IC) rfl <| ?_
   refine AE 16 rfl (CH rfl rfl) rfl <| ?_
   refine AL 17 AB <| BC rfl (BS rfl rfl rfl) rfl fun b82 =>  ?_
   refine AL 18 AB <| ?_
   rw [← hce]
   refine BC rfl (BT (A := B) (news := BJ (EK r0).1) rfl rfl (BB.AI (b := b82)) rfl HZ AF AA) rfl (fun q2 => ?_)
   rw [hl7]
   refine AE 19 rfl (AP rfl) rfl <| AL 20 AB <| CB rfl (CI [.int .i64 c1, .int .i64 c2, .int .i64 c3, .slice A i c, .slice q2.1 (j + 1) q2.2, .slice none 0 0] rfl rfl (by simp) rfl rfl) rfl ?_
   refine BY AB <| zb <| zt <| AR <| zv (BM rfl rfl BO) <| ?_
   refine zm rfl <| AS <| ?_
   rw [← hs7]
   refine B5 hK3 ((j + 1, q2)) (hlt) (hme) BD BL
  skip
  refine CY rfl Tryz.call113 rfl (fun w1 => zp (AI g t [r0.v, .bool r0.bad]) fun D' hold _ H2 => GG D' w1 g t 2 r0 AF H2 (hold _ K0)) ?_
  rw [hsA]
  refine DE 1 9 AB ?_ ?_
  ·skip
   refine CW rfl (zw rfl rfl) rfl <| AL 9 AB <| CY rfl Tryz.call114 rfl (fun w1 => zp (AI g t [sA.v, .bool sA.bad]) fun D' hold _ H2 => J8 D' w1 g t 1 sA AF H2 (hold _ KA)) ?_
   rw [hsB]
   refine AE 10 rfl (CD rfl IC) rfl <| ?_
   refine AL 14 AB <| CY rfl Tryz.call114 rfl (fun w1 => zp (AI g t [sB.v, .bool sB.bad]) fun D' hold _ H2 => J8 D' w1 g t 1 sB AF H2 (hold _ KB)) ?_
   refine AE 15 rfl (CD rfl IC) rfl <| ?_
   refine AE 16 rfl (CH rfl rfl) rfl <| ?_
   refine AL 17 AB <| BC rfl (BS rfl rfl rfl) rfl fun b82 =>  ?_
   refine AL 18 AB <| ?_
   rw [← hce]
   refine BC rfl (BT (A := B) (news := BJ (EK r0).1) rfl rfl (BB.AI (b := b82)) rfl HZ AF AA) rfl (fun q2 => ?_)
   rw [hl7]
   refine AE 19 rfl (AP rfl) rfl <| AL 20 AB <| CB rfl (CI [.int .i64 c1, .int .i64 c2, .int .i64 c3, .slice A i c, .slice q2.1 (j + 1) q2.2, .slice none 0 0] rfl rfl (by simp) rfl rfl) rfl ?_
   refine BY AB <| zb <| zt <| AR <| zv (BM rfl rfl BO) <| ?_
   refine zm rfl <| AS <| ?_
   rw [← hs7]
   refine B5 hK3 ((j + 1, q2)) (hlt) (hme) BD BL
  skip
  refine CY rfl Tryz.call114 rfl (fun w1 => zp (AI g t [sA.v, .bool sA.bad]) fun D' hold _ H2 => J8 D' w1 g t 1 sA AF H2 (hold _ KA)) ?_
  rw [hsB]
  refine AE 10 rfl (CD rfl IC) rfl <| ?_
  refine DE 1 14 AB ?_ ?_
  ·skip
   refine CW rfl (zw rfl rfl) rfl <| AL 14 AB <| CY rfl Tryz.call114 rfl (fun w1 => zp (AI g t [sB.v, .bool sB.bad]) fun D' hold _ H2 => J8 D' w1 g t 1 sB AF H2 (hold _ KB)) ?_
   refine AE 15 rfl (CD rfl IC) rfl <| ?_
   refine AE 16 rfl (CH rfl rfl) rfl <| ?_
   refine AL 17 AB <| BC rfl (BS rfl rfl rfl) rfl fun b82 =>  ?_
   refine AL 18 AB <| ?_
   rw [← hce]
   refine BC rfl (BT (A := B) (news := BJ (EK r0).1) rfl rfl (BB.AI (b := b82)) rfl HZ AF AA) rfl (fun q2 => ?_)
   rw [hl7]
   refine AE 19 rfl (AP rfl) rfl <| AL 20 AB <| CB rfl (CI [.int .i64 c1, .int .i64 c2, .int .i64 c3, .slice A i c, .slice q2.1 (j + 1) q2.2, .slice none 0 0] rfl rfl (by simp) rfl rfl) rfl ?_
   refine BY AB <| zb <| zt <| AR <| zv (BM rfl rfl BO) <| ?_
   refine zm rfl <| AS <| ?_
   rw [← hs7]
   refine B5 hK3 ((j + 1, q2)) (hlt) (hme) BD BL
  skip
  refine CY rfl Tryz.call114 rfl (fun w1 => zp (AI g t [sB.v, .bool sB.bad]) fun D' hold _ H2 => J8 D' w1 g t 1 sB AF H2 (hold _ KB)) ?_
  refine AE 15 rfl (CD rfl IC) rfl <| ?_
  refine AE 16 rfl (CH rfl rfl) rfl <| ?_
  refine DE 1 17 AB ?_ ?_
  ·skip
   refine CW rfl (zw rfl rfl) rfl <| AL 17 AB <| BC rfl (BS rfl rfl rfl) rfl fun b82 =>  ?_
   refine AL 18 AB <| ?_
   rw [← hce]
   refine BC rfl (BT (A := B) (news := BJ (EK r0).1) rfl rfl (BB.AI (b := b82)) rfl HZ AF AA) rfl (fun q2 => ?_)
   rw [hl7]
   refine AE 19 rfl (AP rfl) rfl <| AL 20 AB <| CB rfl (CI [.int .i64 c1, .int .i64 c2, .int .i64 c3, .slice A i c, .slice q2.1 (j + 1) q2.2, .slice none 0 0] rfl rfl (by simp) rfl rfl) rfl ?_
   refine BY AB <| zb <| zt <| AR <| zv (BM rfl rfl BO) <| ?_
   refine zm rfl <| AS <| ?_
   rw [← hs7]
   refine B5 hK3 ((j + 1, q2)) (hlt) (hme) BD BL
  skip
  refine BC rfl (BS rfl rfl rfl) rfl fun b82 =>  ?_
  refine AL 1 AB <| CW rfl (zw rfl rfl) rfl <| AL 18 AB <| ?_
  rw [← hce]
  refine BC rfl (BT (A := B) (news := BJ (EK r0).1) rfl rfl (BB.AI (b := b82)) rfl HZ AF AA) rfl (fun q2 => ?_)
  rw [hl7]
  refine AE 19 rfl (AP rfl) rfl <| AL 20 AB <| CB rfl (CI [.int .i64 c1, .int .i64 c2, .int .i64 c3, .slice A i c, .slice q2.1 (j + 1) q2.2, .slice none 0 0] rfl rfl (by simp) rfl rfl) rfl ?_
  refine BY AB <| zb <| zt <| AR <| zv (BM rfl rfl BO) <| ?_
  refine zm rfl <| AS <| ?_
  rw [← hs7]
  refine B5 hK3 ((j + 1, q2)) (hlt) (hme) BD BL
 have hjn : j = nv := by omega
 subst hjn
 rw [hVL]
 refine CF <| ze <| ze <| CE <| zt <| AG <| zg <| zm rfl <| zv (AY rfl) <| zf rfl <| ?_
 refine B2 Tryz.call113 rfl rfl (fun w1 => zp (AI g t [VL.2.v, .bool VL.2.bad]) fun D' hold _ H2 => GG D' w1 g t 1 VL.2 AF H2 (hold _ HA7)) ?_
 rw [hs6, hns]
 refine zm rfl <| zn <| BK <| GL (σ := Nat × Option Addr × Nat) [0, 2, 3, 89] rfl 90 (fun u => .int .i64 (u.1 : Int)) (fun u => [row u.2.1 149 3 u.1 u.2.2 ((CC ET u.1 s6).1.flatMap BW), AI g t [(CC ET u.1 s6).2.v, .bool (CC ET u.1 s6).2.bad], row B 147 3 j d (VL.1.flatMap BJ), row A 83 3 i c (PL.1.flatMap CJ), AI q 49 [.int .i64 c1, .int .i64 c2, .int .i64 c3, .slice A i c, .slice B j d, .slice u.2.1 u.1 u.2.2], AI b2 49 [.int .i64 0, .int .i64 0, .int .i64 0, .slice none 0 0, .slice none 0 0, .slice none 0 0]]) (fun u => u.1 ≤ ns) (fun u => ns - u.1) ((0, none, 0)) (Nat.zero_le _) rfl (AD.EB 149 3) ?_
 rintro ⟨k, C, e⟩ hk K4 hK4
 dsimp only at hk ⊢
 have HAk := LR UU k HA8
 refine zg <| zv (B7 rfl rfl) <| zn <| AG <| BP rfl (fun h3 => ?_) (fun h3 => ?_)
 ·have hlt : k < ns := by omega
  have hme : ns - (k + 1) < ns - k := by omega
  have hce := bX (CC ET k s6).2
  have hl7 := RJ BW ET k s6
  have hs7 : (CC ET (k + 1) s6).2 = AN (AN (AN (CC ET k s6).2 6) 2) 1 := rfl
  generalize (CC ET k s6).2 = r0 at *
  have K0 := HAk
  have KA := EA 6 K0
  have KB := EA 2 KA
  generalize hsA : AN r0 6 = sA at *
  generalize hsB : AN sA 2 = sB at *
  refine zk <| AG <| BK <| EF [] mixed 19 rfl ?_
  refine AE 0 rfl (AP rfl) rfl <| AE 2 rfl (AO rfl) rfl <| AE 3 rfl (AY rfl) rfl <| AE 4 rfl (AP rfl) rfl <| AE 6 rfl (AO rfl) rfl <| AE 7 rfl (AY rfl) rfl <| AE 8 rfl (AP rfl) rfl <| AE 10 rfl (AO rfl) rfl <| AE 11 rfl (AY rfl) rfl <| AE 12 rfl (AP rfl) rfl <| DE 1 5 AB ?_ ?_
  ·skip
   refine CW rfl (zw rfl rfl) rfl <| AL 5 AB <| CY rfl Tryz.call114 rfl (fun w1 => zp (AI g t [r0.v, .bool r0.bad]) fun D' hold _ H2 => J8 D' w1 g t 6 r0 AF H2 (hold _ K0)) ?_
   rw [hsA]
   refine AL 9 AB <| CY rfl Tryz.call113 rfl (fun w1 => zp (AI g t [sA.v, .bool sA.bad]) fun D' hold _ H2 => GG D' w1 g t 2 sA AF H2 (hold _ KA)) ?_
   rw [hsB]
   refine AL 13 AB <| CY rfl Tryz.call113 rfl (fun w1 => zp (AI g t [sB.v, .bool sB.bad]) fun D' hold _ H2 => GG D' w1 g t 1 sB AF H2 (hold _ KB)) ?_
   refine AE 14 rfl (CH rfl rfl) rfl <| ?_
   refine AL 15 AB <| BC rfl (BS rfl rfl rfl) rfl fun b107 =>  ?_
   refine AL 16 AB <| ?_
   rw [← hce]
   refine BC rfl (BT (A := C) (news := BW (ET r0).1) rfl rfl (BB.AI (b := b107)) rfl CL AF AA) rfl (fun q2 => ?_)
   rw [hl7]
   refine AE 17 rfl (AP rfl) rfl <| AL 18 AB <| CB rfl (CI [.int .i64 c1, .int .i64 c2, .int .i64 c3, .slice A i c, .slice B j d, .slice q2.1 (k + 1) q2.2] rfl rfl (by simp) rfl rfl) rfl ?_
   refine BY AB <| zb <| zt <| AR <| zv (BM rfl rfl BO) <| ?_
   refine zm rfl <| AS <| ?_
   rw [← hs7]
   refine B5 hK4 ((k + 1, q2)) (hlt) (hme) BD BL
  skip
  refine CY rfl Tryz.call114 rfl (fun w1 => zp (AI g t [r0.v, .bool r0.bad]) fun D' hold _ H2 => J8 D' w1 g t 6 r0 AF H2 (hold _ K0)) ?_
  rw [hsA]
  refine DE 1 9 AB ?_ ?_
  ·skip
   refine CW rfl (zw rfl rfl) rfl <| AL 9 AB <| CY rfl Tryz.call113 rfl (fun w1 => zp (AI g t [sA.v, .bool sA.bad]) fun D' hold _ H2 => GG D' w1 g t 2 sA AF H2 (hold _ KA)) ?_
   rw [hsB]
   refine AL 13 AB <| CY rfl Tryz.call113 rfl (fun w1 => zp (AI g t [sB.v, .bool sB.bad]) fun D' hold _ H2 => GG D' w1 g t 1 sB AF H2 (hold _ KB)) ?_
   refine AE 14 rfl (CH rfl rfl) rfl <| ?_
   refine AL 15 AB <| BC rfl (BS rfl rfl rfl) rfl fun b107 =>  ?_
   refine AL 16 AB <| ?_
   rw [← hce]
   refine BC rfl (BT (A := C) (news := BW (ET r0).1) rfl rfl (BB.AI (b := b107)) rfl CL AF AA) rfl (fun q2 => ?_)
   rw [hl7]
   refine AE 17 rfl (AP rfl) rfl <| AL 18 AB <| CB rfl (CI [.int .i64 c1, .int .i64 c2, .int .i64 c3, .slice A i c, .slice B j d, .slice q2.1 (k + 1) q2.2] rfl rfl (by simp) rfl rfl) rfl ?_
   refine BY AB <| zb <| zt <| AR <| zv (BM rfl rfl BO) <| ?_
   refine zm rfl <| AS <| ?_
   rw [← hs7]
   refine B5 hK4 ((k + 1, q2)) (hlt) (hme) BD BL
  skip
  refine CY rfl Tryz.call113 rfl (fun w1 => zp (AI g t [sA.v, .bool sA.bad]) fun D' hold _ H2 => GG D' w1 g t 2 sA AF H2 (hold _ KA)) ?_
  rw [hsB]
  refine DE 1 13 AB ?_ ?_
  ·skip
   refine CW rfl (zw rfl rfl) rfl <| AL 13 AB <| CY rfl Tryz.call113 rfl (fun w1 => zp (AI g t [sB.v, .bool sB.bad]) fun D' hold _ H2 => GG D' w1 g t 1 sB AF H2 (hold _ KB)) ?_
   refine AE 14 rfl (CH rfl rfl) rfl <| ?_
   refine AL 15 AB <| BC rfl (BS rfl rfl rfl) rfl fun b107 =>  ?_
   refine AL 16 AB <| ?_
   rw [← hce]
   refine BC rfl (BT (A := C) (news := BW (ET r0).1) rfl rfl (BB.AI (b := b107)) rfl CL AF AA) rfl (fun q2 => ?_)
   rw [hl7]
   refine AE 17 rfl (AP rfl) rfl <| AL 18 AB <| CB rfl (CI [.int .i64 c1, .int .i64 c2, .int .i64 c3, .slice A i c, .slice B j d, .slice q2.1 (k + 1) q2.2] rfl rfl (by simp) rfl rfl) rfl ?_
   refine BY AB <| zb <| zt <| AR <| zv (BM rfl rfl BO) <| ?_
   refine zm rfl <| AS <| ?_
   rw [← hs7]
   refine B5 hK4 ((k + 1, q2)) (hlt) (hme) BD BL
  skip
  refine CY rfl Tryz.call113 rfl (fun w1 => zp (AI g t [sB.v, .bool sB.bad]) fun D' hold _ H2 => GG D' w1 g t 1 sB AF H2 (hold _ KB)) ?_
  refine AE 14 rfl (CH rfl rfl) rfl <| ?_
  refine DE 1 15 AB ?_ ?_
  ·skip
   refine CW rfl (zw rfl rfl) rfl <| AL 15 AB <| BC rfl (BS rfl rfl rfl) rfl fun b107 =>  ?_
   refine AL 16 AB <| ?_
   rw [← hce]
   refine BC rfl (BT (A := C) (news := BW (ET r0).1) rfl rfl (BB.AI (b := b107)) rfl CL AF AA) rfl (fun q2 => ?_)
   rw [hl7]
   refine AE 17 rfl (AP rfl) rfl <| AL 18 AB <| CB rfl (CI [.int .i64 c1, .int .i64 c2, .int .i64 c3, .slice A i c, .slice B j d, .slice q2.1 (k + 1) q2.2] rfl rfl (by simp) rfl rfl) rfl ?_
   refine BY AB <| zb <| zt <| AR <| zv (BM rfl rfl BO) <| ?_
   refine zm rfl <| AS <| ?_
   rw [← hs7]
   refine B5 hK4 ((k + 1, q2)) (hlt) (hme) BD BL
  skip
  refine BC rfl (BS rfl rfl rfl) rfl fun b107 =>  ?_
  refine AL 1 AB <| CW rfl (zw rfl rfl) rfl <| AL 16 AB <| ?_
  rw [← hce]
  refine BC rfl (BT (A := C) (news := BW (ET r0).1) rfl rfl (BB.AI (b := b107)) rfl CL AF AA) rfl (fun q2 => ?_)
  rw [hl7]
  refine AE 17 rfl (AP rfl) rfl <| AL 18 AB <| CB rfl (CI [.int .i64 c1, .int .i64 c2, .int .i64 c3, .slice A i c, .slice B j d, .slice q2.1 (k + 1) q2.2] rfl rfl (by simp) rfl rfl) rfl ?_
  refine BY AB <| zb <| zt <| AR <| zv (BM rfl rfl BO) <| ?_
  refine zm rfl <| AS <| ?_
  rw [← hs7]
  refine B5 hK4 ((k + 1, q2)) (hlt) (hme) BD BL
 have hkn : k = ns := by omega
 subst hkn
 rw [hSL]
 refine CF <| ze <| ze <| CE <| zt <| AG <| AR <| zv DY <| ?_
 refine A6 (DT rfl rfl rfl rfl rfl rfl) rfl rfl <| zn <| zq <| ?_
 exact IU (.inr rfl) rfl rfl (by simp) fun w' H' => ⟨((A, c), (B, d), (C, e)), rfl, H'.AK Z8⟩
theorem rV (m : Bool) (s : RS) : JH (GA m s).1 := by
 have h : ∀ s, BU s 1 < 256 := fun s => G7 s 1
 refine ⟨LQ _ 2 AF, LQ _ 1 AF, LQ _ 1 AF, Q8 (gA m) _ _, Q8 gM _ _, Q8 gP _ _, ?_, ?_, ?_⟩
 ·show (CC _ _ _).1.length ≤ 1000
  rw [N2]; have := h (AN (AN (AN s 2) 1) 1); omega
 ·show (CC EK _ _).1.length ≤ 1000
  rw [N2]; have := h (CC (D0 m) (BU (AN (AN (AN s 2) 1) 1) 1) (AN (AN (AN (AN s 2) 1) 1) 1)).2; omega
 show (CC ET _ _).1.length ≤ 1000
 rw [N2]; exact Nat.le_trans (Nat.le_of_lt (h _)) AF
def RC (s : RS) : Prop := ((GA true s).2.bad = false ∧ (GA true s).2.rem = []) ∧ C4 (GA true s).1
abbrev gK (p : Prop) (c : CA) := { r : DA × CA × Int // (¬ p ∧ r.2.1 = FZ ∧ r.2.2 = 11) ∨ (p ∧ r.2.1 = c ∧ r.2.2 = 0) }
theorem kM (D : Nat → Prop) (w : World) (v : Value) (xs : List UInt8) (HA : Old D w (AX.rep xs [v])) :
  Calls Tryz.prog 46 #[v] w fun e w' => ∃ r : gK (RC ⟨xs, v, false⟩) (GA true ⟨xs, v, false⟩).1, e = .returned (.tuple #[.agg (B3 r.1.2.1 r.1.1).toArray, .int .i64 r.1.2.2]) ∧ AH D w w' (C6 r.1.2.1 r.1.1) := by
 have HA0 := HA
 obtain ⟨A, cap, rfl, _⟩ := HA0.IG
 obtain ⟨s, hs⟩ : ∃ s : RS, s = ⟨xs, .slice A xs.length cap, false⟩ := ⟨_, rfl⟩
 have HA : Old D w (AX.rep s.rem [s.v]) := by rw [hs]; exact HA
 rw [← hs]
 have HAe : ∀ m : Bool, Old D w (AX.rep (GA m s).2.rem [(GA m s).2.v]) := fun m => LR UU _ (EA 1 (LR SJ _ (EA 1 (LR (SF m) _ (EA 1 (EA 1 (EA 1 (EA 2 HA))))))))
 have HAe := HAe true
 have hokc := rV true s
 refine BZ (vs := [.slice A xs.length cap]) Tryz.func46 rfl _ Tryz.ntmps46 rfl (AH.start D w) ?_
 simp only [BX, Nat.zero_add]
 refine zg <| AV (B9) rfl rfl rfl fun b2 =>
  zs rfl <| zn <| ?_
 refine zg <| zm rfl <| zv (CH rfl rfl) <| ?_
 refine zv (CH rfl rfl) <| ?_
 refine AV (EE rfl rfl) rfl rfl rfl fun b9 =>  ?_
 refine zs rfl <| zn <| AG <| zg <| zm rfl <| HL.AK (show AD _ [AI b9 165 [s.v, .bool s.bad], AI b2 49 [.int .i64 0, .int .i64 0, .int .i64 0, .slice none 0 0, .slice none 0 0, .slice none 0 0]] by rw [hs]; exact Z8) ?_
 refine CQ (σ := DA) Tryz.call75 rfl rfl (fun w1 => EZ (AI b9 165 [s.v, .bool s.bad]) fun D' hold _ H2 => iX D' w1 b9 165 s H2 (hold _ HA)) ?_
 intro q
 have hP : RC s ↔ ((GA true s).2.bad = false ∧ (GA true s).2.rem = []) ∧ C4 (GA true s).1 := Iff.rfl
 generalize GA true s = rc at *
 obtain ⟨c, r⟩ := rc
 dsimp only at hokc HAe hP ⊢
 refine AV (B9) rfl rfl rfl fun b5 =>  ?_
 refine A6 (CV (vs := B3 c q) rfl rfl rfl (by simp) CL) rfl rfl ?_
 refine zn <| zg <| zm rfl <| CQ (σ := EX (r.bad = false ∧ r.rem = [])) Tryz.call76 rfl rfl (fun w1 => EZ (AI b9 165 [r.v, .bool r.bad]) fun D' hold _ H2 => ZX D' w1 b9 165 r H2 (hold _ HAe)) ?_
 intro e1
 refine zm rfl <| KY (t := 14) rfl (fun a1 => ?_) (fun a1 => ?_)
 ·have hend := e1.2.1 a1
  refine AJ rfl rfl <| zv DY <| ?_
  refine AJ rfl rfl <| CQ (σ := EX (C4 c)) Tryz.call77 rfl rfl (fun w1 => zu fun D' _ hin _ => T5 D' w1 c _ _ _ (ER.rows (q := q) hokc hin)) ?_
  intro e2
  try rw [List.nil_append]
  refine zv (BF rfl rfl) <| zn <| FW rfl (fun a2 => ?_) (fun a2 => ?_)
  ·have hyes : RC s := hP.2 ⟨hend, e2.2.1 a2⟩
   refine zg <| zv DY <| ?_
   refine A6 (DT rfl rfl rfl rfl rfl rfl) rfl rfl <| zs rfl <| zn <| zq <| zr <| ?_
   exact ID (.inr rfl) rfl rfl (by simp) rfl fun w' H' => ⟨⟨(q, c, 0), .inr ⟨hyes, rfl, rfl⟩⟩, rfl, H'.AK Z8⟩
  have hno : ¬ RC s := fun h => by have := e2.2.2 (hP.1 h).2; rw [this] at a2; cases a2
  refine zk <| zg <| zv (CH rfl rfl) <| ?_
  refine A6 (DT rfl rfl rfl rfl rfl rfl) rfl rfl <| zs rfl <| zn <| zq <| ?_
  exact ID (.inr rfl) rfl rfl (by simp) rfl fun w' H' => ⟨⟨(q0, FZ, 11), .inl ⟨hno, rfl, rfl⟩⟩, rfl, H'.AK (AD.trans (AD.LC _) AD.KM)⟩
 have hno : ¬ RC s := fun h => by have := e1.2.2 (hP.1 h).1; rw [this] at a1; cases a1
 refine zo rfl rfl <| zo rfl rfl <| zv (A8 rfl rfl) <| zn <| EU rfl <| zk <| zg <| zv (CH rfl rfl) <| ?_
 refine A6 (DT rfl rfl rfl rfl rfl rfl) rfl rfl <| zs rfl <| zn <| zq <| ?_
 exact ID (.inr rfl) rfl rfl (by simp) rfl fun w' H' => ⟨⟨(q0, FZ, 11), .inl ⟨hno, rfl, rfl⟩⟩, rfl, H'.AK (AD.trans (AD.LC _) AD.KM)⟩
theorem o7 {xs : List UInt8} {c : CA} (v : Value) (hc : C4 c) (h : xs = C8 c) : RC ⟨xs, v, false⟩ ∧ (GA true ⟨xs, v, false⟩).1 = c := by
 obtain ⟨a, b, d⟩ := cP true c [] ⟨xs, v, false⟩ hc.S7 (by rw [List.append_nil]; exact h) rfl
 exact ⟨⟨⟨d, b⟩, by rw [a]; exact hc⟩, a⟩
theorem oS (x : C5) (tail : List UInt8) (s : RS) (hx : FL x) (h : s.rem = LJ x ++ tail) (hb : s.bad = false) : (IT s).1 = x ∧ (IT s).2.rem = tail ∧ (IT s).2.bad = false := by
 have p1 : (256 : Nat) ^ 1 = 256 := by decide
 have p2 : (256 : Nat) ^ 2 = 65536 := by decide
 have p4 : (256 : Nat) ^ 4 = 4294967296 := by decide
 obtain ⟨a1, a2, a3, a4, a5, a6, a7⟩ := x
 obtain ⟨g1, g2, g3, g4, g5, g6, g7, g8, g9⟩ := hx
 dsimp only at *
 unfold LJ at h
 dsimp only at h
 simp only [List.append_assoc] at h
 obtain ⟨n1, r1, b1⟩ := IK AA h hb
 obtain ⟨n2, r2, b2⟩ := IK AA r1 b1
 obtain ⟨n3, r3, b3⟩ := IK AA r2 b2
 obtain ⟨n4, r4, b4⟩ := IK AA r3 b3
 obtain ⟨n5, r5, b5⟩ := IK (show a5.toNat < 256 ^ 1 from a5.toNat_lt) r4 b4
 obtain ⟨n6, r6, b6⟩ := IK (show a6.toNat < 256 ^ 1 from a6.toNat_lt) r5 b5
 obtain ⟨n7, r7, b7⟩ := IK (show a7.toNat < 256 ^ 6 from g9) r6 b6
 refine ⟨?_, r7, b7⟩
 simp only [IT]
 rw [n1, n2, n3, n4, n5, n6, n7, TD, TD, YA, Int.toNat_of_nonneg AA, Int.toNat_of_nonneg g3, Int.toNat_of_nonneg g5, Int.toNat_of_nonneg g7]
theorem rX (i : Nat) (s : RS) : D8 i s = CC IT i s := by
 induction i with
 | zero => rfl
 | succ i ih => simp only [D8, CC, ih]
theorem fS {l : List C5} (v : Value) (h : G0 l) : O3 ⟨AW l, v, false⟩ ∧ (G8 ⟨AW l, v, false⟩).1 = l := by
 have p1 : (256 : Nat) ^ 1 = 256 := by decide
 obtain ⟨n1, r1, b1⟩ := IK (s := ⟨AW l, v, false⟩) (n := l.length) (k := 1) (tail := l.flatMap LJ) (by have := h.1; omega) rfl rfl
 obtain ⟨a, b, c⟩ := UD oS l.length l [] _ rfl (fun x hx => by obtain ⟨i, hi, rfl⟩ := List.getElem_of_mem hx; exact h.2 i hi) (by rw [List.append_nil]; exact r1) b1
 have e : G8 ⟨AW l, v, false⟩ = CC IT l.length (AN ⟨AW l, v, false⟩ 1) := by
  show D8 (BU ⟨AW l, v, false⟩ 1) (AN ⟨AW l, v, false⟩ 1) = _
  rw [n1, rX]
 unfold O3
 rw [e]
 exact ⟨⟨⟨c, b⟩, by rw [a]; exact h⟩, a⟩
end Go.Proofs.YtjlolpmmpafjeaaGreat
