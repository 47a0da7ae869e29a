import Derived.Test.YtjlolpmmpafjeaaGreatU25
set_option linter.unusedVariables false
set_option linter.unusedSimpArgs false
namespace Go.Proofs.YtjlolpmmpafjeaaGreat
open CN
variable (D : Nat → Prop) (w : World)
theorem j3 (s : RS) (h : s.bad = true) : (D0 false s).2.bad = true := J7 _ 2 (J7 _ 4 (J7 _ 1 h))
theorem TQ (s : RS) (h : s.bad = true) : (EK s).2.bad = true := J7 _ 1 (J7 _ 1 (J7 _ 2 h))
theorem QO (s : RS) (h : s.bad = true) : (ET s).2.bad = true := J7 _ 1 (J7 _ 2 (J7 _ 6 h))
theorem early (s3 : RS) (c1 c2 c3 : Int) (i j k : Nat) (s4 s5 s6 : RS) (p : List GI × RS) (v : List EI × RS) (t : List FM × RS) (n1 n2 n3 : Nat)
  (hs4 : AN s3 1 = s4) (hn1 : BU s3 1 = n1) (hi : i ≤ n1) (hp : CC (D0 false) i s4 = p) (h1 : p.2.bad = false → i = n1)
  (hs5 : AN p.2 1 = s5) (hn2 : BU p.2 1 = n2) (hj : j ≤ n2) (hv : CC EK j s5 = v) (h2 : v.2.bad = false → j = n2)
  (hs6 : AN v.2 1 = s6) (hn3 : BU v.2 1 = n3) (hk : k ≤ n3) (ht : CC ET k s6 = t) (h3 : t.2.bad = false → k = n3)
  (R : CA × RS) (hR : R = (let p := CC (D0 false) (BU s3 1) (AN s3 1)
   let v := CC EK (BU p.2 1) (AN p.2 1)
   let t := CC ET (BU v.2 1) (AN v.2 1)
   ((c1, c2, c3, p.1, v.1, t.1), t.2))) :
  (t.2.bad = false → R = ((c1, c2, c3, p.1, v.1, t.1), t.2)) ∧ (t.2.bad = true → R.2.bad = true) := by
 have q1 : i = n1 → p.2.bad = true → R.2.bad = true := fun e hb => by
  subst e; subst hn1; subst hs4
  rw [hR]
  dsimp only
  rw [hp]
  exact MQ QO 0 _ (Nat.zero_le _) _ (J7 _ 1 (MQ TQ 0 _ (Nat.zero_le _) _ (J7 _ 1 hb)))
 have q2 : i = n1 → j = n2 → v.2.bad = true → R.2.bad = true := fun e e2 hb => by
  subst e; subst hn1; subst hs4; subst e2; subst hn2; subst hs5
  rw [hR]
  dsimp only
  rw [hp, hv]
  exact MQ QO 0 _ (Nat.zero_le _) _ (J7 _ 1 hb)
 have g1 : v.2.bad = false → p.2.bad = false := fun h => by
  cases hb : p.2.bad with
  | false => rfl
  | true =>
   have := MQ TQ 0 j (Nat.zero_le _) s5 (by rw [← hs5]; exact J7 _ 1 hb)
   rw [hv, h] at this; cases this
 have g2 : t.2.bad = false → v.2.bad = false := fun h => by
  cases hb : v.2.bad with
  | false => rfl
  | true =>
   have := MQ QO 0 k (Nat.zero_le _) s6 (by rw [← hs6]; exact J7 _ 1 hb)
   rw [ht, h] at this; cases this
 constructor
 ·intro h
  have e3 := h3 h
  have e2 := h2 (g2 h)
  have e1 := h1 (g1 (g2 h))
  subst e1; subst hn1; subst hs4; subst e2; subst hn2; subst hs5; subst e3; subst hn3; subst hs6
  rw [hR]
  dsimp only
  rw [hp, hv, ht]
 intro h
 by_cases b1 : p.2.bad = true
 ·have hb := MQ j3 i n1 hi s4 (by rw [hp]; exact b1)
  rw [hR]
  dsimp only
  rw [hn1, hs4]
  exact MQ QO 0 _ (Nat.zero_le _) _ (J7 _ 1 (MQ TQ 0 _ (Nat.zero_le _) _ (J7 _ 1 hb)))
 have e1 := h1 (by simpa using b1)
 by_cases b2 : v.2.bad = true
 ·have hb := MQ TQ j n2 hj s5 (by rw [hv]; exact b2)
  subst e1; subst hn1; subst hs4
  rw [hR]
  dsimp only
  rw [hp, hn2, hs5]
  exact MQ QO 0 _ (Nat.zero_le _) _ (J7 _ 1 hb)
 have e2 := h2 (by simpa using b2)
 have hb := MQ QO k n3 hk s6 (by rw [ht]; exact h)
 subst e1; subst hn1; subst hs4; subst e2; subst hn2; subst hs5
 rw [hR]
 dsimp only
 rw [hp, hv, hn3, hs6]
 exact hb
def QF (xs : List UInt8) (s : RS) : Prop := (GA false s).2.bad = false ∧ C4 (GA false s).1 ∧ C8 (GA false s).1 = xs
theorem jO (v : Value) (xs : List UInt8) (HA : Old D w (AX.rep xs [v])) :
  Calls Tryz.prog 53 #[v] w fun e w' => ∃ r : gK (QF xs ⟨xs, v, false⟩) (GA false ⟨xs, v, false⟩).1, e = .returned (.tuple #[.agg (B3 r.1.2.1 r.1.1).toArray, .int .i64 r.1.2.2]) ∧ AH D w w' (C6 r.1.2.1 r.1.1) := by
 have HA0 := HA
 obtain ⟨Ax, capx, rfl, _, _, HSx⟩ := HA0.IG
 obtain ⟨s, hs⟩ : ∃ s : RS, s = ⟨xs, .slice Ax xs.length capx, false⟩ := ⟨_, rfl⟩
 have HA : Old D w (AX.rep s.rem [s.v]) := by rw [hs]; exact HA
 rw [← hs]
 have hB : ∀ (s : RS) (k : Nat), k ≤ 6 → BU s k < 281474976710656 := fun s k hk => Nat.lt_of_lt_of_le (G7 s k) (by have : 256 ^ k ≤ 256 ^ 6 := Nat.pow_le_pow_right AF hk; exact this)
 have HA1 := EA 2 HA
 have HA2 := EA 1 HA1
 have HA3 := EA 1 HA2
 have HA4 := EA 1 HA3
 have hear := fun (i j k : Nat) (s4 s5 s6 : RS) (p : List GI × RS) (v : List EI × RS) (t : List FM × RS) (n1 n2 n3 : Nat) => fun hs4 hn1 hi hp h1 hs5 hn2 hj hv h2 hs6 hn3 hk ht h3 => early (AN (AN (AN s 2) 1) 1) (BU s 2 : Int) (BU (AN s 2) 1 : Int) (BU (AN (AN s 2) 1) 1 : Int) i j k s4 s5 s6 p v t n1 n2 n3 hs4 hn1 hi hp h1 hs5 hn2 hj hv h2 hs6 hn3 hk ht h3 (GA false s) rfl
 have hrefC : QF xs s ↔ (GA false s).2.bad = false ∧ C4 (GA false s).1 ∧ C8 (GA false s).1 = xs := Iff.rfl
 generalize GA false s = R at *
 have hn : BU (AN (AN (AN s 2) 1) 1) 1 < 256 := G7 _ 1
 have hb1 := hB s 2 AF
 have hb2 := hB (AN s 2) 1 AF
 have hb3 := hB (AN (AN s 2) 1) 1 AF
 have hin1 := LQ s 2 AF
 have hin2 := LQ (AN s 2) 1 AF
 have hin3 := LQ (AN (AN s 2) 1) 1 AF
 generalize hs1 : AN s 2 = s1 at *
 generalize hs2 : AN s1 1 = s2 at *
 generalize hs3 : AN s2 1 = s3 at *
 generalize hs4 : AN s3 1 = s4 at *
 generalize hc1 : BU s 2 = c1 at *
 generalize hc2 : BU s1 1 = c2 at *
 generalize hc3 : BU s2 1 = c3 at *
 generalize hnn : BU s3 1 = n at *
 refine BZ (vs := [.slice Ax xs.length capx]) Tryz.func53 rfl _ Tryz.ntmps53 rfl (AH.start D w) ?_
 simp only [BX, Nat.zero_add]
 refine zg <| AV (B9) rfl rfl rfl fun b2 =>
  zs rfl <| zn <| ?_
 refine zg <| zm rfl <| zv (CH rfl rfl) <| ?_
 refine AV (EE rfl rfl) rfl rfl rfl fun b13 =>  ?_
 refine zs rfl <| zn <| zg <| zm rfl <| HL.AK (show AD _ [AI b13 188 [s.v, .bool s.bad], AI b2 49 [.int .i64 0, .int .i64 0, .int .i64 0, .slice none 0 0, .slice none 0 0, .slice none 0 0]] by rw [hs]; exact Z8) ?_
 obtain ⟨rd, hrd⟩ : ∃ k, k = b13 := ⟨_, rfl⟩
 rw [← hrd]
 refine B2 Tryz.call89 rfl rfl (fun w1 => zp (AI rd 188 [s.v, .bool s.bad]) fun D' hold _ H2 => FD D' w1 rd 188 2 s AF H2 (hold _ HA)) ?_
 rw [hs1, hc1]
 refine zv (CD rfl BO) <| ?_
 refine zm rfl <| B2 Tryz.call89 rfl rfl (fun w1 => zp (AI rd 188 [s1.v, .bool s1.bad]) fun D' hold _ H2 => FD D' w1 rd 188 1 s1 AF H2 (hold _ HA1)) ?_
 rw [hs2, hc2]
 refine zv (CD rfl BO) <| ?_
 refine zm rfl <| B2 Tryz.call89 rfl rfl (fun w1 => zp (AI rd 188 [s2.v, .bool s2.bad]) fun D' hold _ H2 => FD D' w1 rd 188 1 s2 AF H2 (hold _ HA2)) ?_
 rw [hs3, hc3]
 refine zv (CD rfl BO) <| ?_
 refine zv (CH rfl rfl) <| ?_
 refine AV (B9) rfl rfl rfl fun b5 => 
  A6 (DT rfl rfl rfl rfl rfl rfl) rfl rfl <| zn <| AG <| AG <| ?_
 refine AR <| zm rfl <| B2 Tryz.call89 rfl rfl (fun w1 => zp (AI rd 188 [s3.v, .bool s3.bad]) fun D' hold _ H2 => FD D' w1 rd 188 1 s3 AF H2 (hold _ HA3)) ?_
 rw [hs4, hnn]
 obtain ⟨cf, hcf⟩ : ∃ k, k = b5 := ⟨_, rfl⟩
 rw [← hcf]
 refine zv (CD rfl BO) <| ?_
 refine zs rfl <| zn <| NC (σ := Nat × Option Addr × Nat) [0, 2, 4, 5] rfl  (fun u => [JU (u.1 ≤ n ∧ ((CC (D0 false) u.1 s4).2.bad = false → u.1 = n)), row u.2.1 83 3 u.1 u.2.2 ((CC (D0 false) u.1 s4).1.flatMap CJ), AI rd 188 [(CC (D0 false) u.1 s4).2.v, .bool (CC (D0 false) u.1 s4).2.bad], AI cf 49 [.int .i64 c1, .int .i64 c2, .int .i64 c3, .slice u.2.1 u.1 u.2.2, .slice none 0 0, .slice none 0 0], AI b2 49 [.int .i64 0, .int .i64 0, .int .i64 0, .slice none 0 0, .slice none 0 0, .slice none 0 0]]) (fun K1 hK1 => ?_) (fun u => ?_)
 ·refine BK <| GL (σ := Nat × Option Addr × Nat) [0, 2, 4, 5] rfl 6 (fun u => .int .i64 ((n : Int) - (u.1 : Int))) (fun u => [row u.2.1 83 3 u.1 u.2.2 ((CC (D0 false) u.1 s4).1.flatMap CJ), AI rd 188 [(CC (D0 false) u.1 s4).2.v, .bool (CC (D0 false) u.1 s4).2.bad], AI cf 49 [.int .i64 c1, .int .i64 c2, .int .i64 c3, .slice u.2.1 u.1 u.2.2, .slice none 0 0, .slice none 0 0], AI b2 49 [.int .i64 0, .int .i64 0, .int .i64 0, .slice none 0 0, .slice none 0 0, .slice none 0 0]]) (fun u => u.1 ≤ n) (fun u => n - u.1) ((0, none, 0)) (Nat.zero_le _) rfl (AD.EB 83 3) ?_
  rintro ⟨i, A, c⟩ hi K2 hK2
  dsimp only at hi ⊢
  have HAi := LR (SF false) i HA4
  refine AG <| zg <| zm rfl <| zv (DV rfl rfl) <| zm rfl <| DB (t := 29) rfl (fun p1 => ?_) (fun p1 => ?_)
  ·refine AJ rfl rfl <| zm rfl <| AJ rfl rfl <| zv (AY rfl) <| AJ rfl rfl <| zf rfl <| AJ rfl rfl <| zl rfl rfl <| AJ rfl rfl <| zv FC <| ?_
   refine zv (BF rfl rfl) <| zn <| FW rfl (fun p2 => ?_) (fun p2 => ?_)
   ·have hlt : i < n := by omega
    have hme : n - (i + 1) < n - i := by omega
    have hce : CJ (D0 false (CC (D0 false) i s4).2).1 = [.bool (decide ((BU (CC (D0 false) i s4).2 1 : Int) = 1)), .int .u32 (BU (AN (CC (D0 false) i s4).2 1) 4), .int .i64 (BU (AN (AN (CC (D0 false) i s4).2 1) 4) 2)] := aV false _
    have hl7 := RJ CJ (D0 false) i s4
    have hs7 : (CC (D0 false) (i + 1) s4).2 = AN (AN (AN (CC (D0 false) i s4).2 1) 4) 2 := rfl
    generalize (CC (D0 false) i s4).2 = r0 at *
    have K0 := HAi
    have KA := EA 1 K0
    have KB := EA 4 KA
    have z1 : BU (AN r0 1) 4 < 4294967296 := G7 _ 4
    have z2 : BU (AN (AN r0 1) 4) 2 < 65536 := G7 _ 2
    generalize hsA : AN r0 1 = sA at *
    generalize hsB : AN sA 4 = sB at *
    refine zk <| AG <| BK <| EF [] mixed 16 rfl ?_
    refine AE 0 rfl (AP rfl) rfl <| AE 2 rfl (AO rfl) rfl <| AE 5 rfl (AO rfl) rfl <| AE 8 rfl (AO rfl) rfl <| DE 1 3 AB ?_ ?_
    ·skip
     refine CW rfl (zw rfl rfl) rfl <| AL 3 AB <| CY rfl Tryz.call89 rfl (fun w1 => zp (AI rd 188 [r0.v, .bool r0.bad]) fun D' hold _ H2 => FD D' w1 rd 188 1 r0 AF H2 (hold _ K0)) ?_
     rw [hsA]
     refine AE 4 rfl (CO rfl rfl) rfl <| AL 6 AB <| CY rfl Tryz.call89 rfl (fun w1 => zp (AI rd 188 [sA.v, .bool sA.bad]) fun D' hold _ H2 => FD D' w1 rd 188 4 sA AF H2 (hold _ KA)) ?_
     rw [hsB]
     refine AE 7 rfl (CD rfl NP) rfl <| ?_
     refine AL 9 AB <| CY rfl Tryz.call89 rfl (fun w1 => zp (AI rd 188 [sB.v, .bool sB.bad]) fun D' hold _ H2 => FD D' w1 rd 188 2 sB AF H2 (hold _ KB)) ?_
     refine AE 10 rfl (CD rfl BO) rfl <| ?_
     refine AE 11 rfl (CH rfl rfl) rfl <| ?_
     refine AL 12 AB <| BC rfl (BS rfl rfl rfl) rfl fun b50 =>  ?_
     refine AL 13 AB <| ?_
     rw [← hce]
     refine BC rfl (BT (A := A) (news := CJ (D0 false r0).1) rfl rfl (BB.AI (b := b50)) rfl CL AF AA) rfl (fun q2 => ?_)
     rw [hl7]
     refine AE 14 rfl (AP rfl) rfl <| AL 15 AB <| CB rfl (CI [.int .i64 c1, .int .i64 c2, .int .i64 c3, .slice q2.1 (i + 1) q2.2, .slice none 0 0, .slice none 0 0] rfl rfl (by simp) rfl rfl) rfl ?_
     refine BY AB <| ?_
     refine zb <| zt <| AR <| zm rfl <| AZ (FY (m := (n : Int) - ((i + 1 : Nat) : Int)) rfl rfl E3) rfl ?_
     refine zs rfl <| AS <| ?_
     rw [← hs7]
     refine B5 hK2 ((i + 1, q2)) (hlt) (hme) BD BL
    skip
    refine CY rfl Tryz.call89 rfl (fun w1 => zp (AI rd 188 [r0.v, .bool r0.bad]) fun D' hold _ H2 => FD D' w1 rd 188 1 r0 AF H2 (hold _ K0)) ?_
    rw [hsA]
    refine AE 4 rfl (CO rfl rfl) rfl <| DE 1 6 AB ?_ ?_
    ·skip
     refine CW rfl (zw rfl rfl) rfl <| AL 6 AB <| CY rfl Tryz.call89 rfl (fun w1 => zp (AI rd 188 [sA.v, .bool sA.bad]) fun D' hold _ H2 => FD D' w1 rd 188 4 sA AF H2 (hold _ KA)) ?_
     rw [hsB]
     refine AE 7 rfl (CD rfl NP) rfl <| ?_
     refine AL 9 AB <| CY rfl Tryz.call89 rfl (fun w1 => zp (AI rd 188 [sB.v, .bool sB.bad]) fun D' hold _ H2 => FD D' w1 rd 188 2 sB AF H2 (hold _ KB)) ?_
     refine AE 10 rfl (CD rfl BO) rfl <| ?_
     refine AE 11 rfl (CH rfl rfl) rfl <| ?_
     refine AL 12 AB <| BC rfl (BS rfl rfl rfl) rfl fun b50 =>  ?_
     refine AL 13 AB <| ?_
     rw [← hce]
     refine BC rfl (BT (A := A) (news := CJ (D0 false r0).1) rfl rfl (BB.AI (b := b50)) rfl CL AF AA) rfl (fun q2 => ?_)
     rw [hl7]
     refine AE 14 rfl (AP rfl) rfl <| AL 15 AB <| CB rfl (CI [.int .i64 c1, .int .i64 c2, .int .i64 c3, .slice q2.1 (i + 1) q2.2, .slice none 0 0, .slice none 0 0] rfl rfl (by simp) rfl rfl) rfl ?_
     refine BY AB <| ?_
     refine zb <| zt <| AR <| zm rfl <| AZ (FY (m := (n : Int) - ((i + 1 : Nat) : Int)) rfl rfl E3) rfl ?_
     refine zs rfl <| AS <| ?_
     rw [← hs7]
     refine B5 hK2 ((i + 1, q2)) (hlt) (hme) BD BL
    skip
    refine CY rfl Tryz.call89 rfl (fun w1 => zp (AI rd 188 [sA.v, .bool sA.bad]) fun D' hold _ H2 => FD D' w1 rd 188 4 sA AF H2 (hold _ KA)) ?_
    rw [hsB]
    refine AE 7 rfl (CD rfl NP) rfl <| ?_
    refine DE 1 9 AB ?_ ?_
    ·skip
     refine CW rfl (zw rfl rfl) rfl <| AL 9 AB <| CY rfl Tryz.call89 rfl (fun w1 => zp (AI rd 188 [sB.v, .bool sB.bad]) fun D' hold _ H2 => FD D' w1 rd 188 2 sB AF H2 (hold _ KB)) ?_
     refine AE 10 rfl (CD rfl BO) rfl <| ?_
     refine AE 11 rfl (CH rfl rfl) rfl <| ?_
     refine AL 12 AB <| BC rfl (BS rfl rfl rfl) rfl fun b50 =>  ?_
     refine AL 13 AB <| ?_
     rw [← hce]
     refine BC rfl (BT (A := A) (news := CJ (D0 false r0).1) rfl rfl (BB.AI (b := b50)) rfl CL AF AA) rfl (fun q2 => ?_)
     rw [hl7]
     refine AE 14 rfl (AP rfl) rfl <| AL 15 AB <| CB rfl (CI [.int .i64 c1, .int .i64 c2, .int .i64 c3, .slice q2.1 (i + 1) q2.2, .slice none 0 0, .slice none 0 0] rfl rfl (by simp) rfl rfl) rfl ?_
     refine BY AB <| ?_
     refine zb <| zt <| AR <| zm rfl <| AZ (FY (m := (n : Int) - ((i + 1 : Nat) : Int)) rfl rfl E3) rfl ?_
     refine zs rfl <| AS <| ?_
     rw [← hs7]
     refine B5 hK2 ((i + 1, q2)) (hlt) (hme) BD BL
    skip
    refine CY rfl Tryz.call89 rfl (fun w1 => zp (AI rd 188 [sB.v, .bool sB.bad]) fun D' hold _ H2 => FD D' w1 rd 188 2 sB AF H2 (hold _ KB)) ?_
    refine AE 10 rfl (CD rfl BO) rfl <| ?_
    refine AE 11 rfl (CH rfl rfl) rfl <| ?_
    refine DE 1 12 AB ?_ ?_
    ·skip
     refine CW rfl (zw rfl rfl) rfl <| AL 12 AB <| BC rfl (BS rfl rfl rfl) rfl fun b50 =>  ?_
     refine AL 13 AB <| ?_
     rw [← hce]
     refine BC rfl (BT (A := A) (news := CJ (D0 false r0).1) rfl rfl (BB.AI (b := b50)) rfl CL AF AA) rfl (fun q2 => ?_)
     rw [hl7]
     refine AE 14 rfl (AP rfl) rfl <| AL 15 AB <| CB rfl (CI [.int .i64 c1, .int .i64 c2, .int .i64 c3, .slice q2.1 (i + 1) q2.2, .slice none 0 0, .slice none 0 0] rfl rfl (by simp) rfl rfl) rfl ?_
     refine BY AB <| ?_
     refine zb <| zt <| AR <| zm rfl <| AZ (FY (m := (n : Int) - ((i + 1 : Nat) : Int)) rfl rfl E3) rfl ?_
     refine zs rfl <| AS <| ?_
     rw [← hs7]
     refine B5 hK2 ((i + 1, q2)) (hlt) (hme) BD BL
    skip
    refine BC rfl (BS rfl rfl rfl) rfl fun b50 =>  ?_
    refine AL 1 AB <| CW rfl (zw rfl rfl) rfl <| AL 13 AB <| ?_
    rw [← hce]
    refine BC rfl (BT (A := A) (news := CJ (D0 false r0).1) rfl rfl (BB.AI (b := b50)) rfl CL AF AA) rfl (fun q2 => ?_)
    rw [hl7]
    refine AE 14 rfl (AP rfl) rfl <| AL 15 AB <| CB rfl (CI [.int .i64 c1, .int .i64 c2, .int .i64 c3, .slice q2.1 (i + 1) q2.2, .slice none 0 0, .slice none 0 0] rfl rfl (by simp) rfl rfl) rfl ?_
    refine BY AB <| ?_
    refine zb <| zt <| AR <| zm rfl <| AZ (FY (m := (n : Int) - ((i + 1 : Nat) : Int)) rfl rfl E3) rfl ?_
    refine zs rfl <| AS <| ?_
    rw [← hs7]
    refine B5 hK2 ((i + 1, q2)) (hlt) (hme) BD BL
   have hX : (CC (D0 false) i s4).2.bad = false → i = n := fun h => by rw [h] at p2; cases p2
   refine CF <| ze <| ze <| CE <| ?_
   exact DF hK1 ((i, A, c)) BD (AD.RN ⟨hi, hX⟩ Z8)
  have hX : (CC (D0 false) i s4).2.bad = false → i = n := fun _ => by omega
  refine zo rfl rfl <| zo rfl rfl <| zo rfl rfl <| zo rfl rfl <| zo rfl rfl <| zv (A8 rfl rfl) <| zn <| EU rfl <| CF <| ze <| ze <| CE <| ?_
  exact DF hK1 ((i, A, c)) BD (AD.RN ⟨hi, hX⟩ Z8)
 obtain ⟨i, A, c⟩ := u
 refine HX.pure ?_
 dsimp only
 rintro ⟨hi1, hX1⟩
 have HA5 := LR (SF false) i HA4
 have hPl : (CC (D0 false) i s4).1.length = i := N2 _ _
 have hPo := Q8 (gA false) i s4
 generalize hPL : CC (D0 false) i s4 = PL at *
 have hn5 : BU PL.2 1 < 256 := G7 _ 1
 have HA6 := EA 1 HA5
 generalize hs5 : AN PL.2 1 = s5 at *
 generalize hnv : BU PL.2 1 = n2 at *
 refine zt <| AG <| zg <| zm rfl <| B2 Tryz.call89 rfl rfl (fun w1 => zp (AI rd 188 [PL.2.v, .bool PL.2.bad]) fun D' hold _ H2 => FD D' w1 rd 188 1 PL.2 AF H2 (hold _ HA5)) ?_
 rw [hs5, hnv]
 refine zv (CD rfl BO) <| ?_
 refine zs rfl <| zn <| NC (σ := Nat × Option Addr × Nat) [0, 2, 4, 5] rfl  (fun u => [JU (u.1 ≤ n2 ∧ ((CC EK u.1 s5).2.bad = false → u.1 = n2)), row u.2.1 147 3 u.1 u.2.2 ((CC EK u.1 s5).1.flatMap BJ), AI rd 188 [(CC EK u.1 s5).2.v, .bool (CC EK u.1 s5).2.bad], row A 83 3 i c (PL.1.flatMap CJ), AI cf 49 [.int .i64 c1, .int .i64 c2, .int .i64 c3, .slice A i c, .slice u.2.1 u.1 u.2.2, .slice none 0 0], AI b2 49 [.int .i64 0, .int .i64 0, .int .i64 0, .slice none 0 0, .slice none 0 0, .slice none 0 0]]) (fun K3 hK3 => ?_) (fun u => ?_)
 ·refine BK <| GL (σ := Nat × Option Addr × Nat) [0, 2, 4, 5] rfl 7 (fun u => .int .i64 ((n2 : Int) - (u.1 : Int))) (fun u => [row u.2.1 147 3 u.1 u.2.2 ((CC EK u.1 s5).1.flatMap BJ), AI rd 188 [(CC EK u.1 s5).2.v, .bool (CC EK u.1 s5).2.bad], row A 83 3 i c (PL.1.flatMap CJ), AI cf 49 [.int .i64 c1, .int .i64 c2, .int .i64 c3, .slice A i c, .slice u.2.1 u.1 u.2.2, .slice none 0 0], AI b2 49 [.int .i64 0, .int .i64 0, .int .i64 0, .slice none 0 0, .slice none 0 0, .slice none 0 0]]) (fun u => u.1 ≤ n2) (fun u => n2 - u.1) ((0, none, 0)) (Nat.zero_le _) rfl (AD.EB 147 3) ?_
  rintro ⟨j, B, d⟩ hi K4 hK4
  dsimp only at hi ⊢
  have HAi := LR SJ j HA6
  refine AG <| zg <| zm rfl <| zv (DV rfl rfl) <| zm rfl <| DB (t := 58) rfl (fun p1 => ?_) (fun p1 => ?_)
  ·refine AJ rfl rfl <| zm rfl <| AJ rfl rfl <| zv (AY rfl) <| AJ rfl rfl <| zf rfl <| AJ rfl rfl <| zl rfl rfl <| AJ rfl rfl <| zv FC <| ?_
   refine zv (BF rfl rfl) <| zn <| FW rfl (fun p2 => ?_) (fun p2 => ?_)
   ·have hlt : j < n2 := by omega
    have hme : n2 - (j + 1) < n2 - j := by omega
    have hce := ZK (CC EK j s5).2
    have hl7 := RJ BJ EK j s5
    have hs7 : (CC EK (j + 1) s5).2 = AN (AN (AN (CC EK j s5).2 2) 1) 1 := rfl
    generalize (CC EK j s5).2 = r0 at *
    have K0 := HAi
    have KA := EA 2 K0
    have KB := EA 1 KA
    have z1 : BU r0 2 < 65536 := G7 _ 2
    have z2 : BU (AN r0 2) 1 < 256 := G7 _ 1
    have z3 : BU (AN (AN r0 2) 1) 1 < 256 := G7 _ 1
    generalize hsA : AN r0 2 = sA at *
    generalize hsB : AN sA 1 = sB at *
    refine zk <| AG <| BK <| EF [] mixed 16 rfl ?_
    refine AE 0 rfl (AP rfl) rfl <| AE 2 rfl (AO rfl) rfl <| AE 5 rfl (AO rfl) rfl <| AE 8 rfl (AO rfl) rfl <| DE 1 3 AB ?_ ?_
    ·skip
     refine CW rfl (zw rfl rfl) rfl <| AL 3 AB <| CY rfl Tryz.call89 rfl (fun w1 => zp (AI rd 188 [r0.v, .bool r0.bad]) fun D' hold _ H2 => FD D' w1 rd 188 2 r0 AF H2 (hold _ K0)) ?_
     rw [hsA]
     refine AE 4 rfl (CD rfl BO) rfl <| ?_
     refine AL 6 AB <| CY rfl Tryz.call89 rfl (fun w1 => zp (AI rd 188 [sA.v, .bool sA.bad]) fun D' hold _ H2 => FD D' w1 rd 188 1 sA AF H2 (hold _ KA)) ?_
     rw [hsB]
     refine AE 7 rfl (CD rfl IC) rfl <| ?_
     refine AL 9 AB <| CY rfl Tryz.call89 rfl (fun w1 => zp (AI rd 188 [sB.v, .bool sB.bad]) fun D' hold _ H2 => FD D' w1 rd 188 1 sB AF H2 (hold _ KB)) ?_
     refine AE 10 rfl (CD rfl IC) rfl <| ?_
     refine AE 11 rfl (CH rfl rfl) rfl <| ?_
     refine AL 12 AB <| BC rfl (BS rfl rfl rfl) rfl fun b79 =>  ?_
     refine AL 13 AB <| ?_
     rw [← hce]
     refine BC rfl (BT (A := B) (news := BJ (EK r0).1) rfl rfl (BB.AI (b := b79)) rfl HZ AF AA) rfl (fun q2 => ?_)
     rw [hl7]
     refine AE 14 rfl (AP rfl) rfl <| AL 15 AB <| CB rfl (CI [.int .i64 c1, .int .i64 c2, .int .i64 c3, .slice A i c, .slice q2.1 (j + 1) q2.2, .slice none 0 0] rfl rfl (by simp) rfl rfl) rfl ?_
     refine BY AB <| ?_
     refine zb <| zt <| AR <| zm rfl <| AZ (FY (m := (n2 : Int) - ((j + 1 : Nat) : Int)) rfl rfl E3) rfl ?_
     refine zs rfl <| AS <| ?_
     rw [← hs7]
     refine B5 hK4 ((j + 1, q2)) (hlt) (hme) BD BL
    skip
    refine CY rfl Tryz.call89 rfl (fun w1 => zp (AI rd 188 [r0.v, .bool r0.bad]) fun D' hold _ H2 => FD D' w1 rd 188 2 r0 AF H2 (hold _ K0)) ?_
    rw [hsA]
    refine AE 4 rfl (CD rfl BO) rfl <| ?_
    refine DE 1 6 AB ?_ ?_
    ·skip
     refine CW rfl (zw rfl rfl) rfl <| AL 6 AB <| CY rfl Tryz.call89 rfl (fun w1 => zp (AI rd 188 [sA.v, .bool sA.bad]) fun D' hold _ H2 => FD D' w1 rd 188 1 sA AF H2 (hold _ KA)) ?_
     rw [hsB]
     refine AE 7 rfl (CD rfl IC) rfl <| ?_
     refine AL 9 AB <| CY rfl Tryz.call89 rfl (fun w1 => zp (AI rd 188 [sB.v, .bool sB.bad]) fun D' hold _ H2 => FD D' w1 rd 188 1 sB AF H2 (hold _ KB)) ?_
     refine AE 10 rfl (CD rfl IC) rfl <| ?_
     refine AE 11 rfl (CH rfl rfl) rfl <| ?_
     refine AL 12 AB <| BC rfl (BS rfl rfl rfl) rfl fun b79 =>  ?_
     refine AL 13 AB <| ?_
     rw [← hce]
     refine BC rfl (BT (A := B) (news := BJ (EK r0).1) rfl rfl (BB.AI (b := b79)) rfl HZ AF AA) rfl (fun q2 => ?_)
     rw [hl7]
     refine AE 14 rfl (AP rfl) rfl <| AL 15 AB <| CB rfl (CI [.int .i64 c1, .int .i64 c2, .int .i64 c3, .slice A i c, .slice q2.1 (j + 1) q2.2, .slice none 0 0] rfl rfl (by simp) rfl rfl) rfl ?_
     refine BY AB <| ?_
     refine zb <| zt <| AR <| zm rfl <| AZ (FY (m := (n2 : Int) - ((j + 1 : Nat) : Int)) rfl rfl E3) rfl ?_
     refine zs rfl <| AS <| ?_
     rw [← hs7]
     refine B5 hK4 ((j + 1, q2)) (hlt) (hme) BD BL
    skip
    refine CY rfl Tryz.call89 rfl (fun w1 => zp (AI rd 188 [sA.v, .bool sA.bad]) fun D' hold _ H2 => FD D' w1 rd 188 1 sA AF H2 (hold _ KA)) ?_
    rw [hsB]
    refine AE 7 rfl (CD rfl IC) rfl <| ?_
    refine DE 1 9 AB ?_ ?_
    ·skip
     refine CW rfl (zw rfl rfl) rfl <| AL 9 AB <| CY rfl Tryz.call89 rfl (fun w1 => zp (AI rd 188 [sB.v, .bool sB.bad]) fun D' hold _ H2 => FD D' w1 rd 188 1 sB AF H2 (hold _ KB)) ?_
     refine AE 10 rfl (CD rfl IC) rfl <| ?_
     refine AE 11 rfl (CH rfl rfl) rfl <| ?_
     refine AL 12 AB <| BC rfl (BS rfl rfl rfl) rfl fun b79 =>  ?_
     refine AL 13 AB <| ?_
     rw [← hce]
     refine BC rfl (BT (A := B) (news := BJ (EK r0).1) rfl rfl (BB.AI (b := b79)) rfl HZ AF AA) rfl (fun q2 => ?_)
     rw [hl7]
     refine AE 14 rfl (AP rfl) rfl <| AL 15 AB <| CB rfl (CI [.int .i64 c1, .int .i64 c2, .int .i64 c3, .slice A i c, .slice q2.1 (j + 1) q2.2, .slice none 0 0] rfl rfl (by simp) rfl rfl) rfl ?_
     refine BY AB <| ?_
     refine zb <| zt <| AR <| zm rfl <| AZ (FY (m := (n2 : Int) - ((j + 1 : Nat) : Int)) rfl rfl E3) rfl ?_
     refine zs rfl <| AS <| ?_
     rw [← hs7]
     refine B5 hK4 ((j + 1, q2)) (hlt) (hme) BD BL
    skip
    refine CY rfl Tryz.call89 rfl (fun w1 => zp (AI rd 188 [sB.v, .bool sB.bad]) fun D' hold _ H2 => FD D' w1 rd 188 1 sB AF H2 (hold _ KB)) ?_
    refine AE 10 rfl (CD rfl IC) rfl <| ?_
    refine AE 11 rfl (CH rfl rfl) rfl <| ?_
    refine DE 1 12 AB ?_ ?_
    ·skip
     refine CW rfl (zw rfl rfl) rfl <| AL 12 AB <| BC rfl (BS rfl rfl rfl) rfl fun b79 =>  ?_
     refine AL 13 AB <| ?_
     rw [← hce]
     refine BC rfl (BT (A := B) (news := BJ (EK r0).1) rfl rfl (BB.AI (b := b79)) rfl HZ AF AA) rfl (fun q2 => ?_)
     rw [hl7]
     refine AE 14 rfl (AP rfl) rfl <| AL 15 AB <| CB rfl (CI [.int .i64 c1, .int .i64 c2, .int .i64 c3, .slice A i c, .slice q2.1 (j + 1) q2.2, .slice none 0 0] rfl rfl (by simp) rfl rfl) rfl ?_
     refine BY AB <| ?_
     refine zb <| zt <| AR <| zm rfl <| AZ (FY (m := (n2 : Int) - ((j + 1 : Nat) : Int)) rfl rfl E3) rfl ?_
     refine zs rfl <| AS <| ?_
     rw [← hs7]
     refine B5 hK4 ((j + 1, q2)) (hlt) (hme) BD BL
    skip
    refine BC rfl (BS rfl rfl rfl) rfl fun b79 =>  ?_
    refine AL 1 AB <| CW rfl (zw rfl rfl) rfl <| AL 13 AB <| ?_
    rw [← hce]
    refine BC rfl (BT (A := B) (news := BJ (EK r0).1) rfl rfl (BB.AI (b := b79)) rfl HZ AF AA) rfl (fun q2 => ?_)
    rw [hl7]
    refine AE 14 rfl (AP rfl) rfl <| AL 15 AB <| CB rfl (CI [.int .i64 c1, .int .i64 c2, .int .i64 c3, .slice A i c, .slice q2.1 (j + 1) q2.2, .slice none 0 0] rfl rfl (by simp) rfl rfl) rfl ?_
    refine BY AB <| ?_
    refine zb <| zt <| AR <| zm rfl <| AZ (FY (m := (n2 : Int) - ((j + 1 : Nat) : Int)) rfl rfl E3) rfl ?_
    refine zs rfl <| AS <| ?_
    rw [← hs7]
    refine B5 hK4 ((j + 1, q2)) (hlt) (hme) BD BL
   have hX : (CC EK j s5).2.bad = false → j = n2 := fun h => by rw [h] at p2; cases p2
   refine CF <| ze <| ze <| CE <| ?_
   exact DF hK3 ((j, B, d)) BD (AD.RN ⟨hi, hX⟩ Z8)
  have hX : (CC EK j s5).2.bad = false → j = n2 := fun _ => by omega
  refine zo rfl rfl <| zo rfl rfl <| zo rfl rfl <| zo rfl rfl <| zo rfl rfl <| zv (A8 rfl rfl) <| zn <| EU rfl <| CF <| ze <| ze <| CE <| ?_
  exact DF hK3 ((j, B, d)) BD (AD.RN ⟨hi, hX⟩ Z8)
 obtain ⟨j, B, d⟩ := u
 refine HX.pure ?_
 dsimp only
 rintro ⟨hi2, hX2⟩
 have HA7 := LR SJ j HA6
 have hVl : (CC EK j s5).1.length = j := N2 _ _
 have hVo := Q8 gM j s5
 generalize hVL : CC EK j s5 = VL at *
 have hn6 : BU VL.2 1 < 256 := G7 _ 1
 have HA8 := EA 1 HA7
 generalize hs6 : AN VL.2 1 = s6 at *
 generalize hns : BU VL.2 1 = n3 at *
 refine zt <| AG <| zg <| zm rfl <| B2 Tryz.call89 rfl rfl (fun w1 => zp (AI rd 188 [VL.2.v, .bool VL.2.bad]) fun D' hold _ H2 => FD D' w1 rd 188 1 VL.2 AF H2 (hold _ HA7)) ?_
 rw [hs6, hns]
 refine zv (CD rfl BO) <| ?_
 refine zs rfl <| zn <| NC (σ := Nat × Option Addr × Nat) [0, 2, 4, 5] rfl  (fun u => [JU (u.1 ≤ n3 ∧ ((CC ET u.1 s6).2.bad = false → u.1 = n3)), row u.2.1 149 3 u.1 u.2.2 ((CC ET u.1 s6).1.flatMap BW), AI rd 188 [(CC ET u.1 s6).2.v, .bool (CC ET u.1 s6).2.bad], row B 147 3 j d (VL.1.flatMap BJ), row A 83 3 i c (PL.1.flatMap CJ), AI cf 49 [.int .i64 c1, .int .i64 c2, .int .i64 c3, .slice A i c, .slice B j d, .slice u.2.1 u.1 u.2.2], AI b2 49 [.int .i64 0, .int .i64 0, .int .i64 0, .slice none 0 0, .slice none 0 0, .slice none 0 0]]) (fun K5 hK5 => ?_) (fun u => ?_)
 ·refine BK <| GL (σ := Nat × Option Addr × Nat) [0, 2, 4, 5] rfl 8 (fun u => .int .i64 ((n3 : Int) - (u.1 : Int))) (fun u => [row u.2.1 149 3 u.1 u.2.2 ((CC ET u.1 s6).1.flatMap BW), AI rd 188 [(CC ET u.1 s6).2.v, .bool (CC ET u.1 s6).2.bad], row B 147 3 j d (VL.1.flatMap BJ), row A 83 3 i c (PL.1.flatMap CJ), AI cf 49 [.int .i64 c1, .int .i64 c2, .int .i64 c3, .slice A i c, .slice B j d, .slice u.2.1 u.1 u.2.2], AI b2 49 [.int .i64 0, .int .i64 0, .int .i64 0, .slice none 0 0, .slice none 0 0, .slice none 0 0]]) (fun u => u.1 ≤ n3) (fun u => n3 - u.1) ((0, none, 0)) (Nat.zero_le _) rfl (AD.EB 149 3) ?_
  rintro ⟨k, C, e⟩ hi K6 hK6
  dsimp only at hi ⊢
  have HAi := LR UU k HA8
  refine AG <| zg <| zm rfl <| zv (DV rfl rfl) <| zm rfl <| DB (t := 87) rfl (fun p1 => ?_) (fun p1 => ?_)
  ·refine AJ rfl rfl <| zm rfl <| AJ rfl rfl <| zv (AY rfl) <| AJ rfl rfl <| zf rfl <| AJ rfl rfl <| zl rfl rfl <| AJ rfl rfl <| zv FC <| ?_
   refine zv (BF rfl rfl) <| zn <| FW rfl (fun p2 => ?_) (fun p2 => ?_)
   ·have hlt : k < n3 := by omega
    have hme : n3 - (k + 1) < n3 - k := by omega
    have hce := bX (CC ET k s6).2
    have hl7 := RJ BW ET k s6
    have hs7 : (CC ET (k + 1) s6).2 = AN (AN (AN (CC ET k s6).2 6) 2) 1 := rfl
    generalize (CC ET k s6).2 = r0 at *
    have K0 := HAi
    have KA := EA 6 K0
    have KB := EA 2 KA
    have z2 : BU (AN r0 6) 2 < 65536 := G7 _ 2
    have z3 : BU (AN (AN r0 6) 2) 1 < 256 := G7 _ 1
    generalize hsA : AN r0 6 = sA at *
    generalize hsB : AN sA 2 = sB at *
    refine zk <| AG <| BK <| EF [] mixed 15 rfl ?_
    refine AE 0 rfl (AP rfl) rfl <| AE 2 rfl (AO rfl) rfl <| AE 4 rfl (AO rfl) rfl <| AE 7 rfl (AO rfl) rfl <| DE 1 3 AB ?_ ?_
    ·skip
     refine CW rfl (zw rfl rfl) rfl <| AL 3 AB <| CY rfl Tryz.call89 rfl (fun w1 => zp (AI rd 188 [r0.v, .bool r0.bad]) fun D' hold _ H2 => FD D' w1 rd 188 6 r0 AF H2 (hold _ K0)) ?_
     rw [hsA]
     refine AL 5 AB <| CY rfl Tryz.call89 rfl (fun w1 => zp (AI rd 188 [sA.v, .bool sA.bad]) fun D' hold _ H2 => FD D' w1 rd 188 2 sA AF H2 (hold _ KA)) ?_
     rw [hsB]
     refine AE 6 rfl (CD rfl BO) rfl <| ?_
     refine AL 8 AB <| CY rfl Tryz.call89 rfl (fun w1 => zp (AI rd 188 [sB.v, .bool sB.bad]) fun D' hold _ H2 => FD D' w1 rd 188 1 sB AF H2 (hold _ KB)) ?_
     refine AE 9 rfl (CD rfl BO) rfl <| ?_
     refine AE 10 rfl (CH rfl rfl) rfl <| ?_
     refine AL 11 AB <| BC rfl (BS rfl rfl rfl) rfl fun b107 =>  ?_
     refine AL 12 AB <| ?_
     rw [← hce]
     refine BC rfl (BT (A := C) (news := BW (ET r0).1) rfl rfl (BB.AI (b := b107)) rfl CL AF AA) rfl (fun q2 => ?_)
     rw [hl7]
     refine AE 13 rfl (AP rfl) rfl <| AL 14 AB <| CB rfl (CI [.int .i64 c1, .int .i64 c2, .int .i64 c3, .slice A i c, .slice B j d, .slice q2.1 (k + 1) q2.2] rfl rfl (by simp) rfl rfl) rfl ?_
     refine BY AB <| ?_
     refine zb <| zt <| AR <| zm rfl <| AZ (FY (m := (n3 : Int) - ((k + 1 : Nat) : Int)) rfl rfl E3) rfl ?_
     refine zs rfl <| AS <| ?_
     rw [← hs7]
     refine B5 hK6 ((k + 1, q2)) (hlt) (hme) BD BL
    skip
    refine CY rfl Tryz.call89 rfl (fun w1 => zp (AI rd 188 [r0.v, .bool r0.bad]) fun D' hold _ H2 => FD D' w1 rd 188 6 r0 AF H2 (hold _ K0)) ?_
    rw [hsA]
    refine DE 1 5 AB ?_ ?_
    ·skip
     refine CW rfl (zw rfl rfl) rfl <| AL 5 AB <| CY rfl Tryz.call89 rfl (fun w1 => zp (AI rd 188 [sA.v, .bool sA.bad]) fun D' hold _ H2 => FD D' w1 rd 188 2 sA AF H2 (hold _ KA)) ?_
     rw [hsB]
     refine AE 6 rfl (CD rfl BO) rfl <| ?_
     refine AL 8 AB <| CY rfl Tryz.call89 rfl (fun w1 => zp (AI rd 188 [sB.v, .bool sB.bad]) fun D' hold _ H2 => FD D' w1 rd 188 1 sB AF H2 (hold _ KB)) ?_
     refine AE 9 rfl (CD rfl BO) rfl <| ?_
     refine AE 10 rfl (CH rfl rfl) rfl <| ?_
     refine AL 11 AB <| BC rfl (BS rfl rfl rfl) rfl fun b107 =>  ?_
     refine AL 12 AB <| ?_
     rw [← hce]
     refine BC rfl (BT (A := C) (news := BW (ET r0).1) rfl rfl (BB.AI (b := b107)) rfl CL AF AA) rfl (fun q2 => ?_)
     rw [hl7]
     refine AE 13 rfl (AP rfl) rfl <| AL 14 AB <| CB rfl (CI [.int .i64 c1, .int .i64 c2, .int .i64 c3, .slice A i c, .slice B j d, .slice q2.1 (k + 1) q2.2] rfl rfl (by simp) rfl rfl) rfl ?_
     refine BY AB <| ?_
     refine zb <| zt <| AR <| zm rfl <| AZ (FY (m := (n3 : Int) - ((k + 1 : Nat) : Int)) rfl rfl E3) rfl ?_
     refine zs rfl <| AS <| ?_
     rw [← hs7]
     refine B5 hK6 ((k + 1, q2)) (hlt) (hme) BD BL
    skip
    refine CY rfl Tryz.call89 rfl (fun w1 => zp (AI rd 188 [sA.v, .bool sA.bad]) fun D' hold _ H2 => FD D' w1 rd 188 2 sA AF H2 (hold _ KA)) ?_
    rw [hsB]
    refine AE 6 rfl (CD rfl BO) rfl <| ?_
    refine DE 1 8 AB ?_ ?_
    ·skip
     refine CW rfl (zw rfl rfl) rfl <| AL 8 AB <| CY rfl Tryz.call89 rfl (fun w1 => zp (AI rd 188 [sB.v, .bool sB.bad]) fun D' hold _ H2 => FD D' w1 rd 188 1 sB AF H2 (hold _ KB)) ?_
     refine AE 9 rfl (CD rfl BO) rfl <| ?_
     refine AE 10 rfl (CH rfl rfl) rfl <| ?_
     refine AL 11 AB <| BC rfl (BS rfl rfl rfl) rfl fun b107 =>  ?_
     refine AL 12 AB <| ?_
     rw [← hce]
     refine BC rfl (BT (A := C) (news := BW (ET r0).1) rfl rfl (BB.AI (b := b107)) rfl CL AF AA) rfl (fun q2 => ?_)
     rw [hl7]
     refine AE 13 rfl (AP rfl) rfl <| AL 14 AB <| CB rfl (CI [.int .i64 c1, .int .i64 c2, .int .i64 c3, .slice A i c, .slice B j d, .slice q2.1 (k + 1) q2.2] rfl rfl (by simp) rfl rfl) rfl ?_
     refine BY AB <| ?_
     refine zb <| zt <| AR <| zm rfl <| AZ (FY (m := (n3 : Int) - ((k + 1 : Nat) : Int)) rfl rfl E3) rfl ?_
     refine zs rfl <| AS <| ?_
     rw [← hs7]
     refine B5 hK6 ((k + 1, q2)) (hlt) (hme) BD BL
    skip
    refine CY rfl Tryz.call89 rfl (fun w1 => zp (AI rd 188 [sB.v, .bool sB.bad]) fun D' hold _ H2 => FD D' w1 rd 188 1 sB AF H2 (hold _ KB)) ?_
    refine AE 9 rfl (CD rfl BO) rfl <| ?_
    refine AE 10 rfl (CH rfl rfl) rfl <| ?_
    refine DE 1 11 AB ?_ ?_
    ·skip
     refine CW rfl (zw rfl rfl) rfl <| AL 11 AB <| BC rfl (BS rfl rfl rfl) rfl fun b107 =>  ?_
     refine AL 12 AB <| ?_
     rw [← hce]
     refine BC rfl (BT (A := C) (news := BW (ET r0).1) rfl rfl (BB.AI (b := b107)) rfl CL AF AA) rfl (fun q2 => ?_)
     rw [hl7]
     refine AE 13 rfl (AP rfl) rfl <| AL 14 AB <| CB rfl (CI [.int .i64 c1, .int .i64 c2, .int .i64 c3, .slice A i c, .slice B j d, .slice q2.1 (k + 1) q2.2] rfl rfl (by simp) rfl rfl) rfl ?_
     refine BY AB <| ?_
     refine zb <| zt <| AR <| zm rfl <| AZ (FY (m := (n3 : Int) - ((k + 1 : Nat) : Int)) rfl rfl E3) rfl ?_
     refine zs rfl <| AS <| ?_
     rw [← hs7]
     refine B5 hK6 ((k + 1, q2)) (hlt) (hme) BD BL
    skip
    refine BC rfl (BS rfl rfl rfl) rfl fun b107 =>  ?_
    refine AL 1 AB <| CW rfl (zw rfl rfl) rfl <| AL 12 AB <| ?_
    rw [← hce]
    refine BC rfl (BT (A := C) (news := BW (ET r0).1) rfl rfl (BB.AI (b := b107)) rfl CL AF AA) rfl (fun q2 => ?_)
    rw [hl7]
    refine AE 13 rfl (AP rfl) rfl <| AL 14 AB <| CB rfl (CI [.int .i64 c1, .int .i64 c2, .int .i64 c3, .slice A i c, .slice B j d, .slice q2.1 (k + 1) q2.2] rfl rfl (by simp) rfl rfl) rfl ?_
    refine BY AB <| ?_
    refine zb <| zt <| AR <| zm rfl <| AZ (FY (m := (n3 : Int) - ((k + 1 : Nat) : Int)) rfl rfl E3) rfl ?_
    refine zs rfl <| AS <| ?_
    rw [← hs7]
    refine B5 hK6 ((k + 1, q2)) (hlt) (hme) BD BL
   have hX : (CC ET k s6).2.bad = false → k = n3 := fun h => by rw [h] at p2; cases p2
   refine CF <| ze <| ze <| CE <| ?_
   exact DF hK5 ((k, C, e)) BD (AD.RN ⟨hi, hX⟩ Z8)
  have hX : (CC ET k s6).2.bad = false → k = n3 := fun _ => by omega
  refine zo rfl rfl <| zo rfl rfl <| zo rfl rfl <| zo rfl rfl <| zo rfl rfl <| zv (A8 rfl rfl) <| zn <| EU rfl <| CF <| ze <| ze <| CE <| ?_
  exact DF hK5 ((k, C, e)) BD (AD.RN ⟨hi, hX⟩ Z8)
 obtain ⟨k, C, e⟩ := u
 refine HX.pure ?_
 dsimp only
 rintro ⟨hi3, hX3⟩
 have HA9 := LR UU k HA8
 have hSl : (CC ET k s6).1.length = k := N2 _ _
 have hSo := Q8 gP k s6
 generalize hSL : CC ET k s6 = SL at *
 obtain ⟨e1, e2⟩ := hear i j k s4 s5 s6 PL VL SL n n2 n3 rfl rfl hi1 hPL hX1 hs5 hnv hi2 hVL hX2 hs6 hns hi3 hSL hX3
 clear hear
 obtain ⟨cc, hcc⟩ : ∃ x : CA, x = ((c1 : Int), (c2 : Int), (c3 : Int), PL.1, VL.1, SL.1) := ⟨_, rfl⟩
 obtain ⟨q, hq⟩ : ∃ x : DA, x = ((A, c), (B, d), (C, e)) := ⟨_, rfl⟩
 have hokc : JH cc := by rw [hcc]; exact ⟨hin1, hin2, hin3, hPo, hVo, hSo, (show PL.1.length ≤ 1000 by omega), (show VL.1.length ≤ 1000 by omega), (show SL.1.length ≤ 1000 by omega)⟩
 have hE : AD [row C 149 3 k e (SL.1.flatMap BW), AI rd 188 [SL.2.v, .bool SL.2.bad], row B 147 3 j d (VL.1.flatMap BJ), row A 83 3 i c (PL.1.flatMap CJ), AI cf 49 [.int .i64 c1, .int .i64 c2, .int .i64 c3, .slice A i c, .slice B j d, .slice C k e], AI b2 49 [.int .i64 0, .int .i64 0, .int .i64 0, .slice none 0 0, .slice none 0 0, .slice none 0 0]] (C6 cc q ++ [AI cf 49 (B3 cc q), AI rd 188 [SL.2.v, .bool SL.2.bad], AI b2 49 [.int .i64 0, .int .i64 0, .int .i64 0, .slice none 0 0, .slice none 0 0, .slice none 0 0]]) := by
  rw [hcc, hq]
  dsimp only [C6, B3]
  rw [hPl, hVl, hSl]
  exact Z8
 refine HX.AK hE ?_
 rw [← hcc] at e1
 clear hE hPl hVl hSl hPo hVo hSo
 refine zt <| zg <| zv DY <| ?_
 refine CQ (σ := S2 (C4 cc) (C8 cc) (fun e => e = 14)) Tryz.call51 rfl rfl (fun w1 => zu fun D' _ hin _ => YV D' w1 cc _ _ _ (ER.rows (q := q) hokc hin)) ?_
 intro s9
 try rw [List.nil_append]
 obtain ⟨⟨⟨A9, k9⟩, b9, e9⟩, hs9⟩ := s9
 dsimp only at hs9 ⊢
 refine HL.fact (fun w H => AH.GS A9 H) ?_
 rintro ⟨_, _, _, hA9⟩
 refine zm rfl <| zx rfl rfl <| zx rfl rfl <| zs rfl <| zs rfl <| AS <| zt <| AG <| zg <| zm rfl <| zv (AY rfl) <| zf rfl <| zl rfl rfl <| zm rfl <| ?_
 refine KY (t := 119) rfl (fun d1 => ?_) (fun d1 => ?_)
 ·have hno : ¬ QF xs s := fun h => by have := (hrefC.1 h).1; rw [e2 d1] at this; cases this
  refine zo rfl rfl <| zo rfl rfl <| zv (BF rfl rfl) <| zm rfl <| zo rfl rfl <| zo rfl rfl <| zo rfl rfl <| zo rfl rfl <| zo rfl rfl <| zv (BF rfl rfl) <| zn <| DD rfl <| zg <| zv (CH rfl rfl) <| ?_
  refine A6 (DT rfl rfl rfl rfl rfl rfl) rfl rfl <| zs rfl <| zn <| zq <| zr <| ?_
  exact ID (.inr rfl) rfl rfl (by simp) rfl fun w' H' => ⟨⟨(q0, FZ, 11), .inl ⟨hno, rfl, rfl⟩⟩, rfl, H'.AK (AD.trans (AD.LC _) AD.KM)⟩
 have hRe := e1 d1
 rcases hs9 with ⟨hno9, rfl, hne9, he9⟩ | ⟨hg9, rfl, rfl⟩
 ·have hno : ¬ QF xs s := fun h => hno9 (by have := (hrefC.1 h).2.1; rw [hRe] at this; exact this)
  refine AJ rfl rfl <| zm rfl <| AJ rfl rfl <| zv (CG rfl rfl) <| zv (A8 rfl rfl) <| zm rfl <| KW (t := 123) rfl (hne9) <| zo rfl rfl <| zo rfl rfl <| zo rfl rfl <| zo rfl rfl <| zo rfl rfl <| zv (BF rfl rfl) <| zn <| DD rfl <| zg <| zv (CH rfl rfl) <| ?_
  refine A6 (DT rfl rfl rfl rfl rfl rfl) rfl rfl <| zs rfl <| zn <| zq <| zr <| ?_
  exact ID (.inr rfl) rfl rfl (by simp) rfl fun w' H' => ⟨⟨(q0, FZ, 11), .inl ⟨hno, rfl, rfl⟩⟩, rfl, H'.AK (AD.trans (AD.LC _) AD.KM)⟩
 refine AJ rfl rfl <| zm rfl <| AJ rfl rfl <| zv (CG rfl rfl) <| zv (A8 rfl rfl) <| zm rfl <| F0 (t := 123) rfl ((fun h => h rfl)) <| AJ rfl rfl <| zm rfl <| AJ rfl rfl <| AZ (QX (xs := C8 cc) rfl (BB.G1 (A := A9) hA9)) rfl <| AJ rfl rfl <| zm rfl <| AJ rfl rfl <| AZ (QX (xs := xs) rfl (BB.old HSx)) rfl <| AJ rfl rfl <| zv X1 <| ?_
 refine zv (A8 rfl rfl) <| zn <| BP rfl (fun d3 => ?_) (fun d3 => ?_)
 ·have hno : ¬ QF xs s := fun h => d3 (by have := (hrefC.1 h).2.2; rw [hRe] at this; exact this)
  refine zg <| zv (CH rfl rfl) <| ?_
  refine A6 (DT rfl rfl rfl rfl rfl rfl) rfl rfl <| zs rfl <| zn <| zq <| zr <| ?_
  exact ID (.inr rfl) rfl rfl (by simp) rfl fun w' H' => ⟨⟨(q0, FZ, 11), .inl ⟨hno, rfl, rfl⟩⟩, rfl, H'.AK (AD.trans (AD.LC _) AD.KM)⟩
 have hyes : QF xs s := hrefC.2 ⟨by rw [hRe]; exact d1, by rw [hRe]; exact hg9, by rw [hRe]; exact Classical.not_not.1 d3⟩
 refine zk <| zg <| zv DY <| ?_
 refine A6 (DT rfl rfl rfl rfl rfl rfl) rfl rfl <| zs rfl <| zn <| zq <| ?_
 exact ID (.inr rfl) rfl rfl (by simp) rfl fun w' H' => ⟨⟨(q, cc, 0), .inr ⟨hyes, by rw [hRe], rfl⟩⟩, rfl, H'.AK Z8⟩
theorem WJ (c : CA) (vp vv vs : Value) (hg : C4 c) (H : ER D w c vp vv vs) :
  Calls Tryz.prog 51 #[.agg (C9 c vp vv vs).toArray] w fun e w' => ∃ q : Option Addr × Nat, e = .returned (.tuple #[.slice q.1 (C8 c).length q.2, .int .i64 0]) ∧ AH D w w' [row q.1 5 1 (C8 c).length q.2 ((C8 c).map AU)] :=
 (YV D w c vp vv vs H).mono fun e w' ⟨⟨⟨q, B, er⟩, hR⟩, he, H'⟩ => by
  rcases hR with ⟨h, _⟩ | ⟨_, h2, h3⟩
  ·exact absurd hg h
  ·have he : e = .returned (.tuple #[.slice q.1 B.length q.2, .int .i64 er]) := he
   have H' : AH D w w' [row q.1 5 1 B.length q.2 (B.map AU)] := H'
   have h2 : B = C8 c := h2
   have h3 : er = 0 := h3
   rw [h2, h3] at he; rw [h2] at H'
   exact ⟨q, he, H'⟩
theorem eD (v : Value) (l : List C5) (hl : G0 l) (HA : Old D w (AX.rep l [v])) :
  Calls Tryz.prog 59 #[v] w fun e w' => ∃ q : Option Addr × Nat, e = .returned (.tuple #[.slice q.1 (AW l).length q.2, .int .i64 0]) ∧ AH D w w' [row q.1 5 1 (AW l).length q.2 ((AW l).map AU)] :=
 (TH D w v l (by have := hl.1; omega) HA).mono fun e w' ⟨⟨⟨q, B, er⟩, hR⟩, he, H'⟩ => by
  rcases hR with ⟨h, _⟩ | ⟨_, h2, h3⟩
  ·exact absurd hl h
  ·have he : e = .returned (.tuple #[.slice q.1 B.length q.2, .int .i64 er]) := he
   have H' : AH D w w' [row q.1 5 1 B.length q.2 (B.map AU)] := H'
   have h2 : B = AW l := h2
   have h3 : er = 0 := h3
   rw [h2, h3] at he; rw [h2] at H'
   exact ⟨q, he, H'⟩
theorem cK (v : Value) (l : List C5) (h32 : l.length ≤ 32) (hl : ¬ G0 l) (HA : Old D w (AX.rep l [v])) :
  Calls Tryz.prog 59 #[v] w fun e w' => ∃ q : Option Addr × Nat, e = .returned (.tuple #[.slice q.1 0 q.2, .int .i64 11]) ∧ AH D w w' [] :=
 (TH D w v l AA HA).mono fun e w' ⟨⟨⟨q, B, er⟩, hR⟩, he, H'⟩ => by
  rcases hR with ⟨_, h2, _, h3⟩ | ⟨h, _⟩
  ·have he : e = .returned (.tuple #[.slice q.1 B.length q.2, .int .i64 er]) := he
   have H' : AH D w w' [row q.1 5 1 B.length q.2 (B.map AU)] := H'
   have h2 : B = [] := h2
   have h3 : er = if 32 < l.length then 3 else 11 := h3
   rw [if_neg AA] at h3
   rw [h2, h3] at he; rw [h2] at H'
   exact ⟨q, he, H'.AK (AD.nil _)⟩
  ·exact absurd h hl
theorem c9 (v : Value) (c : CA) (hg : C4 c) (HA : Old D w (AX.rep (C8 c) [v])) :
  Calls Tryz.prog 53 #[v] w fun e w' => ∃ q : DA, e = .returned (.tuple #[.agg (B3 c q).toArray, .int .i64 0]) ∧ AH D w w' (C6 c q) :=
 (jO D w v (C8 c) HA).mono fun e w' ⟨⟨⟨q, d, er⟩, hR⟩, he, H'⟩ => by
  obtain ⟨a, b, dd⟩ := cP false c [] ⟨C8 c, v, false⟩ hg.S7 (by rw [List.append_nil]) rfl
  have href : QF (C8 c) ⟨C8 c, v, false⟩ := ⟨dd, by rw [a]; exact hg, by rw [a]⟩
  rcases hR with ⟨h, _⟩ | ⟨_, h2, h3⟩
  ·exact absurd href h
  ·have he : e = .returned (.tuple #[.agg (B3 d q).toArray, .int .i64 er]) := he
   have H' : AH D w w' (C6 d q) := H'
   have h2 : d = c := h2.trans a
   have h3 : er = 0 := h3
   rw [h2, h3] at he; rw [h2] at H'
   exact ⟨q, he, H'⟩
theorem eW (v : Value) (l : List C5) (hl : G0 l) (HA : Old D w (AX.rep (AW l) [v])) :
  Calls Tryz.prog 55 #[v] w fun e w' => ∃ q : Option Addr × Nat, e = .returned (.tuple #[.slice q.1 l.length q.2, .int .i64 0]) ∧ AH D w w' [row q.1 81 7 l.length q.2 (l.flatMap DL)] :=
 (j8 D w v (AW l) HA).mono fun e w' ⟨⟨⟨q, d, er⟩, hR⟩, he, H'⟩ => by
  obtain ⟨h1, a⟩ := fS (l := l) v hl
  have href : M3 (AW l) ⟨AW l, v, false⟩ := ⟨h1.1.1, by rw [a]; exact hl, by rw [a]⟩
  rcases hR with ⟨h, _⟩ | ⟨_, h2, h3⟩
  ·exact absurd href h
  ·have he : e = .returned (.tuple #[.slice q.1 d.length q.2, .int .i64 er]) := he
   have H' : AH D w w' [row q.1 81 7 d.length q.2 (d.flatMap DL)] := H'
   have h2 : d = l := h2.trans a
   have h3 : er = 0 := h3
   rw [h2, h3] at he; rw [h2] at H'
   exact ⟨q, he, H'⟩
theorem aJ (g : Nat) (S : List BA) (ep : Nat) (xs : List UInt8) (hL : HM S = (ep, xs, 0)) (hS : 32 ≤ S.length) (H : AH D w w [BV g S []]) :
  Calls Tryz.prog 50 #[.pointer (some ⟨g, 0, none⟩)] w fun e w' => ∃ q : (Option Addr × Nat) × Int, e = .returned (.agg #[.int .u32 (ep : Int), .slice q.1.1 xs.length q.1.2, .int .i64 q.2, .int .i64 0]) ∧ AH D w w' [BV g S [], row q.1.1 5 1 xs.length q.1.2 (xs.map AU)] :=
 (V6 D w g S hS H).mono fun e w' ⟨q, he, H'⟩ => by
  unfold HM at hL
  rcases hn : F8 S with _ | y
  ·rw [hn] at hL; cases hL
  ·rw [hn] at hL he H'
   obtain ⟨x, p⟩ := y
   have hL : (x.2.1, x.2.2.2, (0 : Int)) = (ep, xs, 0) := hL
   simp only [Prod.mk.injEq] at hL
   obtain ⟨rfl, rfl, _⟩ := hL
   exact ⟨(q, ((p / 16 : Nat) : Int)), he, H'⟩
theorem lR (g : Nat) (S : List BA) (hL : HM S = (0, [], 13)) (hS : 32 ≤ S.length) (H : AH D w w [BV g S []]) :
  Calls Tryz.prog 50 #[.pointer (some ⟨g, 0, none⟩)] w fun e w' => e = .returned (.agg #[.int .u32 0, .slice none 0 0, .int .i64 0, .int .i64 13]) ∧ AH D w w' [BV g S []] :=
 (V6 D w g S hS H).mono fun e w' ⟨q, he, H'⟩ => by
  unfold HM at hL
  rcases hn : F8 S with _ | y
  ·rw [hn] at he H'
   exact ⟨he, H'⟩
  ·rw [hn] at hL
   obtain ⟨x, p⟩ := y
   have hL : (x.2.1, x.2.2.2, (0 : Int)) = (0, [], 13) := hL
   simp only [Prod.mk.injEq] at hL
   exact absurd hL.2.2 AF
abbrev FB (jb q : Nat) (s : E1) (x : DA) : List Value := [.pointer (some ⟨q, 0, none⟩), .pointer (some ⟨jb, 0, none⟩), .int .i64 s.c.1, .int .i64 s.c.2.1, .int .i64 s.c.2.2.1, .slice x.1.1 s.c.2.2.2.1.length x.1.2, .slice x.2.1.1 s.c.2.2.2.2.1.length x.2.1.2, .slice x.2.2.1 s.c.2.2.2.2.2.length x.2.2.2, .int .u32 (s.ep : Int)]
def gT (tb q m : Nat) (s : E1) (x : Nat × DA) : List AQ := AI tb 52 (FB x.1 q s x.2) :: D3 x.1 q 32 m s.ep (32 + s.k) (s.Ls.map AW) :: C6 s.c x.2
def G2 (tb q m : Nat) (s : E1) : AQ := GQ (gT tb q m s)
theorem MW {tb q m : Nat} {s : E1} {l : List AQ} (jb : Nat) (x : DA) : AD (AI tb 52 (FB jb q s x) :: D3 jb q 32 m s.ep (32 + s.k) (s.Ls.map AW) :: (C6 s.c x ++ l)) (G2 tb q m s :: l) := AD.GQ (L := gT tb q m s) (l := l) (jb, x)
set_option maxHeartbeats 1000000 in
theorem jQ (tb q m : Nat) (s : E1) (h : SI m s) (hm2 : m ≤ 100000) (hep : s.ep < 4294967290) (H : AH D w w [G2 tb q m s, BV q s.S []]) : Calls Tryz.prog 33 #[.pointer (some ⟨tb, 0, none⟩)] w fun e w' => e = .returned (.int .i64 0) ∧ AH D w w' [G2 tb q m (H8 s), BV q (H8 s).S []] := by
 have hlen := h.len
 have hm := h.m40
 have hsm := NS h.gc
 obtain ⟨s2, hs2⟩ : ∃ s2, s2 = H8 s := ⟨_, rfl⟩
 have h1 : s2.S = FK s.S (s.ep + 1) (C8 s.c) := by rw [hs2]; rfl
 have h2 : s2.ep = s.ep + 1 := by rw [hs2]; rfl
 have h3 : s2.c = s.c := by rw [hs2]; rfl
 have h4 : s2.k = 0 := by rw [hs2]; rfl
 have h5 : s2.Ls = [] := by rw [hs2]; rfl
 have hr : ∀ jb, D3 jb q 32 m s2.ep (32 + s2.k) (s2.Ls.map AW) = D3 jb q 32 m s2.ep 32 [] := fun jb => by rw [h4, h5]; rfl
 rw [← hs2]
 refine BZ (vs := [.pointer (some ⟨tb, 0, none⟩)]) Tryz.func33 rfl _ Tryz.ntmps33 rfl H ?_
 simp only [BX, Nat.zero_add]
 refine HC.exs ?_
 rintro ⟨jb, x⟩
 refine HC.AK (l' := AI tb 52 (FB jb q s x) :: D3 jb q 32 m s.ep (32 + s.k) (s.Ls.map AW) :: (C6 s.c x ++ [BV q s.S []])) (fun _ h => h) ?_
 refine zg <| zs rfl <| zn <| AG <| AR <| zm rfl <| zv (AY rfl) <| zf rfl <| ?_
 refine AZ (MI (vs := B3 s.c x) rfl rfl) rfl <| CQ (σ := Option Addr × Nat) Tryz.call51 rfl rfl (fun w1 => zu fun D' _ hin _ => WJ D' w1 s.c _ _ _ h.gc (ER.rows (q := x) h.okc hin)) ?_
 intro qb
 try rw [List.nil_append]
 refine zm rfl <| zx rfl rfl <| zx rfl rfl <| zs rfl <| zs rfl <| AS <| zt <| AG <| AG <| EF [AI tb 52 (FB jb q s x)] mixed 12 rfl ?_
 refine AE 0 rfl (AO rfl) rfl <| AE 1 rfl (AY rfl) rfl <| AE 2 rfl (AP rfl) rfl <| AE 3 rfl (zw rfl rfl) rfl <| AE 4 rfl (AO rfl) rfl <| AE 5 rfl (AY rfl) rfl <| AE 6 rfl (AP rfl) rfl <| AE 7 rfl (zw rfl rfl) rfl <| AE 9 rfl (AO rfl) rfl <| AL 8 AB <| CW rfl (BM (m := ((s.ep + 1 : Nat) : Int)) rfl rfl ((wrap_u32 AA).trans AA)) rfl ?_
 refine AL 10 AB <| CY rfl Tryz.call52 rfl (fun w1 => zp (BV q s.S []) fun D' _ hin H2 => (W6 D' w1 q s.S (s.ep + 1) _ (C8 s.c) AA AA AA hsm (hin _ fun h hs ho => C7 (A := qb.1) hs (C8 s.c) rfl (DQ.2 rfl)) H2).mono fun e w' ⟨he, H'⟩ => ⟨he, show AH D' w1 w' [BV q s2.S []] by rw [h1]; exact H'⟩) ?_
 refine AE 11 rfl (DH rfl) rfl <| BY AB <| zt <| zg <| zm rfl <| zv (CG rfl rfl) <| ?_
 refine zn <| CP rfl ((fun h => h rfl)) <| zk <| zg <| zm rfl <| zv (AY rfl) <| zf rfl <| zl rfl rfl <| ?_
 refine AZ (BM (m := ((s.ep + 1 : Nat) : Int)) rfl rfl ((wrap_u32 AA).trans AA)) rfl ?_
 refine zv (AY rfl) <| zf rfl <| A6 (DN rfl rfl rfl rfl rfl) rfl rfl <| zn <| AG <| ?_
 rw [← h2, ← h3]
 refine HC.AK (l' := AI tb 52 (FB jb q s2 x) :: BV q s2.S [] :: D3 jb q 32 m s.ep (32 + s.k) (s.Ls.map AW) :: C6 s2.c x) Z8 ?_
 refine EF [AI tb 52 (FB jb q s2 x)] mixed 9 rfl ?_
 refine AE 0 rfl (AO rfl) rfl <| AE 1 rfl (AY rfl) rfl <| AE 2 rfl (AP rfl) rfl <| AE 3 rfl (zw rfl rfl) rfl <| AE 4 rfl (AO rfl) rfl <| AE 5 rfl (AY rfl) rfl <| AE 6 rfl (AP rfl) rfl <| AE 7 rfl (zw rfl rfl) rfl <| AL 8 AB <| CY rfl Tryz.call71 rfl (fun w1 => zp (D3 jb q 32 m s.ep (32 + s.k) (s.Ls.map AW)) fun D' _ _ H2 => ZG D' w1 jb q 32 m s.ep (32 + s.k) (s.Ls.map AW) s2.ep H2) ?_
 refine BY AB <| zt <| zg <| zs rfl <| AS <| ?_
 refine zt <| zq <| ?_
 exact zz rfl rfl fun w' H' => ⟨rfl, H'.AK (AD.trans (b := AI tb 52 (FB jb q s2 x) :: D3 jb q 32 m s2.ep 32 [] :: (C6 s2.c x ++ [BV q s2.S []])) Z8 (by rw [← hr]; exact MW (s := s2) jb x))⟩
end Go.Proofs.YtjlolpmmpafjeaaGreat
