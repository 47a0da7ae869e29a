import Derived.Test.YtjlolpmmpafjeaaGreatU24
set_option linter.unusedVariables false
set_option linter.unusedSimpArgs false
namespace Go.Proofs.YtjlolpmmpafjeaaGreat
open CN
theorem mO (D : Nat → Prop) (w : World) (b : Bool) : Calls Tryz.prog 85 #[.bool b] w fun e w' => e = .returned (.int .u8 ((if b then 1 else 0 : Nat) : Int)) ∧ AH D w w' [] := by
 refine BZ (vs := [.bool b]) Tryz.func85 rfl _ Tryz.ntmps85 rfl (AH.start D w) ?_
 simp only [BX, Nat.zero_add]
 refine zg <| zs rfl <| zn <| AG <| zg <| zm rfl <| zn <| FW rfl (fun h => ?_) (fun h => ?_)
 ·subst h
  refine zg <| zs rfl <| zn <| zq <| zr <| ?_
  exact zz rfl rfl fun w' H' => ⟨rfl, H'⟩
 subst h
 refine zk <| zg <| zs rfl <| AS <| zt <| zq <| ?_
 exact zz rfl rfl fun w' H' => ⟨rfl, H'⟩
theorem YV (D : Nat → Prop) (w : World) (c : CA) (vp vv vs : Value) (H : ER D w c vp vv vs) :
  Calls Tryz.prog 51 #[.agg (C9 c vp vv vs).toArray] w fun e w' => ∃ s : S2 (C4 c) (C8 c) (fun e => e = 14), e = .returned (.tuple #[.slice s.1.1.1 s.1.2.1.length s.1.1.2, .int .i64 s.1.2.2]) ∧ AH D w w' [row s.1.1.1 5 1 s.1.2.1.length s.1.1.2 (s.1.2.1.map AU)] := by
 have H0 := H
 obtain ⟨Ap, capp, rfl, _, _, HSp, _⟩ := H.p.EG
 have HSp : CS D w Ap (c.2.2.2.1.flatMap CJ) := HSp
 obtain ⟨Av, capv, rfl, _, _, HSv, _⟩ := H.v.EG
 have HSv : CS D w Av (c.2.2.2.2.1.flatMap BJ) := HSv
 obtain ⟨As, caps, rfl, _, _, HSs, _⟩ := H.s.EG
 have HSs : CS D w As (c.2.2.2.2.2.flatMap BW) := HSs
 clear H
 have hcB : C8 c = ((JM c ++ BE c.2.2.2.1.length 1) ++ c.2.2.2.1.flatMap IN) ++ (BE c.2.2.2.2.1.length 1 ++ c.2.2.2.2.1.flatMap IQ) ++ (BE c.2.2.2.2.2.length 1 ++ c.2.2.2.2.2.flatMap IM) := by
  unfold C8; simp only [List.append_assoc]
 have hwok : C4 c → VC c := C4.S7
 obtain ⟨P, hP⟩ : ∃ l, c.2.2.2.1 = l := ⟨_, rfl⟩
 obtain ⟨V, hV⟩ : ∃ l, c.2.2.2.2.1 = l := ⟨_, rfl⟩
 obtain ⟨S, hS⟩ : ∃ l, c.2.2.2.2.2 = l := ⟨_, rfl⟩
 have hwP : C4 c → (0 ≤ c.1 ∧ c.1 ≤ 61440) ∧ (0 ≤ c.2.1 ∧ c.2.1 ≤ 40) ∧ (0 ≤ c.2.2.1 ∧ c.2.2.1 ≤ 30) ∧ P.length ≤ 8 ∧ V.length ≤ 16 ∧ S.length ≤ 16 ∧ (∀ i (h : i < P.length), 0 ≤ P[i].2.2 ∧ P[i].2.2 ≤ 4094) ∧ (∀ i (h : i < V.length), 0 ≤ V[i].1 ∧ V[i].1 ≤ 4094) ∧ (∀ i (h : i < S.length), (0 ≤ S[i].2.1 ∧ S[i].2.1 ≤ 4094) ∧ 0 ≤ S[i].2.2 ∧ S[i].2.2 < 8 ∧ S[i].1.toNat < 281474976710656) := fun h => by
  subst hP; subst hV; subst hS
  obtain ⟨a, b, d, lp, lv, ls, p, v, s⟩ := hwok h
  exact ⟨a, b, d, lp, lv, ls, p, v, s⟩
 rw [hP] at HSp hcB ⊢
 rw [hV] at HSv hcB ⊢
 rw [hS] at HSs hcB ⊢
 rw [hP, hV, hS] at H0
 refine BZ (vs := [.agg (C9 c (.slice Ap P.length capp) (.slice Av V.length capv) (.slice As S.length caps)).toArray]) Tryz.func51 rfl _ Tryz.ntmps51 rfl (AH.start D w) ?_
 simp only [BX, Nat.zero_add]
 refine zg <| AV (EE rfl rfl) rfl rfl rfl fun b1 =>  ?_
 refine zs rfl <| zs rfl <| zn <| AG <| AG <| AR <| zv DY <| ?_
 refine CQ (σ := EX (C4 c)) Tryz.call66 rfl rfl (fun w1 => zu fun D' hold _ _ => WD D' w1 c _ _ _ (H0.hold hold)) ?_
 intro g
 try rw [List.nil_append]
 refine zv FC <| ?_
 refine zn <| FW rfl (fun a1 => ?_) (fun a1 => ?_)
 ·have hno : ¬ C4 c := fun h => by have := g.2.2 h; rw [this] at a1; cases a1
  refine zg <| zs rfl <| zs rfl <| zn <| zq <| zr <| ?_
  exact E5 (.inr rfl) rfl rfl rfl fun w' H' => ⟨⟨((none, 0), [], 14), .inl ⟨hno, rfl, by decide, rfl⟩⟩, rfl, H'.AK (AD.trans (AD.EB 5 1) (AD.cons (AD.nil _)))⟩
 have hyes : C4 c := g.2.1 (by simpa using a1)
 obtain ⟨oa, ob', od, olp, olv, ols, op', ov', os'⟩ := hwP hyes
 have hhd : (BE c.1.toNat 2).map AU ++ [.int .u8 c.2.1, .int .u8 c.2.2.1, .int .u8 (P.length : Int)] = (JM c ++ BE P.length 1).map AU := by
  have e : [Value.int .u8 c.2.1, .int .u8 c.2.2.1, .int .u8 (P.length : Int)] = [Value.int .u8 c.2.1] ++ ([.int .u8 c.2.2.1] ++ [.int .u8 (P.length : Int)]) := rfl
  rw [e, SN AA AA, SN AA AA, PJ _ AA, JM]
  simp only [List.map_append, List.append_assoc]
 have hhl : (JM c).length = 4 := by rw [JM]; simp [IV]
 refine zk <| AG <| NX (σ := Nat × List Value × Option Addr × Nat) [1] rfl 4 (fun q => .slice q.2.2.1 q.1 q.2.2.2) (fun q => [JU (q.1 = 5 ∧ q.2.1 = (JM c ++ BE P.length 1).map AU), row q.2.2.1 5 1 q.1 q.2.2.2 q.2.1, AI b1 49 (C9 c (.slice Ap P.length capp) (.slice Av V.length capv) (.slice As S.length caps))]) (fun K1 hK1 => ?_) (fun q => ?_)
 ·refine EF [AI b1 49 (C9 c (.slice Ap P.length capp) (.slice Av V.length capv) (.slice As S.length caps))] mixed 17 rfl ?_
  refine AE 0 rfl (AP rfl) rfl <| AE 1 rfl (zw rfl rfl) rfl <| AE 4 rfl (AP rfl) rfl <| AE 5 rfl (zw rfl rfl) rfl <| AE 6 rfl (CD rfl IC) rfl <| ?_
  refine AE 7 rfl (AP rfl) rfl <| AE 8 rfl (zw rfl rfl) rfl <| AE 9 rfl (CD rfl IC) rfl <| ?_
  refine AE 10 rfl (AP rfl) rfl <| AE 11 rfl (zw rfl rfl) rfl <| AE 12 rfl BN rfl <| ?_
  refine AE 13 rfl (CD rfl IC) rfl <| ?_
  refine AE 2 rfl (CD (m := ((c.1.toNat : Nat) : Int)) rfl (JV AA AA)) rfl ?_
  refine DE 3 14 AB ?_ ?_
  ·skip
   refine CR (σ := { q : Option Addr × Nat // 0 < 2 → CU q.1 }) rfl Tryz.call84 rfl (fun w1 => zu fun D' _ _ _ => JQ D' w1 c.1.toNat 2 AA AF) ?_
   intro q1
   try rw [List.nil_append]
   refine AL 14 AB <| BC rfl (BS rfl rfl rfl) rfl (fun b28 => ?_)
   refine AL 15 AB <| BC rfl (BT (A := q1.1.1) (news := [.int .u8 c.2.1, .int .u8 c.2.2.1, .int .u8 (P.length : Int)]) rfl rfl (BB.AI (b := b28)) rfl CL AF AF) rfl (fun q2 => ?_)
   refine AE 16 rfl (DH rfl) rfl <| BY AB <| ?_
   exact DF hK1 ((2 + 3, (BE c.1.toNat 2).map AU ++ [.int .u8 c.2.1, .int .u8 c.2.2.1, .int .u8 (P.length : Int)], q2)) BD (AD.trans Z8 (AD.trans (b := [JU (2 + 3 = 5 ∧ (BE c.1.toNat 2).map AU ++ [.int .u8 c.2.1, .int .u8 c.2.2.1, .int .u8 (P.length : Int)] = (JM c ++ BE P.length 1).map AU), row q2.1 5 1 (2 + 3) q2.2 ((BE c.1.toNat 2).map AU ++ [.int .u8 c.2.1, .int .u8 c.2.2.1, .int .u8 (P.length : Int)]), AI b1 49 (C9 c (.slice Ap P.length capp) (.slice Av V.length capv) (.slice As S.length caps))]) (fun h hs => R4.2 ⟨⟨rfl, hhd⟩, hs⟩) (AD.refl _)))
  skip
  refine BC rfl (BS rfl rfl rfl) rfl (fun b28 => ?_)
  refine AL 3 AB <| CR (σ := { q : Option Addr × Nat // 0 < 2 → CU q.1 }) rfl Tryz.call84 rfl (fun w1 => zu fun D' _ _ _ => JQ D' w1 c.1.toNat 2 AA AF) ?_
  intro q1
  try rw [List.nil_append]
  refine AL 15 AB <| BC rfl (BT (A := q1.1.1) (news := [.int .u8 c.2.1, .int .u8 c.2.2.1, .int .u8 (P.length : Int)]) rfl rfl (BB.AI (b := b28)) rfl CL AF AF) rfl (fun q2 => ?_)
  refine AE 16 rfl (DH rfl) rfl <| BY AB <| ?_
  exact DF hK1 ((2 + 3, (BE c.1.toNat 2).map AU ++ [.int .u8 c.2.1, .int .u8 c.2.2.1, .int .u8 (P.length : Int)], q2)) BD (AD.trans Z8 (AD.trans (b := [JU (2 + 3 = 5 ∧ (BE c.1.toNat 2).map AU ++ [.int .u8 c.2.1, .int .u8 c.2.2.1, .int .u8 (P.length : Int)] = (JM c ++ BE P.length 1).map AU), row q2.1 5 1 (2 + 3) q2.2 ((BE c.1.toNat 2).map AU ++ [.int .u8 c.2.1, .int .u8 c.2.2.1, .int .u8 (P.length : Int)]), AI b1 49 (C9 c (.slice Ap P.length capp) (.slice Av V.length capv) (.slice As S.length caps))]) (fun h hs => R4.2 ⟨⟨rfl, hhd⟩, hs⟩) (AD.refl _)))
 obtain ⟨m0, cs0, A0, c0⟩ := q
 refine HX.pure ?_
 rintro ⟨hm0, hcs0⟩
 dsimp only at hm0 hcs0 ⊢
 obtain ⟨P1, hP1⟩ : ∃ B, B = JM c ++ BE P.length 1 := ⟨_, rfl⟩
 rw [← hP1] at hcs0 hcB
 refine zt <| AG <| zg <| zs rfl <| AS <| zt <| BK <| JA (σ := Nat × Nat × List Value × Option Addr × Nat) [1] rfl 5 (fun s => .int .i64 (s.1 : Int)) 4 (fun s => .slice s.2.2.2.1 s.2.1 s.2.2.2.2) (fun s => [row s.2.2.2.1 5 1 s.2.1 s.2.2.2.2 s.2.2.1, AI b1 49 (C9 c (.slice Ap P.length capp) (.slice Av V.length capv) (.slice As S.length caps))]) (fun s => s.1 ≤ P.length ∧ s.2.1 = 5 + 7 * s.1 ∧ s.2.2.1 = (P1 ++ (P.take s.1).flatMap IN).map AU) (fun s => P.length - s.1) ((0, m0, cs0, A0, c0)) (⟨Nat.zero_le _, hm0, by rw [hcs0]; simp⟩) rfl rfl BL ?_
 rintro ⟨i, m, cs, A, d⟩ hj_ K2 hK2
 dsimp only at hj_ ⊢
 obtain ⟨hi, hm, hcs⟩ := hj_
 refine AG <| zg <| zm rfl <| zf rfl <| zl rfl rfl <| ?_
 refine zv BN <| ?_
 refine zv (B7 rfl rfl) <| zn <| BP rfl (fun h => ?_) (fun h => ?_)
 ·have hlt : i < P.length := by omega
  obtain ⟨hA, _⟩ := CS.EP (D := D) (w0 := w) (f := CJ) (sz := 3) (fun _ => rfl) AF HSp hlt []
  have hc := fun l' => (CS.EP (D := D) (w0 := w) (f := CJ) (sz := 3) (fun _ => rfl) AF HSp hlt l').2
  have hx := op' i hlt
  have hsn := RK IN P1 P i hlt
  generalize P[i] = x at *
  have hco := x.2.1.toNat_lt
  obtain ⟨fl, hfl⟩ : ∃ n : Nat, n = (if x.1 = true then 1 else 0) := ⟨_, rfl⟩
  have hfl1 : fl ≤ 1 := by rw [hfl]; split <;> decide
  have hfin : ((cs ++ [.int .u8 (fl : Int)]) ++ (BE x.2.1.toNat 4).map AU) ++ (BE x.2.2.toNat 2).map AU = (P1 ++ (P.take (i + 1)).flatMap IN).map AU := by
   rw [PJ fl AA, hcs, ← hsn, IN, ← hfl]
   simp only [List.map_append, List.append_assoc]
  have hm' : m + 1 + 4 + 2 = 5 + 7 * (i + 1) := by omega
  have hme : P.length - (i + 1) < P.length - i := by omega
  refine zk <| AG <| BK <| zg <| zf rfl <| zl rfl rfl <| zm rfl <| zv (CZ rfl DP rfl _ rfl AA) <| ?_
  refine AZ (D4 (cs := CJ x) rfl rfl (hc _)) rfl <| AV (B9) rfl rfl rfl fun b6 =>  ?_
  refine A6 (CV (vs := CJ x) rfl rfl (by simp) (by simp) HZ) rfl rfl ?_
  refine zn <| EF [AI b6 83 (CJ x)] mixed 17 rfl ?_
  refine AE 0 rfl (AO rfl) rfl <| AE 1 rfl (AP rfl) rfl <| AE 2 rfl (zw rfl rfl) rfl <| AE 6 rfl (AP rfl) rfl <| AE 7 rfl (zw rfl rfl) rfl <| AE 8 rfl (CD rfl J2) rfl <| ?_
  refine AE 11 rfl (AP rfl) rfl <| AE 12 rfl (zw rfl rfl) rfl <| AE 13 rfl (CD (m := ((x.2.2.toNat : Nat) : Int)) rfl (JV AA AA)) rfl ?_
  refine AL 3 AB <| CY rfl Tryz.call85 rfl (fun w1 => D6 fun D' _ _ _ => mO D' w1 x.1) ?_
  rw [← hfl]
  refine AL 4 AB <| BC rfl (BS rfl rfl rfl) rfl fun b46 =>  ?_
  refine AL 5 AB <| BC rfl (BT (A := A) (news := [.int .u8 (fl : Int)]) rfl rfl (BB.AI (b := b46)) rfl CL AF AA) rfl (fun q2 => ?_)
  refine AL 9 AB <| CR (σ := { q : Option Addr × Nat // 0 < 4 → CU q.1 }) rfl Tryz.call84 rfl (fun w1 => zu fun D' _ _ _ => JQ D' w1 x.2.1.toNat 4 AA AF) ?_
  intro q3
  try rw [List.nil_append]
  refine AL 10 AB <| BC rfl (BT (A := q2.1) (news := (BE x.2.1.toNat 4).map AU) rfl rfl (BB.G1 (A := q3.1.1) (fun _ => q3.2 AF)) JG (EL _) AF AA) rfl (fun q4 => ?_)
  refine AL 14 AB <| CR (σ := { q : Option Addr × Nat // 0 < 2 → CU q.1 }) rfl Tryz.call84 rfl (fun w1 => zu fun D' _ _ _ => JQ D' w1 x.2.2.toNat 2 AA AF) ?_
  intro q5
  try rw [List.nil_append]
  refine AL 15 AB <| BC rfl (BT (A := q4.1) (news := (BE x.2.2.toNat 2).map AU) rfl rfl (BB.G1 (A := q5.1.1) (fun _ => q5.2 AF)) JG (EL _) AF AA) rfl (fun q6 => ?_)
  refine AE 16 rfl (DH rfl) rfl <| BY AB <| zb <| zt <| AR <| zm rfl <| zv (BM rfl rfl BO) <| ?_
  refine zs rfl <| AS <| B5 hK2 ((i + 1, m + 1 + 4 + 2, ((cs ++ [.int .u8 (fl : Int)]) ++ (BE x.2.1.toNat 4).map AU) ++ (BE x.2.2.toNat 2).map AU, q6)) (⟨hlt, hm', hfin⟩) (hme) BD BL
 have hie : i = P.length := by omega
 subst hie
 rw [List.take_length] at hcs
 obtain ⟨P2, hP2⟩ : ∃ B, B = P1 ++ P.flatMap IN := ⟨_, rfl⟩
 rw [← hP2] at hcs hcB
 refine CF <| ze <| ze <| CE <| zt <| AG <| AR <| zm rfl <| zf rfl <| zl rfl rfl <| zv BN <| ?_
 refine zv (CD rfl IC) <| ?_
 refine AV (BS rfl rfl rfl) rfl rfl rfl fun b63 =>  ?_
 refine AV (BT (A := A) (news := [.int .u8 (V.length : Int)]) rfl rfl (BB.AI (b := b63)) rfl CL AF AA) rfl rfl rfl (fun q2 => ?_)
 have hcs2 : cs ++ [.int .u8 (V.length : Int)] = (P2 ++ BE V.length 1).map AU := by rw [hcs, PJ _ AA, List.map_append]
 rw [hcs2]
 obtain ⟨P3, hP3⟩ : ∃ B, B = P2 ++ BE V.length 1 := ⟨_, rfl⟩
 rw [← hP3]
 rw [← List.append_assoc P2, ← hP3] at hcB
 obtain ⟨m2, hm2⟩ : ∃ k, k = m + 1 := ⟨_, rfl⟩
 rw [← hm2]
 refine zs rfl <| zn <| AG <| zg <| zs rfl <| zn <| BK <| JA (σ := Nat × Nat × List Value × Option Addr × Nat) [1] rfl 7 (fun s => .int .i64 (s.1 : Int)) 4 (fun s => .slice s.2.2.2.1 s.2.1 s.2.2.2.2) (fun s => [row s.2.2.2.1 5 1 s.2.1 s.2.2.2.2 s.2.2.1, AI b1 49 (C9 c (.slice Ap P.length capp) (.slice Av V.length capv) (.slice As S.length caps))]) (fun s => s.1 ≤ V.length ∧ s.2.1 = m2 + 4 * s.1 ∧ s.2.2.1 = (P3 ++ (V.take s.1).flatMap IQ).map AU) (fun s => V.length - s.1) ((0, m2, P3.map AU, q2.1, q2.2)) (⟨Nat.zero_le _, rfl, by simp⟩) rfl rfl BL ?_
 rintro ⟨i, m, cs, A, d⟩ hj_ K3 hK3
 dsimp only at hj_ ⊢
 obtain ⟨hi, hm, hcs⟩ := hj_
 refine AG <| zg <| zm rfl <| zf rfl <| zl rfl rfl <| ?_
 refine zv BN <| ?_
 refine zv (B7 rfl rfl) <| zn <| BP rfl (fun h2 => ?_) (fun h2 => ?_)
 ·have hlt : i < V.length := by omega
  obtain ⟨hA, _⟩ := CS.EP (D := D) (w0 := w) (f := BJ) (sz := 3) (fun _ => rfl) AF HSv hlt []
  have hc := fun l' => (CS.EP (D := D) (w0 := w) (f := BJ) (sz := 3) (fun _ => rfl) AF HSv hlt l').2
  have hx := ov' i hlt
  have hsn := RK IQ P3 V i hlt
  generalize V[i] = x at *
  have hfin : (cs ++ (BE x.1.toNat 2).map AU) ++ [AU x.2.1, AU x.2.2] = (P3 ++ (V.take (i + 1)).flatMap IQ).map AU := by
   have e : [AU x.2.1, AU x.2.2] = (BE x.2.1.toNat 1).map AU ++ (BE x.2.2.toNat 1).map AU := by rw [← UY, ← UY]; rfl
   rw [e, hcs, ← hsn, IQ]
   simp only [List.map_append, List.append_assoc]
  have hm' : m + 2 + 2 = m2 + 4 * (i + 1) := by omega
  have hme : V.length - (i + 1) < V.length - i := by omega
  refine zk <| AG <| BK <| zg <| zf rfl <| zl rfl rfl <| zm rfl <| zv (CZ rfl DP rfl _ rfl AA) <| ?_
  refine AZ (D4 (cs := BJ x) rfl rfl (hc _)) rfl <| AV (B9) rfl rfl rfl fun b8 =>  ?_
  refine A6 (CV (vs := BJ x) rfl rfl (by simp) (by simp) HZ) rfl rfl ?_
  refine zn <| EF [AI b8 147 (BJ x)] mixed 13 rfl ?_
  refine AE 0 rfl (AO rfl) rfl <| AE 1 rfl (AP rfl) rfl <| AE 2 rfl (zw rfl rfl) rfl <| AE 6 rfl (AP rfl) rfl <| AE 7 rfl (zw rfl rfl) rfl <| AE 8 rfl (AP rfl) rfl <| AE 9 rfl (zw rfl rfl) rfl <| AE 3 rfl (CD (m := ((x.1.toNat : Nat) : Int)) rfl (JV AA AA)) rfl ?_
  refine DE 4 10 AB ?_ ?_
  ·skip
   refine CR (σ := { q : Option Addr × Nat // 0 < 2 → CU q.1 }) rfl Tryz.call84 rfl (fun w1 => zu fun D' _ _ _ => JQ D' w1 x.1.toNat 2 AA AF) ?_
   intro q3
   try rw [List.nil_append]
   refine DE 5 10 AB ?_ ?_
   ·skip
    refine BC rfl (BT (A := A) (news := (BE x.1.toNat 2).map AU) rfl rfl (BB.G1 (A := q3.1.1) (fun _ => q3.2 AF)) JG (EL _) AF AA) rfl (fun q4 => ?_)
    refine AL 10 AB <| BC rfl (BS rfl rfl rfl) rfl (fun b87 => ?_)
    refine AL 11 AB <| BC rfl (BT (A := q4.1) (news := [AU x.2.1, AU x.2.2]) rfl rfl (BB.AI (b := b87)) rfl HZ AF AA) rfl (fun q5 => ?_)
    refine AE 12 rfl (DH rfl) rfl <| BY AB <| zb <| zt <| AR <| zm rfl <| zv (BM rfl rfl BO) <| ?_
    refine zs rfl <| AS <| B5 hK3 ((i + 1, m + 2 + 2, (cs ++ (BE x.1.toNat 2).map AU) ++ [AU x.2.1, AU x.2.2], q5)) (⟨hlt, hm', hfin⟩) (hme) BD BL
   skip
   refine BC rfl (BS rfl rfl rfl) rfl (fun b87 => ?_)
   refine AL 5 AB <| BC rfl (BT (A := A) (news := (BE x.1.toNat 2).map AU) rfl rfl (BB.G1 (A := q3.1.1) (fun _ => q3.2 AF)) JG (EL _) AF AA) rfl (fun q4 => ?_)
   refine AL 11 AB <| BC rfl (BT (A := q4.1) (news := [AU x.2.1, AU x.2.2]) rfl rfl (BB.AI (b := b87)) rfl HZ AF AA) rfl (fun q5 => ?_)
   refine AE 12 rfl (DH rfl) rfl <| BY AB <| zb <| zt <| AR <| zm rfl <| zv (BM rfl rfl BO) <| ?_
   refine zs rfl <| AS <| B5 hK3 ((i + 1, m + 2 + 2, (cs ++ (BE x.1.toNat 2).map AU) ++ [AU x.2.1, AU x.2.2], q5)) (⟨hlt, hm', hfin⟩) (hme) BD BL
  skip
  refine BC rfl (BS rfl rfl rfl) rfl (fun b87 => ?_)
  refine AL 4 AB <| CR (σ := { q : Option Addr × Nat // 0 < 2 → CU q.1 }) rfl Tryz.call84 rfl (fun w1 => zu fun D' _ _ _ => JQ D' w1 x.1.toNat 2 AA AF) ?_
  intro q3
  try rw [List.nil_append]
  refine AL 5 AB <| BC rfl (BT (A := A) (news := (BE x.1.toNat 2).map AU) rfl rfl (BB.G1 (A := q3.1.1) (fun _ => q3.2 AF)) JG (EL _) AF AA) rfl (fun q4 => ?_)
  refine AL 11 AB <| BC rfl (BT (A := q4.1) (news := [AU x.2.1, AU x.2.2]) rfl rfl (BB.AI (b := b87)) rfl HZ AF AA) rfl (fun q5 => ?_)
  refine AE 12 rfl (DH rfl) rfl <| BY AB <| zb <| zt <| AR <| zm rfl <| zv (BM rfl rfl BO) <| ?_
  refine zs rfl <| AS <| B5 hK3 ((i + 1, m + 2 + 2, (cs ++ (BE x.1.toNat 2).map AU) ++ [AU x.2.1, AU x.2.2], q5)) (⟨hlt, hm', hfin⟩) (hme) BD BL
 have hie : i = V.length := by omega
 subst hie
 rw [List.take_length] at hcs
 obtain ⟨P4, hP4⟩ : ∃ B, B = P3 ++ V.flatMap IQ := ⟨_, rfl⟩
 rw [← hP4] at hcs hcB
 refine CF <| ze <| ze <| CE <| zt <| AG <| AR <| zm rfl <| zf rfl <| zl rfl rfl <| zv BN <| ?_
 refine zv (CD rfl IC) <| ?_
 refine AV (BS rfl rfl rfl) rfl rfl rfl fun b94 =>  ?_
 refine AV (BT (A := A) (news := [.int .u8 (S.length : Int)]) rfl rfl (BB.AI (b := b94)) rfl CL AF AA) rfl rfl rfl (fun q3 => ?_)
 have hcs3 : cs ++ [.int .u8 (S.length : Int)] = (P4 ++ BE S.length 1).map AU := by rw [hcs, PJ _ AA, List.map_append]
 rw [hcs3]
 obtain ⟨P5, hP5⟩ : ∃ B, B = P4 ++ BE S.length 1 := ⟨_, rfl⟩
 rw [← hP5]
 rw [← List.append_assoc P4, ← hP5] at hcB
 obtain ⟨m3, hm3⟩ : ∃ k, k = m + 1 := ⟨_, rfl⟩
 rw [← hm3]
 refine zs rfl <| zn <| AG <| zg <| zs rfl <| zn <| BK <| JA (σ := Nat × Nat × List Value × Option Addr × Nat) [1] rfl 9 (fun s => .int .i64 (s.1 : Int)) 4 (fun s => .slice s.2.2.2.1 s.2.1 s.2.2.2.2) (fun s => [row s.2.2.2.1 5 1 s.2.1 s.2.2.2.2 s.2.2.1, AI b1 49 (C9 c (.slice Ap P.length capp) (.slice Av V.length capv) (.slice As S.length caps))]) (fun s => s.1 ≤ S.length ∧ s.2.1 = m3 + 9 * s.1 ∧ s.2.2.1 = (P5 ++ (S.take s.1).flatMap IM).map AU) (fun s => S.length - s.1) ((0, m3, P5.map AU, q3.1, q3.2)) (⟨Nat.zero_le _, rfl, by simp⟩) rfl rfl BL ?_
 rintro ⟨i, m, cs, A, d⟩ hj_ K4 hK4
 dsimp only at hj_ ⊢
 obtain ⟨hi, hm, hcs⟩ := hj_
 refine AG <| zg <| zm rfl <| zf rfl <| zl rfl rfl <| ?_
 refine zv BN <| ?_
 refine zv (B7 rfl rfl) <| zn <| BP rfl (fun h3 => ?_) (fun h3 => ?_)
 ·have hlt : i < S.length := by omega
  obtain ⟨hA, _⟩ := CS.EP (D := D) (w0 := w) (f := BW) (sz := 3) (fun _ => rfl) AF HSs hlt []
  have hc := fun l' => (CS.EP (D := D) (w0 := w) (f := BW) (sz := 3) (fun _ => rfl) AF HSs hlt l').2
  have hx := os' i hlt
  have hsn := RK IM P5 S i hlt
  generalize S[i] = x at *
  have hfin : ((cs ++ (BE x.1.toNat 6).map AU) ++ (BE x.2.1.toNat 2).map AU) ++ [.int .u8 x.2.2] = (P5 ++ (S.take (i + 1)).flatMap IM).map AU := by
   rw [SN AA AA, hcs, ← hsn, IM]
   simp only [List.map_append, List.append_assoc]
  have hm' : m + 6 + 2 + 1 = m3 + 9 * (i + 1) := by omega
  have hme : S.length - (i + 1) < S.length - i := by omega
  refine zk <| AG <| BK <| zg <| zf rfl <| zl rfl rfl <| zm rfl <| zv (CZ rfl DP rfl _ rfl AA) <| ?_
  refine AZ (D4 (cs := BW x) rfl rfl (hc _)) rfl <| AV (B9) rfl rfl rfl fun b10 =>  ?_
  refine A6 (CV (vs := BW x) rfl rfl (by simp) (by simp) CL) rfl rfl ?_
  refine zn <| EF [AI b10 149 (BW x)] mixed 16 rfl ?_
  refine AE 0 rfl (AO rfl) rfl <| AE 1 rfl (AP rfl) rfl <| AE 2 rfl (zw rfl rfl) rfl <| AE 5 rfl (AP rfl) rfl <| AE 6 rfl (zw rfl rfl) rfl <| AE 10 rfl (AP rfl) rfl <| AE 11 rfl (zw rfl rfl) rfl <| AE 12 rfl (CD rfl IC) rfl <| ?_
  refine AE 7 rfl (CD (m := ((x.2.1.toNat : Nat) : Int)) rfl (JV AA AA)) rfl ?_
  refine DE 3 13 AB ?_ ?_
  ·skip
   refine CR (σ := { q : Option Addr × Nat // 0 < 6 → CU q.1 }) rfl Tryz.call84 rfl (fun w1 => zu fun D' _ _ _ => JQ D' w1 x.1.toNat 6 AA AF) ?_
   intro q3
   try rw [List.nil_append]
   refine DE 4 13 AB ?_ ?_
   ·skip
    refine BC rfl (BT (A := A) (news := (BE x.1.toNat 6).map AU) rfl rfl (BB.G1 (A := q3.1.1) (fun _ => q3.2 AF)) JG (EL _) AF AA) rfl (fun q4 => ?_)
    refine DE 8 13 AB ?_ ?_
    ·skip
     refine CR (σ := { q : Option Addr × Nat // 0 < 2 → CU q.1 }) rfl Tryz.call84 rfl (fun w1 => zu fun D' _ _ _ => JQ D' w1 x.2.1.toNat 2 AA AF) ?_
     intro q5
     try rw [List.nil_append]
     refine DE 9 13 AB ?_ ?_
     ·skip
      refine BC rfl (BT (A := q4.1) (news := (BE x.2.1.toNat 2).map AU) rfl rfl (BB.G1 (A := q5.1.1) (fun _ => q5.2 AF)) JG (EL _) AF AA) rfl (fun q6 => ?_)
      refine AL 13 AB <| BC rfl (BS rfl rfl rfl) rfl (fun b121 => ?_)
      refine AL 14 AB <| BC rfl (BT (A := q6.1) (news := [.int .u8 x.2.2]) rfl rfl (BB.AI (b := b121)) rfl CL AF AA) rfl (fun q7 => ?_)
      refine AE 15 rfl (DH rfl) rfl <| BY AB <| zb <| zt <| AR <| zm rfl <| zv (BM rfl rfl BO) <| ?_
      refine zs rfl <| AS <| B5 hK4 ((i + 1, m + 6 + 2 + 1, ((cs ++ (BE x.1.toNat 6).map AU) ++ (BE x.2.1.toNat 2).map AU) ++ [.int .u8 x.2.2], q7)) (⟨hlt, hm', hfin⟩) (hme) BD BL
     skip
     refine BC rfl (BS rfl rfl rfl) rfl (fun b121 => ?_)
     refine AL 9 AB <| BC rfl (BT (A := q4.1) (news := (BE x.2.1.toNat 2).map AU) rfl rfl (BB.G1 (A := q5.1.1) (fun _ => q5.2 AF)) JG (EL _) AF AA) rfl (fun q6 => ?_)
     refine AL 14 AB <| BC rfl (BT (A := q6.1) (news := [.int .u8 x.2.2]) rfl rfl (BB.AI (b := b121)) rfl CL AF AA) rfl (fun q7 => ?_)
     refine AE 15 rfl (DH rfl) rfl <| BY AB <| zb <| zt <| AR <| zm rfl <| zv (BM rfl rfl BO) <| ?_
     refine zs rfl <| AS <| B5 hK4 ((i + 1, m + 6 + 2 + 1, ((cs ++ (BE x.1.toNat 6).map AU) ++ (BE x.2.1.toNat 2).map AU) ++ [.int .u8 x.2.2], q7)) (⟨hlt, hm', hfin⟩) (hme) BD BL
    skip
    refine BC rfl (BS rfl rfl rfl) rfl (fun b121 => ?_)
    refine AL 8 AB <| CR (σ := { q : Option Addr × Nat // 0 < 2 → CU q.1 }) rfl Tryz.call84 rfl (fun w1 => zu fun D' _ _ _ => JQ D' w1 x.2.1.toNat 2 AA AF) ?_
    intro q5
    try rw [List.nil_append]
    refine AL 9 AB <| BC rfl (BT (A := q4.1) (news := (BE x.2.1.toNat 2).map AU) rfl rfl (BB.G1 (A := q5.1.1) (fun _ => q5.2 AF)) JG (EL _) AF AA) rfl (fun q6 => ?_)
    refine AL 14 AB <| BC rfl (BT (A := q6.1) (news := [.int .u8 x.2.2]) rfl rfl (BB.AI (b := b121)) rfl CL AF AA) rfl (fun q7 => ?_)
    refine AE 15 rfl (DH rfl) rfl <| BY AB <| zb <| zt <| AR <| zm rfl <| zv (BM rfl rfl BO) <| ?_
    refine zs rfl <| AS <| B5 hK4 ((i + 1, m + 6 + 2 + 1, ((cs ++ (BE x.1.toNat 6).map AU) ++ (BE x.2.1.toNat 2).map AU) ++ [.int .u8 x.2.2], q7)) (⟨hlt, hm', hfin⟩) (hme) BD BL
   skip
   refine BC rfl (BS rfl rfl rfl) rfl (fun b121 => ?_)
   refine AL 4 AB <| BC rfl (BT (A := A) (news := (BE x.1.toNat 6).map AU) rfl rfl (BB.G1 (A := q3.1.1) (fun _ => q3.2 AF)) JG (EL _) AF AA) rfl (fun q4 => ?_)
   refine AL 8 AB <| CR (σ := { q : Option Addr × Nat // 0 < 2 → CU q.1 }) rfl Tryz.call84 rfl (fun w1 => zu fun D' _ _ _ => JQ D' w1 x.2.1.toNat 2 AA AF) ?_
   intro q5
   try rw [List.nil_append]
   refine AL 9 AB <| BC rfl (BT (A := q4.1) (news := (BE x.2.1.toNat 2).map AU) rfl rfl (BB.G1 (A := q5.1.1) (fun _ => q5.2 AF)) JG (EL _) AF AA) rfl (fun q6 => ?_)
   refine AL 14 AB <| BC rfl (BT (A := q6.1) (news := [.int .u8 x.2.2]) rfl rfl (BB.AI (b := b121)) rfl CL AF AA) rfl (fun q7 => ?_)
   refine AE 15 rfl (DH rfl) rfl <| BY AB <| zb <| zt <| AR <| zm rfl <| zv (BM rfl rfl BO) <| ?_
   refine zs rfl <| AS <| B5 hK4 ((i + 1, m + 6 + 2 + 1, ((cs ++ (BE x.1.toNat 6).map AU) ++ (BE x.2.1.toNat 2).map AU) ++ [.int .u8 x.2.2], q7)) (⟨hlt, hm', hfin⟩) (hme) BD BL
  skip
  refine BC rfl (BS rfl rfl rfl) rfl (fun b121 => ?_)
  refine AL 3 AB <| CR (σ := { q : Option Addr × Nat // 0 < 6 → CU q.1 }) rfl Tryz.call84 rfl (fun w1 => zu fun D' _ _ _ => JQ D' w1 x.1.toNat 6 AA AF) ?_
  intro q3
  try rw [List.nil_append]
  refine AL 4 AB <| BC rfl (BT (A := A) (news := (BE x.1.toNat 6).map AU) rfl rfl (BB.G1 (A := q3.1.1) (fun _ => q3.2 AF)) JG (EL _) AF AA) rfl (fun q4 => ?_)
  refine AL 8 AB <| CR (σ := { q : Option Addr × Nat // 0 < 2 → CU q.1 }) rfl Tryz.call84 rfl (fun w1 => zu fun D' _ _ _ => JQ D' w1 x.2.1.toNat 2 AA AF) ?_
  intro q5
  try rw [List.nil_append]
  refine AL 9 AB <| BC rfl (BT (A := q4.1) (news := (BE x.2.1.toNat 2).map AU) rfl rfl (BB.G1 (A := q5.1.1) (fun _ => q5.2 AF)) JG (EL _) AF AA) rfl (fun q6 => ?_)
  refine AL 14 AB <| BC rfl (BT (A := q6.1) (news := [.int .u8 x.2.2]) rfl rfl (BB.AI (b := b121)) rfl CL AF AA) rfl (fun q7 => ?_)
  refine AE 15 rfl (DH rfl) rfl <| BY AB <| zb <| zt <| AR <| zm rfl <| zv (BM rfl rfl BO) <| ?_
  refine zs rfl <| AS <| B5 hK4 ((i + 1, m + 6 + 2 + 1, ((cs ++ (BE x.1.toNat 6).map AU) ++ (BE x.2.1.toNat 2).map AU) ++ [.int .u8 x.2.2], q7)) (⟨hlt, hm', hfin⟩) (hme) BD BL
 have hie : i = S.length := by omega
 subst hie
 rw [List.take_length] at hcs
 obtain ⟨P6, hP6⟩ : ∃ B, B = P5 ++ S.flatMap IM := ⟨_, rfl⟩
 rw [← hP6] at hcs hcB
 have hm6 : m = (C8 c).length := by
  rw [hcB, hP6, hP5, hP4, hP3, hP2, hP1]
  simp only [List.length_append, IV, hhl, FU (f := IN) (sz := 7) TZ, FU (f := IQ) (sz := 4) T7, FU (f := IM) (sz := 9) TV]
  omega
 rw [← hcB] at hcs
 subst hcs; subst hm6
 refine CF <| ze <| ze <| CE <| zt <| AG <| AR <| zm rfl <| zs rfl <| zs rfl <| zn <| zq <| ?_
 exact E5 (.inr rfl) rfl rfl rfl fun w' H' => ⟨⟨((A, d), C8 c, 0), .inr ⟨hyes, rfl, rfl⟩⟩, rfl, H'.AK Z8⟩
end Go.Proofs.YtjlolpmmpafjeaaGreat
