import Derived.Test.YtjlolpmmpafjeaaGreatRows
import Derived.Test.YtjlolpmmpafjeaaGreatU27
set_option linter.unusedVariables false
set_option linter.unusedSimpArgs false
namespace Go.Proofs.YtjlolpmmpafjeaaGreat
open CN
abbrev SX := List (List C5) × List C5 × Int × List Bool
instance : I3 Tryz.prog 26 SX := I3.eF 0 AB rfl (KE.cons 0 (KE.cons 1 (KE.cons 2 (KE.last 3 AF))))
abbrev IS (x : SX) (A B C : Option Addr) (cA cB cC : Nat) : List Value := [.slice A x.1.length cA, .slice B x.2.1.length cB, .int .i64 x.2.2.1, .slice C x.2.2.2.length cC]
theorem lC {D : Nat → Prop} {w0 : World} {x : SX} {cs : List Value} (k : Old D w0 (AX.rep x cs)) : ∃ A cA B cB C cC, cs = IS x A B C cA cB cC ∧ DO x.2.2.1 ∧ Old D w0 (AX.rep x.1 [.slice A x.1.length cA]) ∧ Old D w0 (AX.rep x.2.1 [.slice B x.2.1.length cB]) ∧ Old D w0 (AX.rep x.2.2.2 [.slice C x.2.2.2.length cC]) := by
 obtain ⟨h, hh, c1, c2, rfl, ⟨A, cA, rfl, hA⟩, c3, c4, rfl, ⟨B, cB, rfl, hB⟩, c5, c6, rfl, ⟨rfl, ic⟩, C, cC, rfl, hC⟩ := k
 exact ⟨A, cA, B, cB, C, cC, rfl, ic, ⟨h, hh, A, cA, rfl, hA⟩, ⟨h, hh, B, cB, rfl, hB⟩, h, hh, C, cC, rfl, hC⟩
theorem jT {D : Nat → Prop} {w0 : World} {l : List C5} {cs : List Value} (k : Old D w0 (AX.rep l cs)) : ∃ B cap, cs = [.slice B l.length cap] ∧ Old D w0 (AX.rep l [.slice B l.length cap]) := by
 obtain ⟨h, hh, A, cap, rfl, hr⟩ := k
 exact ⟨A, cap, rfl, h, hh, A, cap, rfl, hr⟩
set_option maxHeartbeats 4000000 in
theorem iN (W : World) (v0 : Value) (c1 : List Value) (n : Int) (x : SX) (h0 : Old KH W (AX.rep n [v0])) (h1 : Old KH W (AX.rep x c1)) :
  Calls Tryz.prog 3 #[v0, .agg c1.toArray] W fun e w' => e = .returned (.bool true) ∧ AH KH W w' [] := by
 obtain ⟨hh0, _, e0, i0⟩ := h0
 have e0 : [v0] = [Value.int .i64 n] := e0
 obtain rfl : v0 = .int .i64 n := by simpa using e0
 obtain ⟨A, cA, B, cB, C, cC, rfl, i2, hoA, hoB, hoC⟩ := lC h1
 obtain ⟨_, _, eA, hA1, hA2, hel⟩ := hoA.hJ AF
 simp only [Value.slice.injEq] at eA
 obtain ⟨rfl, _, rfl⟩ := eA
 obtain ⟨_, _, eB, hB1, hB2, HSB, hfB⟩ := hoB.EG
 simp only [Value.slice.injEq] at eB
 obtain ⟨rfl, _, rfl⟩ := eB
 obtain ⟨_, _, ks, e9, hC1, hC2, HSk, hskl, honek, hrepk, hkel⟩ := hoC.sO rfl
 simp only [Value.slice.injEq] at e9
 obtain ⟨rfl, _, rfl⟩ := e9
 refine BZ (vs := [.int .i64 n, .agg (IS x A B C cA cB cC).toArray]) Tryz.func3 rfl _ Tryz.ntmps3 rfl (AH.start KH W) ?_
 simp only [BX, Nat.zero_add]
 refine zg <| AV (PT (cs := IS x A B C cA cB cC) rfl) rfl rfl rfl (fun b3 => ?_)
 refine zs rfl <| zn <| AG <| zg <| zf rfl <| zl rfl rfl <| zv BN <| ?_
 refine zv (DV rfl rfl) <| zm rfl <| DB (t := 31) rfl (fun a1 => ?_) (fun a1 => ?_)
 ·refine zo rfl rfl <| zo rfl rfl <| zo rfl rfl <| zo rfl rfl <| zv (BF rfl rfl) <| zm rfl <| zo rfl rfl <| zo rfl rfl <| zo rfl rfl <| zo rfl rfl <| zv (BF rfl rfl) <| AS <| zt <| DD rfl <| zg <| B2 Tryz.call13 rfl rfl (fun w1 => D6 fun D' _ _ _ => M8 D' w1) ?_
  refine zs rfl <| zn <| zq <| zr <| ?_
  exact zz rfl rfl fun w' H' => ⟨rfl, H'.AK (AD.nil _)⟩
 refine AJ rfl rfl <| zf rfl <| AJ rfl rfl <| zl rfl rfl <| AJ rfl rfl <| zv BN <| ?_
 refine AJ rfl rfl <| zv (DV rfl rfl) <| zv (A8 rfl rfl) <| zm rfl <| DB (t := 37) rfl (fun a2 => ?_) (fun a2 => ?_)
 ·refine zo rfl rfl <| zo rfl rfl <| zo rfl rfl <| zo rfl rfl <| zv (BF rfl rfl) <| AS <| zt <| DD rfl <| zg <| B2 Tryz.call13 rfl rfl (fun w1 => D6 fun D' _ _ _ => M8 D' w1) ?_
  refine zs rfl <| zn <| zq <| zr <| ?_
  exact zz rfl rfl fun w' H' => ⟨rfl, H'.AK (AD.nil _)⟩
 refine AJ rfl rfl <| zf rfl <| AJ rfl rfl <| zl rfl rfl <| AJ rfl rfl <| zv BN <| ?_
 refine AJ rfl rfl <| zv (DV rfl rfl) <| zv (A8 rfl rfl) <| zn <| BP rfl (fun a3 => ?_) (fun a3 => ?_)
 ·refine zg <| B2 Tryz.call13 rfl rfl (fun w1 => D6 fun D' _ _ _ => M8 D' w1) ?_
  refine zs rfl <| zn <| zq <| zr <| ?_
  exact zz rfl rfl fun w' H' => ⟨rfl, H'.AK (AD.nil _)⟩
 have hn20 : x.1.length ≤ 20 := by omega
 have hl32 : x.2.1.length ≤ 32 := by omega
 have hk100 : x.2.2.2.length ≤ 100 := by omega
 obtain ⟨m, hm, hm1, hm2⟩ : ∃ m, m = 40 + QK n 20 ∧ 40 ≤ m ∧ m ≤ 59 := ⟨_, rfl, by omega, by have := e6 n (n := 20) AF; omega⟩
 obtain ⟨S0, hS0⟩ : ∃ S, S = List.replicate m FP := ⟨_, rfl⟩
 obtain ⟨s1, hs1⟩ : ∃ s, s = KZ m 3 := ⟨_, rfl⟩
 have k1 : SI m s1 := by rw [hs1]; exact R2 hm1 AF AF
 have e1 : s1.ep = 1 := by rw [hs1]; rfl
 have p1 : s1.c.2.2.2.1.length = 3 := by rw [hs1]; rfl
 refine zk <| zg <| zm rfl <| B2 Tryz.call14 rfl rfl (fun w1 => D6 fun D' _ _ _ => eY D' w1 n 20 i0 AF AF) ?_
 refine zv (BM rfl rfl BO) <| ?_
 refine zs rfl <| zn <| zg <| zm rfl <| ?_
 rw [show (40 : Int) + ((QK n 20 : Nat) : Int) = (m : Int) by omega]
 refine CQ (σ := Nat) Tryz.call15 rfl rfl (fun w1 => zu fun D' _ _ _ => (gJ D' w1 m AA AA).mono fun e w' ⟨g, he, H'⟩ => ⟨g, he, show AH D' w1 w' [BR g S0 []] by rw [hS0]; exact H'⟩) ?_
 intro g
 try rw [List.nil_append]
 refine zm rfl <| zx rfl rfl <| zx rfl rfl <| zs rfl <| zs rfl <| AS <| zt <| zg <| zm rfl <| CQ (σ := Nat) Tryz.call16 rfl rfl (fun w1 => zu fun D' _ _ _ => (rQ D' w1 m AA AA).mono fun e w' ⟨g, he, H'⟩ => ⟨g, he, show AH D' w1 w' [BV g S0 []] by rw [hS0]; exact H'⟩) ?_
 intro q
 try rw [List.nil_append]
 refine zm rfl <| zx rfl rfl <| zx rfl rfl <| zs rfl <| zs rfl <| AS <| zt <| zg <| zm rfl <| CQ (σ := Nat) Tryz.call17 rfl rfl (fun w1 => EZ (BR g S0 []) fun D' _ _ H2 => (aW D' w1 g m 3 AA AA AF AF S0 hS0 H2).mono fun e w' ⟨sb, he, H'⟩ => ⟨sb, he, show AH D' w1 w' [GX sb g m s1, BR g s1.S []] by rw [hs1]; exact H'⟩) ?_
 intro sb
 refine zm rfl <| zx rfl rfl <| zx rfl rfl <| zs rfl <| zs rfl <| AS <| zt <| zg <| zm rfl <| CQ (σ := Nat) Tryz.call18 rfl rfl (fun w1 => EZ (BV q S0 []) fun D' _ _ H2 => (kN D' w1 q m 3 AA AA AF AF S0 hS0 H2).mono fun e w' ⟨sb, he, H'⟩ => ⟨sb, he, show AH D' w1 w' [G2 sb q m s1, BV q s1.S []] by rw [hs1]; exact H'⟩) ?_
 intro tb
 refine zm rfl <| zx rfl rfl <| zx rfl rfl <| zs rfl <| zs rfl <| AS <| zt <| AG <| zg <| zm rfl <| zv (CG rfl rfl) <| zm rfl <| F0 (t := 69) rfl ((fun h => h rfl)) <| AJ rfl rfl <| zm rfl <| AJ rfl rfl <| zv (CG rfl rfl) <| zv (A8 rfl rfl) <| zm rfl <| F0 (t := 73) rfl ((fun h => h rfl)) <| AJ rfl rfl <| zm rfl <| AJ rfl rfl <| zv (IL rfl rfl) <| zv (A8 rfl rfl) <| zm rfl <| AJ rfl rfl <| zm rfl <| AJ rfl rfl <| zv (IL rfl rfl) <| zv (A8 rfl rfl) <| zn <| EU rfl <| zk <| AG <| zg <| zs rfl <| zn <| BK <| GL (σ := Nat × E1) [3, 6, 8, 10, 12] rfl 14 (fun st => .int .i64 (st.1 : Int)) (fun st => [AI b3 26 (IS x A B C cA cB cC), GX sb g m st.2, BR g st.2.S [], G2 tb q m st.2, BV q st.2.S []]) (fun st => st.1 ≤ x.1.length ∧ SI m st.2 ∧ 0 < st.2.ep ∧ st.2.ep ≤ st.1 + 1 ∧ st.2.c.2.2.2.1.length = 3) (fun st => x.1.length - st.1) ((0, s1)) (⟨Nat.zero_le _, k1, by show 0 < s1.ep; omega, by show s1.ep ≤ 1; omega, p1⟩) rfl BL ?_
 rintro ⟨i, s⟩ hj_ K1 hK1
 dsimp only at hj_ ⊢
 obtain ⟨hi, hs, he0, he, hp⟩ := hj_
 refine AG <| zg <| zm rfl <| zf rfl <| zl rfl rfl <| ?_
 refine zv BN <| ?_
 refine zv (B7 rfl rfl) <| zn <| BP rfl (fun hlt => ?_) (fun hlt => ?_)
 ·have hlt : i < x.1.length := by omega
  obtain ⟨hA, cs, hx, hcs⟩ := hel i hlt
  obtain ⟨E, cE, rfl, hx⟩ := jT hx
  obtain ⟨_, _, _, _, _, _, hfl⟩ := hx.EG
  have hcl : ∀ l', EH KH W l' (ab A) (ao A + i * 1) (.slice E x.1[i].length cE) := fun l' => hcs 0 _ rfl l'
  obtain ⟨le, hle⟩ : ∃ le, le = x.1[i] := ⟨_, rfl⟩
  rw [← hle] at hcl hx hfl
  refine zk <| AG <| BK <| AG <| AG <| AR <| zf rfl <| zl rfl rfl <| zm rfl <| ?_
  refine AZ (CZ rfl hA rfl i rfl hlt) rfl <| AZ (GB rfl (hcl _)) rfl <| zv BN <| ?_
  refine zv (DV rfl rfl) <| zn <| BP rfl (fun hmany => ?_) (fun hmany => ?_)
  ·refine zg <| B2 Tryz.call13 rfl rfl (fun w1 => D6 fun D' _ _ _ => M8 D' w1) ?_
   refine zs rfl <| zn <| zq <| zr <| B4 <| zr <| zr <| B4 <| zr <| ?_
   exact zz rfl rfl fun w' H' => ⟨rfl, H'.AK (AD.nil _)⟩
  obtain ⟨er, s2, hcm⟩ : ∃ er s2, EC m s le = (er, s2) := ⟨_, _, rfl⟩
  have hrr := Q7 hs hfl AA
  have hpl := V0 hs hfl AA
  rw [hcm] at hrr hpl
  obtain ⟨k2, r2, r3, r4, r5⟩ := hrr
  have k2 : SI m s2 := k2
  have r2 : s.ep ≤ s2.ep := r2
  have r3 : s2.ep ≤ s.ep + 1 := r3
  have p2 : s2.c.2.2.2.1.length = 3 := hpl.trans hp
  refine zk <| AG <| EF [AI b3 26 (IS x A B C cA cB cC)] mixed 15 rfl ?_
  refine AE 0 rfl (AO rfl) rfl <| AE 1 rfl (AP rfl) rfl <| AE 2 rfl (zw rfl rfl) rfl <| AE 3 rfl (AO rfl) rfl <| AE 4 rfl (CZ rfl DP rfl _ rfl AA) rfl <| ?_
  refine AE 5 rfl Z9 rfl <| ?_
  refine AE 7 rfl (AO rfl) rfl <| AE 8 rfl (AP rfl) rfl <| AE 9 rfl (zw rfl rfl) rfl <| AE 10 rfl (AO rfl) rfl <| AE 11 rfl (CZ rfl DP rfl _ rfl AA) rfl <| ?_
  refine AE 12 rfl Z9 rfl <| ?_
  refine AL 6 AB <| CY rfl Tryz.call19 rfl (fun w1 H1 => AH.LA (GX sb g m s) (BR g s.S []) H1 fun D' hold _ H2 => (VZ D' w1 sb g m s _ le hs AA AA AA (hold _ hx) H2).mono fun e w' ⟨he, H'⟩ => ⟨(by rw [hcm] at he; exact he : e = .returned (.int .i64 er)), show AH D' w1 w' [GX sb g m s2, BR g s2.S []] by rw [hcm] at H'; exact H'⟩) ?_
  refine AL 13 AB <| CY rfl Tryz.call20 rfl (fun w1 H1 => AH.LA (G2 tb q m s) (BV q s.S []) H1 fun D' hold _ H2 => (iO D' w1 tb q m s _ le hs AA AA AA (hold _ hx) H2).mono fun e w' ⟨he, H'⟩ => ⟨(by rw [hcm] at he; exact he : e = .returned (.int .i64 er)), show AH D' w1 w' [G2 tb q m s2, BV q s2.S []] by rw [hcm] at H'; exact H'⟩) ?_
  refine AE 14 rfl (CG rfl rfl) rfl <| BY AB <| zt <| ?_
  refine CP rfl ((fun h => h rfl)) <| C3 <| zb <| zt <| AR <| zm rfl <| zv (BM rfl rfl BO) <| ?_
  refine zs rfl <| AS <| B5 hK1 ((i + 1, s2)) (⟨hlt, k2, by show 0 < s2.ep; omega, by show s2.ep ≤ i + 1 + 1; omega, p2⟩) (by show x.1.length - (i + 1) < x.1.length - i; omega) BD BL
 have hlen := hs.len
 obtain ⟨er, s2, hcm⟩ : ∃ er s2, EC m s x.2.1 = (er, s2) := ⟨_, _, rfl⟩
 refine HC.AK (AD.pick (A := G2 tb q m s) (AD.refl _)) ?_
 refine HC.exs ?_
 rintro ⟨jb, xq⟩
 refine HC.AK (l' := AI tb 52 (FB jb q s xq) :: D3 jb q 32 m s.ep (32 + s.k) (s.Ls.map AW) :: (C6 s.c xq ++ [AI b3 26 (IS x A B C cA cB cC), GX sb g m s, BR g s.S [], BV q s.S []])) (fun _ h => h) ?_
 refine CF <| ze <| ze <| CE <| zt <| AG <| AR <| zm rfl <| zv (AY rfl) <| zf rfl <| ?_
 refine AZ (MI (vs := B3 s.c xq) rfl rfl) rfl <| AV (B9) rfl rfl rfl fun b15 =>  ?_
 refine A6 (CV (vs := B3 s.c xq) rfl rfl rfl (by simp) CL) rfl rfl ?_
 refine zn <| AG <| HC.AK (l' := BV q s.S [] :: AI tb 52 (FB jb q s xq) :: D3 jb q 32 m s.ep (32 + s.k) (s.Ls.map AW) :: (C6 s.c xq ++ [AI b15 49 (B3 s.c xq), AI b3 26 (IS x A B C cA cB cC), BR g s.S []])) Z8 ?_
 refine HC.exs ?_
 rintro ⟨⟨A0, c0⟩, A1, c1⟩
 refine HC.AK (l' := AI q 56 [.slice A0 s.S.length c0, .slice A1 0 c1] :: row A0 61 64 s.S.length c0 (s.S.flatMap BI) :: row A1 63 65 0 c1 [] :: AI tb 52 (FB jb q s xq) :: D3 jb q 32 m s.ep (32 + s.k) (s.Ls.map AW) :: (C6 s.c xq ++ [AI b15 49 (B3 s.c xq), AI b3 26 (IS x A B C cA cB cC), BR g s.S []])) (fun _ h => h) ?_
 refine HC.fact (fun w H => LN (A := A0) H) (fun hf0 => ?_)
 refine AR <| AV (BS rfl rfl rfl) rfl rfl rfl fun b115 =>  ?_
 refine HL.AK (AD.FQ (b := b115) 64 0 rfl AF) ?_
 refine zm rfl <| zv (AY rfl) <| zf rfl <| zl rfl rfl <| ?_
 refine AV (BT (A := some ⟨b115, 0, none⟩) (news := s.S.flatMap BI) rfl rfl (BB.G1 (A := A0) hf0.2) (FU (f := BI) (sz := 64) DU s.S) (GH (f := BI) IF s.S) AF AA) rfl rfl rfl (fun qS => ?_)
 rw [List.nil_append, Nat.zero_add]
 refine zv (CH rfl rfl) <| ?_
 refine AV (EE rfl rfl) rfl rfl rfl fun b122 =>  ?_
 refine zs rfl <| zn <| AG <| zg <| zm rfl <| zf rfl <| zl rfl rfl <| ?_
 refine HL.AK (AD.trans (b := AI tb 52 (FB jb q s xq) :: D3 jb q 32 m s.ep (32 + s.k) (s.Ls.map AW) :: ([AI q 56 [.slice A0 s.S.length c0, .slice A1 0 c1], row A0 61 64 s.S.length c0 (s.S.flatMap BI), row A1 63 65 0 c1 [], AI b122 56 [.slice qS.1 s.S.length qS.2, .slice none 0 0], row qS.1 61 64 s.S.length qS.2 (s.S.flatMap BI)] ++ (C6 s.c xq ++ [AI b15 49 (B3 s.c xq), AI b3 26 (IS x A B C cA cB cC), BR g s.S []]))) Z8 (AD.trans W8 (AD.trans (b := AI q 56 [.slice A0 s.S.length c0, .slice A1 0 c1] :: row A0 61 64 s.S.length c0 (s.S.flatMap BI) :: row A1 63 65 0 c1 [] :: ([O4 tb q m s jb xq, AI b122 56 [.slice qS.1 s.S.length qS.2, .slice none 0 0], row qS.1 61 64 s.S.length qS.2 (s.S.flatMap BI)] ++ (C6 s.c xq ++ [AI b15 49 (B3 s.c xq), AI b3 26 (IS x A B C cA cB cC), BR g s.S []]))) Z8 (AD.trans (JK (tD := 56) (tL := 63) (g := q) (S := s.S) (P := []) (A0 := A0) (c0 := c0) (A1 := A1) (c1 := c1)) (AD.trans (AD.EB 63 65) (AD.trans (b := AI b122 56 [.slice qS.1 s.S.length qS.2, .slice none 0 0] :: row qS.1 61 64 s.S.length qS.2 (s.S.flatMap BI) :: row none 63 65 0 0 [] :: ([O4 tb q m s jb xq, BV q s.S []] ++ (C6 s.c xq ++ [AI b15 49 (B3 s.c xq), AI b3 26 (IS x A B C cA cB cC), BR g s.S []]))) Z8 (JK (tD := 56) (tL := 63) (g := b122) (S := s.S) (P := []) (A0 := qS.1) (c0 := qS.2) (A1 := none) (c1 := 0)))))))) ?_
 refine B2 Tryz.call20 rfl rfl (fun w1 H1 => AH.LA (O4 tb q m s jb xq) (BV q s.S []) H1 fun D' hold hin H2 => (j6 D' w1 tb q m jb xq s _ x.2.1 hs AA AA AA (hold _ hoB) (ER.rows (q := xq) hs.okc hin) H2).mono fun e w' ⟨he, H'⟩ => ⟨(by rw [hcm] at he; exact he : e = .returned (.int .i64 er)), show AH D' w1 w' (if er = 0 then [G2 tb q m s2, BV q s2.S []] else []) by rw [hcm] at H'; exact H'⟩) ?_
 refine zv (CG rfl rfl) <| zn <| BP rfl (fun her => ?_) (fun her => ?_)
 ·refine zg <| B2 Tryz.call13 rfl rfl (fun w1 => D6 fun D' _ _ _ => M8 D' w1) ?_
  refine zs rfl <| zn <| zq <| zr <| ?_
  exact zz rfl rfl fun w' H' => ⟨rfl, H'.AK (AD.nil _)⟩
 have her : er = 0 := Classical.not_not.1 her
 subst her
 rw [if_pos rfl]
 have hrr := Q7 hs hfB AA
 have hpl := V0 hs hfB AA
 rw [hcm] at hrr hpl
 obtain ⟨k2, r2, r3, r4, r5⟩ := hrr
 have k2 : SI m s2 := k2
 have hlen2 := k2.len
 obtain ⟨l, hl⟩ : ∃ l, l = GY s.S s2.S m := ⟨_, rfl⟩
 have hll : l.length ≤ m := by rw [hl]; exact eX m
 refine zk <| zg <| zm rfl <| zm rfl <| CQ (σ := Option Addr × Nat) Tryz.call22 rfl rfl (fun w1 H1 => AH.qN (BV b122 s.S []) (BV q s2.S []) H1 fun D' _ _ H2 => (jJ D' w1 b122 q m s.S s2.S hlen hlen2 AA AA H2).mono fun e w' ⟨y, he, H'⟩ => ⟨y, (by rw [hl]; exact he : e = .returned (.slice y.1 l.length y.2)), show AH D' w1 w' [BV b122 s.S [], BV q s2.S [], row y.1 63 65 l.length y.2 (l.flatMap CT)] by rw [hl]; exact H'⟩) ?_
 intro qw
 refine CQ (σ := (Option Addr × Nat) × Q4) Tryz.call21 rfl rfl (fun w1 => EZ (row qw.1 63 65 l.length qw.2 (l.flatMap CT)) fun D' _ _ H2 => iR D' w1 qw.1 qw.2 l AA H2) ?_
 intro qo
 obtain ⟨⟨Co, co⟩, q4⟩ := qo
 dsimp only
 rw [kR, List.length_map]
 obtain ⟨K, hK⟩ : ∃ K, K = (ES l).length := ⟨_, rfl⟩
 have hK4 : K ≤ 4 := by rw [hK]; exact Nat.le_trans (List.length_filter_le _ _) AF
 have hok := qG hs AA AA hfB hcm hl
 obtain ⟨k, hk, hkK⟩ : ∃ k, k = QK x.2.2.1 (K + 1) ∧ k ≤ K := ⟨_, rfl, by have := e6 x.2.2.1 (n := K + 1) AA; omega⟩
 rw [← hK]
 refine zs rfl <| zn <| zg <| zf rfl <| ?_
 refine zl rfl rfl <| zm rfl <| zv BN <| ?_
 refine zv (BM rfl rfl BO) <| ?_
 refine B2 Tryz.call14 rfl rfl (fun w1 => D6 fun D' _ _ _ => (eY D' w1 x.2.2.1 (K + 1) i2 AA AA).mono fun e w' ⟨he, H'⟩ => ⟨(by rw [← hk] at he; exact he : e = .returned (.int .i64 (k : Int))), H'⟩) ?_
 refine zs rfl <| zn <| AG <| zg <| zs rfl <| zn <| BK <| ?_
 obtain ⟨Wc, hWc⟩ : ∃ Wc, Wc = (ES l).map (MX l q4) := ⟨_, rfl⟩
 rw [← hWc]
 obtain ⟨RS, hRS⟩ : ∃ RS : List AQ, RS = row Co 54 1 K co Wc :: (LW l l.length q4 ++ (G2 tb q m s2 :: BV q s2.S [] :: AI b3 26 (IS x A B C cA cB cC) :: AI b15 49 (B3 s.c xq) :: C6 s.c xq)) := ⟨_, rfl⟩
 refine HC.AK (l' := BR g s.S [] :: row Co 54 1 K co Wc :: (LW l l.length q4 ++ (G2 tb q m s2 :: BV q s2.S [] :: AI b3 26 (IS x A B C cA cB cC) :: AI b15 49 (B3 s.c xq) :: C6 s.c xq))) Z8 ?_
 refine GL (σ := Nat × List BA) [3, 6, 12, 15, 17, 18] rfl 19 (fun st => .int .i64 (st.1 : Int)) (fun st => BR g st.2 [] :: row Co 54 1 K co Wc :: (LW l l.length q4 ++ (G2 tb q m s2 :: BV q s2.S [] :: AI b3 26 (IS x A B C cA cB cC) :: AI b15 49 (B3 s.c xq) :: C6 s.c xq))) (fun st => st.1 ≤ k ∧ NK s.S s2.S l m st.1 st.2) (fun st => k - st.1) ((0, s.S)) (⟨Nat.zero_le _, NK.zero hlen⟩) rfl (AD.refl _) ?_
 rintro ⟨i, T⟩ hj_ K2 hK2
 dsimp only at hj_ ⊢
 obtain ⟨hi, hT⟩ := hj_
 refine AG <| zg <| zm rfl <| zm rfl <| zv (B7 rfl rfl) <| zn <| BP rfl (fun hik => ?_) (fun hik => ?_)
 ·have hik : i < k := by omega
  have hiR : i < (ES l).length := by omega
  obtain ⟨r, hr⟩ : ∃ r, r = (ES l)[i] := ⟨_, rfl⟩
  have hr3 : r ≤ 3 := by rw [hr]; exact (TT.1 (List.getElem_mem hiR)).1
  obtain ⟨P, hP⟩ : ∃ P, P = DX l r l.length := ⟨_, rfl⟩
  obtain ⟨Br, cr, hsl⟩ := aK l q4 r hr3
  rw [← hP] at hsl
  have hWi : Wc[i * 1]? = some (.slice Br P.length cr) := by rw [Nat.mul_one, hWc, List.getElem?_map, List.getElem?_eq_getElem hiR, ← hr]; show some (MX l q4 r) = _; rw [hsl]
  have hpm := cW l q4 r hr3 (B := Br) (c := cr) (by rw [hsl, hP])
  rw [← hP] at hpm
  have hpm2 := (List.Perm.append_right (G2 tb q m s2 :: BV q s2.S [] :: AI b3 26 (IS x A B C cA cB cC) :: AI b15 49 (B3 s.c xq) :: C6 s.c xq) hpm).trans (List.Perm.cons (row Br 63 65 P.length cr (P.flatMap CT)) (List.perm_append_comm (l₁ := QA l q4 r) (l₂ := (G2 tb q m s2 :: BV q s2.S [] :: AI b3 26 (IS x A B C cA cB cC) :: AI b15 49 (B3 s.c xq) :: C6 s.c xq))))
  refine HC.AK (l' := BR g T [] :: row Co 54 1 K co Wc :: row Br 63 65 P.length cr (P.flatMap CT) :: ((G2 tb q m s2 :: BV q s2.S [] :: AI b3 26 (IS x A B C cA cB cC) :: AI b15 49 (B3 s.c xq) :: C6 s.c xq) ++ QA l q4 r)) (AD.perm (List.Perm.cons _ (List.Perm.cons _ hpm2))) ?_
  refine HC.fact (fun w H => AH.GS Co H) ?_
  rintro ⟨_, _, _, hCo'⟩
  have hCo : CU Co := hCo' (by intro e; rw [e] at hWi; cases hWi)
  refine HC.fact (fun w H => LN (A := Br) H) (fun hf1 => ?_)
  have hPv : ∀ p ∈ P, p.1 < m ∧ s2.S[p.1]? = some p.2 := fun p hp => hok.val r p (by rw [← hP]; exact hp)
  have hPl : P.length ≤ m := by rw [hP]; exact Nat.le_trans (QU _) hll
  refine zk <| AG <| BK <| AG <| AG <| AR <| zs rfl <| zn <| BK <| GL (σ := Nat) [3, 6, 12, 15, 17, 18, 19] rfl 20 (fun j => .int .i64 (j : Int)) (fun j => BR g T (P.take j) :: row Co 54 1 K co Wc :: row Br 63 65 P.length cr (P.flatMap CT) :: ((G2 tb q m s2 :: BV q s2.S [] :: AI b3 26 (IS x A B C cA cB cC) :: AI b15 49 (B3 s.c xq) :: C6 s.c xq) ++ QA l q4 r)) (fun j => j ≤ P.length) (fun j => P.length - j) (0) (Nat.zero_le _) rfl (AD.refl _) ?_
  rintro j hj K3 hK3
  refine AG <| zg <| zm rfl <| zm rfl <| zm rfl <| AZ (CZ rfl hCo rfl i rfl AA) rfl ?_
  refine AZ (GB rfl (EH.row (A := Co) hCo (i := i * 1) hWi)) rfl <| zv BN <| ?_
  refine zv (B7 rfl rfl) <| zn <| BP rfl (fun hjP => ?_) (fun hjP => ?_)
  ·have hjP : j < P.length := by omega
   have hBr : CU Br := hf1.2 (L6 HH AF AA)
   have hpj := hPv P[j] (List.getElem_mem hjP)
   have htk : P.take (j + 1) = P.take j ++ [P[j]] := List.take_succ_eq_append_getElem hjP
   obtain ⟨pj, hpje⟩ : ∃ pj, pj = P[j] := ⟨_, rfl⟩
   rw [← hpje] at hpj htk
   have hfl : DZ KH W [row Co 54 1 K co Wc, row Br 63 65 P.length cr (P.flatMap CT)] (ab Br) (ao Br + j * 65) (CT pj) := by rw [hpje]; exact DZ.flat (f := CT) (A := Br) HH hBr (i := j) hjP
   have hL1 : EH KH W [row Co 54 1 K co Wc, row Br 63 65 P.length cr (P.flatMap CT)] (ab Co) (ao Co + i * 1) (.slice Br P.length cr) := EH.row (A := Co) hCo (i := i * 1) hWi
   have hL2 : EH KH W [row Co 54 1 K co Wc, row Br 63 65 P.length cr (P.flatMap CT)] (ab Br) (ao Br + j * 65 + 0) (.int .i64 (pj.1 : Int)) := fun w H => hfl w H 0 _ rfl
   have hL3 : ∀ L', DZ KH W L' (ab Br) (ao Br + j * 65) (CT pj) → DZ KH W L' (ab Br) (ao Br + j * 65 + 1) (BI pj.2) := fun L' hq w H a v hv => by
    have := hq w H (a + 1) v hv
    rw [show ao Br + j * 65 + 1 + a = ao Br + j * 65 + (a + 1) by omega]
    exact this
   refine zk <| AG <| BK <| EF [row Co 54 1 K co Wc, row Br 63 65 P.length cr (P.flatMap CT)] mixed 18 rfl ?_
   refine AE 0 rfl (AO rfl) rfl <| AE 1 rfl (AO rfl) rfl <| AE 2 rfl (AO rfl) rfl <| AE 3 rfl (CZ rfl DP rfl _ rfl AA) rfl <| ?_
   refine AE 4 rfl Z9 rfl <| ?_
   refine AE 5 rfl (AO rfl) rfl <| AE 6 rfl (CZ rfl DP rfl _ rfl AA) rfl <| ?_
   refine AE 7 rfl (AP rfl) rfl <| AE 8 rfl Z9 rfl <| ?_
   refine AE 9 rfl (AO rfl) rfl <| AE 10 rfl (AO rfl) rfl <| AE 11 rfl (CZ rfl DP rfl _ rfl AA) rfl <| ?_
   refine AE 12 rfl Z9 rfl <| ?_
   refine AE 13 rfl (AO rfl) rfl <| AE 14 rfl (CZ rfl DP rfl _ rfl AA) rfl <| ?_
   refine AE 15 rfl (AP rfl) rfl <| AL 16 AB <| CW rfl (D4 (cs := BI pj.2) rfl (DU _) (hL3 _ (by rw [hpje]; exact DZ.flat (f := CT) (A := Br) HH hBr (i := j) hjP))) rfl ?_
   refine AL 17 AB <| CY rfl Tryz.call23 rfl (fun w1 => zp (BR g T (P.take j)) fun D' _ _ H2 => Q5 D' w1 g pj.1 pj.2 T (P.take j) (by rw [hT.len]; exact hpj.1) OK H2) ?_
   rw [← htk]
   refine BY AB <| zb <| zt <| AR <| zm rfl <| zv (BM rfl rfl BO) <| ?_
   refine zs rfl <| AS <| B5 hK3 (j + 1) (hjP) AA BD BL
  have hjP : j = P.length := by omega
  subst hjP
  rw [List.take_length]
  refine CF <| ze <| ze <| CE <| zt <| AG <| AR <| zm rfl <| B2 Tryz.call24 rfl rfl (fun w1 => zp (BR g T P) fun D' _ _ H2 => (R0 D' w1 g T P (fun p hp => by rw [hT.len]; exact (hPv p hp).1) H2).mono fun e w' ⟨he, H'⟩ => ⟨he, show AH D' w1 w' [BR g (FF (fun _ => true) 0 T P) []] from H'⟩) ?_
  have hN : NK s.S s2.S l m (i + 1) (FF (fun _ => true) 0 T P) := by rw [hP, hr]; exact hT.next hok hlen2 hiR
  refine zv (CG rfl rfl) <| zn <| CP rfl ((fun h => h rfl)) <| C3 <| zb <| zt <| AR <| zm rfl <| zv (BM rfl rfl BO) <| ?_
  refine zs rfl <| AS <| ?_
  exact B5 hK2 ((i + 1, FF (fun _ => true) 0 T P)) (⟨hik, hN⟩) (by show k - (i + 1) < k - i; omega) BD (AD.perm (List.Perm.cons _ (List.Perm.cons _ hpm2.symm)))
 have hik : i = k := by omega
 subst hik
 refine CF <| ze <| ze <| CE <| zt <| AG <| NC (σ := H6) [3, 6, 12, 15, 17, 18] rfl  (fun P => JU ((∃ h : i < (ES l).length, P = DX l (ES l)[i] l.length) ∨ (i = K ∧ P = [])) :: BR g T P :: row Co 54 1 K co Wc :: (LW l l.length q4 ++ (G2 tb q m s2 :: BV q s2.S [] :: AI b3 26 (IS x A B C cA cB cC) :: AI b15 49 (B3 s.c xq) :: C6 s.c xq))) (fun K4 hK4 => ?_) (fun P => ?_)
 ·refine zg <| zm rfl <| zm rfl <| zv BN <| ?_
  refine zv (B7 rfl rfl) <| zn <| BP rfl (fun hkK2 => ?_) (fun hkK2 => ?_)
  ·have hkK3 : i < K := by omega
   have hiR : i < (ES l).length := by omega
   obtain ⟨r, hr⟩ : ∃ r, r = (ES l)[i] := ⟨_, rfl⟩
   have hr3 : r ≤ 3 := by rw [hr]; exact (TT.1 (List.getElem_mem hiR)).1
   obtain ⟨P, hP⟩ : ∃ P, P = DX l r l.length := ⟨_, rfl⟩
   obtain ⟨Br, cr, hsl⟩ := aK l q4 r hr3
   rw [← hP] at hsl
   have hWi : Wc[i * 1]? = some (.slice Br P.length cr) := by rw [Nat.mul_one, hWc, List.getElem?_map, List.getElem?_eq_getElem hiR, ← hr]; show some (MX l q4 r) = _; rw [hsl]
   have hpm := cW l q4 r hr3 (B := Br) (c := cr) (by rw [hsl, hP])
   rw [← hP] at hpm
   have hpm2 := (List.Perm.append_right (G2 tb q m s2 :: BV q s2.S [] :: AI b3 26 (IS x A B C cA cB cC) :: AI b15 49 (B3 s.c xq) :: C6 s.c xq) hpm).trans (List.Perm.cons (row Br 63 65 P.length cr (P.flatMap CT)) (List.perm_append_comm (l₁ := QA l q4 r) (l₂ := (G2 tb q m s2 :: BV q s2.S [] :: AI b3 26 (IS x A B C cA cB cC) :: AI b15 49 (B3 s.c xq) :: C6 s.c xq))))
   refine HC.AK (l' := BR g T [] :: row Co 54 1 K co Wc :: row Br 63 65 P.length cr (P.flatMap CT) :: ((G2 tb q m s2 :: BV q s2.S [] :: AI b3 26 (IS x A B C cA cB cC) :: AI b15 49 (B3 s.c xq) :: C6 s.c xq) ++ QA l q4 r)) (AD.perm (List.Perm.cons _ (List.Perm.cons _ hpm2))) ?_
   refine HC.fact (fun w H => AH.GS Co H) ?_
   rintro ⟨_, _, _, hCo'⟩
   have hCo : CU Co := hCo' (by intro e; rw [e] at hWi; cases hWi)
   refine HC.fact (fun w H => LN (A := Br) H) (fun hf1 => ?_)
   have hPv : ∀ p ∈ P, p.1 < m ∧ s2.S[p.1]? = some p.2 := fun p hp => hok.val r p (by rw [← hP]; exact hp)
   have hPl : P.length ≤ m := by rw [hP]; exact Nat.le_trans (QU _) hll
   refine zg <| zs rfl <| zn <| BK <| GL (σ := Nat) [3, 6, 12, 15, 17, 18] rfl 21 (fun j => .int .i64 (j : Int)) (fun j => BR g T (P.take j) :: row Co 54 1 K co Wc :: row Br 63 65 P.length cr (P.flatMap CT) :: ((G2 tb q m s2 :: BV q s2.S [] :: AI b3 26 (IS x A B C cA cB cC) :: AI b15 49 (B3 s.c xq) :: C6 s.c xq) ++ QA l q4 r)) (fun j => j ≤ P.length) (fun j => P.length - j) (0) (Nat.zero_le _) rfl (AD.refl _) ?_
   rintro j hj K5 hK5
   refine AG <| zg <| zm rfl <| zm rfl <| zm rfl <| AZ (CZ rfl hCo rfl i rfl AA) rfl ?_
   refine AZ (GB rfl (EH.row (A := Co) hCo (i := i * 1) hWi)) rfl <| zv BN <| ?_
   refine zv (B7 rfl rfl) <| zn <| BP rfl (fun hjP => ?_) (fun hjP => ?_)
   ·have hjP : j < P.length := by omega
    have hBr : CU Br := hf1.2 (L6 HH AF AA)
    have hpj := hPv P[j] (List.getElem_mem hjP)
    have htk : P.take (j + 1) = P.take j ++ [P[j]] := List.take_succ_eq_append_getElem hjP
    obtain ⟨pj, hpje⟩ : ∃ pj, pj = P[j] := ⟨_, rfl⟩
    rw [← hpje] at hpj htk
    have hfl : DZ KH W [row Co 54 1 K co Wc, row Br 63 65 P.length cr (P.flatMap CT)] (ab Br) (ao Br + j * 65) (CT pj) := by rw [hpje]; exact DZ.flat (f := CT) (A := Br) HH hBr (i := j) hjP
    have hL1 : EH KH W [row Co 54 1 K co Wc, row Br 63 65 P.length cr (P.flatMap CT)] (ab Co) (ao Co + i * 1) (.slice Br P.length cr) := EH.row (A := Co) hCo (i := i * 1) hWi
    have hL2 : EH KH W [row Co 54 1 K co Wc, row Br 63 65 P.length cr (P.flatMap CT)] (ab Br) (ao Br + j * 65 + 0) (.int .i64 (pj.1 : Int)) := fun w H => hfl w H 0 _ rfl
    have hL3 : ∀ L', DZ KH W L' (ab Br) (ao Br + j * 65) (CT pj) → DZ KH W L' (ab Br) (ao Br + j * 65 + 1) (BI pj.2) := fun L' hq w H a v hv => by
     have := hq w H (a + 1) v hv
     rw [show ao Br + j * 65 + 1 + a = ao Br + j * 65 + (a + 1) by omega]
     exact this
    refine zk <| AG <| BK <| EF [row Co 54 1 K co Wc, row Br 63 65 P.length cr (P.flatMap CT)] mixed 18 rfl ?_
    refine AE 0 rfl (AO rfl) rfl <| AE 1 rfl (AO rfl) rfl <| AE 2 rfl (AO rfl) rfl <| AE 3 rfl (CZ rfl DP rfl _ rfl AA) rfl <| ?_
    refine AE 4 rfl Z9 rfl <| ?_
    refine AE 5 rfl (AO rfl) rfl <| AE 6 rfl (CZ rfl DP rfl _ rfl AA) rfl <| ?_
    refine AE 7 rfl (AP rfl) rfl <| AE 8 rfl Z9 rfl <| ?_
    refine AE 9 rfl (AO rfl) rfl <| AE 10 rfl (AO rfl) rfl <| AE 11 rfl (CZ rfl DP rfl _ rfl AA) rfl <| ?_
    refine AE 12 rfl Z9 rfl <| ?_
    refine AE 13 rfl (AO rfl) rfl <| AE 14 rfl (CZ rfl DP rfl _ rfl AA) rfl <| ?_
    refine AE 15 rfl (AP rfl) rfl <| AL 16 AB <| CW rfl (D4 (cs := BI pj.2) rfl (DU _) (hL3 _ (by rw [hpje]; exact DZ.flat (f := CT) (A := Br) HH hBr (i := j) hjP))) rfl ?_
    refine AL 17 AB <| CY rfl Tryz.call23 rfl (fun w1 => zp (BR g T (P.take j)) fun D' _ _ H2 => Q5 D' w1 g pj.1 pj.2 T (P.take j) (by rw [hT.len]; exact hpj.1) OK H2) ?_
    rw [← htk]
    refine BY AB <| zb <| zt <| AR <| zm rfl <| zv (BM rfl rfl BO) <| ?_
    refine zs rfl <| AS <| B5 hK5 (j + 1) (hjP) AA BD BL
   have hjP : j = P.length := by omega
   subst hjP
   rw [List.take_length]
   refine CF <| ze <| ze <| CE <| ?_
   exact DF hK4 (P) BD (AD.pure_cons (.inl ⟨hiR, by rw [hP, hr]⟩) (AD.perm (List.Perm.cons _ (List.Perm.cons _ hpm2.symm))))
  refine C3 <| ?_
  exact DF hK4 ([]) BD (AD.pure_cons (.inr ⟨by omega, rfl⟩) (AD.refl _))
 refine HX.pure fun hP => ?_
 obtain ⟨keep, hkeep⟩ : ∃ keep, keep = x.2.2.2 := ⟨_, rfl⟩
 have hPm : ∀ p ∈ P, p.1 < T.length := fun p hp => by
  rw [hT.len]
  rcases hP with ⟨h, hPe⟩ | ⟨_, hPe⟩
  ·rw [hPe] at hp; exact (hok.val _ p hp).1
  ·rw [hPe] at hp; cases hp
 obtain ⟨U, hUe⟩ : ∃ U, U = FF (fun k => x.2.2.2.getD k false) 0 T P := ⟨_, rfl⟩
 obtain ⟨su, t1, t2, t3, t4, t5, t6, t7⟩ : ∃ su, SI m su ∧ su.S = U ∧ su.ep ≤ s.ep + 1 ∧ su.c.2.2.2.1.length = s.c.2.2.2.1.length ∧ (i = (ES l).length → su.c = s2.c) ∧ (i + 1 < (ES l).length → su.c = s.c) ∧ (su.c = s.c ∨ su.c = s2.c) := by
  rcases hP with ⟨hiR, hPe⟩ | ⟨hiK, hPe⟩
  ·obtain ⟨a1, a2, a3⟩ := hT.mid hok hlen2 hiR (fun k => x.2.2.2.getD k false)
   rw [← hPe, ← hUe] at a1 a2 a3
   exact cM hs he0 AA AA hfB hcm hl (k := i) AA a1 a2 (fun a ha hak p hp => by rw [a3 a ha AA p hp]; exact hT.did a ha hak p hp) (fun a ha hak p hp => by rw [a3 a ha AA p hp]; exact hT.not a ha AA p hp)
  ·have hUT : U = T := by rw [hUe, hPe]; rfl
   rw [hUT]
   exact cM hs he0 AA AA hfB hcm hl (k := i) AA hT.len hT.two (fun a ha hak => hT.did a ha hak) (fun a ha hak p hp => hT.not a ha AA p hp)
 have hsup := t1.sS
 refine zt <| zg <| zm rfl <| AV (BS rfl rfl rfl) rfl rfl rfl (fun b206 => ?_)
 refine HL.AK (AD.FQ (b := b206) 1 0 rfl AF) ?_
 refine zf rfl <| zl rfl rfl <| ?_
 refine AV (BT (A := some ⟨b206, 0, none⟩) (news := ks) rfl rfl (BB.old HSk) AA honek AF AA) rfl rfl rfl ?_
 rintro ⟨Ck, capC⟩
 dsimp only
 simp only [Nat.zero_add, List.nil_append]
 refine B2 Tryz.call25 rfl rfl (fun w1 => zp (BR g T P) fun D' _ hin H2 => (Y6 D' w1 g T P _ x.2.2.2 hPm (hin _ fun h hs' ho => C7 (A := Ck) hs' x.2.2.2 rfl (jL ho hrepk)) H2).mono fun e w' ⟨he, H'⟩ => ⟨he, show AH D' w1 w' [BR g su.S []] by rw [t2, hUe]; exact H'⟩) ?_
 refine zn <| zg <| zm rfl <| CQ (σ := Nat) Tryz.call17 rfl rfl (fun w1 => EZ (BR g su.S []) fun D' _ _ H2 => bU D' w1 g m su 3 t1 AA AA AF AF AA H2) ?_
 intro ob
 refine zm rfl <| zx rfl rfl <| zx rfl rfl <| zs rfl <| zs rfl <| AS <| zt <| AG <| zg <| zm rfl <| zv (CG rfl rfl) <| zm rfl <| F0 (t := 218) rfl ((fun h => h rfl)) <| AJ rfl rfl <| zm rfl <| AJ rfl rfl <| zv (IL rfl rfl) <| zv (A8 rfl rfl) <| zn <| EU rfl <| zk <| zg <| zm rfl <| CQ (σ := DA) Tryz.call26 rfl rfl (fun w1 => EZ (GX ob g m su) fun D' _ _ H2 => VU D' w1 ob g m su t1.okc H2) ?_
 intro qu
 refine AV (B9) rfl rfl rfl fun b24 =>  ?_
 refine A6 (CV (vs := B3 su.c qu) rfl rfl rfl (by simp) CL) rfl rfl ?_
 refine zn <| AG <| HC.AK (l' := G2 tb q m s2 :: (AI b24 49 (B3 su.c qu) :: (C6 su.c qu ++ (AI b15 49 (B3 s.c xq) :: C6 s.c xq)))) Z8 ?_
 refine HC.exs ?_
 rintro ⟨jb2, x2⟩
 refine HC.AK (l' := AI tb 52 (FB jb2 q s2 x2) :: D3 jb2 q 32 m s2.ep (32 + s2.k) (s2.Ls.map AW) :: (C6 s2.c x2 ++ (AI b24 49 (B3 su.c qu) :: (C6 su.c qu ++ (AI b15 49 (B3 s.c xq) :: C6 s.c xq))))) (fun _ h => h) ?_
 refine EF [AI b24 49 (B3 su.c qu), AI b15 49 (B3 s.c xq), AI tb 52 (FB jb2 q s2 x2)] mixed 11 rfl ?_
 refine AE 0 rfl DY rfl <| ?_
 refine AE 1 rfl DY rfl <| ?_
 refine AE 3 rfl DY rfl <| ?_
 refine AE 4 rfl (AO rfl) rfl <| AE 5 rfl (AY rfl) rfl <| AE 6 rfl (AP rfl) rfl <| AE 7 rfl (MI (vs := B3 s2.c x2) rfl rfl) rfl <| AL 2 AB <| CR (σ := EX (su.c = s.c)) rfl Tryz.call27 rfl (fun w1 => zu fun D' _ hin _ => ZU D' w1 su.c s.c _ _ _ _ _ _ (ER.rows (q := qu) t1.okc hin) (ER.rows (q := xq) hs.okc hin)) ?_
 intro g1
 try rw [List.nil_append]
 refine AL 8 AB <| CR (σ := EX (su.c = s2.c)) rfl Tryz.call27 rfl (fun w1 => zu fun D' _ hin _ => ZU D' w1 su.c s2.c _ _ _ _ _ _ (ER.rows (q := qu) t1.okc hin) (ER.rows (q := x2) k2.okc hin)) ?_
 intro g2
 try rw [List.nil_append]
 refine AE 9 rfl (DH rfl) rfl <| AE 10 rfl (DH rfl) rfl <| BY AB <| zt <| AG <| zg <| zm rfl <| ?_
 refine zn <| BK <| zg <| zm rfl <| zv BN <| ?_
 refine zv (CO rfl rfl) <| zs rfl <| zn <| BP rfl (fun hA1 => ?_) (fun hA1 => ?_)
 ·have hg2 : g2.1 = true := g2.2.2 (t5 AA)
  rw [hg2]
  refine zg <| zm rfl <| zm rfl <| AJ rfl rfl <| B2 Tryz.call13 rfl rfl (fun w1 => D6 fun D' _ _ _ => M8 D' w1) ?_
  refine zv (BF rfl rfl) <| zs rfl <| zn <| zq <| B4 <| zr <| ?_
  exact zz rfl rfl fun w' H' => ⟨rfl, H'.AK (AD.nil _)⟩
 refine zg <| zm rfl <| zv BN <| ?_
 refine zv (FY rfl rfl BO) <| ?_
 refine zv (CO rfl rfl) <| zs rfl <| zn <| BP rfl (fun hA2 => ?_) (fun hA2 => ?_)
 ·rcases t7 with t7 | t7
  ·have hg1 : g1.1 = true := g1.2.2 t7
   rw [hg1]
   refine zg <| zm rfl <| zm rfl <| zo rfl rfl <| zv (BF rfl rfl) <| zm rfl <| AJ rfl rfl <| B2 Tryz.call13 rfl rfl (fun w1 => D6 fun D' _ _ _ => M8 D' w1) ?_
   refine zv (BF rfl rfl) <| zs rfl <| zn <| zq <| B4 <| zr <| ?_
   exact zz rfl rfl fun w' H' => ⟨rfl, H'.AK (AD.nil _)⟩
  have hg2 : g2.1 = true := g2.2.2 t7
  rw [hg2]
  refine zg <| zm rfl <| zm rfl <| KY (t := 248) rfl (fun g3 => ?_) (fun g3 => ?_)
  ·refine zo rfl rfl <| zv (BF rfl rfl) <| zm rfl <| AJ rfl rfl <| B2 Tryz.call13 rfl rfl (fun w1 => D6 fun D' _ _ _ => M8 D' w1) ?_
   refine zv (BF rfl rfl) <| zs rfl <| zn <| zq <| B4 <| zr <| ?_
   exact zz rfl rfl fun w' H' => ⟨rfl, H'.AK (AD.nil _)⟩
  refine AJ rfl rfl <| zm rfl <| zv (A8 rfl rfl) <| zm rfl <| AJ rfl rfl <| B2 Tryz.call13 rfl rfl (fun w1 => D6 fun D' _ _ _ => M8 D' w1) ?_
  refine zv (BF rfl rfl) <| zs rfl <| zn <| zq <| B4 <| zr <| ?_
  exact zz rfl rfl fun w' H' => ⟨rfl, H'.AK (AD.nil _)⟩
 have hg1 : g1.1 = true := g1.2.2 (t6 AA)
 rw [hg1]
 refine C3 <| zb <| zt <| zg <| zm rfl <| zm rfl <| AJ rfl rfl <| B2 Tryz.call13 rfl rfl (fun w1 => D6 fun D' _ _ _ => M8 D' w1) ?_
 refine zv (BF rfl rfl) <| zs rfl <| zn <| zq <| ?_
 exact zz rfl rfl fun w' H' => ⟨rfl, H'.AK (AD.nil _)⟩
end Go.Proofs.YtjlolpmmpafjeaaGreat
/- PROVED: the given statement StoreTorn: for every input the law returns true, and each argument reads behind the call as it read before; no condition. -/
set_option linter.unusedVariables false
namespace Go.Proofs.YtjlolpmmpafjeaaGreat.storeTorn
open Go.ChangeShapes Go.WideShapes Go.ChangeAt Go.RowKit
open CN
theorem own : ownKnob Tryz.prog.godebug = none := by kernel_rfl
theorem laidOut : laidOutB Tryz.prog = true := by kernel_rfl
set_option maxRecDepth 100000 in
theorem lifted (os : Os) (started : os.Started) (H : Type) (enc : TypeId × Value → H) :
  ReturnsInHanded {} Tryz.checked os 3 .any (Rows.storeTornSpec.pre6 enc Tryz.prog Tryz.f3 Rows.storeTornRow.domain false) (Rows.storeTornSpec.post enc Tryz.prog Tryz.f3 false true false false) := by
 refine returnsInHanded_of_change (C := Tryz.checked) own started AB Tryz.func3
  (ChangeSpec.witness6 (enc := enc) (C := Tryz.checked) false ⟨#[], #[.int .i64 0, .agg #[.slice none 0 0, .slice none 0 0, .int .i64 0, .slice none 0 0]], []⟩ 8 AB AB AB AB) ?_
 intro W base args ds gs before hval0 hW hcnd _
 have hval : ∀ (j : Nat) t v, Tryz.f3.params[j]? = some t → args[j]? = some v → Value.okWide Tryz.prog W .any base t v := hval0
 have hW' := hW
 obtain ⟨p, q, hA0, hV, rfl, hfz, hnd⟩ := hW
 have hA : DataW.TrodAll enc Tryz.prog W 0 (fun _ => true) true Tryz.f3.params.toList args.toList ds p := hA0
 rw [Tryz.params3] at hA hval
 obtain ⟨v0, vs0, d0, ds0, p0, q0, hargs, rfl, rfl, h0, r0⟩ := trodAll_cons hA
 obtain ⟨v1, vs1, d1, ds1, p1, q1, rfl, rfl, rfl, h1, r1⟩ := trodAll_cons r0
 obtain ⟨rfl, rfl, rfl⟩ := trodAll_nil r1
 obtain rfl : args = #[v0, v1] := by cases args; simp_all
 obtain ⟨rfl, rfl⟩ := trodVars_none hV
 have k0 := h0
 have lt0 : ∀ x ∈ p0, x.block < W.heap.size := by obtain ⟨m, hm⟩ := k0; exact DataW.trod_lt m _ _ _ hm
 have e0 := mZ (hval 0 3 v0 rfl rfl)
 obtain ⟨x0, y0⟩ := eK (α := Int) h0
 rw [e0] at y0
 have k1 := h1
 have lt1 : ∀ x ∈ p1, x.block < W.heap.size := by obtain ⟨m, hm⟩ := k1; exact DataW.trod_lt m _ _ _ hm
 obtain ⟨c1, e1⟩ := mE (hval 1 26 v1 rfl rfl)
 subst e1
 obtain ⟨x1, y1⟩ := eK (α := SX) h1
 simp only [Value.cells] at y1
 clear hA0 hval0
 refine (iN W v0 c1 x0 x1 y0 y1).mono fun e W' ⟨he, hO⟩ => ?_
 have bel := hO.below
 subst he
 exact ⟨_, rfl, _, _, _, [], _, [], hW', trodAll_mk1 (shut_bool Tryz.underlying4 _), (trodAll_cons_mk (Below.trod laidOut AB (of_decide_eq_true AB) k0 bel lt0) (trodAll_cons_mk (Below.trod laidOut AB (of_decide_eq_true AB) k1 bel lt1) trodAll_mk0)), rfl, bel.frame _, fun h => by cases h⟩
theorem tK : Rows.storeTornRow.holds Tryz.pinned (OpenSpec.ofChange Rows.storeTornSpec) :=
 OpenClaim.holds_of_wide 3 Tryz.f3 rfl rfl rfl rfl rfl rfl rfl ⟨rfl, rfl, rfl, rfl, rfl⟩ rfl rfl rfl rfl rfl AB Tryz.func3 AB
  (of_decide_eq_true AB) (by unfold Func.isWrapper; first | (rw [if_pos (by decide +kernel)]; kernel_rfl) | (rw [if_neg (by decide +kernel)]; exact ⟨rfl, rfl⟩))
  (fun os started H enc _ => lifted os started H enc)
theorem proved : Rows.StoreTornSaid := tK
#print axioms proved
end Go.Proofs.YtjlolpmmpafjeaaGreat.storeTorn
