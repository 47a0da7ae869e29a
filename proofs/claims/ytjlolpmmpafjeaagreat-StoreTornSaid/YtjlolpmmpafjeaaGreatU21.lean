import Derived.Test.YtjlolpmmpafjeaaGreatU20
set_option linter.unusedVariables false
set_option linter.unusedSimpArgs false
namespace Go.Proofs.YtjlolpmmpafjeaaGreat
open CN
variable (D : Nat → Prop) (w : World)
theorem pZ {x y : FM} : GW x y < 0 ↔ x.2.1 < y.2.1 ∨ x.2.1 = y.2.1 ∧ (x.1.toNat : Int) < y.1.toNat := by
 unfold GW
 by_cases h : HY x.2.1 y.2.1 = 0
 ·rw [if_pos h, NB]
  have := OT.1 h
  omega
 rw [if_neg h, NB]
 have : ¬ x.2.1 = y.2.1 := fun e => h (OT.2 e)
 omega
theorem aS (x y : FM) : Calls Tryz.prog 108 #[.agg (BW x).toArray, .agg (BW y).toArray] w fun e w' => ∃ b : EX (GW x y < 0), e = .returned (.bool b.1) ∧ AH D w w' [] := by
 have hb := pZ (x := x) (y := y)
 refine BZ (vs := [.agg (BW x).toArray, .agg (BW y).toArray]) Tryz.func108 rfl _ Tryz.ntmps108 rfl (AH.start D w) ?_
 simp only [BX, Nat.zero_add]
 refine zg <| AV (EE rfl rfl) rfl rfl rfl fun b2 =>  ?_
 refine AV (EE rfl rfl) rfl rfl rfl fun b3 =>  ?_
 refine zs rfl <| zn <| zg <| zf rfl <| ?_
 refine zl rfl rfl <| zf rfl <| zl rfl rfl <| zv (B7 rfl rfl) <| zm rfl <| ?_
 refine DB (t := 10) rfl (fun h1 => ?_) (fun h1 => ?_)
 ·refine zo rfl rfl <| zo rfl rfl <| zo rfl rfl <| zo rfl rfl <| zo rfl rfl <| zo rfl rfl <| KN rfl rfl rfl rfl rfl <| KN rfl rfl rfl rfl rfl <| KN rfl rfl rfl rfl rfl <| KN rfl rfl rfl rfl rfl <| KN rfl rfl rfl rfl rfl <| zo rfl rfl <| ?_
  refine zv (BF rfl rfl) <| zs rfl <| zn <| zq <| ?_
  exact zz rfl rfl fun w' H' => ⟨bT (hb.2 (.inl h1)), rfl, H'.AK (AD.nil _)⟩
 refine AJ rfl rfl <| zf rfl <| AJ rfl rfl <| zl rfl rfl <| AJ rfl rfl <| zf rfl <| AJ rfl rfl <| zl rfl rfl <| AJ rfl rfl <| zv (CO rfl rfl) <| AJ rfl rfl <| zm rfl <| ?_
 refine DB (t := 16) rfl (fun h2 => ?_) (fun h2 => ?_)
 ·refine AJ rfl rfl <| zf rfl <| AJ rfl rfl <| zl rfl rfl <| AJ rfl rfl <| zf rfl <| AJ rfl rfl <| zl rfl rfl <| AJ rfl rfl <| zv (B7 rfl rfl) <| AJ rfl rfl <| zv (BF rfl rfl) <| ?_
  refine zv (A8 rfl rfl) <| zs rfl <| zn <| zq <| ?_
  exact zz rfl rfl fun w' H' => ⟨⟨decide ((x.1.toNat : Int) < y.1.toNat), by rw [decide_eq_true_iff, hb]; omega⟩, rfl, H'.AK (AD.nil _)⟩
 refine zo rfl rfl <| zo rfl rfl <| zo rfl rfl <| zo rfl rfl <| zo rfl rfl <| AJ rfl rfl <| zv (A8 rfl rfl) <| zv (A8 rfl rfl) <| zs rfl <| zn <| zq <| ?_
 exact zz rfl rfl fun w' H' => ⟨bF (fun h => by have := hb.1 h; omega), rfl, H'.AK (AD.nil _)⟩
def MF (v : EI) (port : Int) : Prop := 0 ≤ port ∧ port < 8 ∧ v.2.1.toNat / 2 ^ port.toNat % 2 = 1
theorem V5 (v : EI) (port : Int) (hi : DO port) : Calls Tryz.prog 106 #[.agg (BJ v).toArray, .int .i64 port] w fun e w' => ∃ b : EX (MF v port), e = .returned (.bool b.1) ∧ AH D w w' [] := by
 unfold DO at hi
 have hb := v.2.1.toNat_lt
 refine BZ (vs := [.agg (BJ v).toArray, .int .i64 port]) Tryz.func106 rfl _ Tryz.ntmps106 rfl (AH.start D w) ?_
 simp only [BX, Nat.zero_add]
 refine zg <| AV (EE rfl rfl) rfl rfl rfl fun b2 =>  ?_
 refine zs rfl <| zn <| zg <| zm rfl <| zv (GN rfl rfl) <| zm rfl <| DB (t := 7) rfl (fun h1 => ?_) (fun h1 => ?_)
 ·refine AJ rfl rfl <| zm rfl <| AJ rfl rfl <| zv (B7 rfl rfl) <| zv (BF rfl rfl) <| zm rfl <| DB (t := 11) rfl (fun h2 => ?_) (fun h2 => ?_)
  ·refine AJ rfl rfl <| zf rfl <| AJ rfl rfl <| zl rfl rfl <| AJ rfl rfl <| zm rfl <| AJ rfl rfl <| zv (CD rfl J2) <| ?_
   refine AJ rfl rfl <| AZ (JT (m := ((v.2.1.toNat / 2 ^ port.toNat : Nat) : Int)) rfl rfl AA (QH _ _ _ 8 AA)) rfl ?_
   refine AJ rfl rfl <| AZ (ZW (Nat.lt_of_le_of_lt (Nat.div_le_self _ _) hb) rfl rfl) rfl <| AJ rfl rfl <| zv (CO rfl rfl) <| zv (BF rfl rfl) <| zs rfl <| zn <| zq <| ?_
   exact zz rfl rfl fun w' H' => ⟨⟨decide (((v.2.1.toNat / 2 ^ port.toNat % 2 : Nat) : Int) = 1), by rw [decide_eq_true_iff]; exact ⟨fun h => ⟨h1, h2, by omega⟩, fun h => by have := h.2.2; omega⟩⟩, rfl, H'.AK (AD.nil _)⟩
  refine zo rfl rfl <| zo rfl rfl <| zo rfl rfl <| zo rfl rfl <| zo rfl rfl <| zo rfl rfl <| zo rfl rfl <| zv (A8 rfl rfl) <| zs rfl <| zn <| zq <| ?_
  exact zz rfl rfl fun w' H' => ⟨bF (fun h => h2 h.2.1), rfl, H'.AK (AD.nil _)⟩
 refine zo rfl rfl <| zo rfl rfl <| zv (A8 rfl rfl) <| zm rfl <| zo rfl rfl <| zo rfl rfl <| zo rfl rfl <| zo rfl rfl <| zo rfl rfl <| zo rfl rfl <| zo rfl rfl <| zv (A8 rfl rfl) <| zs rfl <| zn <| zq <| ?_
 exact zz rfl rfl fun w' H' => ⟨bF (fun h => h1 h.1), rfl, H'.AK (AD.nil _)⟩
abbrev U1 (l : List EI) (id : Int) := { r : Int // (r = -1 ∧ ∀ i (h : i < l.length), l[i].1 ≠ id) ∨ ∃ i : Nat, ∃ h : i < l.length, r = (i : Int) ∧ l[i].1 = id }
theorem WC (c : CA) (vp vv vs : Value) (id : Int) (l : List EI) (hl : c.2.2.2.2.1 = l) (hlv : l.length ≤ 1000) (HV : Old D w (AX.rep l [vv])) :
  Calls Tryz.prog 107 #[.agg (C9 c vp vv vs).toArray, .int .i64 id] w fun e w' => ∃ r : U1 l id, e = .returned (.int .i64 r.1) ∧ AH D w w' [] := by
 obtain ⟨Av, capv, rfl, hv1, hv2, HSv, hvok⟩ := HV.EG
 have HSv : CS D w Av (l.flatMap BJ) := HSv
 refine BZ (vs := [.agg (C9 c vp (.slice Av l.length capv) vs).toArray, .int .i64 id]) Tryz.func107 rfl _ Tryz.ntmps107 rfl (AH.start D w) ?_
 simp only [BX, Nat.zero_add]
 refine zg <| AV (EE rfl rfl) rfl rfl rfl fun b2 =>  ?_
 refine zs rfl <| zn <| AG <| zg <| zs rfl <| zn <| BK <| JP (σ := Nat) [1, 2] rfl 5 (fun i => .int .i64 (i : Int)) (fun i => i ≤ l.length ∧ ∀ j (h : j < l.length), j < i → l[j].1 ≠ id) (fun i => l.length - i) (0) (⟨Nat.zero_le _, fun j _ h => absurd h (Nat.not_lt_zero _)⟩) rfl ?_
 rintro i ⟨hi, hall⟩ K1 hK1
 refine AG <| zg <| zm rfl <| zf rfl <| zl rfl rfl <| ?_
 refine zv BN <| ?_
 refine zv (B7 rfl rfl) <| zn <| BP rfl (fun h => ?_) (fun h => ?_)
 ·have hlt : i < l.length := by omega
  have hc := CS.EP (D := D) (w0 := w) (f := BJ) (sz := 3) (fun _ => rfl) AF HSv hlt
  have hA := (hc []).1
  have hcl := fun l' => (hc l').2.cell (i := 0) (v := .int .i64 l[i].1) rfl
  have hnext : l[i].1 ≠ id → ∀ j (h : j < l.length), j < i + 1 → l[j].1 ≠ id := fun hx j hj h1 => by
   rcases Nat.lt_or_ge j i with h3 | h3
   ·exact hall j hj h3
   ·obtain rfl : j = i := by omega
    exact hx
  refine zk <| AG <| BK <| zg <| zf rfl <| zl rfl rfl <| zm rfl <| zv (CZ rfl DP rfl _ rfl AA) <| zf rfl <| zv Z9 <| ?_
  refine zm rfl <| zv (CO rfl rfl) <| zn <| BP rfl (fun h2 => ?_) (fun h2 => ?_)
  ·refine zg <| zm rfl <| zs rfl <| zn <| zq <| B4 <| zr <| zr <| B4 <| zr <| ?_
   exact zz rfl rfl fun w' H' => ⟨⟨(i : Int), .inr ⟨i, hlt, rfl, h2⟩⟩, rfl, H'.AK (AD.nil _)⟩
  have hn := hnext h2
  refine C3 <| zb <| zt <| AR <| zm rfl <| zv (BM rfl rfl BO) <| ?_
  refine zs rfl <| AS <| B5 hK1 (i + 1) (⟨hlt, hn⟩) AA BD BL
 have hall' : ∀ i (h : i < l.length), l[i].1 ≠ id := fun j hj => hall j hj AA
 refine CF <| ze <| ze <| CE <| zt <| AG <| AR <| zs rfl <| zn <| zq <| ?_
 exact zz rfl rfl fun w' H' => ⟨⟨-1, .inl ⟨rfl, hall'⟩⟩, rfl, H'.AK (AD.nil _)⟩
theorem mF : ∀ n : Fin 9, ∀ b : Fin 256, (∀ p : Fin 8, n.val ≤ p.val → b.val / 2 ^ p.val % 2 ≠ 1) ↔ b.val < 2 ^ n.val := by decide +kernel
theorem T3 {n : Nat} (hn : n ≤ 8) (v : EI) : (∀ p : Nat, n ≤ p → p < 8 → ¬ MF v p) ↔ v.2.1.toNat < 2 ^ n := by
 rw [← mF ⟨n, by omega⟩ ⟨v.2.1.toNat, v.2.1.toNat_lt⟩]
 constructor
 ·intro h p hp e
  exact h p.1 hp p.2 ⟨by omega, by have := p.2; omega, e⟩
 intro h p hp h8 ⟨_, _, e⟩
 exact h ⟨p, h8⟩ hp e
theorem WD (c : CA) (vp vv vs : Value) (H : ER D w c vp vv vs) :
  Calls Tryz.prog 66 #[.agg (C9 c vp vv vs).toArray] w fun e w' => ∃ b : EX (C4 c), e = .returned (.bool b.1) ∧ AH D w w' [] := by
 have HV := H.v
 have hlv := H.lv
 have hlp := H.lp
 have hls := H.ls
 have i1 := H.i1
 have i2 := H.i2
 have i3 := H.i3
 unfold DO at i1 i2 i3
 obtain ⟨Ap, capp, rfl, hp1, hp2, HSp, hpok⟩ := H.p.EG
 have HSp : CS D w Ap (c.2.2.2.1.flatMap CJ) := HSp
 obtain ⟨Av, capv, rfl, hv1, hv2, HSv, hvok⟩ := H.v.EG
 have HSv : CS D w Av (c.2.2.2.2.1.flatMap BJ) := HSv
 obtain ⟨As, caps, rfl, hs1, hs2, HSs, hsok⟩ := H.s.EG
 have HSs : CS D w As (c.2.2.2.2.2.flatMap BW) := HSs
 clear H
 obtain ⟨P, hP⟩ : ∃ l, c.2.2.2.1 = l := ⟨_, rfl⟩
 obtain ⟨V, hV⟩ : ∃ l, c.2.2.2.2.1 = l := ⟨_, rfl⟩
 obtain ⟨S, hS⟩ : ∃ l, c.2.2.2.2.2 = l := ⟨_, rfl⟩
 obtain ⟨np, hnp⟩ : ∃ n, P.length = n := ⟨_, rfl⟩
 have hG : C4 c ↔ K8 c ∧ (1 ≤ V.length ∧ V.length ≤ 16 ∧ (∀ i (h : i < V.length), K9 np V[i]) ∧ HW cV V) ∧ (1 ≤ np ∧ np ≤ 8 ∧ ∀ i (h : i < P.length), K7 V P[i]) ∧ S.length ≤ 16 ∧ HW GW S ∧ ∀ i (h : i < S.length), H9 np V S[i] := by
  subst hP; subst hV; subst hS; subst hnp; exact Iff.rfl
 rw [hP] at HSp hlp hp1 ⊢
 rw [hV] at HSv hlv hv1 HV ⊢
 rw [hS] at HSs hls hs1 hsok ⊢
 rw [hnp] at hlp hp1 ⊢
 have hsok : ∀ x ∈ S, DO x.2.1 ∧ DO x.2.2 := hsok
 refine BZ (vs := [.agg (C9 c (.slice Ap np capp) (.slice Av V.length capv) (.slice As S.length caps)).toArray]) Tryz.func66 rfl _ Tryz.ntmps66 rfl (AH.start D w) ?_
 simp only [BX, Nat.zero_add]
 refine zg <| AV (EE rfl rfl) rfl rfl rfl fun b1 =>  ?_
 refine zs rfl <| zn <| AG <| zg <| zf rfl <| zl rfl rfl <| zv (B7 rfl rfl) <| zm rfl <| ?_
 refine DB (t := 13) rfl (fun h1 => ?_) (fun h1 => ?_)
 ·have hno : ¬ C4 c := fun h => by have h := (hG.1 h); have := h.1.1; omega
  refine zo rfl rfl <| zo rfl rfl <| zo rfl rfl <| zv (BF rfl rfl) <| zm rfl <| zo rfl rfl <| zo rfl rfl <| zo rfl rfl <| zo rfl rfl <| zv (BF rfl rfl) <| zm rfl <| zo rfl rfl <| zo rfl rfl <| zo rfl rfl <| zv (BF rfl rfl) <| zm rfl <| zo rfl rfl <| zo rfl rfl <| zo rfl rfl <| zv (BF rfl rfl) <| zm rfl <| zo rfl rfl <| zo rfl rfl <| zo rfl rfl <| zv (BF rfl rfl) <| zm rfl <| zo rfl rfl <| zo rfl rfl <| zo rfl rfl <| zv (BF rfl rfl) <| zm rfl <| zo rfl rfl <| zo rfl rfl <| zo rfl rfl <| zo rfl rfl <| zo rfl rfl <| ?_
  refine zo rfl rfl <| zo rfl rfl <| zv (BF rfl rfl) <| zn <| DD rfl <| zg <| zs rfl <| zn <| zq <| zr <| ?_
  exact zz rfl rfl fun w' H' => ⟨bF hno, rfl, H'.AK (AD.nil _)⟩
 skip
 refine AJ rfl rfl <| zf rfl <| AJ rfl rfl <| zl rfl rfl <| AJ rfl rfl <| zv (DV rfl rfl) <| zv (A8 rfl rfl) <| zm rfl <| ?_
 refine DB (t := 18) rfl (fun h2 => ?_) (fun h2 => ?_)
 ·have hno : ¬ C4 c := fun h => by have h := (hG.1 h); have := h.1.2.1; omega
  refine zo rfl rfl <| zo rfl rfl <| zo rfl rfl <| zo rfl rfl <| zv (BF rfl rfl) <| zm rfl <| zo rfl rfl <| zo rfl rfl <| zo rfl rfl <| zv (BF rfl rfl) <| zm rfl <| zo rfl rfl <| zo rfl rfl <| zo rfl rfl <| zv (BF rfl rfl) <| zm rfl <| zo rfl rfl <| zo rfl rfl <| zo rfl rfl <| zv (BF rfl rfl) <| zm rfl <| zo rfl rfl <| zo rfl rfl <| zo rfl rfl <| zv (BF rfl rfl) <| zm rfl <| zo rfl rfl <| zo rfl rfl <| zo rfl rfl <| zo rfl rfl <| zo rfl rfl <| zo rfl rfl <| zo rfl rfl <| zv (BF rfl rfl) <| zn <| DD rfl <| zg <| zs rfl <| zn <| ?_
  refine zq <| zr <| ?_
  exact zz rfl rfl fun w' H' => ⟨bF hno, rfl, H'.AK (AD.nil _)⟩
 skip
 refine AJ rfl rfl <| zf rfl <| AJ rfl rfl <| zl rfl rfl <| ?_
 refine AJ rfl rfl <| AZ (RE (m := c.1 % 4096) rfl rfl AF (Int.tmod_eq_emod_of_nonneg AA)) rfl ?_
 refine AJ rfl rfl <| zv (CG rfl rfl) <| zv (A8 rfl rfl) <| zm rfl <| DB (t := 24) rfl (fun h3 => ?_) (fun h3 => ?_)
 ·have hno : ¬ C4 c := fun h => by have h := (hG.1 h); have := h.1.2.2.1; omega
  refine zo rfl rfl <| zo rfl rfl <| zo rfl rfl <| zv (BF rfl rfl) <| zm rfl <| zo rfl rfl <| zo rfl rfl <| zo rfl rfl <| zv (BF rfl rfl) <| zm rfl <| zo rfl rfl <| zo rfl rfl <| zo rfl rfl <| zv (BF rfl rfl) <| zm rfl <| zo rfl rfl <| zo rfl rfl <| zo rfl rfl <| zv (BF rfl rfl) <| zm rfl <| zo rfl rfl <| zo rfl rfl <| zo rfl rfl <| zo rfl rfl <| zo rfl rfl <| zo rfl rfl <| zo rfl rfl <| zv (BF rfl rfl) <| zn <| DD rfl <| zg <| zs rfl <| zn <| zq <| zr <| ?_
  exact zz rfl rfl fun w' H' => ⟨bF hno, rfl, H'.AK (AD.nil _)⟩
 skip
 refine AJ rfl rfl <| zf rfl <| AJ rfl rfl <| zl rfl rfl <| AJ rfl rfl <| zv (B7 rfl rfl) <| zv (A8 rfl rfl) <| zm rfl <| ?_
 refine DB (t := 29) rfl (fun h4 => ?_) (fun h4 => ?_)
 ·have hno : ¬ C4 c := fun h => by have h := (hG.1 h); have := h.1.2.2.2.1; omega
  refine zo rfl rfl <| zo rfl rfl <| zo rfl rfl <| zv (BF rfl rfl) <| zm rfl <| zo rfl rfl <| zo rfl rfl <| zo rfl rfl <| zv (BF rfl rfl) <| zm rfl <| zo rfl rfl <| zo rfl rfl <| zo rfl rfl <| zv (BF rfl rfl) <| zm rfl <| zo rfl rfl <| zo rfl rfl <| zo rfl rfl <| zo rfl rfl <| zo rfl rfl <| zo rfl rfl <| zo rfl rfl <| zv (BF rfl rfl) <| AS <| zt <| DD rfl <| zg <| zs rfl <| AS <| zt <| zq <| zr <| ?_
  exact zz rfl rfl fun w' H' => ⟨bF hno, rfl, H'.AK (AD.nil _)⟩
 skip
 refine AJ rfl rfl <| zf rfl <| AJ rfl rfl <| zl rfl rfl <| AJ rfl rfl <| zv (DV rfl rfl) <| zv (A8 rfl rfl) <| zm rfl <| ?_
 refine DB (t := 34) rfl (fun h5 => ?_) (fun h5 => ?_)
 ·have hno : ¬ C4 c := fun h => by have h := (hG.1 h); have := h.1.2.2.2.2.1; omega
  refine zo rfl rfl <| zo rfl rfl <| zo rfl rfl <| zv (BF rfl rfl) <| zm rfl <| zo rfl rfl <| zo rfl rfl <| zo rfl rfl <| zv (BF rfl rfl) <| zm rfl <| zo rfl rfl <| zo rfl rfl <| zo rfl rfl <| zo rfl rfl <| zo rfl rfl <| zo rfl rfl <| zo rfl rfl <| zv (BF rfl rfl) <| zn <| DD rfl <| zg <| zs rfl <| zn <| zq <| zr <| ?_
  exact zz rfl rfl fun w' H' => ⟨bF hno, rfl, H'.AK (AD.nil _)⟩
 skip
 refine AJ rfl rfl <| zf rfl <| AJ rfl rfl <| zl rfl rfl <| AJ rfl rfl <| zv (B7 rfl rfl) <| zv (A8 rfl rfl) <| zm rfl <| ?_
 refine DB (t := 39) rfl (fun h6 => ?_) (fun h6 => ?_)
 ·have hno : ¬ C4 c := fun h => by have h := (hG.1 h); have := h.1.2.2.2.2.2.1; omega
  refine zo rfl rfl <| zo rfl rfl <| zo rfl rfl <| zv (BF rfl rfl) <| zm rfl <| zo rfl rfl <| zo rfl rfl <| zo rfl rfl <| zo rfl rfl <| zo rfl rfl <| zo rfl rfl <| zo rfl rfl <| zv (BF rfl rfl) <| zn <| DD rfl <| zg <| zs rfl <| zn <| zq <| zr <| ?_
  exact zz rfl rfl fun w' H' => ⟨bF hno, rfl, H'.AK (AD.nil _)⟩
 skip
 refine AJ rfl rfl <| zf rfl <| AJ rfl rfl <| zl rfl rfl <| AJ rfl rfl <| zv (DV rfl rfl) <| zv (A8 rfl rfl) <| zm rfl <| ?_
 refine DB (t := 44) rfl (fun h7 => ?_) (fun h7 => ?_)
 ·have hno : ¬ C4 c := fun h => by have h := (hG.1 h); have := h.1.2.2.2.2.2.2.1; omega
  refine zo rfl rfl <| zo rfl rfl <| zo rfl rfl <| zo rfl rfl <| zo rfl rfl <| zo rfl rfl <| zo rfl rfl <| zv (BF rfl rfl) <| zn <| DD rfl <| AG <| AR <| zs rfl <| zn <| zq <| zr <| ?_
  exact zz rfl rfl fun w' H' => ⟨bF hno, rfl, H'.AK (AD.nil _)⟩
 skip
 refine AJ rfl rfl <| zf rfl <| AJ rfl rfl <| zl rfl rfl <| ?_
 refine AJ rfl rfl <| AZ (FY (m := c.2.2.1 - 1) rfl rfl VE) rfl ?_
 refine AJ rfl rfl <| AZ (P8 (m := 2 * (c.2.2.1 - 1)) rfl rfl VE) rfl ?_
 refine AJ rfl rfl <| zf rfl <| AJ rfl rfl <| zl rfl rfl <| AJ rfl rfl <| zv (B7 rfl rfl) <| zv (A8 rfl rfl) <| zn <| ?_
 refine BP rfl (fun h8 => ?_) (fun h8 => ?_)
 ·have hno : ¬ C4 c := fun h => by have h := (hG.1 h); have := h.1.2.2.2.2.2.2.2; omega
  refine zg <| zs rfl <| zn <| zq <| zr <| ?_
  exact zz rfl rfl fun w' H' => ⟨bF hno, rfl, H'.AK (AD.nil _)⟩
 have ht : K8 c := ⟨by omega, by omega, by omega, by omega, by omega, by omega, by omega, by omega⟩
 clear h1 h2 h3 h4 h5 h6 h7 h8
 refine zk <| AG <| zg <| zf rfl <| ?_
 refine zl rfl rfl <| zv BN <| ?_
 refine zv (B7 rfl rfl) <| zm rfl <| DB (t := 57) rfl (fun k1 => ?_) (fun k1 => ?_)
 ·have hno : ¬ C4 c := fun h => by have h := (hG.1 h); have := h.2.2.1.1; omega
  refine zo rfl rfl <| zo rfl rfl <| zo rfl rfl <| zo rfl rfl <| zv (BF rfl rfl) <| zm rfl <| zo rfl rfl <| zo rfl rfl <| zo rfl rfl <| zo rfl rfl <| zv (BF rfl rfl) <| zm rfl <| zo rfl rfl <| zo rfl rfl <| zo rfl rfl <| zo rfl rfl <| zv (BF rfl rfl) <| zm rfl <| zo rfl rfl <| zo rfl rfl <| zo rfl rfl <| zo rfl rfl <| zv (BF rfl rfl) <| AS <| zt <| DD rfl <| zg <| zs rfl <| AS <| zt <| zq <| zr <| ?_
  exact zz rfl rfl fun w' H' => ⟨bF hno, rfl, H'.AK (AD.nil _)⟩
 skip
 refine AJ rfl rfl <| zf rfl <| AJ rfl rfl <| zl rfl rfl <| AJ rfl rfl <| zv BN <| ?_
 refine AJ rfl rfl <| zv (DV rfl rfl) <| zv (A8 rfl rfl) <| zm rfl <| DB (t := 63) rfl (fun k2 => ?_) (fun k2 => ?_)
 ·have hno : ¬ C4 c := fun h => by have h := (hG.1 h); have := h.2.2.1.2.1; omega
  refine zo rfl rfl <| zo rfl rfl <| zo rfl rfl <| zo rfl rfl <| zv (BF rfl rfl) <| zm rfl <| zo rfl rfl <| zo rfl rfl <| zo rfl rfl <| zo rfl rfl <| zv (BF rfl rfl) <| zm rfl <| zo rfl rfl <| zo rfl rfl <| zo rfl rfl <| zo rfl rfl <| zv (BF rfl rfl) <| AS <| zt <| DD rfl <| zg <| zs rfl <| AS <| zt <| zq <| zr <| ?_
  exact zz rfl rfl fun w' H' => ⟨bF hno, rfl, H'.AK (AD.nil _)⟩
 skip
 refine AJ rfl rfl <| zf rfl <| AJ rfl rfl <| zl rfl rfl <| AJ rfl rfl <| zv BN <| ?_
 refine AJ rfl rfl <| zv (B7 rfl rfl) <| zv (A8 rfl rfl) <| zm rfl <| DB (t := 69) rfl (fun k3 => ?_) (fun k3 => ?_)
 ·have hno : ¬ C4 c := fun h => by have h := (hG.1 h); have := h.2.1.1; omega
  refine zo rfl rfl <| zo rfl rfl <| zo rfl rfl <| zo rfl rfl <| zv (BF rfl rfl) <| zm rfl <| zo rfl rfl <| zo rfl rfl <| zo rfl rfl <| zo rfl rfl <| zv (BF rfl rfl) <| AS <| zt <| DD rfl <| zg <| zs rfl <| AS <| zt <| zq <| zr <| ?_
  exact zz rfl rfl fun w' H' => ⟨bF hno, rfl, H'.AK (AD.nil _)⟩
 skip
 refine AJ rfl rfl <| zf rfl <| AJ rfl rfl <| zl rfl rfl <| AJ rfl rfl <| zv BN <| ?_
 refine AJ rfl rfl <| zv (DV rfl rfl) <| zv (A8 rfl rfl) <| zm rfl <| DB (t := 75) rfl (fun k4 => ?_) (fun k4 => ?_)
 ·have hno : ¬ C4 c := fun h => by have h := (hG.1 h); have := h.2.1.2.1; omega
  refine zo rfl rfl <| zo rfl rfl <| zo rfl rfl <| zo rfl rfl <| zv (BF rfl rfl) <| AS <| zt <| DD rfl <| zg <| zs rfl <| AS <| zt <| zq <| zr <| ?_
  exact zz rfl rfl fun w' H' => ⟨bF hno, rfl, H'.AK (AD.nil _)⟩
 skip
 refine AJ rfl rfl <| zf rfl <| AJ rfl rfl <| zl rfl rfl <| AJ rfl rfl <| zv BN <| ?_
 refine AJ rfl rfl <| zv (DV rfl rfl) <| zv (A8 rfl rfl) <| zn <| BP rfl (fun k5 => ?_) (fun k5 => ?_)
 ·have hno : ¬ C4 c := fun h => by have h := (hG.1 h); have := h.2.2.2.1; omega
  refine zg <| zs rfl <| zn <| zq <| zr <| ?_
  exact zz rfl rfl fun w' H' => ⟨bF hno, rfl, H'.AK (AD.nil _)⟩
 skip
 refine zk <| AG <| zg <| zs rfl <| zn <| BK <| ?_
 have hnp8 : np ≤ 8 := by omega
 refine JP (σ := Nat) [1] rfl 3 (fun i => .int .i64 (i : Int)) (fun i => i ≤ V.length ∧ ∀ j (h : j < V.length), j < i → K9 np V[j] ∧ (0 < j → (V[j - 1]'(by omega)).1 < V[j].1)) (fun i => V.length - i) (0) (⟨Nat.zero_le _, fun j _ h => absurd h (Nat.not_lt_zero _)⟩) rfl ?_
 rintro i ⟨hi, hall⟩ K1 hK1
 refine AG <| zg <| zm rfl <| zf rfl <| zl rfl rfl <| ?_
 refine zv BN <| ?_
 refine zv (B7 rfl rfl) <| zn <| BP rfl (fun h => ?_) (fun h => ?_)
 ·have hlt : i < V.length := by omega
  have hc := CS.EP (D := D) (w0 := w) (f := BJ) (sz := 3) (fun _ => rfl) AF HSv hlt
  have hA := (hc []).1
  have hbad : ¬ (K9 np V[i] ∧ (0 < i → (V[i - 1]'(by omega)).1 < V[i].1)) → ¬ C4 c := fun hx h => hx ⟨(hG.1 h).2.1.2.2.1 i hlt, fun h0 => NB.1 ((hG.1 h).2.1.2.2.2 i hlt h0)⟩
  have hnext : (K9 np V[i] ∧ (0 < i → (V[i - 1]'(by omega)).1 < V[i].1)) → ∀ j (h : j < V.length), j < i + 1 → K9 np V[j] ∧ (0 < j → (V[j - 1]'(by omega)).1 < V[j].1) := fun hx j hj h1 => by
   rcases Nat.lt_or_ge j i with h3 | h3
   ·exact hall j hj h3
   ·obtain rfl : j = i := by omega
    exact hx
  have hcl := fun l' => (CS.EP (D := D) (w0 := w) (f := BJ) (sz := 3) (fun _ => rfl) AF HSv (show i - 1 < V.length by omega) l').2.cell (i := 0) (v := .int .i64 (V[i - 1]'(by omega)).1) rfl
  generalize V[i] = x at *
  generalize hy : (V[i - 1]'(by omega)) = y at *
  have hb1 := x.2.1.toNat_lt
  refine zk <| AG <| BK <| zg <| zf rfl <| zl rfl rfl <| zm rfl <| zv (CZ rfl DP rfl _ rfl AA) <| ?_
  refine AZ (D4 (cs := BJ x) rfl rfl (hc _).2) rfl <| AV (B9) rfl rfl rfl fun b4 =>  ?_
  refine A6 (CV (vs := BJ x) rfl rfl (by simp) (by simp) HZ) rfl rfl ?_
  refine zn <| AG <| AG <| GM mixed AB <| AM (AP rfl) rfl <| ?_
  refine AM (zw rfl rfl) rfl <| AM (B7 rfl rfl) rfl <| AM (AO rfl) rfl <| ?_
  refine JC (t := 96) rfl (fun a1 => ?_) (fun a1 => ?_)
  ·have hno := hbad fun h => by have := h.1.1; omega
   refine BG rfl rfl rfl rfl rfl rfl <| BG rfl rfl rfl rfl rfl rfl <| BG rfl rfl rfl rfl rfl rfl <| AM (BF rfl rfl) rfl <| AM (AO rfl) rfl <| BG rfl rfl rfl rfl rfl rfl <| ?_
   refine BG rfl rfl rfl rfl rfl rfl <| BG rfl rfl rfl rfl rfl rfl <| DM rfl rfl rfl rfl rfl <| DM rfl rfl rfl rfl rfl <| DM rfl rfl rfl rfl rfl <| DM rfl rfl rfl rfl rfl <| ?_
   refine DM rfl rfl rfl rfl rfl <| DM rfl rfl rfl rfl rfl <| DM rfl rfl rfl rfl rfl <| DM rfl rfl rfl rfl rfl <| DM rfl rfl rfl rfl rfl <| DM rfl rfl rfl rfl rfl <| ?_
   refine BG rfl rfl rfl rfl rfl rfl <| AM (BF rfl rfl) rfl <| AM (AO rfl) rfl <| BG rfl rfl rfl rfl rfl rfl <| BG rfl rfl rfl rfl rfl rfl <| BG rfl rfl rfl rfl rfl rfl <| ?_
   refine BG rfl rfl rfl rfl rfl rfl <| BG rfl rfl rfl rfl rfl rfl <| BG rfl rfl rfl rfl rfl rfl <| AM (BF rfl rfl) rfl <| EM <| zt <| ?_
   refine DD rfl <| zg <| zs rfl <| zn <| zq <| zr <| B4 <| zr <| zr <| B4 <| zr <| ?_
   exact zz rfl rfl fun w' H' => ⟨bF hno, rfl, H'.AK (AD.nil _)⟩
  refine B6 rfl rfl <| AM (AP rfl) rfl <| B6 rfl rfl <| AM (zw rfl rfl) rfl <| B6 rfl rfl <| AM (DV rfl rfl) rfl <| AM (A8 rfl rfl) rfl <| AM (AO rfl) rfl <| ?_
  refine JC (t := 101) rfl (fun a2 => ?_) (fun a2 => ?_)
  ·have hno := hbad fun h => by have := h.1.2.1; omega
   refine BG rfl rfl rfl rfl rfl rfl <| BG rfl rfl rfl rfl rfl rfl <| BG rfl rfl rfl rfl rfl rfl <| DM rfl rfl rfl rfl rfl <| DM rfl rfl rfl rfl rfl <| DM rfl rfl rfl rfl rfl <| ?_
   refine DM rfl rfl rfl rfl rfl <| DM rfl rfl rfl rfl rfl <| DM rfl rfl rfl rfl rfl <| DM rfl rfl rfl rfl rfl <| DM rfl rfl rfl rfl rfl <| DM rfl rfl rfl rfl rfl <| ?_
   refine DM rfl rfl rfl rfl rfl <| BG rfl rfl rfl rfl rfl rfl <| AM (BF rfl rfl) rfl <| AM (AO rfl) rfl <| BG rfl rfl rfl rfl rfl rfl <| BG rfl rfl rfl rfl rfl rfl <| ?_
   refine BG rfl rfl rfl rfl rfl rfl <| BG rfl rfl rfl rfl rfl rfl <| BG rfl rfl rfl rfl rfl rfl <| BG rfl rfl rfl rfl rfl rfl <| AM (BF rfl rfl) rfl <| EM <| ?_
   refine zt <| DD rfl <| zg <| zs rfl <| AS <| zt <| zq <| zr <| B4 <| zr <| zr <| B4 <| zr <| ?_
   exact zz rfl rfl fun w' H' => ⟨bF hno, rfl, H'.AK (AD.nil _)⟩
  refine B6 rfl rfl <| AM (AO rfl) rfl <| B6 rfl rfl <| AM (DV rfl rfl) rfl <| B6 rfl rfl <| AM (AO rfl) rfl <| ?_
  refine JC (t := 104) rfl (fun a3 => ?_) (fun a3 => ?_)
  ·refine B6 rfl rfl <| AM (AP rfl) rfl <| B6 rfl rfl <| AM (zw rfl rfl) rfl <| B6 rfl rfl <| AM (AP rfl) rfl <| B6 rfl rfl <| AM (zw rfl rfl) rfl <| B6 rfl rfl <| AM (AO rfl) rfl <| B6 rfl rfl <| AM (FY rfl rfl BO) rfl <| ?_
   refine B6 rfl rfl <| AM (CZ rfl hA rfl (i - 1) AA AA) rfl ?_
   refine B6 rfl rfl <| AM (AP rfl) rfl <| B6 rfl rfl <| AM Z9 rfl <| ?_
   refine B6 rfl rfl <| AM (LB rfl rfl) rfl <| B6 rfl rfl <| AM (BF rfl rfl) rfl <| AM (A8 rfl rfl) rfl <| AM (AO rfl) rfl <| ?_
   refine JC (t := 117) rfl (fun a4 => ?_) (fun a4 => ?_)
   ·have hno := hbad fun h => by have := h.2 AA; omega
    refine BG rfl rfl rfl rfl rfl rfl <| BG rfl rfl rfl rfl rfl rfl <| BG rfl rfl rfl rfl rfl rfl <| BG rfl rfl rfl rfl rfl rfl <| BG rfl rfl rfl rfl rfl rfl <| BG rfl rfl rfl rfl rfl rfl <| ?_
    refine AM (BF rfl rfl) rfl <| EM <| zt <| DD rfl <| zg <| ?_
    refine zs rfl <| zn <| zq <| zr <| B4 <| zr <| zr <| B4 <| zr <| ?_
    exact zz rfl rfl fun w' H' => ⟨bF hno, rfl, H'.AK (AD.nil _)⟩
   have hris : 0 < i → y.1 < x.1 := fun _ => by omega
   refine B6 rfl rfl <| AM (AP rfl) rfl <| B6 rfl rfl <| AM (zw rfl rfl) rfl <| B6 rfl rfl <| AM (AP rfl) rfl <| B6 rfl rfl <| AM (zw rfl rfl) rfl <| ?_
   refine B6 rfl rfl <| AM (VT (a := x.2.2) (b := x.2.1) rfl rfl) rfl ?_
   refine B6 rfl rfl <| AM (CG rfl rfl) rfl <| AM (A8 rfl rfl) rfl <| EM <| zt <| ?_
   refine BP rfl (fun a5 => ?_) (fun a5 => ?_)
   ·have hno := hbad fun h => a5 (by rw [h.1.2.2.2]; rfl)
    refine zg <| zs rfl <| zn <| zq <| zr <| B4 <| zr <| zr <| B4 <| zr <| ?_
    exact zz rfl rfl fun w' H' => ⟨bF hno, rfl, H'.AK (AD.nil _)⟩
   have h5 : x.2.2 &&& ~~~ x.2.1 = 0 := UInt8.toNat_inj.1 (by have := Classical.not_not.1 a5; simp only [UInt8.toNat_zero]; omega)
   refine zk <| zg <| zf rfl <| zl rfl rfl <| ?_
   refine zv BN <| ?_
   refine zs rfl <| zn <| BK <| JP (σ := Nat) [1, 3, 4] rfl 5 (fun p => .int .i64 (p : Int)) (fun p => (np ≤ p ∧ p ≤ 8) ∧ ∀ q : Nat, np ≤ q → q < p → ¬ MF x q) (fun p => 8 - p) (np) (⟨⟨Nat.le_refl _, by omega⟩, fun q h1 h2 => absurd h2 AA⟩) rfl ?_
   rintro p ⟨⟨hp1, hp2⟩, hpm⟩ K2 hK2
   refine AG <| zg <| zm rfl <| zv (B7 rfl rfl) <| AS <| zt <| BP rfl (fun b1 => ?_) (fun b1 => ?_)
   ·refine zk <| AG <| BK <| zg <| zv DY <| ?_
    refine zm rfl <| CQ (σ := EX (MF x p)) Tryz.call106 rfl rfl (fun w1 => zu fun D' _ _ _ => V5 D' w1 x p (by unfold DO; omega)) ?_
    intro r
    try rw [List.nil_append]
    refine zn <| FW rfl (fun b2 => ?_) (fun b2 => ?_)
    ·have hno := hbad fun h => (T3 hnp8 x).2 h.1.2.2.1 p hp1 AA (r.2.1 b2)
     refine zg <| zs rfl <| zn <| zq <| B4 <| zr <| zr <| B4 <| B4 <| zr <| zr <| B4 <| zr <| ?_
     exact zz rfl rfl fun w' H' => ⟨bF hno, rfl, H'.AK (AD.nil _)⟩
    have hnm : ¬ MF x p := fun h => by have := r.2.2 h; rw [this] at b2; cases b2
    have hpm' : ∀ q : Nat, np ≤ q → q < p + 1 → ¬ MF x q := fun q h1 h2 => by
     rcases Nat.lt_or_ge q p with h3 | h3
     ·exact hpm q h1 h3
     ·obtain rfl : q = p := by omega
      exact hnm
    refine C3 <| zb <| zt <| AR <| zm rfl <| zv (BM rfl rfl BO) <| ?_
    refine zs rfl <| AS <| B5 hK2 (p + 1) (⟨⟨by omega, by omega⟩, hpm'⟩) AA BD BL
   have h6 : x.2.1.toNat < 2 ^ np := (T3 hnp8 x).1 fun q h1 h2 => hpm q h1 AA
   have hn := hnext ⟨⟨by omega, by omega, h6, h5⟩, hris⟩
   refine CF <| ze <| ze <| CE <| zb <| zt <| AR <| zm rfl <| zv (BM rfl rfl BO) <| ?_
   refine zs rfl <| AS <| B5 hK1 (i + 1) (⟨hlt, hn⟩) AA BD BL
  have hris : 0 < i → y.1 < x.1 := fun h => absurd h AA
  refine BG rfl rfl rfl rfl rfl rfl <| BG rfl rfl rfl rfl rfl rfl <| BG rfl rfl rfl rfl rfl rfl <| BG rfl rfl rfl rfl rfl rfl <| BG rfl rfl rfl rfl rfl rfl <| BG rfl rfl rfl rfl rfl rfl <| ?_
  refine BG rfl rfl rfl rfl rfl rfl <| BG rfl rfl rfl rfl rfl rfl <| BG rfl rfl rfl rfl rfl rfl <| BG rfl rfl rfl rfl rfl rfl <| B6 rfl rfl <| AM (A8 rfl rfl) rfl <| AM (A8 rfl rfl) rfl <| ?_
  refine AM (AO rfl) rfl <| B6 rfl rfl <| AM (AP rfl) rfl <| B6 rfl rfl <| AM (zw rfl rfl) rfl <| B6 rfl rfl <| AM (AP rfl) rfl <| B6 rfl rfl <| AM (zw rfl rfl) rfl <| ?_
  refine B6 rfl rfl <| AM (VT (a := x.2.2) (b := x.2.1) rfl rfl) rfl ?_
  refine B6 rfl rfl <| AM (CG rfl rfl) rfl <| AM (A8 rfl rfl) rfl <| EM <| zt <| ?_
  refine BP rfl (fun a5 => ?_) (fun a5 => ?_)
  ·have hno := hbad fun h => a5 (by rw [h.1.2.2.2]; rfl)
   refine zg <| zs rfl <| zn <| zq <| zr <| B4 <| zr <| zr <| B4 <| zr <| ?_
   exact zz rfl rfl fun w' H' => ⟨bF hno, rfl, H'.AK (AD.nil _)⟩
  have h5 : x.2.2 &&& ~~~ x.2.1 = 0 := UInt8.toNat_inj.1 (by have := Classical.not_not.1 a5; simp only [UInt8.toNat_zero]; omega)
  refine zk <| zg <| zf rfl <| zl rfl rfl <| ?_
  refine zv BN <| ?_
  refine zs rfl <| zn <| BK <| JP (σ := Nat) [1, 3, 4] rfl 5 (fun p => .int .i64 (p : Int)) (fun p => (np ≤ p ∧ p ≤ 8) ∧ ∀ q : Nat, np ≤ q → q < p → ¬ MF x q) (fun p => 8 - p) (np) (⟨⟨Nat.le_refl _, by omega⟩, fun q h1 h2 => absurd h2 AA⟩) rfl ?_
  rintro p ⟨⟨hp1, hp2⟩, hpm⟩ K3 hK3
  refine AG <| zg <| zm rfl <| zv (B7 rfl rfl) <| AS <| zt <| BP rfl (fun b1 => ?_) (fun b1 => ?_)
  ·refine zk <| AG <| BK <| zg <| zv DY <| ?_
   refine zm rfl <| CQ (σ := EX (MF x p)) Tryz.call106 rfl rfl (fun w1 => zu fun D' _ _ _ => V5 D' w1 x p (by unfold DO; omega)) ?_
   intro r
   try rw [List.nil_append]
   refine zn <| FW rfl (fun b2 => ?_) (fun b2 => ?_)
   ·have hno := hbad fun h => (T3 hnp8 x).2 h.1.2.2.1 p hp1 AA (r.2.1 b2)
    refine zg <| zs rfl <| zn <| zq <| B4 <| zr <| zr <| B4 <| B4 <| zr <| zr <| B4 <| zr <| ?_
    exact zz rfl rfl fun w' H' => ⟨bF hno, rfl, H'.AK (AD.nil _)⟩
   have hnm : ¬ MF x p := fun h => by have := r.2.2 h; rw [this] at b2; cases b2
   have hpm' : ∀ q : Nat, np ≤ q → q < p + 1 → ¬ MF x q := fun q h1 h2 => by
    rcases Nat.lt_or_ge q p with h3 | h3
    ·exact hpm q h1 h3
    ·obtain rfl : q = p := by omega
     exact hnm
   refine C3 <| zb <| zt <| AR <| zm rfl <| zv (BM rfl rfl BO) <| ?_
   refine zs rfl <| AS <| B5 hK3 (p + 1) (⟨⟨by omega, by omega⟩, hpm'⟩) AA BD BL
  have h6 : x.2.1.toNat < 2 ^ np := (T3 hnp8 x).1 fun q h1 h2 => hpm q h1 AA
  have hn := hnext ⟨⟨by omega, by omega, h6, h5⟩, hris⟩
  refine CF <| ze <| ze <| CE <| zb <| zt <| AR <| zm rfl <| zv (BM rfl rfl BO) <| ?_
  refine zs rfl <| AS <| B5 hK1 (i + 1) (⟨hlt, hn⟩) AA BD BL
 skip
 have hvs : (∀ i (h : i < V.length), K9 np V[i]) ∧ HW cV V := ⟨fun j hj => (hall j hj AA).1, fun j hj h0 => NB.2 ((hall j hj AA).2 h0)⟩
 obtain ⟨hv3, hv4⟩ := hvs
 clear hall
 refine CF <| ze <| ze <| CE <| zt <| AG <| zg <| zs rfl <| zn <| BK <| JP (σ := Nat) [1] rfl 6 (fun i => .int .i64 (i : Int)) (fun i => i ≤ np ∧ ∀ j (h : j < P.length), j < i → K7 V P[j]) (fun i => np - i) (0) (⟨Nat.zero_le _, fun j _ h => absurd h (Nat.not_lt_zero _)⟩) rfl ?_
 rintro i ⟨hi, hall⟩ K4 hK4
 refine AG <| zg <| zm rfl <| zf rfl <| zl rfl rfl <| ?_
 refine zv BN <| ?_
 refine zv (B7 rfl rfl) <| zn <| BP rfl (fun h => ?_) (fun h => ?_)
 ·have hlt : i < P.length := by omega
  have hc := CS.EP (D := D) (w0 := w) (f := CJ) (sz := 3) (fun _ => rfl) AF HSp hlt
  have hA := (hc []).1
  have hcl := fun l' => (hc l').2.cell (i := 1) (v := .int .u32 (P[i].2.1.toNat : Int)) rfl
  have hcl2 := fun l' => (hc l').2.cell (i := 2) (v := .int .i64 P[i].2.2) rfl
  have hbad : ¬ K7 V P[i] → ¬ C4 c := fun hx h => hx ((hG.1 h).2.2.1.2.2 i hlt)
  have hnext : K7 V P[i] → ∀ j (h : j < P.length), j < i + 1 → K7 V P[j] := fun hx j hj h1 => by
   rcases Nat.lt_or_ge j i with h3 | h3
   ·exact hall j hj h3
   ·obtain rfl : j = i := by omega
    exact hx
  generalize P[i] = x at *
  have hcx := x.2.1.toNat_lt
  refine zk <| AG <| BK <| AG <| EF [AI b1 49 (C9 c (.slice Ap np capp) (.slice Av V.length capv) (.slice As S.length caps))] mixed 27 rfl ?_
  refine AE 0 rfl (AP rfl) rfl <| AE 1 rfl (zw rfl rfl) rfl <| AE 2 rfl (AO rfl) rfl <| AE 3 rfl (CZ rfl DP rfl _ rfl AA) rfl <| ?_
  refine AE 4 rfl (AP rfl) rfl <| AE 5 rfl Z9 rfl <| ?_
  refine AE 6 rfl (B7 rfl rfl) rfl <| AE 7 rfl (AO rfl) rfl <| N0 (t := 149) rfl (fun a1 => ?_) (fun a1 => ?_)
  ·have hno := hbad fun h => by have := h.2.1; omega
   refine CM 8 rfl rfl <| CM 9 rfl rfl <| CM 10 rfl rfl <| CM 11 rfl rfl <| CM 12 rfl rfl <| CM 13 rfl rfl <| CM 14 rfl rfl <| AE 15 rfl (BF rfl rfl) rfl <| AE 16 rfl (AO rfl) rfl <| CM 17 rfl rfl <| CM 18 rfl rfl <| CM 19 rfl rfl <| CM 20 rfl rfl <| CM 21 rfl rfl <| CM 22 rfl rfl <| CM 23 rfl rfl <| AL 24 AB <| OC rfl rfl <| CM 25 rfl rfl <| AE 26 rfl (BF rfl rfl) rfl <| BY AB <| zt <| DD rfl <| zg <| zs rfl <| ?_
   refine zn <| zq <| B4 <| zr <| zr <| B4 <| zr <| ?_
   exact zz rfl rfl fun w' H' => ⟨bF hno, rfl, H'.AK (AD.nil _)⟩
  refine AE 8 rfl (AP rfl) rfl <| AE 9 rfl (zw rfl rfl) rfl <| AE 10 rfl (AO rfl) rfl <| AE 11 rfl (CZ rfl DP rfl _ rfl AA) rfl <| ?_
  refine AE 12 rfl (AP rfl) rfl <| AE 13 rfl Z9 rfl <| ?_
  refine AE 14 rfl (DV rfl rfl) rfl <| AE 15 rfl (A8 rfl rfl) rfl <| AE 16 rfl (AO rfl) rfl <| N0 (t := 158) rfl (fun a2 => ?_) (fun a2 => ?_)
  ·have hno := hbad fun h => by have := h.2.2; omega
   refine CM 17 rfl rfl <| CM 18 rfl rfl <| CM 19 rfl rfl <| CM 20 rfl rfl <| CM 21 rfl rfl <| CM 22 rfl rfl <| CM 23 rfl rfl <| AL 24 AB <| OC rfl rfl <| CM 25 rfl rfl <| AE 26 rfl (BF rfl rfl) rfl <| BY AB <| zt <| DD rfl <| zg <| zs rfl <| ?_
   refine zn <| zq <| B4 <| zr <| zr <| B4 <| zr <| ?_
   exact zz rfl rfl fun w' H' => ⟨bF hno, rfl, H'.AK (AD.nil _)⟩
  refine AE 17 rfl DY rfl <| ?_
  refine AE 18 rfl (AP rfl) rfl <| AE 19 rfl (zw rfl rfl) rfl <| AE 20 rfl (AO rfl) rfl <| AE 21 rfl (CZ rfl DP rfl _ rfl AA) rfl <| ?_
  refine AE 22 rfl (AP rfl) rfl <| AE 23 rfl Z9 rfl <| ?_
  refine AL 24 AB <| CR (σ := U1 V x.2.2) rfl Tryz.call107 rfl (fun w1 => zu fun D' hold _ _ => WC D' w1 c _ _ _ x.2.2 V hV AA (hold _ HV)) ?_
  intro r
  try rw [List.nil_append]
  refine AE 25 rfl (B7 rfl rfl) rfl <| AE 26 rfl (A8 rfl rfl) rfl <| BY AB <| zt <| ?_
  refine BP rfl (fun a3 => ?_) (fun a3 => ?_)
  ·have hno := hbad fun h => by
    obtain ⟨k, hk, he⟩ := h.1
    rcases r.2 with ⟨h1, h2⟩ | ⟨k2, hk2, h1, h2⟩
    ·exact h2 k hk he
    ·rw [h1] at a3; omega
   refine zg <| zs rfl <| zn <| zq <| B4 <| zr <| zr <| B4 <| zr <| ?_
   exact zz rfl rfl fun w' H' => ⟨bF hno, rfl, H'.AK (AD.nil _)⟩
  have hn := hnext ⟨by
   rcases r.2 with ⟨h1, h2⟩ | ⟨k2, hk2, h1, h2⟩
   ·rw [h1] at a3; omega
   ·exact ⟨k2, hk2, h2⟩, by omega, by omega⟩
  refine C3 <| zb <| zt <| AR <| zm rfl <| zv (BM rfl rfl BO) <| ?_
  refine zs rfl <| AS <| B5 hK4 (i + 1) (⟨by omega, hn⟩) AA BD BL
 skip
 have hp3 : ∀ i (h : i < P.length), K7 V P[i] := fun j hj => hall j hj AA
 clear hall
 refine CF <| ze <| ze <| CE <| zt <| AG <| zg <| zs rfl <| zn <| BK <| JP (σ := Nat) [1] rfl 7 (fun i => .int .i64 (i : Int)) (fun i => i ≤ S.length ∧ ∀ j (h : j < S.length), j < i → H9 np V S[j] ∧ (0 < j → GW (S[j - 1]'(by omega)) S[j] < 0)) (fun i => S.length - i) (0) (⟨Nat.zero_le _, fun j _ h => absurd h (Nat.not_lt_zero _)⟩) rfl ?_
 rintro i ⟨hi, hall⟩ K5 hK5
 refine AG <| zg <| zm rfl <| zf rfl <| zl rfl rfl <| ?_
 refine zv BN <| ?_
 refine zv (B7 rfl rfl) <| zn <| BP rfl (fun h => ?_) (fun h => ?_)
 ·have hlt : i < S.length := by omega
  have hc := CS.EP (D := D) (w0 := w) (f := BW) (sz := 3) (fun _ => rfl) AF HSs hlt
  have hA := (hc []).1
  have hcy := CS.EP (D := D) (w0 := w) (f := BW) (sz := 3) (fun _ => rfl) AF HSs (show i - 1 < S.length by omega)
  have hbad : ¬ (H9 np V S[i] ∧ (0 < i → GW (S[i - 1]'(by omega)) S[i] < 0)) → ¬ C4 c := fun hx h => hx ⟨(hG.1 h).2.2.2.2.2 i hlt, fun h0 => (hG.1 h).2.2.2.2.1 i hlt h0⟩
  have hnext : (H9 np V S[i] ∧ (0 < i → GW (S[i - 1]'(by omega)) S[i] < 0)) → ∀ j (h : j < S.length), j < i + 1 → H9 np V S[j] ∧ (0 < j → GW (S[j - 1]'(by omega)) S[j] < 0) := fun hx j hj h1 => by
   rcases Nat.lt_or_ge j i with h3 | h3
   ·exact hall j hj h3
   ·obtain rfl : j = i := by omega
    exact hx
  have hxin := (hsok S[i] (List.getElem_mem hlt)).2
  generalize S[i] = x at *
  generalize hy : (S[i - 1]'(by omega)) = y at *
  have hmac := x.1.toNat_lt
  refine zk <| AG <| BK <| zg <| zf rfl <| zl rfl rfl <| zm rfl <| zv (CZ rfl DP rfl _ rfl AA) <| ?_
  refine AZ (D4 (cs := BW x) rfl rfl (hc _).2) rfl <| AV (B9) rfl rfl rfl fun b8 =>  ?_
  refine A6 (CV (vs := BW x) rfl rfl (by simp) (by simp) CL) rfl rfl ?_
  refine zn <| zg <| zv DY <| ?_
  refine zf rfl <| zl rfl rfl <| ?_
  refine CQ (σ := U1 V x.2.1) Tryz.call107 rfl rfl (fun w1 => zu fun D' hold _ _ => WC D' w1 c _ _ _ x.2.1 V hV AA (hold _ HV)) ?_
  intro r
  try rw [List.nil_append]
  refine zs rfl <| zn <| AG <| AG <| EF [AI b8 149 (BW x), AI b1 49 (C9 c (.slice Ap np capp) (.slice Av V.length capv) (.slice As S.length caps))] mixed 38 rfl ?_
  refine AE 0 rfl (AP rfl) rfl <| AE 1 rfl (zw rfl rfl) rfl <| AE 2 rfl (B7 rfl rfl) rfl <| AE 3 rfl (AO rfl) rfl <| N0 (t := 188) rfl (fun a1 => ?_) (fun a1 => ?_)
  ·have hno := hbad fun h => h.1.1 AA
   refine CM 4 rfl rfl <| CM 5 rfl rfl <| CM 6 rfl rfl <| AE 7 rfl (BF rfl rfl) rfl <| AE 8 rfl (AO rfl) rfl <| CM 9 rfl rfl <| CM 10 rfl rfl <| CM 11 rfl rfl <| CM 12 rfl rfl <| CM 13 rfl rfl <| AE 14 rfl (BF rfl rfl) rfl <| AE 15 rfl (AO rfl) rfl <| CM 16 rfl rfl <| CM 17 rfl rfl <| AE 18 rfl (BF rfl rfl) rfl <| AE 19 rfl (AO rfl) rfl <| CM 20 rfl rfl <| CM 21 rfl rfl <| CM 22 rfl rfl <| CM 23 rfl rfl <| CM 24 rfl rfl <| CM 25 rfl rfl <| AE 26 rfl (BF rfl rfl) rfl <| AE 27 rfl (AO rfl) rfl <| CM 28 rfl rfl <| CM 29 rfl rfl <| CM 30 rfl rfl <| CM 31 rfl rfl <| CM 32 rfl rfl <| CM 33 rfl rfl <| CM 34 rfl rfl <| AL 35 AB <| OC rfl rfl <| CM 36 rfl rfl <| AE 37 rfl (BF rfl rfl) rfl <| BY AB <| zt <| DD rfl <| zg <| zs rfl <| ?_
   refine zn <| zq <| zr <| B4 <| zr <| zr <| B4 <| zr <| ?_
   exact zz rfl rfl fun w' H' => ⟨bF hno, rfl, H'.AK (AD.nil _)⟩
  refine AE 4 rfl (AP rfl) rfl <| AE 5 rfl (zw rfl rfl) rfl <| AE 6 rfl (GN rfl rfl) rfl <| AE 7 rfl (A8 rfl rfl) rfl <| AE 8 rfl (AO rfl) rfl <| N0 (t := 193) rfl (fun a2 => ?_) (fun a2 => ?_)
  ·have hno := hbad fun h => by
    have := h.1.2.1
    rw [Nat.div_eq_zero_iff_lt AF] at this
    omega
   refine CM 9 rfl rfl <| CM 10 rfl rfl <| CM 11 rfl rfl <| CM 12 rfl rfl <| CM 13 rfl rfl <| AE 14 rfl (BF rfl rfl) rfl <| AE 15 rfl (AO rfl) rfl <| CM 16 rfl rfl <| CM 17 rfl rfl <| AE 18 rfl (BF rfl rfl) rfl <| AE 19 rfl (AO rfl) rfl <| CM 20 rfl rfl <| CM 21 rfl rfl <| CM 22 rfl rfl <| CM 23 rfl rfl <| CM 24 rfl rfl <| CM 25 rfl rfl <| AE 26 rfl (BF rfl rfl) rfl <| AE 27 rfl (AO rfl) rfl <| CM 28 rfl rfl <| CM 29 rfl rfl <| CM 30 rfl rfl <| CM 31 rfl rfl <| CM 32 rfl rfl <| CM 33 rfl rfl <| CM 34 rfl rfl <| AL 35 AB <| OC rfl rfl <| CM 36 rfl rfl <| AE 37 rfl (BF rfl rfl) rfl <| BY AB <| zt <| DD rfl <| zg <| zs rfl <| ?_
   refine zn <| zq <| zr <| B4 <| zr <| zr <| B4 <| zr <| ?_
   exact zz rfl rfl fun w' H' => ⟨bF hno, rfl, H'.AK (AD.nil _)⟩
  have h2 : x.1.toNat / 2 ^ 48 = 0 := by rw [Nat.div_eq_zero_iff_lt AF]; omega
  refine AE 9 rfl (AP rfl) rfl <| AE 10 rfl (zw rfl rfl) rfl <| AL 11 AB <| CW rfl (JT (m := ((x.1.toNat / 2 ^ 40 : Nat) : Int)) rfl rfl AF (QH _ 40 _ _ rfl)) rfl ?_
  refine AE 12 rfl (YR AA rfl rfl) rfl ?_
  refine AE 13 rfl (CO rfl rfl) rfl <| AE 14 rfl (A8 rfl rfl) rfl <| AE 15 rfl (AO rfl) rfl <| N0 (t := 200) rfl (fun a3 => ?_) (fun a3 => ?_)
  ·have hno := hbad fun h => by have := h.1.2.2.1; omega
   refine CM 16 rfl rfl <| CM 17 rfl rfl <| AE 18 rfl (BF rfl rfl) rfl <| AE 19 rfl (AO rfl) rfl <| CM 20 rfl rfl <| CM 21 rfl rfl <| CM 22 rfl rfl <| CM 23 rfl rfl <| CM 24 rfl rfl <| CM 25 rfl rfl <| AE 26 rfl (BF rfl rfl) rfl <| AE 27 rfl (AO rfl) rfl <| CM 28 rfl rfl <| CM 29 rfl rfl <| CM 30 rfl rfl <| CM 31 rfl rfl <| CM 32 rfl rfl <| CM 33 rfl rfl <| CM 34 rfl rfl <| AL 35 AB <| OC rfl rfl <| CM 36 rfl rfl <| AE 37 rfl (BF rfl rfl) rfl <| BY AB <| zt <| DD rfl <| zg <| zs rfl <| ?_
   refine zn <| zq <| zr <| B4 <| zr <| zr <| B4 <| zr <| ?_
   exact zz rfl rfl fun w' H' => ⟨bF hno, rfl, H'.AK (AD.nil _)⟩
  have h3 : x.1.toNat / 2 ^ 40 % 2 = 0 := by omega
  refine AE 16 rfl (AO rfl) rfl <| AE 17 rfl (B7 rfl rfl) rfl <| AE 18 rfl (A8 rfl rfl) rfl <| AE 19 rfl (AO rfl) rfl <| N0 (t := 204) rfl (fun a4 => ?_) (fun a4 => ?_)
  ·have hno := hbad fun h => by
    obtain ⟨k, hk, he, _⟩ := h.1.2.2.2.2.2
    rcases r.2 with ⟨h1, h2⟩ | ⟨k2, hk2, h1, h2⟩
    ·exact h2 k hk he
    ·rw [h1] at a4; omega
   refine CM 20 rfl rfl <| CM 21 rfl rfl <| CM 22 rfl rfl <| CM 23 rfl rfl <| CM 24 rfl rfl <| CM 25 rfl rfl <| AE 26 rfl (BF rfl rfl) rfl <| AE 27 rfl (AO rfl) rfl <| CM 28 rfl rfl <| CM 29 rfl rfl <| CM 30 rfl rfl <| CM 31 rfl rfl <| CM 32 rfl rfl <| CM 33 rfl rfl <| CM 34 rfl rfl <| AL 35 AB <| OC rfl rfl <| CM 36 rfl rfl <| AE 37 rfl (BF rfl rfl) rfl <| BY AB <| zt <| DD rfl <| zg <| zs rfl <| ?_
   refine zn <| zq <| zr <| B4 <| zr <| zr <| B4 <| zr <| ?_
   exact zz rfl rfl fun w' H' => ⟨bF hno, rfl, H'.AK (AD.nil _)⟩
  obtain ⟨k, hk, hrk, hke⟩ : ∃ k : Nat, ∃ h : k < V.length, r.1 = (k : Int) ∧ V[k].1 = x.2.1 := by
   rcases r.2 with ⟨h1, h2⟩ | h
   ·rw [h1] at a4; omega
   ·exact h
  have hst : MF V[k] x.2.2 → x.2.2 < np → H9 np V x := fun hm hn => ⟨by omega, h2, h3, hm.1, hn, k, hk, hke, by rw [Nat.min_eq_left (by have := hm.2.1; omega)]; have := hm.2.2; omega⟩
  have hts : H9 np V x → MF V[k] x.2.2 := fun h => by
   obtain ⟨_, _, _, p1, p2, i, hi, e1, e2⟩ := h
   have hik : i = k := by
    rcases Nat.lt_trichotomy i k with h | h | h
    ·have := RF hv4 i k h hk; omega
    ·exact h
    ·have := RF hv4 k i h hi; omega
   subst hik
   rw [Nat.min_eq_left AA] at e2
   exact ⟨p1, by omega, by omega⟩
  rw [hrk]
  have hcv := CS.EP (D := D) (w0 := w) (f := BJ) (sz := 3) (fun _ => rfl) AF HSv hk
  have hAv := (hcv []).1
  generalize V[k] = u at *
  refine AE 20 rfl (AP rfl) rfl <| AE 21 rfl (zw rfl rfl) rfl <| AE 22 rfl (AP rfl) rfl <| AE 23 rfl (zw rfl rfl) rfl <| AE 24 rfl BN rfl <| ?_
  refine AE 25 rfl (GN rfl rfl) rfl <| AE 26 rfl (A8 rfl rfl) rfl <| AE 27 rfl (AO rfl) rfl <| N0 (t := 212) rfl (fun a5 => ?_) (fun a5 => ?_)
  ·have hno := hbad fun h => by have := h.1.2.2.2.2.1; omega
   refine CM 28 rfl rfl <| CM 29 rfl rfl <| CM 30 rfl rfl <| CM 31 rfl rfl <| CM 32 rfl rfl <| CM 33 rfl rfl <| CM 34 rfl rfl <| AL 35 AB <| OC rfl rfl <| CM 36 rfl rfl <| AE 37 rfl (BF rfl rfl) rfl <| BY AB <| zt <| DD rfl <| zg <| zs rfl <| ?_
   refine zn <| zq <| zr <| B4 <| zr <| zr <| B4 <| zr <| ?_
   exact zz rfl rfl fun w' H' => ⟨bF hno, rfl, H'.AK (AD.nil _)⟩
  refine AE 28 rfl (AP rfl) rfl <| AE 29 rfl (zw rfl rfl) rfl <| AE 30 rfl (AO rfl) rfl <| AE 33 rfl (AP rfl) rfl <| AE 34 rfl (zw rfl rfl) rfl <| AL 31 AB <| CW rfl (CZ rfl hAv rfl k rfl hk) rfl <| AE 32 rfl (D4 (cs := BJ u) rfl rfl (hcv _).2) rfl <| AL 35 AB <| CR (σ := EX (MF u x.2.2)) rfl Tryz.call106 rfl (fun w1 => zu fun D' _ _ _ => V5 D' w1 u x.2.2 hxin) ?_
  intro r2
  try rw [List.nil_append]
  refine AE 36 rfl FC rfl <| ?_
  refine AE 37 rfl (A8 rfl rfl) rfl <| BY AB <| zt <| ?_
  refine FW rfl (fun a6 => ?_) (fun a6 => ?_)
  ·have hno := hbad fun h => by have := r2.2.2 (hts h.1); rw [this] at a6; cases a6
   refine zg <| zs rfl <| zn <| zq <| zr <| B4 <| zr <| zr <| B4 <| zr <| ?_
   exact zz rfl rfl fun w' H' => ⟨bF hno, rfl, H'.AK (AD.nil _)⟩
  have h6 : H9 np V x := hst (r2.2.1 (by simpa using a6)) AA
  refine zk <| AG <| EF [AI b8 149 (BW x), AI b1 49 (C9 c (.slice Ap np capp) (.slice Av V.length capv) (.slice As S.length caps))] mixed 13 rfl ?_
  refine AE 0 rfl (AO rfl) rfl <| AE 1 rfl (DV rfl rfl) rfl <| AE 2 rfl (AO rfl) rfl <| N0 (t := 225) rfl (fun a7 => ?_) (fun a7 => ?_)
  ·refine AE 3 rfl (AP rfl) rfl <| AE 4 rfl (zw rfl rfl) rfl <| AE 5 rfl (AO rfl) rfl <| AE 6 rfl (FY rfl rfl BO) rfl <| ?_
   refine AE 9 rfl DY rfl <| ?_
   refine AL 7 AB <| CW rfl (CZ rfl hA rfl (i - 1) AA AA) rfl ?_
   refine AE 8 rfl (D4 (cs := BW y) rfl rfl (hcy _).2) rfl <| AL 10 AB <| CR (σ := EX (GW y x < 0)) rfl Tryz.call108 rfl (fun w1 => zu fun D' _ _ _ => aS D' w1 y x) ?_
   intro r3
   try rw [List.nil_append]
   refine AE 11 rfl FC rfl <| ?_
   refine AE 12 rfl (BF rfl rfl) rfl <| BY AB <| zt <| ?_
   refine FW rfl (fun a8 => ?_) (fun a8 => ?_)
   ·have hno := hbad fun h => by have := r3.2.2 (h.2 AA); rw [this] at a8; cases a8
    refine zg <| zs rfl <| zn <| zq <| B4 <| zr <| zr <| B4 <| zr <| ?_
    exact zz rfl rfl fun w' H' => ⟨bF hno, rfl, H'.AK (AD.nil _)⟩
   have hn := hnext ⟨h6, fun _ => r3.2.1 (by simpa using a8)⟩
   refine C3 <| zb <| zt <| AR <| zm rfl <| zv (BM rfl rfl BO) <| ?_
   refine zs rfl <| AS <| B5 hK5 (i + 1) (⟨hlt, hn⟩) AA BD BL
  have hn := hnext ⟨h6, fun h => absurd h AA⟩
  refine CM 3 rfl rfl <| CM 4 rfl rfl <| CM 5 rfl rfl <| CM 6 rfl rfl <| CM 7 rfl rfl <| CM 8 rfl rfl <| CM 9 rfl rfl <| AL 10 AB <| OC rfl rfl <| CM 11 rfl rfl <| AE 12 rfl (A8 rfl rfl) rfl <| BY AB <| zt <| EU rfl <| C3 <| zb <| zt <| ?_
  refine AR <| zm rfl <| zv (BM rfl rfl BO) <| ?_
  refine zs rfl <| AS <| B5 hK5 (i + 1) (⟨hlt, hn⟩) AA BD BL
 have hyes : C4 c := hG.2 ⟨ht, ⟨by omega, by omega, hv3, hv4⟩, ⟨by omega, by omega, hp3⟩, by omega, fun j hj h0 => (hall j hj AA).2 h0, fun j hj => (hall j hj AA).1⟩
 refine CF <| ze <| ze <| CE <| zt <| AG <| AR <| zs rfl <| zn <| zq <| ?_
 exact zz rfl rfl fun w' H' => ⟨bT hyes, rfl, H'.AK (AD.nil _)⟩
end Go.Proofs.YtjlolpmmpafjeaaGreat
