import Derived.Test.YtjlolpmmpafjeaaGreatV17
set_option linter.unusedVariables false
set_option linter.unusedSimpArgs false
namespace Go.Proofs.YtjlolpmmpafjeaaGreat
open Slk
variable (D : Nat → Prop) (w : World)
theorem byPl_neg {x y : StatC} : byPl x y < 0 ↔ x.2.1 < y.2.1 ∨ x.2.1 = y.2.1 ∧ (x.1.toNat : Int) < y.1.toNat := by
 unfold byPl
 by_cases h : cmpI x.2.1 y.2.1 = 0
 ·rw [if_pos h, cmpI_neg]
  have := cmpI_zero.1 h
  omega
 rw [if_neg h, cmpI_neg]
 have : ¬ x.2.1 = y.2.1 := fun e => h (cmpI_zero.2 e)
 omega
theorem less_spec (x y : StatC) : Calls Tryz.prog 108 #[.agg (statV x).toArray, .agg (statV y).toArray] w fun e w' => ∃ b : BIff (byPl x y < 0), e = .returned (.bool b.1) ∧ Own D w w' [] := by
 have hb := byPl_neg (x := x) (y := y)
 refine hc_enter (vs := [.agg (statV x).toArray, .agg (statV y).toArray]) Tryz.func108 rfl _ Tryz.ntmps108 rfl (Own.start D w) ?_
 simp only [argSlots, Nat.zero_add]
 refine zg <| hl_new (on_boxN rfl rfl) rfl rfl rfl fun b2 =>  ?_
 refine hl_new (on_boxN rfl rfl) rfl rfl rfl fun b3 =>  ?_
 refine zs rfl <| zn <| zg <| zf rfl <| ?_
 refine zl rfl rfl <| zf rfl <| zl rfl rfl <| zv (ov_lss rfl rfl) <| zm rfl <| ?_
 refine hl_part (t := 10) rfl (fun h1 => ?_) (fun h1 => ?_)
 ·refine zo rfl rfl <| zo rfl rfl <| zo rfl rfl <| zo rfl rfl <| zo rfl rfl <| zo rfl rfl <| hl_offU rfl rfl rfl rfl rfl <| hl_offU rfl rfl rfl rfl rfl <| hl_offU rfl rfl rfl rfl rfl <| hl_offU rfl rfl rfl rfl rfl <| hl_offU rfl rfl rfl rfl rfl <| zo rfl rfl <| ?_
  refine zv (ov_pickT rfl rfl) <| zs rfl <| zn <| zq <| ?_
  exact zz rfl rfl fun w' H' => ⟨bT (hb.2 (.inl h1)), rfl, H'.ent (Ent.nil _)⟩
 refine hl_on rfl rfl <| zf rfl <| hl_on rfl rfl <| zl rfl rfl <| hl_on rfl rfl <| zf rfl <| hl_on rfl rfl <| zl rfl rfl <| hl_on rfl rfl <| zv (ov_eql rfl rfl) <| hl_on rfl rfl <| zm rfl <| ?_
 refine hl_part (t := 16) rfl (fun h2 => ?_) (fun h2 => ?_)
 ·refine hl_on rfl rfl <| zf rfl <| hl_on rfl rfl <| zl rfl rfl <| hl_on rfl rfl <| zf rfl <| hl_on rfl rfl <| zl rfl rfl <| hl_on rfl rfl <| zv (ov_lss rfl rfl) <| hl_on rfl rfl <| zv (ov_pickT rfl rfl) <| ?_
  refine zv (ov_pickF rfl rfl) <| zs rfl <| zn <| zq <| ?_
  exact zz rfl rfl fun w' H' => ⟨⟨decide ((x.1.toNat : Int) < y.1.toNat), by rw [decide_eq_true_iff, hb]; omega⟩, rfl, H'.ent (Ent.nil _)⟩
 refine zo rfl rfl <| zo rfl rfl <| zo rfl rfl <| zo rfl rfl <| zo rfl rfl <| hl_on rfl rfl <| zv (ov_pickF rfl rfl) <| zv (ov_pickF rfl rfl) <| zs rfl <| zn <| zq <| ?_
 exact zz rfl rfl fun w' H' => ⟨bF (fun h => by have := hb.1 h; omega), rfl, H'.ent (Ent.nil _)⟩
def memP (v : VlanC) (port : Int) : Prop := 0 ≤ port ∧ port < 8 ∧ v.2.1.toNat / 2 ^ port.toNat % 2 = 1
theorem Member_spec (v : VlanC) (port : Int) (hi : inI64 port) : Calls Tryz.prog 106 #[.agg (vlanV v).toArray, .int .i64 port] w fun e w' => ∃ b : BIff (memP v port), e = .returned (.bool b.1) ∧ Own D w w' [] := by
 unfold inI64 at hi
 have hb := v.2.1.toNat_lt
 refine hc_enter (vs := [.agg (vlanV v).toArray, .int .i64 port]) Tryz.func106 rfl _ Tryz.ntmps106 rfl (Own.start D w) ?_
 simp only [argSlots, Nat.zero_add]
 refine zg <| hl_new (on_boxN rfl rfl) rfl rfl rfl fun b2 =>  ?_
 refine zs rfl <| zn <| zg <| zm rfl <| zv (ov_geq rfl rfl) <| zm rfl <| hl_part (t := 7) rfl (fun h1 => ?_) (fun h1 => ?_)
 ·refine hl_on rfl rfl <| zm rfl <| hl_on rfl rfl <| zv (ov_lss rfl rfl) <| zv (ov_pickT rfl rfl) <| zm rfl <| hl_part (t := 11) rfl (fun h2 => ?_) (fun h2 => ?_)
  ·refine hl_on rfl rfl <| zf rfl <| hl_on rfl rfl <| zl rfl rfl <| hl_on rfl rfl <| zm rfl <| hl_on rfl rfl <| zv (ov_conv rfl Z29) <| ?_
   refine hl_on rfl rfl <| hl_v (ov_shr (m := ((v.2.1.toNat / 2 ^ port.toNat : Nat) : Int)) rfl rfl Z64 (shrK _ _ _ 8 Z64)) rfl ?_
   refine hl_on rfl rfl <| hl_v (ov_and1_u8 (Nat.lt_of_le_of_lt (Nat.div_le_self _ _) hb) rfl rfl) rfl <| hl_on rfl rfl <| zv (ov_eql rfl rfl) <| zv (ov_pickT rfl rfl) <| zs rfl <| zn <| zq <| ?_
   exact zz rfl rfl fun w' H' => ⟨⟨decide (((v.2.1.toNat / 2 ^ port.toNat % 2 : Nat) : Int) = 1), by rw [decide_eq_true_iff]; exact ⟨fun h => ⟨h1, h2, by omega⟩, fun h => by have := h.2.2; omega⟩⟩, rfl, H'.ent (Ent.nil _)⟩
  refine zo rfl rfl <| zo rfl rfl <| zo rfl rfl <| zo rfl rfl <| zo rfl rfl <| zo rfl rfl <| zo rfl rfl <| zv (ov_pickF rfl rfl) <| zs rfl <| zn <| zq <| ?_
  exact zz rfl rfl fun w' H' => ⟨bF (fun h => h2 h.2.1), rfl, H'.ent (Ent.nil _)⟩
 refine zo rfl rfl <| zo rfl rfl <| zv (ov_pickF rfl rfl) <| zm rfl <| zo rfl rfl <| zo rfl rfl <| zo rfl rfl <| zo rfl rfl <| zo rfl rfl <| zo rfl rfl <| zo rfl rfl <| zv (ov_pickF rfl rfl) <| zs rfl <| zn <| zq <| ?_
 exact zz rfl rfl fun w' H' => ⟨bF (fun h => h1 h.1), rfl, H'.ent (Ent.nil _)⟩
abbrev VlanT (l : List VlanC) (id : Int) := { r : Int // (r = -1 ∧ ∀ i (h : i < l.length), l[i].1 ≠ id) ∨ ∃ i : Nat, ∃ h : i < l.length, r = (i : Int) ∧ l[i].1 = id }
theorem RVlan_spec (c : ConfC) (vp vv vs : Value) (id : Int) (l : List VlanC) (hl : c.2.2.2.2.1 = l) (hlv : l.length ≤ 1000) (HV : Old D w (Rep.rep l [vv])) :
  Calls Tryz.prog 107 #[.agg (cfgV c vp vv vs).toArray, .int .i64 id] w fun e w' => ∃ r : VlanT l id, e = .returned (.int .i64 r.1) ∧ Own D w w' [] := by
 obtain ⟨Av, capv, rfl, hv1, hv2, HSv, hvok⟩ := HV.openF
 have HSv : OldS D w Av (l.flatMap vlanV) := HSv
 refine hc_enter (vs := [.agg (cfgV c vp (.slice Av l.length capv) vs).toArray, .int .i64 id]) Tryz.func107 rfl _ Tryz.ntmps107 rfl (Own.start D w) ?_
 simp only [argSlots, Nat.zero_add]
 refine zg <| hl_new (on_boxN rfl rfl) rfl rfl rfl fun b2 =>  ?_
 refine zs rfl <| zn <| hc_seq <| zg <| zs rfl <| zn <| hc_block <| hc_loops1 (σ := Nat) [1, 2] rfl 5 (fun i => .int .i64 (i : Int)) (fun i => i ≤ l.length ∧ ∀ j (h : j < l.length), j < i → l[j].1 ≠ id) (fun i => l.length - i) (0) (⟨Nat.zero_le _, fun j _ h => absurd h (Nat.not_lt_zero _)⟩) rfl ?_
 rintro i ⟨hi, hall⟩ K1 hK1
 refine hc_seq <| zg <| zm rfl <| zf rfl <| zl rfl rfl <| ?_
 refine zv Z25 <| ?_
 refine zv (ov_lss rfl rfl) <| zn <| hc_cond rfl (fun h => ?_) (fun h => ?_)
 ·have hlt : i < l.length := by omega
  have hc := OldS.cells_flat (D := D) (w0 := w) (f := vlanV) (sz := 3) (fun _ => rfl) Z63 HSv hlt
  have hA := (hc []).1
  have hcl := fun l' => (hc l').2.cell (i := 0) (v := .int .i64 l[i].1) rfl
  have hnext : l[i].1 ≠ id → ∀ j (h : j < l.length), j < i + 1 → l[j].1 ≠ id := fun hx j hj h1 => by
   rcases Nat.lt_or_ge j i with h3 | h3
   ·exact hall j hj h3
   ·obtain rfl : j = i := by omega
    exact hx
  refine zk <| hc_seq <| hc_block <| zg <| zf rfl <| zl rfl rfl <| zm rfl <| zv (ov_idxS rfl Z62 rfl _ rfl Z64) <| zf rfl <| zv Z9 <| ?_
  refine zm rfl <| zv (ov_eql rfl rfl) <| zn <| hc_cond rfl (fun h2 => ?_) (fun h2 => ?_)
  ·refine zg <| zm rfl <| zs rfl <| zn <| zq <| hx_block_ret <| zr <| zr <| hx_block_ret <| zr <| ?_
   exact zz rfl rfl fun w' H' => ⟨⟨(i : Int), .inr ⟨i, hlt, rfl, h2⟩⟩, rfl, H'.ent (Ent.nil _)⟩
  have hn := hnext h2
  refine hc_skip <| zb <| zt <| hc_region <| zm rfl <| zv (ov_add rfl rfl Z28) <| ?_
  refine zs rfl <| hl_nil <| hx_next hK1 (i + 1) (⟨hlt, hn⟩) Z64 Z16 Z10
 have hall' : ∀ i (h : i < l.length), l[i].1 ≠ id := fun j hj => hall j hj Z64
 refine hc_exit <| ze <| ze <| hx_block_out <| zt <| hc_seq <| hc_region <| zs rfl <| zn <| zq <| ?_
 exact zz rfl rfl fun w' H' => ⟨⟨-1, .inl ⟨rfl, hall'⟩⟩, rfl, H'.ent (Ent.nil _)⟩
theorem mem_bound : ∀ n : Fin 9, ∀ b : Fin 256, (∀ p : Fin 8, n.val ≤ p.val → b.val / 2 ^ p.val % 2 ≠ 1) ↔ b.val < 2 ^ n.val := by decide +kernel
theorem mem_below {n : Nat} (hn : n ≤ 8) (v : VlanC) : (∀ p : Nat, n ≤ p → p < 8 → ¬ memP v p) ↔ v.2.1.toNat < 2 ^ n := by
 rw [← mem_bound ⟨n, by omega⟩ ⟨v.2.1.toNat, v.2.1.toNat_lt⟩]
 constructor
 ·intro h p hp e
  exact h p.1 hp p.2 ⟨by omega, by have := p.2; omega, e⟩
 intro h p hp h8 ⟨_, _, e⟩
 exact h ⟨p, h8⟩ hp e
theorem RGood_spec (c : ConfC) (vp vv vs : Value) (H : ConfOld D w c vp vv vs) :
  Calls Tryz.prog 66 #[.agg (cfgV c vp vv vs).toArray] w fun e w' => ∃ b : BIff (goodP c), e = .returned (.bool b.1) ∧ Own D w w' [] := by
 have HV := H.v
 have hlv := H.lv
 have hlp := H.lp
 have hls := H.ls
 have i1 := H.i1
 have i2 := H.i2
 have i3 := H.i3
 unfold inI64 at i1 i2 i3
 obtain ⟨Ap, capp, rfl, hp1, hp2, HSp, hpok⟩ := H.p.openF
 have HSp : OldS D w Ap (c.2.2.2.1.flatMap portV) := HSp
 obtain ⟨Av, capv, rfl, hv1, hv2, HSv, hvok⟩ := H.v.openF
 have HSv : OldS D w Av (c.2.2.2.2.1.flatMap vlanV) := HSv
 obtain ⟨As, caps, rfl, hs1, hs2, HSs, hsok⟩ := H.s.openF
 have HSs : OldS D w As (c.2.2.2.2.2.flatMap statV) := HSs
 clear H
 obtain ⟨P, hP⟩ : ∃ l, c.2.2.2.1 = l := ⟨_, rfl⟩
 obtain ⟨V, hV⟩ : ∃ l, c.2.2.2.2.1 = l := ⟨_, rfl⟩
 obtain ⟨S, hS⟩ : ∃ l, c.2.2.2.2.2 = l := ⟨_, rfl⟩
 obtain ⟨np, hnp⟩ : ∃ n, P.length = n := ⟨_, rfl⟩
 have hG : goodP c ↔ timesP c ∧ (1 ≤ V.length ∧ V.length ≤ 16 ∧ (∀ i (h : i < V.length), vlanOk np V[i]) ∧ risP cV V) ∧ (1 ≤ np ∧ np ≤ 8 ∧ ∀ i (h : i < P.length), portOk V P[i]) ∧ S.length ≤ 16 ∧ risP byPl S ∧ ∀ i (h : i < S.length), statOk np V S[i] := by
  subst hP; subst hV; subst hS; subst hnp; exact Iff.rfl
 rw [hP] at HSp hlp hp1 ⊢
 rw [hV] at HSv hlv hv1 HV ⊢
 rw [hS] at HSs hls hs1 hsok ⊢
 rw [hnp] at hlp hp1 ⊢
 have hsok : ∀ x ∈ S, inI64 x.2.1 ∧ inI64 x.2.2 := hsok
 refine hc_enter (vs := [.agg (cfgV c (.slice Ap np capp) (.slice Av V.length capv) (.slice As S.length caps)).toArray]) Tryz.func66 rfl _ Tryz.ntmps66 rfl (Own.start D w) ?_
 simp only [argSlots, Nat.zero_add]
 refine zg <| hl_new (on_boxN rfl rfl) rfl rfl rfl fun b1 =>  ?_
 refine zs rfl <| zn <| hc_seq <| zg <| zf rfl <| zl rfl rfl <| zv (ov_lss rfl rfl) <| zm rfl <| ?_
 refine hl_part (t := 13) rfl (fun h1 => ?_) (fun h1 => ?_)
 ·have hno : ¬ goodP c := fun h => by have h := (hG.1 h); have := h.1.1; omega
  refine zo rfl rfl <| zo rfl rfl <| zo rfl rfl <| zv (ov_pickT rfl rfl) <| zm rfl <| zo rfl rfl <| zo rfl rfl <| zo rfl rfl <| zo rfl rfl <| zv (ov_pickT rfl rfl) <| zm rfl <| zo rfl rfl <| zo rfl rfl <| zo rfl rfl <| zv (ov_pickT rfl rfl) <| zm rfl <| zo rfl rfl <| zo rfl rfl <| zo rfl rfl <| zv (ov_pickT rfl rfl) <| zm rfl <| zo rfl rfl <| zo rfl rfl <| zo rfl rfl <| zv (ov_pickT rfl rfl) <| zm rfl <| zo rfl rfl <| zo rfl rfl <| zo rfl rfl <| zv (ov_pickT rfl rfl) <| zm rfl <| zo rfl rfl <| zo rfl rfl <| zo rfl rfl <| zo rfl rfl <| zo rfl rfl <| ?_
  refine zo rfl rfl <| zo rfl rfl <| zv (ov_pickT rfl rfl) <| zn <| hc_cond_true rfl <| zg <| zs rfl <| zn <| zq <| zr <| ?_
  exact zz rfl rfl fun w' H' => ⟨bF hno, rfl, H'.ent (Ent.nil _)⟩
 skip
 refine hl_on rfl rfl <| zf rfl <| hl_on rfl rfl <| zl rfl rfl <| hl_on rfl rfl <| zv (ov_gtr rfl rfl) <| zv (ov_pickF rfl rfl) <| zm rfl <| ?_
 refine hl_part (t := 18) rfl (fun h2 => ?_) (fun h2 => ?_)
 ·have hno : ¬ goodP c := fun h => by have h := (hG.1 h); have := h.1.2.1; omega
  refine zo rfl rfl <| zo rfl rfl <| zo rfl rfl <| zo rfl rfl <| zv (ov_pickT rfl rfl) <| zm rfl <| zo rfl rfl <| zo rfl rfl <| zo rfl rfl <| zv (ov_pickT rfl rfl) <| zm rfl <| zo rfl rfl <| zo rfl rfl <| zo rfl rfl <| zv (ov_pickT rfl rfl) <| zm rfl <| zo rfl rfl <| zo rfl rfl <| zo rfl rfl <| zv (ov_pickT rfl rfl) <| zm rfl <| zo rfl rfl <| zo rfl rfl <| zo rfl rfl <| zv (ov_pickT rfl rfl) <| zm rfl <| zo rfl rfl <| zo rfl rfl <| zo rfl rfl <| zo rfl rfl <| zo rfl rfl <| zo rfl rfl <| zo rfl rfl <| zv (ov_pickT rfl rfl) <| zn <| hc_cond_true rfl <| zg <| zs rfl <| zn <| ?_
  refine zq <| zr <| ?_
  exact zz rfl rfl fun w' H' => ⟨bF hno, rfl, H'.ent (Ent.nil _)⟩
 skip
 refine hl_on rfl rfl <| zf rfl <| hl_on rfl rfl <| zl rfl rfl <| ?_
 refine hl_on rfl rfl <| hl_v (ov_rem (m := c.1 % 4096) rfl rfl Z63 (Int.tmod_eq_emod_of_nonneg Z64)) rfl ?_
 refine hl_on rfl rfl <| zv (ov_neq rfl rfl) <| zv (ov_pickF rfl rfl) <| zm rfl <| hl_part (t := 24) rfl (fun h3 => ?_) (fun h3 => ?_)
 ·have hno : ¬ goodP c := fun h => by have h := (hG.1 h); have := h.1.2.2.1; omega
  refine zo rfl rfl <| zo rfl rfl <| zo rfl rfl <| zv (ov_pickT rfl rfl) <| zm rfl <| zo rfl rfl <| zo rfl rfl <| zo rfl rfl <| zv (ov_pickT rfl rfl) <| zm rfl <| zo rfl rfl <| zo rfl rfl <| zo rfl rfl <| zv (ov_pickT rfl rfl) <| zm rfl <| zo rfl rfl <| zo rfl rfl <| zo rfl rfl <| zv (ov_pickT rfl rfl) <| zm rfl <| zo rfl rfl <| zo rfl rfl <| zo rfl rfl <| zo rfl rfl <| zo rfl rfl <| zo rfl rfl <| zo rfl rfl <| zv (ov_pickT rfl rfl) <| zn <| hc_cond_true rfl <| zg <| zs rfl <| zn <| zq <| zr <| ?_
  exact zz rfl rfl fun w' H' => ⟨bF hno, rfl, H'.ent (Ent.nil _)⟩
 skip
 refine hl_on rfl rfl <| zf rfl <| hl_on rfl rfl <| zl rfl rfl <| hl_on rfl rfl <| zv (ov_lss rfl rfl) <| zv (ov_pickF rfl rfl) <| zm rfl <| ?_
 refine hl_part (t := 29) rfl (fun h4 => ?_) (fun h4 => ?_)
 ·have hno : ¬ goodP c := fun h => by have h := (hG.1 h); have := h.1.2.2.2.1; omega
  refine zo rfl rfl <| zo rfl rfl <| zo rfl rfl <| zv (ov_pickT rfl rfl) <| zm rfl <| zo rfl rfl <| zo rfl rfl <| zo rfl rfl <| zv (ov_pickT rfl rfl) <| zm rfl <| zo rfl rfl <| zo rfl rfl <| zo rfl rfl <| zv (ov_pickT rfl rfl) <| zm rfl <| zo rfl rfl <| zo rfl rfl <| zo rfl rfl <| zo rfl rfl <| zo rfl rfl <| zo rfl rfl <| zo rfl rfl <| zv (ov_pickT rfl rfl) <| hl_nil <| zt <| hc_cond_true rfl <| zg <| zs rfl <| hl_nil <| zt <| zq <| zr <| ?_
  exact zz rfl rfl fun w' H' => ⟨bF hno, rfl, H'.ent (Ent.nil _)⟩
 skip
 refine hl_on rfl rfl <| zf rfl <| hl_on rfl rfl <| zl rfl rfl <| hl_on rfl rfl <| zv (ov_gtr rfl rfl) <| zv (ov_pickF rfl rfl) <| zm rfl <| ?_
 refine hl_part (t := 34) rfl (fun h5 => ?_) (fun h5 => ?_)
 ·have hno : ¬ goodP c := fun h => by have h := (hG.1 h); have := h.1.2.2.2.2.1; omega
  refine zo rfl rfl <| zo rfl rfl <| zo rfl rfl <| zv (ov_pickT rfl rfl) <| zm rfl <| zo rfl rfl <| zo rfl rfl <| zo rfl rfl <| zv (ov_pickT rfl rfl) <| zm rfl <| zo rfl rfl <| zo rfl rfl <| zo rfl rfl <| zo rfl rfl <| zo rfl rfl <| zo rfl rfl <| zo rfl rfl <| zv (ov_pickT rfl rfl) <| zn <| hc_cond_true rfl <| zg <| zs rfl <| zn <| zq <| zr <| ?_
  exact zz rfl rfl fun w' H' => ⟨bF hno, rfl, H'.ent (Ent.nil _)⟩
 skip
 refine hl_on rfl rfl <| zf rfl <| hl_on rfl rfl <| zl rfl rfl <| hl_on rfl rfl <| zv (ov_lss rfl rfl) <| zv (ov_pickF rfl rfl) <| zm rfl <| ?_
 refine hl_part (t := 39) rfl (fun h6 => ?_) (fun h6 => ?_)
 ·have hno : ¬ goodP c := fun h => by have h := (hG.1 h); have := h.1.2.2.2.2.2.1; omega
  refine zo rfl rfl <| zo rfl rfl <| zo rfl rfl <| zv (ov_pickT rfl rfl) <| zm rfl <| zo rfl rfl <| zo rfl rfl <| zo rfl rfl <| zo rfl rfl <| zo rfl rfl <| zo rfl rfl <| zo rfl rfl <| zv (ov_pickT rfl rfl) <| zn <| hc_cond_true rfl <| zg <| zs rfl <| zn <| zq <| zr <| ?_
  exact zz rfl rfl fun w' H' => ⟨bF hno, rfl, H'.ent (Ent.nil _)⟩
 skip
 refine hl_on rfl rfl <| zf rfl <| hl_on rfl rfl <| zl rfl rfl <| hl_on rfl rfl <| zv (ov_gtr rfl rfl) <| zv (ov_pickF rfl rfl) <| zm rfl <| ?_
 refine hl_part (t := 44) rfl (fun h7 => ?_) (fun h7 => ?_)
 ·have hno : ¬ goodP c := fun h => by have h := (hG.1 h); have := h.1.2.2.2.2.2.2.1; omega
  refine zo rfl rfl <| zo rfl rfl <| zo rfl rfl <| zo rfl rfl <| zo rfl rfl <| zo rfl rfl <| zo rfl rfl <| zv (ov_pickT rfl rfl) <| zn <| hc_cond_true rfl <| hc_seq <| hc_region <| zs rfl <| zn <| zq <| zr <| ?_
  exact zz rfl rfl fun w' H' => ⟨bF hno, rfl, H'.ent (Ent.nil _)⟩
 skip
 refine hl_on rfl rfl <| zf rfl <| hl_on rfl rfl <| zl rfl rfl <| ?_
 refine hl_on rfl rfl <| hl_v (ov_sub (m := c.2.2.1 - 1) rfl rfl Z45) rfl ?_
 refine hl_on rfl rfl <| hl_v (ov_mul (m := 2 * (c.2.2.1 - 1)) rfl rfl Z45) rfl ?_
 refine hl_on rfl rfl <| zf rfl <| hl_on rfl rfl <| zl rfl rfl <| hl_on rfl rfl <| zv (ov_lss rfl rfl) <| zv (ov_pickF rfl rfl) <| zn <| ?_
 refine hc_cond rfl (fun h8 => ?_) (fun h8 => ?_)
 ·have hno : ¬ goodP c := fun h => by have h := (hG.1 h); have := h.1.2.2.2.2.2.2.2; omega
  refine zg <| zs rfl <| zn <| zq <| zr <| ?_
  exact zz rfl rfl fun w' H' => ⟨bF hno, rfl, H'.ent (Ent.nil _)⟩
 have ht : timesP c := ⟨by omega, by omega, by omega, by omega, by omega, by omega, by omega, by omega⟩
 clear h1 h2 h3 h4 h5 h6 h7 h8
 refine zk <| hc_seq <| zg <| zf rfl <| ?_
 refine zl rfl rfl <| zv Z25 <| ?_
 refine zv (ov_lss rfl rfl) <| zm rfl <| hl_part (t := 57) rfl (fun k1 => ?_) (fun k1 => ?_)
 ·have hno : ¬ goodP c := fun h => by have h := (hG.1 h); have := h.2.2.1.1; omega
  refine zo rfl rfl <| zo rfl rfl <| zo rfl rfl <| zo rfl rfl <| zv (ov_pickT rfl rfl) <| zm rfl <| zo rfl rfl <| zo rfl rfl <| zo rfl rfl <| zo rfl rfl <| zv (ov_pickT rfl rfl) <| zm rfl <| zo rfl rfl <| zo rfl rfl <| zo rfl rfl <| zo rfl rfl <| zv (ov_pickT rfl rfl) <| zm rfl <| zo rfl rfl <| zo rfl rfl <| zo rfl rfl <| zo rfl rfl <| zv (ov_pickT rfl rfl) <| hl_nil <| zt <| hc_cond_true rfl <| zg <| zs rfl <| hl_nil <| zt <| zq <| zr <| ?_
  exact zz rfl rfl fun w' H' => ⟨bF hno, rfl, H'.ent (Ent.nil _)⟩
 skip
 refine hl_on rfl rfl <| zf rfl <| hl_on rfl rfl <| zl rfl rfl <| hl_on rfl rfl <| zv Z25 <| ?_
 refine hl_on rfl rfl <| zv (ov_gtr rfl rfl) <| zv (ov_pickF rfl rfl) <| zm rfl <| hl_part (t := 63) rfl (fun k2 => ?_) (fun k2 => ?_)
 ·have hno : ¬ goodP c := fun h => by have h := (hG.1 h); have := h.2.2.1.2.1; omega
  refine zo rfl rfl <| zo rfl rfl <| zo rfl rfl <| zo rfl rfl <| zv (ov_pickT rfl rfl) <| zm rfl <| zo rfl rfl <| zo rfl rfl <| zo rfl rfl <| zo rfl rfl <| zv (ov_pickT rfl rfl) <| zm rfl <| zo rfl rfl <| zo rfl rfl <| zo rfl rfl <| zo rfl rfl <| zv (ov_pickT rfl rfl) <| hl_nil <| zt <| hc_cond_true rfl <| zg <| zs rfl <| hl_nil <| zt <| zq <| zr <| ?_
  exact zz rfl rfl fun w' H' => ⟨bF hno, rfl, H'.ent (Ent.nil _)⟩
 skip
 refine hl_on rfl rfl <| zf rfl <| hl_on rfl rfl <| zl rfl rfl <| hl_on rfl rfl <| zv Z25 <| ?_
 refine hl_on rfl rfl <| zv (ov_lss rfl rfl) <| zv (ov_pickF rfl rfl) <| zm rfl <| hl_part (t := 69) rfl (fun k3 => ?_) (fun k3 => ?_)
 ·have hno : ¬ goodP c := fun h => by have h := (hG.1 h); have := h.2.1.1; omega
  refine zo rfl rfl <| zo rfl rfl <| zo rfl rfl <| zo rfl rfl <| zv (ov_pickT rfl rfl) <| zm rfl <| zo rfl rfl <| zo rfl rfl <| zo rfl rfl <| zo rfl rfl <| zv (ov_pickT rfl rfl) <| hl_nil <| zt <| hc_cond_true rfl <| zg <| zs rfl <| hl_nil <| zt <| zq <| zr <| ?_
  exact zz rfl rfl fun w' H' => ⟨bF hno, rfl, H'.ent (Ent.nil _)⟩
 skip
 refine hl_on rfl rfl <| zf rfl <| hl_on rfl rfl <| zl rfl rfl <| hl_on rfl rfl <| zv Z25 <| ?_
 refine hl_on rfl rfl <| zv (ov_gtr rfl rfl) <| zv (ov_pickF rfl rfl) <| zm rfl <| hl_part (t := 75) rfl (fun k4 => ?_) (fun k4 => ?_)
 ·have hno : ¬ goodP c := fun h => by have h := (hG.1 h); have := h.2.1.2.1; omega
  refine zo rfl rfl <| zo rfl rfl <| zo rfl rfl <| zo rfl rfl <| zv (ov_pickT rfl rfl) <| hl_nil <| zt <| hc_cond_true rfl <| zg <| zs rfl <| hl_nil <| zt <| zq <| zr <| ?_
  exact zz rfl rfl fun w' H' => ⟨bF hno, rfl, H'.ent (Ent.nil _)⟩
 skip
 refine hl_on rfl rfl <| zf rfl <| hl_on rfl rfl <| zl rfl rfl <| hl_on rfl rfl <| zv Z25 <| ?_
 refine hl_on rfl rfl <| zv (ov_gtr rfl rfl) <| zv (ov_pickF rfl rfl) <| zn <| hc_cond rfl (fun k5 => ?_) (fun k5 => ?_)
 ·have hno : ¬ goodP c := fun h => by have h := (hG.1 h); have := h.2.2.2.1; omega
  refine zg <| zs rfl <| zn <| zq <| zr <| ?_
  exact zz rfl rfl fun w' H' => ⟨bF hno, rfl, H'.ent (Ent.nil _)⟩
 skip
 refine zk <| hc_seq <| zg <| zs rfl <| zn <| hc_block <| ?_
 have hnp8 : np ≤ 8 := by omega
 refine hc_loops1 (σ := Nat) [1] rfl 3 (fun i => .int .i64 (i : Int)) (fun i => i ≤ V.length ∧ ∀ j (h : j < V.length), j < i → vlanOk np V[j] ∧ (0 < j → (V[j - 1]'(by omega)).1 < V[j].1)) (fun i => V.length - i) (0) (⟨Nat.zero_le _, fun j _ h => absurd h (Nat.not_lt_zero _)⟩) rfl ?_
 rintro i ⟨hi, hall⟩ K1 hK1
 refine hc_seq <| zg <| zm rfl <| zf rfl <| zl rfl rfl <| ?_
 refine zv Z25 <| ?_
 refine zv (ov_lss rfl rfl) <| zn <| hc_cond rfl (fun h => ?_) (fun h => ?_)
 ·have hlt : i < V.length := by omega
  have hc := OldS.cells_flat (D := D) (w0 := w) (f := vlanV) (sz := 3) (fun _ => rfl) Z63 HSv hlt
  have hA := (hc []).1
  have hbad : ¬ (vlanOk np V[i] ∧ (0 < i → (V[i - 1]'(by omega)).1 < V[i].1)) → ¬ goodP c := fun hx h => hx ⟨(hG.1 h).2.1.2.2.1 i hlt, fun h0 => cmpI_neg.1 ((hG.1 h).2.1.2.2.2 i hlt h0)⟩
  have hnext : (vlanOk np V[i] ∧ (0 < i → (V[i - 1]'(by omega)).1 < V[i].1)) → ∀ j (h : j < V.length), j < i + 1 → vlanOk np V[j] ∧ (0 < j → (V[j - 1]'(by omega)).1 < V[j].1) := fun hx j hj h1 => by
   rcases Nat.lt_or_ge j i with h3 | h3
   ·exact hall j hj h3
   ·obtain rfl : j = i := by omega
    exact hx
  have hcl := fun l' => (OldS.cells_flat (D := D) (w0 := w) (f := vlanV) (sz := 3) (fun _ => rfl) Z63 HSv (show i - 1 < V.length by omega) l').2.cell (i := 0) (v := .int .i64 (V[i - 1]'(by omega)).1) rfl
  generalize V[i] = x at *
  generalize hy : (V[i - 1]'(by omega)) = y at *
  have hb1 := x.2.1.toNat_lt
  refine zk <| hc_seq <| hc_block <| zg <| zf rfl <| zl rfl rfl <| zm rfl <| zv (ov_idxS rfl Z62 rfl _ rfl Z64) <| ?_
  refine hl_v (ov_loadG (cs := vlanV x) rfl rfl (hc _).2) rfl <| hl_new (on_alloc) rfl rfl rfl fun b4 =>  ?_
  refine hl_u0 (on_storeW (vs := vlanV x) rfl rfl (by simp) (by simp) Z44) rfl rfl ?_
  refine zn <| hc_seq <| hc_seq <| hc_quiet mixed Z61 <| hq_v (ov_fieldA rfl) rfl <| ?_
  refine hq_v (zw rfl rfl) rfl <| hq_v (ov_lss rfl rfl) rfl <| hq_v (ov_move rfl) rfl <| ?_
  refine hq_part (t := 96) rfl (fun a1 => ?_) (fun a1 => ?_)
  ·have hno := hbad fun h => by have := h.1.1; omega
   refine hq_off rfl rfl rfl rfl rfl rfl <| hq_off rfl rfl rfl rfl rfl rfl <| hq_off rfl rfl rfl rfl rfl rfl <| hq_v (ov_pickT rfl rfl) rfl <| hq_v (ov_move rfl) rfl <| hq_off rfl rfl rfl rfl rfl rfl <| ?_
   refine hq_off rfl rfl rfl rfl rfl rfl <| hq_off rfl rfl rfl rfl rfl rfl <| hq_offU rfl rfl rfl rfl rfl <| hq_offU rfl rfl rfl rfl rfl <| hq_offU rfl rfl rfl rfl rfl <| hq_offU rfl rfl rfl rfl rfl <| ?_
   refine hq_offU rfl rfl rfl rfl rfl <| hq_offU rfl rfl rfl rfl rfl <| hq_offU rfl rfl rfl rfl rfl <| hq_offU rfl rfl rfl rfl rfl <| hq_offU rfl rfl rfl rfl rfl <| hq_offU rfl rfl rfl rfl rfl <| ?_
   refine hq_off rfl rfl rfl rfl rfl rfl <| hq_v (ov_pickT rfl rfl) rfl <| hq_v (ov_move rfl) rfl <| hq_off rfl rfl rfl rfl rfl rfl <| hq_off rfl rfl rfl rfl rfl rfl <| hq_off rfl rfl rfl rfl rfl rfl <| ?_
   refine hq_off rfl rfl rfl rfl rfl rfl <| hq_off rfl rfl rfl rfl rfl rfl <| hq_off rfl rfl rfl rfl rfl rfl <| hq_v (ov_pickT rfl rfl) rfl <| hq_nil <| zt <| ?_
   refine hc_cond_true rfl <| zg <| zs rfl <| zn <| zq <| zr <| hx_block_ret <| zr <| zr <| hx_block_ret <| zr <| ?_
   exact zz rfl rfl fun w' H' => ⟨bF hno, rfl, H'.ent (Ent.nil _)⟩
  refine hq_on rfl rfl <| hq_v (ov_fieldA rfl) rfl <| hq_on rfl rfl <| hq_v (zw rfl rfl) rfl <| hq_on rfl rfl <| hq_v (ov_gtr rfl rfl) rfl <| hq_v (ov_pickF rfl rfl) rfl <| hq_v (ov_move rfl) rfl <| ?_
  refine hq_part (t := 101) rfl (fun a2 => ?_) (fun a2 => ?_)
  ·have hno := hbad fun h => by have := h.1.2.1; omega
   refine hq_off rfl rfl rfl rfl rfl rfl <| hq_off rfl rfl rfl rfl rfl rfl <| hq_off rfl rfl rfl rfl rfl rfl <| hq_offU rfl rfl rfl rfl rfl <| hq_offU rfl rfl rfl rfl rfl <| hq_offU rfl rfl rfl rfl rfl <| ?_
   refine hq_offU rfl rfl rfl rfl rfl <| hq_offU rfl rfl rfl rfl rfl <| hq_offU rfl rfl rfl rfl rfl <| hq_offU rfl rfl rfl rfl rfl <| hq_offU rfl rfl rfl rfl rfl <| hq_offU rfl rfl rfl rfl rfl <| ?_
   refine hq_offU rfl rfl rfl rfl rfl <| hq_off rfl rfl rfl rfl rfl rfl <| hq_v (ov_pickT rfl rfl) rfl <| hq_v (ov_move rfl) rfl <| hq_off rfl rfl rfl rfl rfl rfl <| hq_off rfl rfl rfl rfl rfl rfl <| ?_
   refine hq_off rfl rfl rfl rfl rfl rfl <| hq_off rfl rfl rfl rfl rfl rfl <| hq_off rfl rfl rfl rfl rfl rfl <| hq_off rfl rfl rfl rfl rfl rfl <| hq_v (ov_pickT rfl rfl) rfl <| hq_nil <| ?_
   refine zt <| hc_cond_true rfl <| zg <| zs rfl <| hl_nil <| zt <| zq <| zr <| hx_block_ret <| zr <| zr <| hx_block_ret <| zr <| ?_
   exact zz rfl rfl fun w' H' => ⟨bF hno, rfl, H'.ent (Ent.nil _)⟩
  refine hq_on rfl rfl <| hq_v (ov_move rfl) rfl <| hq_on rfl rfl <| hq_v (ov_gtr rfl rfl) rfl <| hq_on rfl rfl <| hq_v (ov_move rfl) rfl <| ?_
  refine hq_part (t := 104) rfl (fun a3 => ?_) (fun a3 => ?_)
  ·refine hq_on rfl rfl <| hq_v (ov_fieldA rfl) rfl <| hq_on rfl rfl <| hq_v (zw rfl rfl) rfl <| hq_on rfl rfl <| hq_v (ov_fieldA rfl) rfl <| hq_on rfl rfl <| hq_v (zw rfl rfl) rfl <| hq_on rfl rfl <| hq_v (ov_move rfl) rfl <| hq_on rfl rfl <| hq_v (ov_sub rfl rfl Z28) rfl <| ?_
   refine hq_on rfl rfl <| hq_v (ov_idxS rfl hA rfl (i - 1) Z64 Z64) rfl ?_
   refine hq_on rfl rfl <| hq_v (ov_fieldA rfl) rfl <| hq_on rfl rfl <| hq_v Z9 rfl <| ?_
   refine hq_on rfl rfl <| hq_v (ov_leq rfl rfl) rfl <| hq_on rfl rfl <| hq_v (ov_pickT rfl rfl) rfl <| hq_v (ov_pickF rfl rfl) rfl <| hq_v (ov_move rfl) rfl <| ?_
   refine hq_part (t := 117) rfl (fun a4 => ?_) (fun a4 => ?_)
   ·have hno := hbad fun h => by have := h.2 Z64; omega
    refine hq_off rfl rfl rfl rfl rfl rfl <| hq_off rfl rfl rfl rfl rfl rfl <| hq_off rfl rfl rfl rfl rfl rfl <| hq_off rfl rfl rfl rfl rfl rfl <| hq_off rfl rfl rfl rfl rfl rfl <| hq_off rfl rfl rfl rfl rfl rfl <| ?_
    refine hq_v (ov_pickT rfl rfl) rfl <| hq_nil <| zt <| hc_cond_true rfl <| zg <| ?_
    refine zs rfl <| zn <| zq <| zr <| hx_block_ret <| zr <| zr <| hx_block_ret <| zr <| ?_
    exact zz rfl rfl fun w' H' => ⟨bF hno, rfl, H'.ent (Ent.nil _)⟩
   have hris : 0 < i → y.1 < x.1 := fun _ => by omega
   refine hq_on rfl rfl <| hq_v (ov_fieldA rfl) rfl <| hq_on rfl rfl <| hq_v (zw rfl rfl) rfl <| hq_on rfl rfl <| hq_v (ov_fieldA rfl) rfl <| hq_on rfl rfl <| hq_v (zw rfl rfl) rfl <| ?_
   refine hq_on rfl rfl <| hq_v (ov_andNot_u8 (a := x.2.2) (b := x.2.1) rfl rfl) rfl ?_
   refine hq_on rfl rfl <| hq_v (ov_neq rfl rfl) rfl <| hq_v (ov_pickF rfl rfl) rfl <| hq_nil <| zt <| ?_
   refine hc_cond rfl (fun a5 => ?_) (fun a5 => ?_)
   ·have hno := hbad fun h => a5 (by rw [h.1.2.2.2]; rfl)
    refine zg <| zs rfl <| zn <| zq <| zr <| hx_block_ret <| zr <| zr <| hx_block_ret <| zr <| ?_
    exact zz rfl rfl fun w' H' => ⟨bF hno, rfl, H'.ent (Ent.nil _)⟩
   have h5 : x.2.2 &&& ~~~ x.2.1 = 0 := UInt8.toNat_inj.1 (by have := Classical.not_not.1 a5; simp only [UInt8.toNat_zero]; omega)
   refine zk <| zg <| zf rfl <| zl rfl rfl <| ?_
   refine zv Z25 <| ?_
   refine zs rfl <| zn <| hc_block <| hc_loops1 (σ := Nat) [1, 3, 4] rfl 5 (fun p => .int .i64 (p : Int)) (fun p => (np ≤ p ∧ p ≤ 8) ∧ ∀ q : Nat, np ≤ q → q < p → ¬ memP x q) (fun p => 8 - p) (np) (⟨⟨Nat.le_refl _, by omega⟩, fun q h1 h2 => absurd h2 Z64⟩) rfl ?_
   rintro p ⟨⟨hp1, hp2⟩, hpm⟩ K2 hK2
   refine hc_seq <| zg <| zm rfl <| zv (ov_lss rfl rfl) <| hl_nil <| zt <| hc_cond rfl (fun b1 => ?_) (fun b1 => ?_)
   ·refine zk <| hc_seq <| hc_block <| zg <| zv Z17 <| ?_
    refine zm rfl <| hl_call (σ := BIff (memP x p)) Tryz.call106 rfl rfl (fun w1 => zu fun D' _ _ _ => Member_spec D' w1 x p (by unfold inI64; omega)) ?_
    intro r
    try rw [List.nil_append]
    refine zn <| hc_cond_bool rfl (fun b2 => ?_) (fun b2 => ?_)
    ·have hno := hbad fun h => (mem_below hnp8 x).2 h.1.2.2.1 p hp1 Z64 (r.2.1 b2)
     refine zg <| zs rfl <| zn <| zq <| hx_block_ret <| zr <| zr <| hx_block_ret <| hx_block_ret <| zr <| zr <| hx_block_ret <| zr <| ?_
     exact zz rfl rfl fun w' H' => ⟨bF hno, rfl, H'.ent (Ent.nil _)⟩
    have hnm : ¬ memP x p := fun h => by have := r.2.2 h; rw [this] at b2; cases b2
    have hpm' : ∀ q : Nat, np ≤ q → q < p + 1 → ¬ memP x q := fun q h1 h2 => by
     rcases Nat.lt_or_ge q p with h3 | h3
     ·exact hpm q h1 h3
     ·obtain rfl : q = p := by omega
      exact hnm
    refine hc_skip <| zb <| zt <| hc_region <| zm rfl <| zv (ov_add rfl rfl Z28) <| ?_
    refine zs rfl <| hl_nil <| hx_next hK2 (p + 1) (⟨⟨by omega, by omega⟩, hpm'⟩) Z64 Z16 Z10
   have h6 : x.2.1.toNat < 2 ^ np := (mem_below hnp8 x).1 fun q h1 h2 => hpm q h1 Z64
   have hn := hnext ⟨⟨by omega, by omega, h6, h5⟩, hris⟩
   refine hc_exit <| ze <| ze <| hx_block_out <| zb <| zt <| hc_region <| zm rfl <| zv (ov_add rfl rfl Z28) <| ?_
   refine zs rfl <| hl_nil <| hx_next hK1 (i + 1) (⟨hlt, hn⟩) Z64 Z16 Z10
  have hris : 0 < i → y.1 < x.1 := fun h => absurd h Z64
  refine hq_off rfl rfl rfl rfl rfl rfl <| hq_off rfl rfl rfl rfl rfl rfl <| hq_off rfl rfl rfl rfl rfl rfl <| hq_off rfl rfl rfl rfl rfl rfl <| hq_off rfl rfl rfl rfl rfl rfl <| hq_off rfl rfl rfl rfl rfl rfl <| ?_
  refine hq_off rfl rfl rfl rfl rfl rfl <| hq_off rfl rfl rfl rfl rfl rfl <| hq_off rfl rfl rfl rfl rfl rfl <| hq_off rfl rfl rfl rfl rfl rfl <| hq_on rfl rfl <| hq_v (ov_pickF rfl rfl) rfl <| hq_v (ov_pickF rfl rfl) rfl <| ?_
  refine hq_v (ov_move rfl) rfl <| hq_on rfl rfl <| hq_v (ov_fieldA rfl) rfl <| hq_on rfl rfl <| hq_v (zw rfl rfl) rfl <| hq_on rfl rfl <| hq_v (ov_fieldA rfl) rfl <| hq_on rfl rfl <| hq_v (zw rfl rfl) rfl <| ?_
  refine hq_on rfl rfl <| hq_v (ov_andNot_u8 (a := x.2.2) (b := x.2.1) rfl rfl) rfl ?_
  refine hq_on rfl rfl <| hq_v (ov_neq rfl rfl) rfl <| hq_v (ov_pickF rfl rfl) rfl <| hq_nil <| zt <| ?_
  refine hc_cond rfl (fun a5 => ?_) (fun a5 => ?_)
  ·have hno := hbad fun h => a5 (by rw [h.1.2.2.2]; rfl)
   refine zg <| zs rfl <| zn <| zq <| zr <| hx_block_ret <| zr <| zr <| hx_block_ret <| zr <| ?_
   exact zz rfl rfl fun w' H' => ⟨bF hno, rfl, H'.ent (Ent.nil _)⟩
  have h5 : x.2.2 &&& ~~~ x.2.1 = 0 := UInt8.toNat_inj.1 (by have := Classical.not_not.1 a5; simp only [UInt8.toNat_zero]; omega)
  refine zk <| zg <| zf rfl <| zl rfl rfl <| ?_
  refine zv Z25 <| ?_
  refine zs rfl <| zn <| hc_block <| hc_loops1 (σ := Nat) [1, 3, 4] rfl 5 (fun p => .int .i64 (p : Int)) (fun p => (np ≤ p ∧ p ≤ 8) ∧ ∀ q : Nat, np ≤ q → q < p → ¬ memP x q) (fun p => 8 - p) (np) (⟨⟨Nat.le_refl _, by omega⟩, fun q h1 h2 => absurd h2 Z64⟩) rfl ?_
  rintro p ⟨⟨hp1, hp2⟩, hpm⟩ K3 hK3
  refine hc_seq <| zg <| zm rfl <| zv (ov_lss rfl rfl) <| hl_nil <| zt <| hc_cond rfl (fun b1 => ?_) (fun b1 => ?_)
  ·refine zk <| hc_seq <| hc_block <| zg <| zv Z17 <| ?_
   refine zm rfl <| hl_call (σ := BIff (memP x p)) Tryz.call106 rfl rfl (fun w1 => zu fun D' _ _ _ => Member_spec D' w1 x p (by unfold inI64; omega)) ?_
   intro r
   try rw [List.nil_append]
   refine zn <| hc_cond_bool rfl (fun b2 => ?_) (fun b2 => ?_)
   ·have hno := hbad fun h => (mem_below hnp8 x).2 h.1.2.2.1 p hp1 Z64 (r.2.1 b2)
    refine zg <| zs rfl <| zn <| zq <| hx_block_ret <| zr <| zr <| hx_block_ret <| hx_block_ret <| zr <| zr <| hx_block_ret <| zr <| ?_
    exact zz rfl rfl fun w' H' => ⟨bF hno, rfl, H'.ent (Ent.nil _)⟩
   have hnm : ¬ memP x p := fun h => by have := r.2.2 h; rw [this] at b2; cases b2
   have hpm' : ∀ q : Nat, np ≤ q → q < p + 1 → ¬ memP x q := fun q h1 h2 => by
    rcases Nat.lt_or_ge q p with h3 | h3
    ·exact hpm q h1 h3
    ·obtain rfl : q = p := by omega
     exact hnm
   refine hc_skip <| zb <| zt <| hc_region <| zm rfl <| zv (ov_add rfl rfl Z28) <| ?_
   refine zs rfl <| hl_nil <| hx_next hK3 (p + 1) (⟨⟨by omega, by omega⟩, hpm'⟩) Z64 Z16 Z10
  have h6 : x.2.1.toNat < 2 ^ np := (mem_below hnp8 x).1 fun q h1 h2 => hpm q h1 Z64
  have hn := hnext ⟨⟨by omega, by omega, h6, h5⟩, hris⟩
  refine hc_exit <| ze <| ze <| hx_block_out <| zb <| zt <| hc_region <| zm rfl <| zv (ov_add rfl rfl Z28) <| ?_
  refine zs rfl <| hl_nil <| hx_next hK1 (i + 1) (⟨hlt, hn⟩) Z64 Z16 Z10
 skip
 have hvs : (∀ i (h : i < V.length), vlanOk np V[i]) ∧ risP cV V := ⟨fun j hj => (hall j hj Z64).1, fun j hj h0 => cmpI_neg.2 ((hall j hj Z64).2 h0)⟩
 obtain ⟨hv3, hv4⟩ := hvs
 clear hall
 refine hc_exit <| ze <| ze <| hx_block_out <| zt <| hc_seq <| zg <| zs rfl <| zn <| hc_block <| hc_loops1 (σ := Nat) [1] rfl 6 (fun i => .int .i64 (i : Int)) (fun i => i ≤ np ∧ ∀ j (h : j < P.length), j < i → portOk V P[j]) (fun i => np - i) (0) (⟨Nat.zero_le _, fun j _ h => absurd h (Nat.not_lt_zero _)⟩) rfl ?_
 rintro i ⟨hi, hall⟩ K4 hK4
 refine hc_seq <| zg <| zm rfl <| zf rfl <| zl rfl rfl <| ?_
 refine zv Z25 <| ?_
 refine zv (ov_lss rfl rfl) <| zn <| hc_cond rfl (fun h => ?_) (fun h => ?_)
 ·have hlt : i < P.length := by omega
  have hc := OldS.cells_flat (D := D) (w0 := w) (f := portV) (sz := 3) (fun _ => rfl) Z63 HSp hlt
  have hA := (hc []).1
  have hcl := fun l' => (hc l').2.cell (i := 1) (v := .int .u32 (P[i].2.1.toNat : Int)) rfl
  have hcl2 := fun l' => (hc l').2.cell (i := 2) (v := .int .i64 P[i].2.2) rfl
  have hbad : ¬ portOk V P[i] → ¬ goodP c := fun hx h => hx ((hG.1 h).2.2.1.2.2 i hlt)
  have hnext : portOk V P[i] → ∀ j (h : j < P.length), j < i + 1 → portOk V P[j] := fun hx j hj h1 => by
   rcases Nat.lt_or_ge j i with h3 | h3
   ·exact hall j hj h3
   ·obtain rfl : j = i := by omega
    exact hx
  generalize P[i] = x at *
  have hcx := x.2.1.toNat_lt
  refine zk <| hc_seq <| hc_block <| hc_seq <| hc_any [blk b1 49 (cfgV c (.slice Ap np capp) (.slice Av V.length capv) (.slice As S.length caps))] mixed 27 rfl ?_
  refine ha_v 0 rfl (ov_fieldA rfl) rfl <| ha_v 1 rfl (zw rfl rfl) rfl <| ha_v 2 rfl (ov_move rfl) rfl <| ha_v 3 rfl (ov_idxS rfl Z62 rfl _ rfl Z64) rfl <| ?_
  refine ha_v 4 rfl (ov_fieldA rfl) rfl <| ha_v 5 rfl Z9 rfl <| ?_
  refine ha_v 6 rfl (ov_lss rfl rfl) rfl <| ha_v 7 rfl (ov_move rfl) rfl <| ha_part (t := 149) rfl (fun a1 => ?_) (fun a1 => ?_)
  ·have hno := hbad fun h => by have := h.2.1; omega
   refine ha_x 8 rfl rfl <| ha_x 9 rfl rfl <| ha_x 10 rfl rfl <| ha_x 11 rfl rfl <| ha_x 12 rfl rfl <| ha_x 13 rfl rfl <| ha_x 14 rfl rfl <| ha_v 15 rfl (ov_pickT rfl rfl) rfl <| ha_v 16 rfl (ov_move rfl) rfl <| ha_x 17 rfl rfl <| ha_x 18 rfl rfl <| ha_x 19 rfl rfl <| ha_x 20 rfl rfl <| ha_x 21 rfl rfl <| ha_x 22 rfl rfl <| ha_x 23 rfl rfl <| ha_one 24 Z61 <| ho_x rfl rfl <| ha_x 25 rfl rfl <| ha_v 26 rfl (ov_pickT rfl rfl) rfl <| ha_done Z61 <| zt <| hc_cond_true rfl <| zg <| zs rfl <| ?_
   refine zn <| zq <| hx_block_ret <| zr <| zr <| hx_block_ret <| zr <| ?_
   exact zz rfl rfl fun w' H' => ⟨bF hno, rfl, H'.ent (Ent.nil _)⟩
  refine ha_v 8 rfl (ov_fieldA rfl) rfl <| ha_v 9 rfl (zw rfl rfl) rfl <| ha_v 10 rfl (ov_move rfl) rfl <| ha_v 11 rfl (ov_idxS rfl Z62 rfl _ rfl Z64) rfl <| ?_
  refine ha_v 12 rfl (ov_fieldA rfl) rfl <| ha_v 13 rfl Z9 rfl <| ?_
  refine ha_v 14 rfl (ov_gtr rfl rfl) rfl <| ha_v 15 rfl (ov_pickF rfl rfl) rfl <| ha_v 16 rfl (ov_move rfl) rfl <| ha_part (t := 158) rfl (fun a2 => ?_) (fun a2 => ?_)
  ·have hno := hbad fun h => by have := h.2.2; omega
   refine ha_x 17 rfl rfl <| ha_x 18 rfl rfl <| ha_x 19 rfl rfl <| ha_x 20 rfl rfl <| ha_x 21 rfl rfl <| ha_x 22 rfl rfl <| ha_x 23 rfl rfl <| ha_one 24 Z61 <| ho_x rfl rfl <| ha_x 25 rfl rfl <| ha_v 26 rfl (ov_pickT rfl rfl) rfl <| ha_done Z61 <| zt <| hc_cond_true rfl <| zg <| zs rfl <| ?_
   refine zn <| zq <| hx_block_ret <| zr <| zr <| hx_block_ret <| zr <| ?_
   exact zz rfl rfl fun w' H' => ⟨bF hno, rfl, H'.ent (Ent.nil _)⟩
  refine ha_v 17 rfl Z17 rfl <| ?_
  refine ha_v 18 rfl (ov_fieldA rfl) rfl <| ha_v 19 rfl (zw rfl rfl) rfl <| ha_v 20 rfl (ov_move rfl) rfl <| ha_v 21 rfl (ov_idxS rfl Z62 rfl _ rfl Z64) rfl <| ?_
  refine ha_v 22 rfl (ov_fieldA rfl) rfl <| ha_v 23 rfl Z9 rfl <| ?_
  refine ha_one 24 Z61 <| ho_kx (σ := VlanT V x.2.2) rfl Tryz.call107 rfl (fun w1 => zu fun D' hold _ _ => RVlan_spec D' w1 c _ _ _ x.2.2 V hV Z64 (hold _ HV)) ?_
  intro r
  try rw [List.nil_append]
  refine ha_v 25 rfl (ov_lss rfl rfl) rfl <| ha_v 26 rfl (ov_pickF rfl rfl) rfl <| ha_done Z61 <| zt <| ?_
  refine hc_cond rfl (fun a3 => ?_) (fun a3 => ?_)
  ·have hno := hbad fun h => by
    obtain ⟨k, hk, he⟩ := h.1
    rcases r.2 with ⟨h1, h2⟩ | ⟨k2, hk2, h1, h2⟩
    ·exact h2 k hk he
    ·rw [h1] at a3; omega
   refine zg <| zs rfl <| zn <| zq <| hx_block_ret <| zr <| zr <| hx_block_ret <| zr <| ?_
   exact zz rfl rfl fun w' H' => ⟨bF hno, rfl, H'.ent (Ent.nil _)⟩
  have hn := hnext ⟨by
   rcases r.2 with ⟨h1, h2⟩ | ⟨k2, hk2, h1, h2⟩
   ·rw [h1] at a3; omega
   ·exact ⟨k2, hk2, h2⟩, by omega, by omega⟩
  refine hc_skip <| zb <| zt <| hc_region <| zm rfl <| zv (ov_add rfl rfl Z28) <| ?_
  refine zs rfl <| hl_nil <| hx_next hK4 (i + 1) (⟨by omega, hn⟩) Z64 Z16 Z10
 skip
 have hp3 : ∀ i (h : i < P.length), portOk V P[i] := fun j hj => hall j hj Z64
 clear hall
 refine hc_exit <| ze <| ze <| hx_block_out <| zt <| hc_seq <| zg <| zs rfl <| zn <| hc_block <| hc_loops1 (σ := Nat) [1] rfl 7 (fun i => .int .i64 (i : Int)) (fun i => i ≤ S.length ∧ ∀ j (h : j < S.length), j < i → statOk np V S[j] ∧ (0 < j → byPl (S[j - 1]'(by omega)) S[j] < 0)) (fun i => S.length - i) (0) (⟨Nat.zero_le _, fun j _ h => absurd h (Nat.not_lt_zero _)⟩) rfl ?_
 rintro i ⟨hi, hall⟩ K5 hK5
 refine hc_seq <| zg <| zm rfl <| zf rfl <| zl rfl rfl <| ?_
 refine zv Z25 <| ?_
 refine zv (ov_lss rfl rfl) <| zn <| hc_cond rfl (fun h => ?_) (fun h => ?_)
 ·have hlt : i < S.length := by omega
  have hc := OldS.cells_flat (D := D) (w0 := w) (f := statV) (sz := 3) (fun _ => rfl) Z63 HSs hlt
  have hA := (hc []).1
  have hcy := OldS.cells_flat (D := D) (w0 := w) (f := statV) (sz := 3) (fun _ => rfl) Z63 HSs (show i - 1 < S.length by omega)
  have hbad : ¬ (statOk np V S[i] ∧ (0 < i → byPl (S[i - 1]'(by omega)) S[i] < 0)) → ¬ goodP c := fun hx h => hx ⟨(hG.1 h).2.2.2.2.2 i hlt, fun h0 => (hG.1 h).2.2.2.2.1 i hlt h0⟩
  have hnext : (statOk np V S[i] ∧ (0 < i → byPl (S[i - 1]'(by omega)) S[i] < 0)) → ∀ j (h : j < S.length), j < i + 1 → statOk np V S[j] ∧ (0 < j → byPl (S[j - 1]'(by omega)) S[j] < 0) := fun hx j hj h1 => by
   rcases Nat.lt_or_ge j i with h3 | h3
   ·exact hall j hj h3
   ·obtain rfl : j = i := by omega
    exact hx
  have hxin := (hsok S[i] (List.getElem_mem hlt)).2
  generalize S[i] = x at *
  generalize hy : (S[i - 1]'(by omega)) = y at *
  have hmac := x.1.toNat_lt
  refine zk <| hc_seq <| hc_block <| zg <| zf rfl <| zl rfl rfl <| zm rfl <| zv (ov_idxS rfl Z62 rfl _ rfl Z64) <| ?_
  refine hl_v (ov_loadG (cs := statV x) rfl rfl (hc _).2) rfl <| hl_new (on_alloc) rfl rfl rfl fun b8 =>  ?_
  refine hl_u0 (on_storeW (vs := statV x) rfl rfl (by simp) (by simp) Z49) rfl rfl ?_
  refine zn <| zg <| zv Z17 <| ?_
  refine zf rfl <| zl rfl rfl <| ?_
  refine hl_call (σ := VlanT V x.2.1) Tryz.call107 rfl rfl (fun w1 => zu fun D' hold _ _ => RVlan_spec D' w1 c _ _ _ x.2.1 V hV Z64 (hold _ HV)) ?_
  intro r
  try rw [List.nil_append]
  refine zs rfl <| zn <| hc_seq <| hc_seq <| hc_any [blk b8 149 (statV x), blk b1 49 (cfgV c (.slice Ap np capp) (.slice Av V.length capv) (.slice As S.length caps))] mixed 38 rfl ?_
  refine ha_v 0 rfl (ov_fieldA rfl) rfl <| ha_v 1 rfl (zw rfl rfl) rfl <| ha_v 2 rfl (ov_lss rfl rfl) rfl <| ha_v 3 rfl (ov_move rfl) rfl <| ha_part (t := 188) rfl (fun a1 => ?_) (fun a1 => ?_)
  ·have hno := hbad fun h => h.1.1 Z64
   refine ha_x 4 rfl rfl <| ha_x 5 rfl rfl <| ha_x 6 rfl rfl <| ha_v 7 rfl (ov_pickT rfl rfl) rfl <| ha_v 8 rfl (ov_move rfl) rfl <| ha_x 9 rfl rfl <| ha_x 10 rfl rfl <| ha_x 11 rfl rfl <| ha_x 12 rfl rfl <| ha_x 13 rfl rfl <| ha_v 14 rfl (ov_pickT rfl rfl) rfl <| ha_v 15 rfl (ov_move rfl) rfl <| ha_x 16 rfl rfl <| ha_x 17 rfl rfl <| ha_v 18 rfl (ov_pickT rfl rfl) rfl <| ha_v 19 rfl (ov_move rfl) rfl <| ha_x 20 rfl rfl <| ha_x 21 rfl rfl <| ha_x 22 rfl rfl <| ha_x 23 rfl rfl <| ha_x 24 rfl rfl <| ha_x 25 rfl rfl <| ha_v 26 rfl (ov_pickT rfl rfl) rfl <| ha_v 27 rfl (ov_move rfl) rfl <| ha_x 28 rfl rfl <| ha_x 29 rfl rfl <| ha_x 30 rfl rfl <| ha_x 31 rfl rfl <| ha_x 32 rfl rfl <| ha_x 33 rfl rfl <| ha_x 34 rfl rfl <| ha_one 35 Z61 <| ho_x rfl rfl <| ha_x 36 rfl rfl <| ha_v 37 rfl (ov_pickT rfl rfl) rfl <| ha_done Z61 <| zt <| hc_cond_true rfl <| zg <| zs rfl <| ?_
   refine zn <| zq <| zr <| hx_block_ret <| zr <| zr <| hx_block_ret <| zr <| ?_
   exact zz rfl rfl fun w' H' => ⟨bF hno, rfl, H'.ent (Ent.nil _)⟩
  refine ha_v 4 rfl (ov_fieldA rfl) rfl <| ha_v 5 rfl (zw rfl rfl) rfl <| ha_v 6 rfl (ov_geq rfl rfl) rfl <| ha_v 7 rfl (ov_pickF rfl rfl) rfl <| ha_v 8 rfl (ov_move rfl) rfl <| ha_part (t := 193) rfl (fun a2 => ?_) (fun a2 => ?_)
  ·have hno := hbad fun h => by
    have := h.1.2.1
    rw [Nat.div_eq_zero_iff_lt Z63] at this
    omega
   refine ha_x 9 rfl rfl <| ha_x 10 rfl rfl <| ha_x 11 rfl rfl <| ha_x 12 rfl rfl <| ha_x 13 rfl rfl <| ha_v 14 rfl (ov_pickT rfl rfl) rfl <| ha_v 15 rfl (ov_move rfl) rfl <| ha_x 16 rfl rfl <| ha_x 17 rfl rfl <| ha_v 18 rfl (ov_pickT rfl rfl) rfl <| ha_v 19 rfl (ov_move rfl) rfl <| ha_x 20 rfl rfl <| ha_x 21 rfl rfl <| ha_x 22 rfl rfl <| ha_x 23 rfl rfl <| ha_x 24 rfl rfl <| ha_x 25 rfl rfl <| ha_v 26 rfl (ov_pickT rfl rfl) rfl <| ha_v 27 rfl (ov_move rfl) rfl <| ha_x 28 rfl rfl <| ha_x 29 rfl rfl <| ha_x 30 rfl rfl <| ha_x 31 rfl rfl <| ha_x 32 rfl rfl <| ha_x 33 rfl rfl <| ha_x 34 rfl rfl <| ha_one 35 Z61 <| ho_x rfl rfl <| ha_x 36 rfl rfl <| ha_v 37 rfl (ov_pickT rfl rfl) rfl <| ha_done Z61 <| zt <| hc_cond_true rfl <| zg <| zs rfl <| ?_
   refine zn <| zq <| zr <| hx_block_ret <| zr <| zr <| hx_block_ret <| zr <| ?_
   exact zz rfl rfl fun w' H' => ⟨bF hno, rfl, H'.ent (Ent.nil _)⟩
  have h2 : x.1.toNat / 2 ^ 48 = 0 := by rw [Nat.div_eq_zero_iff_lt Z63]; omega
  refine ha_v 9 rfl (ov_fieldA rfl) rfl <| ha_v 10 rfl (zw rfl rfl) rfl <| ha_one 11 Z61 <| ho_v rfl (ov_shr (m := ((x.1.toNat / 2 ^ 40 : Nat) : Int)) rfl rfl Z63 (shrK _ 40 _ _ rfl)) rfl ?_
  refine ha_v 12 rfl (ov_and1_u64 Z64 rfl rfl) rfl ?_
  refine ha_v 13 rfl (ov_eql rfl rfl) rfl <| ha_v 14 rfl (ov_pickF rfl rfl) rfl <| ha_v 15 rfl (ov_move rfl) rfl <| ha_part (t := 200) rfl (fun a3 => ?_) (fun a3 => ?_)
  ·have hno := hbad fun h => by have := h.1.2.2.1; omega
   refine ha_x 16 rfl rfl <| ha_x 17 rfl rfl <| ha_v 18 rfl (ov_pickT rfl rfl) rfl <| ha_v 19 rfl (ov_move rfl) rfl <| ha_x 20 rfl rfl <| ha_x 21 rfl rfl <| ha_x 22 rfl rfl <| ha_x 23 rfl rfl <| ha_x 24 rfl rfl <| ha_x 25 rfl rfl <| ha_v 26 rfl (ov_pickT rfl rfl) rfl <| ha_v 27 rfl (ov_move rfl) rfl <| ha_x 28 rfl rfl <| ha_x 29 rfl rfl <| ha_x 30 rfl rfl <| ha_x 31 rfl rfl <| ha_x 32 rfl rfl <| ha_x 33 rfl rfl <| ha_x 34 rfl rfl <| ha_one 35 Z61 <| ho_x rfl rfl <| ha_x 36 rfl rfl <| ha_v 37 rfl (ov_pickT rfl rfl) rfl <| ha_done Z61 <| zt <| hc_cond_true rfl <| zg <| zs rfl <| ?_
   refine zn <| zq <| zr <| hx_block_ret <| zr <| zr <| hx_block_ret <| zr <| ?_
   exact zz rfl rfl fun w' H' => ⟨bF hno, rfl, H'.ent (Ent.nil _)⟩
  have h3 : x.1.toNat / 2 ^ 40 % 2 = 0 := by omega
  refine ha_v 16 rfl (ov_move rfl) rfl <| ha_v 17 rfl (ov_lss rfl rfl) rfl <| ha_v 18 rfl (ov_pickF rfl rfl) rfl <| ha_v 19 rfl (ov_move rfl) rfl <| ha_part (t := 204) rfl (fun a4 => ?_) (fun a4 => ?_)
  ·have hno := hbad fun h => by
    obtain ⟨k, hk, he, _⟩ := h.1.2.2.2.2.2
    rcases r.2 with ⟨h1, h2⟩ | ⟨k2, hk2, h1, h2⟩
    ·exact h2 k hk he
    ·rw [h1] at a4; omega
   refine ha_x 20 rfl rfl <| ha_x 21 rfl rfl <| ha_x 22 rfl rfl <| ha_x 23 rfl rfl <| ha_x 24 rfl rfl <| ha_x 25 rfl rfl <| ha_v 26 rfl (ov_pickT rfl rfl) rfl <| ha_v 27 rfl (ov_move rfl) rfl <| ha_x 28 rfl rfl <| ha_x 29 rfl rfl <| ha_x 30 rfl rfl <| ha_x 31 rfl rfl <| ha_x 32 rfl rfl <| ha_x 33 rfl rfl <| ha_x 34 rfl rfl <| ha_one 35 Z61 <| ho_x rfl rfl <| ha_x 36 rfl rfl <| ha_v 37 rfl (ov_pickT rfl rfl) rfl <| ha_done Z61 <| zt <| hc_cond_true rfl <| zg <| zs rfl <| ?_
   refine zn <| zq <| zr <| hx_block_ret <| zr <| zr <| hx_block_ret <| zr <| ?_
   exact zz rfl rfl fun w' H' => ⟨bF hno, rfl, H'.ent (Ent.nil _)⟩
  obtain ⟨k, hk, hrk, hke⟩ : ∃ k : Nat, ∃ h : k < V.length, r.1 = (k : Int) ∧ V[k].1 = x.2.1 := by
   rcases r.2 with ⟨h1, h2⟩ | h
   ·rw [h1] at a4; omega
   ·exact h
  have hst : memP V[k] x.2.2 → x.2.2 < np → statOk np V x := fun hm hn => ⟨by omega, h2, h3, hm.1, hn, k, hk, hke, by rw [Nat.min_eq_left (by have := hm.2.1; omega)]; have := hm.2.2; omega⟩
  have hts : statOk np V x → memP V[k] x.2.2 := fun h => by
   obtain ⟨_, _, _, p1, p2, i, hi, e1, e2⟩ := h
   have hik : i = k := by
    rcases Nat.lt_trichotomy i k with h | h | h
    ·have := ris_lt hv4 i k h hk; omega
    ·exact h
    ·have := ris_lt hv4 k i h hi; omega
   subst hik
   rw [Nat.min_eq_left Z64] at e2
   exact ⟨p1, by omega, by omega⟩
  rw [hrk]
  have hcv := OldS.cells_flat (D := D) (w0 := w) (f := vlanV) (sz := 3) (fun _ => rfl) Z63 HSv hk
  have hAv := (hcv []).1
  generalize V[k] = u at *
  refine ha_v 20 rfl (ov_fieldA rfl) rfl <| ha_v 21 rfl (zw rfl rfl) rfl <| ha_v 22 rfl (ov_fieldA rfl) rfl <| ha_v 23 rfl (zw rfl rfl) rfl <| ha_v 24 rfl Z25 rfl <| ?_
  refine ha_v 25 rfl (ov_geq rfl rfl) rfl <| ha_v 26 rfl (ov_pickF rfl rfl) rfl <| ha_v 27 rfl (ov_move rfl) rfl <| ha_part (t := 212) rfl (fun a5 => ?_) (fun a5 => ?_)
  ·have hno := hbad fun h => by have := h.1.2.2.2.2.1; omega
   refine ha_x 28 rfl rfl <| ha_x 29 rfl rfl <| ha_x 30 rfl rfl <| ha_x 31 rfl rfl <| ha_x 32 rfl rfl <| ha_x 33 rfl rfl <| ha_x 34 rfl rfl <| ha_one 35 Z61 <| ho_x rfl rfl <| ha_x 36 rfl rfl <| ha_v 37 rfl (ov_pickT rfl rfl) rfl <| ha_done Z61 <| zt <| hc_cond_true rfl <| zg <| zs rfl <| ?_
   refine zn <| zq <| zr <| hx_block_ret <| zr <| zr <| hx_block_ret <| zr <| ?_
   exact zz rfl rfl fun w' H' => ⟨bF hno, rfl, H'.ent (Ent.nil _)⟩
  refine ha_v 28 rfl (ov_fieldA rfl) rfl <| ha_v 29 rfl (zw rfl rfl) rfl <| ha_v 30 rfl (ov_move rfl) rfl <| ha_v 33 rfl (ov_fieldA rfl) rfl <| ha_v 34 rfl (zw rfl rfl) rfl <| ha_one 31 Z61 <| ho_v rfl (ov_idxS rfl hAv rfl k rfl hk) rfl <| ha_v 32 rfl (ov_loadG (cs := vlanV u) rfl rfl (hcv _).2) rfl <| ha_one 35 Z61 <| ho_kx (σ := BIff (memP u x.2.2)) rfl Tryz.call106 rfl (fun w1 => zu fun D' _ _ _ => Member_spec D' w1 u x.2.2 hxin) ?_
  intro r2
  try rw [List.nil_append]
  refine ha_v 36 rfl Z26 rfl <| ?_
  refine ha_v 37 rfl (ov_pickF rfl rfl) rfl <| ha_done Z61 <| zt <| ?_
  refine hc_cond_bool rfl (fun a6 => ?_) (fun a6 => ?_)
  ·have hno := hbad fun h => by have := r2.2.2 (hts h.1); rw [this] at a6; cases a6
   refine zg <| zs rfl <| zn <| zq <| zr <| hx_block_ret <| zr <| zr <| hx_block_ret <| zr <| ?_
   exact zz rfl rfl fun w' H' => ⟨bF hno, rfl, H'.ent (Ent.nil _)⟩
  have h6 : statOk np V x := hst (r2.2.1 (by simpa using a6)) Z64
  refine zk <| hc_seq <| hc_any [blk b8 149 (statV x), blk b1 49 (cfgV c (.slice Ap np capp) (.slice Av V.length capv) (.slice As S.length caps))] mixed 13 rfl ?_
  refine ha_v 0 rfl (ov_move rfl) rfl <| ha_v 1 rfl (ov_gtr rfl rfl) rfl <| ha_v 2 rfl (ov_move rfl) rfl <| ha_part (t := 225) rfl (fun a7 => ?_) (fun a7 => ?_)
  ·refine ha_v 3 rfl (ov_fieldA rfl) rfl <| ha_v 4 rfl (zw rfl rfl) rfl <| ha_v 5 rfl (ov_move rfl) rfl <| ha_v 6 rfl (ov_sub rfl rfl Z28) rfl <| ?_
   refine ha_v 9 rfl Z17 rfl <| ?_
   refine ha_one 7 Z61 <| ho_v rfl (ov_idxS rfl hA rfl (i - 1) Z64 Z64) rfl ?_
   refine ha_v 8 rfl (ov_loadG (cs := statV y) rfl rfl (hcy _).2) rfl <| ha_one 10 Z61 <| ho_kx (σ := BIff (byPl y x < 0)) rfl Tryz.call108 rfl (fun w1 => zu fun D' _ _ _ => less_spec D' w1 y x) ?_
   intro r3
   try rw [List.nil_append]
   refine ha_v 11 rfl Z26 rfl <| ?_
   refine ha_v 12 rfl (ov_pickT rfl rfl) rfl <| ha_done Z61 <| zt <| ?_
   refine hc_cond_bool rfl (fun a8 => ?_) (fun a8 => ?_)
   ·have hno := hbad fun h => by have := r3.2.2 (h.2 Z64); rw [this] at a8; cases a8
    refine zg <| zs rfl <| zn <| zq <| hx_block_ret <| zr <| zr <| hx_block_ret <| zr <| ?_
    exact zz rfl rfl fun w' H' => ⟨bF hno, rfl, H'.ent (Ent.nil _)⟩
   have hn := hnext ⟨h6, fun _ => r3.2.1 (by simpa using a8)⟩
   refine hc_skip <| zb <| zt <| hc_region <| zm rfl <| zv (ov_add rfl rfl Z28) <| ?_
   refine zs rfl <| hl_nil <| hx_next hK5 (i + 1) (⟨hlt, hn⟩) Z64 Z16 Z10
  have hn := hnext ⟨h6, fun h => absurd h Z64⟩
  refine ha_x 3 rfl rfl <| ha_x 4 rfl rfl <| ha_x 5 rfl rfl <| ha_x 6 rfl rfl <| ha_x 7 rfl rfl <| ha_x 8 rfl rfl <| ha_x 9 rfl rfl <| ha_one 10 Z61 <| ho_x rfl rfl <| ha_x 11 rfl rfl <| ha_v 12 rfl (ov_pickF rfl rfl) rfl <| ha_done Z61 <| zt <| hc_cond_false rfl <| hc_skip <| zb <| zt <| ?_
  refine hc_region <| zm rfl <| zv (ov_add rfl rfl Z28) <| ?_
  refine zs rfl <| hl_nil <| hx_next hK5 (i + 1) (⟨hlt, hn⟩) Z64 Z16 Z10
 have hyes : goodP c := hG.2 ⟨ht, ⟨by omega, by omega, hv3, hv4⟩, ⟨by omega, by omega, hp3⟩, by omega, fun j hj h0 => (hall j hj Z64).2 h0, fun j hj => (hall j hj Z64).1⟩
 refine hc_exit <| ze <| ze <| hx_block_out <| zt <| hc_seq <| hc_region <| zs rfl <| zn <| zq <| ?_
 exact zz rfl rfl fun w' H' => ⟨bT hyes, rfl, H'.ent (Ent.nil _)⟩
end Go.Proofs.YtjlolpmmpafjeaaGreat
