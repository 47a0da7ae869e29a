import Derived.Test.YtjlolpmmpafjeaaGreatV16
set_option linter.unusedVariables false
set_option linter.unusedSimpArgs false
namespace Go.Proofs.YtjlolpmmpafjeaaGreat
open Slk
variable (D : Nat → Prop) (w : World)
theorem keepC_spec (c d : ConfC) (vp vv vs wp wv ws : Value) (H1 : ConfOld D w c vp vv vs) (H2 : ConfOld D w d wp wv ws) :
  Calls Tryz.prog 27 #[.agg (cfgV c vp vv vs).toArray, .agg (cfgV d wp wv ws).toArray] w fun e w' => ∃ b : BIff (c = d), e = .returned (.bool b.1) ∧ Own D w w' [] := by
 obtain ⟨Ap, cp, hvp, _, _, Sp, op⟩ := H1.p.openF
 obtain ⟨Av, cv, hvv, _, _, Sv, ov⟩ := H1.v.openF
 obtain ⟨As, cs, hvs, _, _, Ss, os⟩ := H1.s.openF
 obtain ⟨Bp, dp, hwp, _, _, Tp, qp⟩ := H2.p.openF
 obtain ⟨Bv, dv, hwv, _, _, Tv, qv⟩ := H2.v.openF
 obtain ⟨Bs, ds, hws, _, _, Ts, qs⟩ := H2.s.openF
 have l1 := H1.lp; have l2 := H1.lv; have l3 := H1.ls
 have Sp : OldS D w Ap (c.2.2.2.1.flatMap portV) := Sp
 have Sv : OldS D w Av (c.2.2.2.2.1.flatMap vlanV) := Sv
 have Ss : OldS D w As (c.2.2.2.2.2.flatMap statV) := Ss
 have Tp : OldS D w Bp (d.2.2.2.1.flatMap portV) := Tp
 have Tv : OldS D w Bv (d.2.2.2.2.1.flatMap vlanV) := Tv
 have Ts : OldS D w Bs (d.2.2.2.2.2.flatMap statV) := Ts
 subst hvp; subst hvv; subst hvs; subst hwp; subst hwv; subst hws
 obtain ⟨c1, c2, c3, P, V, S⟩ := c
 obtain ⟨d1, d2, d3, P', V', S'⟩ := d
 dsimp only at *
 have hceq : ((c1, c2, c3, P, V, S) : ConfC) = (d1, d2, d3, P', V', S') ↔ c1 = d1 ∧ c2 = d2 ∧ c3 = d3 ∧ P = P' ∧ V = V' ∧ S = S' := by simp only [Prod.mk.injEq]
 refine hc_enter (vs := [.agg #[.int .i64 c1, .int .i64 c2, .int .i64 c3, .slice Ap P.length cp, .slice Av V.length cv, .slice As S.length cs], .agg #[.int .i64 d1, .int .i64 d2, .int .i64 d3, .slice Bp P'.length dp, .slice Bv V'.length dv, .slice Bs S'.length ds]]) Tryz.func27 rfl _ Tryz.ntmps27 rfl (Own.start D w) ?_
 simp only [argSlots, Nat.zero_add]
 refine zg <| hl_new (on_boxN rfl rfl) rfl rfl rfl fun b2 =>  ?_
 refine hl_new (on_boxN rfl rfl) rfl rfl rfl fun b3 =>  ?_
 refine zs rfl <| zn <| hc_seq <| zg <| zf rfl <| zl rfl rfl <| zf rfl <| zl rfl rfl <| zv (ov_neq rfl rfl) <| zm rfl <| ?_
 refine hl_part (t := 13) rfl (fun g0 => ?_) (fun g0 => ?_)
 ·have hno : ¬ ((c1, c2, c3, P, V, S) : ConfC) = (d1, d2, d3, P', V', S') := fun h => g0 ((hceq.1 h).1)
  refine zo rfl rfl <| zo rfl rfl <| zo rfl rfl <| zo rfl rfl <| zo rfl rfl <| zv (ov_pickT rfl rfl) <| zm rfl <| zo rfl rfl <| zo rfl rfl <| zo rfl rfl <| zo rfl rfl <| zo rfl rfl <| zv (ov_pickT rfl rfl) <| zm rfl <| zo rfl rfl <| zo rfl rfl <| zo rfl rfl <| zo rfl rfl <| zo rfl rfl <| zo rfl rfl <| zo rfl rfl <| zv (ov_pickT rfl rfl) <| zm rfl <| zo rfl rfl <| zo rfl rfl <| zo rfl rfl <| zo rfl rfl <| zo rfl rfl <| zo rfl rfl <| zo rfl rfl <| zv (ov_pickT rfl rfl) <| zm rfl <| zo rfl rfl <| zo rfl rfl <| zo rfl rfl <| zo rfl rfl <| ?_
  refine zo rfl rfl <| zo rfl rfl <| zo rfl rfl <| zv (ov_pickT rfl rfl) <| zn <| hc_cond_true rfl <| zg <| zs rfl <| zn <| zq <| zr <| ?_
  exact zz rfl rfl fun w' H' => ⟨bF hno, rfl, H'.ent (Ent.nil _)⟩
 skip
 have g0 := Classical.not_not.1 g0
 refine hl_on rfl rfl <| zf rfl <| hl_on rfl rfl <| zl rfl rfl <| hl_on rfl rfl <| zf rfl <| hl_on rfl rfl <| zl rfl rfl <| hl_on rfl rfl <| zv (ov_neq rfl rfl) <| zv (ov_pickF rfl rfl) <| ?_
 refine zm rfl <| hl_part (t := 20) rfl (fun g1 => ?_) (fun g1 => ?_)
 ·have hno : ¬ ((c1, c2, c3, P, V, S) : ConfC) = (d1, d2, d3, P', V', S') := fun h => g1 ((hceq.1 h).2.1)
  refine zo rfl rfl <| zo rfl rfl <| zo rfl rfl <| zo rfl rfl <| zo rfl rfl <| zv (ov_pickT rfl rfl) <| zm rfl <| zo rfl rfl <| zo rfl rfl <| zo rfl rfl <| zo rfl rfl <| zo rfl rfl <| zo rfl rfl <| zo rfl rfl <| zv (ov_pickT rfl rfl) <| zm rfl <| zo rfl rfl <| zo rfl rfl <| zo rfl rfl <| zo rfl rfl <| zo rfl rfl <| zo rfl rfl <| zo rfl rfl <| zv (ov_pickT rfl rfl) <| zm rfl <| zo rfl rfl <| zo rfl rfl <| zo rfl rfl <| zo rfl rfl <| zo rfl rfl <| zo rfl rfl <| zo rfl rfl <| zv (ov_pickT rfl rfl) <| zn <| hc_cond_true rfl <| zg <| zs rfl <| zn <| zq <| zr <| ?_
  exact zz rfl rfl fun w' H' => ⟨bF hno, rfl, H'.ent (Ent.nil _)⟩
 skip
 have g1 := Classical.not_not.1 g1
 refine hl_on rfl rfl <| zf rfl <| hl_on rfl rfl <| zl rfl rfl <| hl_on rfl rfl <| zf rfl <| hl_on rfl rfl <| zl rfl rfl <| hl_on rfl rfl <| zv (ov_neq rfl rfl) <| zv (ov_pickF rfl rfl) <| ?_
 refine zm rfl <| hl_part (t := 27) rfl (fun g2 => ?_) (fun g2 => ?_)
 ·have hno : ¬ ((c1, c2, c3, P, V, S) : ConfC) = (d1, d2, d3, P', V', S') := fun h => g2 ((hceq.1 h).2.2.1)
  refine zo rfl rfl <| zo rfl rfl <| zo rfl rfl <| zo rfl rfl <| zo rfl rfl <| zo rfl rfl <| zo rfl rfl <| zv (ov_pickT rfl rfl) <| zm rfl <| zo rfl rfl <| zo rfl rfl <| zo rfl rfl <| zo rfl rfl <| zo rfl rfl <| zo rfl rfl <| zo rfl rfl <| zv (ov_pickT rfl rfl) <| zm rfl <| zo rfl rfl <| zo rfl rfl <| zo rfl rfl <| zo rfl rfl <| zo rfl rfl <| zo rfl rfl <| zo rfl rfl <| zv (ov_pickT rfl rfl) <| zn <| hc_cond_true rfl <| hc_seq <| hc_region <| zs rfl <| zn <| zq <| zr <| ?_
  exact zz rfl rfl fun w' H' => ⟨bF hno, rfl, H'.ent (Ent.nil _)⟩
 skip
 have g2 := Classical.not_not.1 g2
 refine hl_on rfl rfl <| zf rfl <| hl_on rfl rfl <| zl rfl rfl <| hl_on rfl rfl <| zv Z25 <| ?_
 refine hl_on rfl rfl <| zf rfl <| hl_on rfl rfl <| zl rfl rfl <| hl_on rfl rfl <| zv Z25 <| ?_
 refine hl_on rfl rfl <| zv (ov_neq rfl rfl) <| zv (ov_pickF rfl rfl) <| zm rfl <| hl_part (t := 36) rfl (fun g3 => ?_) (fun g3 => ?_)
 ·have hno : ¬ ((c1, c2, c3, P, V, S) : ConfC) = (d1, d2, d3, P', V', S') := fun h => g3 (by rw [(hceq.1 h).2.2.2.1])
  refine zo rfl rfl <| zo rfl rfl <| zo rfl rfl <| zo rfl rfl <| zo rfl rfl <| zo rfl rfl <| zo rfl rfl <| zv (ov_pickT rfl rfl) <| zm rfl <| zo rfl rfl <| zo rfl rfl <| zo rfl rfl <| zo rfl rfl <| zo rfl rfl <| zo rfl rfl <| zo rfl rfl <| zv (ov_pickT rfl rfl) <| hl_nil <| zt <| hc_cond_true rfl <| zg <| zs rfl <| hl_nil <| zt <| zq <| zr <| ?_
  exact zz rfl rfl fun w' H' => ⟨bF hno, rfl, H'.ent (Ent.nil _)⟩
 skip
 refine hl_on rfl rfl <| zf rfl <| hl_on rfl rfl <| zl rfl rfl <| hl_on rfl rfl <| zv Z25 <| ?_
 refine hl_on rfl rfl <| zf rfl <| hl_on rfl rfl <| zl rfl rfl <| hl_on rfl rfl <| zv Z25 <| ?_
 refine hl_on rfl rfl <| zv (ov_neq rfl rfl) <| zv (ov_pickF rfl rfl) <| zm rfl <| hl_part (t := 45) rfl (fun g4 => ?_) (fun g4 => ?_)
 ·have hno : ¬ ((c1, c2, c3, P, V, S) : ConfC) = (d1, d2, d3, P', V', S') := fun h => g4 (by rw [(hceq.1 h).2.2.2.2.1])
  refine zo rfl rfl <| zo rfl rfl <| zo rfl rfl <| zo rfl rfl <| zo rfl rfl <| zo rfl rfl <| zo rfl rfl <| zv (ov_pickT rfl rfl) <| zn <| hc_cond_true rfl <| hc_seq <| hc_region <| zs rfl <| zn <| zq <| zr <| ?_
  exact zz rfl rfl fun w' H' => ⟨bF hno, rfl, H'.ent (Ent.nil _)⟩
 skip
 refine hl_on rfl rfl <| zf rfl <| hl_on rfl rfl <| zl rfl rfl <| hl_on rfl rfl <| zv Z25 <| ?_
 refine hl_on rfl rfl <| zf rfl <| hl_on rfl rfl <| zl rfl rfl <| hl_on rfl rfl <| zv Z25 <| ?_
 refine hl_on rfl rfl <| zv (ov_neq rfl rfl) <| zv (ov_pickF rfl rfl) <| zn <| hc_cond rfl (fun g5 => ?_) (fun g5 => ?_)
 ·have hno : ¬ ((c1, c2, c3, P, V, S) : ConfC) = (d1, d2, d3, P', V', S') := fun h => g5 (by rw [(hceq.1 h).2.2.2.2.2])
  refine zg <| zs rfl <| zn <| zq <| zr <| ?_
  exact zz rfl rfl fun w' H' => ⟨bF hno, rfl, H'.ent (Ent.nil _)⟩
 skip
 refine zk <| hc_seq <| zg <| zs rfl <| zn <| hc_block <| ?_
 have hPl : P.length = P'.length := by omega
 have hVl : V.length = V'.length := by omega
 have hSl : S.length = S'.length := by omega
 refine hc_loops1 (σ := Nat) [2, 3] rfl 5 (fun k => .int .i64 (k : Int)) (fun k => k ≤ P.length ∧ P.take k = P'.take k) (fun k => P.length - k) (0) (⟨Nat.zero_le _, by simp⟩) rfl ?_
 rintro k ⟨hk, hkt⟩ K1 hK1
 refine hc_seq <| zg <| zm rfl <| zf rfl <| zl rfl rfl <| ?_
 refine zv Z25 <| ?_
 refine zv (ov_lss rfl rfl) <| zn <| hc_cond rfl (fun h2 => ?_) (fun h2 => ?_)
 ·have hlt : k < P.length := by omega
  have hlt2 : k < P'.length := by omega
  obtain ⟨hA, _⟩ := OldS.cells_flat (D := D) (w0 := w) (f := portV) (sz := 3) (fun _ => rfl) Z63 Sp hlt []
  obtain ⟨hB, _⟩ := OldS.cells_flat (D := D) (w0 := w) (f := portV) (sz := 3) (fun _ => rfl) Z63 Tp hlt2 []
  have hc1 := fun l => (OldS.cells_flat (D := D) (w0 := w) (f := portV) (sz := 3) (fun _ => rfl) Z63 Sp hlt l).2
  have hc2 := fun l => (OldS.cells_flat (D := D) (w0 := w) (f := portV) (sz := 3) (fun _ => rfl) Z63 Tp hlt2 l).2
  have hs1 := List.take_succ_eq_append_getElem hlt
  have hs2 := List.take_succ_eq_append_getElem hlt2
  have hat : P = P' → P[k] = P'[k] := fun e => by subst e; rfl
  have k1 := portOk' (op P[k] (List.getElem_mem hlt))
  have k2 := portOk' (qp P'[k] (List.getElem_mem hlt2))
  generalize P[k] = s at *
  generalize P'[k] = t at *
  refine zk <| hc_seq <| hc_block <| hc_seq <| hc_quiet mixed Z61 <| ?_
  refine hq_v (ov_fieldA rfl) rfl <| hq_v (zw rfl rfl) rfl <| hq_v (ov_move rfl) rfl <| hq_v (ov_idxS rfl Z62 rfl _ rfl Z64) rfl <| ?_
  refine hq_v (ov_loadG (cs := portV s) rfl rfl (hc1 _)) rfl ?_
  refine hq_v (ov_fieldA rfl) rfl <| hq_v (zw rfl rfl) rfl <| hq_v (ov_move rfl) rfl <| hq_v (ov_idxS rfl Z62 rfl _ rfl Z64) rfl <| ?_
  refine hq_v (ov_loadG (cs := portV t) rfl rfl (hc2 _)) rfl ?_
  refine hq_v (ov_neqG rfl rfl k1 k2 portV_inj) rfl ?_
  refine hq_nil <| zt <| ?_
  refine hc_cond rfl (fun h3 => ?_) (fun h3 => ?_)
  ·have hno : ¬ ((c1, c2, c3, P, V, S) : ConfC) = (d1, d2, d3, P', V', S') := fun h => h3 (hat (hceq.1 h).2.2.2.1)
   refine zg <| zs rfl <| zn <| zq <| hx_block_ret <| zr <| zr <| hx_block_ret <| zr <| ?_
   exact zz rfl rfl fun w' H' => ⟨bF hno, rfl, H'.ent (Ent.nil _)⟩
  have hst : s = t := Classical.not_not.1 h3
  refine hc_skip <| zb <| zt <| hc_region <| zm rfl <| zv (ov_add rfl rfl Z28) <| ?_
  refine zs rfl <| hl_nil <| hx_next hK1 (k + 1) (⟨hlt, by rw [hs1, hs2, hkt, hst]⟩) Z64 Z16 Z10
 have hk' : k = P.length := by omega
 have eP : P = P' := by rw [← List.take_length (l := P), ← hk', hkt, hk', hPl, List.take_length]
 refine hc_exit <| ze <| ze <| hx_block_out <| zt <| hc_seq <| zg <| zs rfl <| zn <| hc_block <| hc_loops1 (σ := Nat) [2, 3] rfl 6 (fun k => .int .i64 (k : Int)) (fun k => k ≤ V.length ∧ V.take k = V'.take k) (fun k => V.length - k) (0) (⟨Nat.zero_le _, by simp⟩) rfl ?_
 rintro k ⟨hk, hkt⟩ K2 hK2
 refine hc_seq <| zg <| zm rfl <| zf rfl <| zl rfl rfl <| ?_
 refine zv Z25 <| ?_
 refine zv (ov_lss rfl rfl) <| zn <| hc_cond rfl (fun h2 => ?_) (fun h2 => ?_)
 ·have hlt : k < V.length := by omega
  have hlt2 : k < V'.length := by omega
  obtain ⟨hA, _⟩ := OldS.cells_flat (D := D) (w0 := w) (f := vlanV) (sz := 3) (fun _ => rfl) Z63 Sv hlt []
  obtain ⟨hB, _⟩ := OldS.cells_flat (D := D) (w0 := w) (f := vlanV) (sz := 3) (fun _ => rfl) Z63 Tv hlt2 []
  have hc1 := fun l => (OldS.cells_flat (D := D) (w0 := w) (f := vlanV) (sz := 3) (fun _ => rfl) Z63 Sv hlt l).2
  have hc2 := fun l => (OldS.cells_flat (D := D) (w0 := w) (f := vlanV) (sz := 3) (fun _ => rfl) Z63 Tv hlt2 l).2
  have hs1 := List.take_succ_eq_append_getElem hlt
  have hs2 := List.take_succ_eq_append_getElem hlt2
  have hat : V = V' → V[k] = V'[k] := fun e => by subst e; rfl
  have k1 := vlanOk' (ov V[k] (List.getElem_mem hlt))
  have k2 := vlanOk' (qv V'[k] (List.getElem_mem hlt2))
  generalize V[k] = s at *
  generalize V'[k] = t at *
  refine zk <| hc_seq <| hc_block <| hc_seq <| hc_quiet mixed Z61 <| ?_
  refine hq_v (ov_fieldA rfl) rfl <| hq_v (zw rfl rfl) rfl <| hq_v (ov_move rfl) rfl <| hq_v (ov_idxS rfl Z62 rfl _ rfl Z64) rfl <| ?_
  refine hq_v (ov_loadG (cs := vlanV s) rfl rfl (hc1 _)) rfl ?_
  refine hq_v (ov_fieldA rfl) rfl <| hq_v (zw rfl rfl) rfl <| hq_v (ov_move rfl) rfl <| hq_v (ov_idxS rfl Z62 rfl _ rfl Z64) rfl <| ?_
  refine hq_v (ov_loadG (cs := vlanV t) rfl rfl (hc2 _)) rfl ?_
  refine hq_v (ov_neqG rfl rfl k1 k2 vlanV_inj) rfl ?_
  refine hq_nil <| zt <| ?_
  refine hc_cond rfl (fun h3 => ?_) (fun h3 => ?_)
  ·have hno : ¬ ((c1, c2, c3, P, V, S) : ConfC) = (d1, d2, d3, P', V', S') := fun h => h3 (hat (hceq.1 h).2.2.2.2.1)
   refine zg <| zs rfl <| zn <| zq <| hx_block_ret <| zr <| zr <| hx_block_ret <| zr <| ?_
   exact zz rfl rfl fun w' H' => ⟨bF hno, rfl, H'.ent (Ent.nil _)⟩
  have hst : s = t := Classical.not_not.1 h3
  refine hc_skip <| zb <| zt <| hc_region <| zm rfl <| zv (ov_add rfl rfl Z28) <| ?_
  refine zs rfl <| hl_nil <| hx_next hK2 (k + 1) (⟨hlt, by rw [hs1, hs2, hkt, hst]⟩) Z64 Z16 Z10
 have hk' : k = V.length := by omega
 have eV : V = V' := by rw [← List.take_length (l := V), ← hk', hkt, hk', hVl, List.take_length]
 refine hc_exit <| ze <| ze <| hx_block_out <| zt <| hc_seq <| zg <| zs rfl <| zn <| hc_block <| hc_loops1 (σ := Nat) [2, 3] rfl 7 (fun k => .int .i64 (k : Int)) (fun k => k ≤ S.length ∧ S.take k = S'.take k) (fun k => S.length - k) (0) (⟨Nat.zero_le _, by simp⟩) rfl ?_
 rintro k ⟨hk, hkt⟩ K3 hK3
 refine hc_seq <| zg <| zm rfl <| zf rfl <| zl rfl rfl <| ?_
 refine zv Z25 <| ?_
 refine zv (ov_lss rfl rfl) <| zn <| hc_cond rfl (fun h2 => ?_) (fun h2 => ?_)
 ·have hlt : k < S.length := by omega
  have hlt2 : k < S'.length := by omega
  obtain ⟨hA, _⟩ := OldS.cells_flat (D := D) (w0 := w) (f := statV) (sz := 3) (fun _ => rfl) Z63 Ss hlt []
  obtain ⟨hB, _⟩ := OldS.cells_flat (D := D) (w0 := w) (f := statV) (sz := 3) (fun _ => rfl) Z63 Ts hlt2 []
  have hc1 := fun l => (OldS.cells_flat (D := D) (w0 := w) (f := statV) (sz := 3) (fun _ => rfl) Z63 Ss hlt l).2
  have hc2 := fun l => (OldS.cells_flat (D := D) (w0 := w) (f := statV) (sz := 3) (fun _ => rfl) Z63 Ts hlt2 l).2
  have hs1 := List.take_succ_eq_append_getElem hlt
  have hs2 := List.take_succ_eq_append_getElem hlt2
  have hat : S = S' → S[k] = S'[k] := fun e => by subst e; rfl
  have k1 := statOk' (os S[k] (List.getElem_mem hlt))
  have k2 := statOk' (qs S'[k] (List.getElem_mem hlt2))
  generalize S[k] = s at *
  generalize S'[k] = t at *
  refine zk <| hc_seq <| hc_block <| hc_seq <| hc_quiet mixed Z61 <| ?_
  refine hq_v (ov_fieldA rfl) rfl <| hq_v (zw rfl rfl) rfl <| hq_v (ov_move rfl) rfl <| hq_v (ov_idxS rfl Z62 rfl _ rfl Z64) rfl <| ?_
  refine hq_v (ov_loadG (cs := statV s) rfl rfl (hc1 _)) rfl ?_
  refine hq_v (ov_fieldA rfl) rfl <| hq_v (zw rfl rfl) rfl <| hq_v (ov_move rfl) rfl <| hq_v (ov_idxS rfl Z62 rfl _ rfl Z64) rfl <| ?_
  refine hq_v (ov_loadG (cs := statV t) rfl rfl (hc2 _)) rfl ?_
  refine hq_v (ov_neqG rfl rfl k1 k2 statV_inj) rfl ?_
  refine hq_nil <| zt <| ?_
  refine hc_cond rfl (fun h3 => ?_) (fun h3 => ?_)
  ·have hno : ¬ ((c1, c2, c3, P, V, S) : ConfC) = (d1, d2, d3, P', V', S') := fun h => h3 (hat (hceq.1 h).2.2.2.2.2)
   refine zg <| zs rfl <| zn <| zq <| hx_block_ret <| zr <| zr <| hx_block_ret <| zr <| ?_
   exact zz rfl rfl fun w' H' => ⟨bF hno, rfl, H'.ent (Ent.nil _)⟩
  have hst : s = t := Classical.not_not.1 h3
  refine hc_skip <| zb <| zt <| hc_region <| zm rfl <| zv (ov_add rfl rfl Z28) <| ?_
  refine zs rfl <| hl_nil <| hx_next hK3 (k + 1) (⟨hlt, by rw [hs1, hs2, hkt, hst]⟩) Z64 Z16 Z10
 have hk' : k = S.length := by omega
 have eS : S = S' := by rw [← List.take_length (l := S), ← hk', hkt, hk', hSl, List.take_length]
 refine hc_exit <| ze <| ze <| hx_block_out <| zt <| hc_seq <| hc_region <| zs rfl <| zn <| zq <| ?_
 exact zz rfl rfl fun w' H' => ⟨bT (hceq.2 ⟨g0, g1, g2, eP, eV, eS⟩), rfl, H'.ent (Ent.nil _)⟩
theorem RCopy_spec (c : ConfC) (vp vv vs : Value) (HC0 : ConfOld D w c vp vv vs) :
  Calls Tryz.prog 67 #[.agg (cfgV c vp vv vs).toArray] w fun e w' => ∃ q : Three, e = .returned (.agg (cfgA c q).toArray) ∧ Own D w w' (cfgR c q) := by
 have hlp := HC0.lp
 have hlv := HC0.lv
 have hls := HC0.ls
 obtain ⟨Ap, cp, hvp, _, _, HSp, _⟩ := HC0.p.openF
 obtain ⟨Av, cv, hvv, _, _, HSv, _⟩ := HC0.v.openF
 obtain ⟨As, cs, hvs, _, _, HSs, _⟩ := HC0.s.openF
 have HSp : OldS D w Ap (c.2.2.2.1.flatMap portV) := HSp
 have HSv : OldS D w Av (c.2.2.2.2.1.flatMap vlanV) := HSv
 have HSs : OldS D w As (c.2.2.2.2.2.flatMap statV) := HSs
 subst hvp; subst hvv; subst hvs
 refine hc_enter (vs := [.agg (cfgV c (.slice Ap c.2.2.2.1.length cp) (.slice Av c.2.2.2.2.1.length cv) (.slice As c.2.2.2.2.2.length cs)).toArray]) Tryz.func67 rfl _ Tryz.ntmps67 rfl (Own.start D w) ?_
 simp only [argSlots, Nat.zero_add]
 refine zg <| hl_new (on_boxN rfl rfl) rfl rfl rfl fun b1 =>  ?_
 refine hl_new (on_alloc) rfl rfl rfl fun b2 => 
  zn <| zg <| hl_new (on_buildSliceN rfl rfl rfl) rfl rfl rfl fun b3 =>  ?_
 refine HL.ent (Ent.blk_row (b := b3) 3 0 rfl Z63) ?_
 refine zf rfl <| zl rfl rfl <| ?_
 refine hl_new (on_appendR (A := some ⟨b3, 0, none⟩) (news := c.2.2.2.1.flatMap portV) rfl rfl (SrcIs.old HSp) (flat_len (f := portV) (sz := 3) (fun _ => rfl) _) (flat_one portV_one _) Z63 Z64) rfl rfl rfl (fun q1 => ?_)
 rw [List.nil_append, Nat.zero_add]
 refine zf rfl <| ?_
 refine hl_u0 (on_storeE (cfgV c (.slice q1.1 c.2.2.2.1.length q1.2) (.slice Av c.2.2.2.2.1.length cv) (.slice As c.2.2.2.2.2.length cs)) rfl rfl (by simp) rfl rfl) rfl rfl ?_
 refine zn <| zg <| hl_new (on_buildSliceN rfl rfl rfl) rfl rfl rfl fun b8 =>  ?_
 refine HL.ent (Ent.blk_row (b := b8) 3 0 rfl Z63) ?_
 refine zf rfl <| zl rfl rfl <| ?_
 refine hl_new (on_appendR (A := some ⟨b8, 0, none⟩) (news := c.2.2.2.2.1.flatMap vlanV) rfl rfl (SrcIs.old HSv) (flat_len (f := vlanV) (sz := 3) (fun _ => rfl) _) (flat_one vlanV_one _) Z63 Z64) rfl rfl rfl (fun q2 => ?_)
 rw [List.nil_append, Nat.zero_add]
 refine zf rfl <| ?_
 refine hl_u0 (on_storeE (cfgV c (.slice q1.1 c.2.2.2.1.length q1.2) (.slice q2.1 c.2.2.2.2.1.length q2.2) (.slice As c.2.2.2.2.2.length cs)) rfl rfl (by simp) rfl rfl) rfl rfl ?_
 refine zn <| zg <| hl_new (on_buildSliceN rfl rfl rfl) rfl rfl rfl fun b13 =>  ?_
 refine HL.ent (Ent.blk_row (b := b13) 3 0 rfl Z63) ?_
 refine zf rfl <| zl rfl rfl <| ?_
 refine hl_new (on_appendR (A := some ⟨b13, 0, none⟩) (news := c.2.2.2.2.2.flatMap statV) rfl rfl (SrcIs.old HSs) (flat_len (f := statV) (sz := 3) (fun _ => rfl) _) (flat_one statV_one _) Z63 Z64) rfl rfl rfl (fun q3 => ?_)
 rw [List.nil_append, Nat.zero_add]
 refine zf rfl <| ?_
 refine hl_u0 (on_storeE (cfgA c (q1, q2, q3)) rfl rfl (by simp) rfl rfl) rfl rfl ?_
 refine zn <| zg <| zv Z17 <| ?_
 refine hl_u0 (on_storeGN rfl rfl rfl rfl rfl rfl) rfl rfl <| zn <| zq <| ?_
 exact results_c (.inr rfl) rfl rfl (by simp) fun w' H' => ⟨(q1, q2, q3), rfl, H'.ent Z8⟩
abbrev FirstT (n : Int) := { r : Three × ConfC × Int // (¬ (1 ≤ n ∧ n ≤ 8) ∧ r.2 = (zeroC, 1)) ∨ (1 ≤ n ∧ n ≤ 8 ∧ r.2 = (firstC n.toNat, 0)) }
theorem RFirst_res (n : Int) (hn : inI64 n) :
  Calls Tryz.prog 29 #[.int .i64 n] w fun e w' => ∃ r : FirstT n, e = .returned (.tuple #[.agg (cfgA r.1.2.1 r.1.1).toArray, .int .i64 r.1.2.2]) ∧ Own D w w' (cfgR r.1.2.1 r.1.1) := by
 unfold inI64 at hn
 refine hc_enter (vs := [.int .i64 n]) Tryz.func29 rfl _ Tryz.ntmps29 rfl (Own.start D w) ?_
 simp only [argSlots, Nat.zero_add]
 refine zg <| hl_new (on_alloc) rfl rfl rfl fun b2 =>
  zs rfl <| zn <| ?_
 refine hc_seq <| zg <| zm rfl <| zv (ov_lss rfl rfl) <| zm rfl <| hl_part (t := 9) rfl (fun h1 => ?_) (fun h1 => ?_)
 ·refine zo rfl rfl <| zo rfl rfl <| zv (ov_pickT rfl rfl) <| zn <| hc_cond_true rfl <| zg <| zv (ov_buildSN rfl rfl) <| ?_
  refine hl_u0 (on_storeGN rfl rfl rfl rfl rfl rfl) rfl rfl <| zs rfl <| zn <| zq <| zr <| ?_
  exact results_ct (.inr rfl) rfl rfl (by simp) rfl fun w' H' => ⟨⟨(q0, zeroC, 1), .inl ⟨by omega, rfl⟩⟩, rfl, H'.ent (Ent.trans (Ent.cfgR0 _) Ent.append_l)⟩
 refine hl_on rfl rfl <| zm rfl <| hl_on rfl rfl <| zv (ov_gtr rfl rfl) <| zv (ov_pickF rfl rfl) <| zn <| hc_cond rfl (fun h2 => ?_) (fun h2 => ?_)
 ·refine zg <| zv (ov_buildSN rfl rfl) <| ?_
  refine hl_u0 (on_storeGN rfl rfl rfl rfl rfl rfl) rfl rfl <| zs rfl <| zn <| zq <| zr <| ?_
  exact results_ct (.inr rfl) rfl rfl (by simp) rfl fun w' H' => ⟨⟨(q0, zeroC, 1), .inl ⟨by omega, rfl⟩⟩, rfl, H'.ent (Ent.trans (Ent.cfgR0 _) Ent.append_l)⟩
 obtain ⟨m, hm⟩ : ∃ m : Nat, n = (m : Int) := ⟨n.toNat, by omega⟩
 subst hm
 refine zk <| zg <| zv (ov_buildSN rfl rfl) <| ?_
 refine hl_new (on_alloc) rfl rfl rfl fun b4 => 
  hl_u0 (on_storeGN rfl rfl rfl rfl rfl rfl) rfl rfl <| zn <| zg <| ?_
 refine zv (ov_buildSN rfl rfl) <| ?_
 refine hl_new (on_alloc) rfl rfl rfl fun b5 => 
  hl_u0 (on_storeGN rfl rfl rfl rfl rfl rfl) rfl rfl <| zn <| hc_seq <| hc_seq <| ?_
 refine hc_region <| zs rfl <| zn <| hc_block <| hc_loopK1 (σ := Nat × Option Addr × Nat) [0, 2, 4, 5] rfl 6 (fun s => .int .i64 (s.1 : Int)) (fun s => [blk b4 49 [.int .i64 32768, .int .i64 20, .int .i64 15, .slice s.2.1 s.1 s.2.2, .slice none 0 0, .slice none 0 0], row s.2.1 83 3 s.1 s.2.2 ((List.replicate s.1 ((true, 20000, 1) : PortC)).flatMap portV), blk b5 147 [.int .i64 1, .int .u8 ((2 ^ s.1 - 1 : Nat) : Int), .int .u8 0], blk b2 49 [.int .i64 0, .int .i64 0, .int .i64 0, .slice none 0 0, .slice none 0 0, .slice none 0 0]]) (fun s => s.1 ≤ m) (fun s => m - s.1) ((0, none, 0)) (Nat.zero_le _) rfl (Ent.trans (b := [blk b4 49 [.int .i64 32768, .int .i64 20, .int .i64 15, .slice none 0 0, .slice none 0 0, .slice none 0 0], row none 83 3 0 0 [], blk b5 147 [.int .i64 1, .int .u8 0, .int .u8 0], blk b2 49 [.int .i64 0, .int .i64 0, .int .i64 0, .slice none 0 0, .slice none 0 0, .slice none 0 0]]) (Ent.trans (Ent.nil_row 83 3) Z8) (Ent.refl _)) ?_
 rintro ⟨p, A, c⟩ hp K1 hK1
 dsimp only at hp ⊢
 refine hc_seq <| zg <| zm rfl <| zm rfl <| zv (ov_lss rfl rfl) <| zn <| hc_cond rfl (fun h => ?_) (fun h => ?_)
 ·have hlt : p < m := by omega
  obtain ⟨k1, k2⟩ := shl_or ⟨p, by omega⟩
  have hrep : (List.replicate p ((true, 20000, 1) : PortC)).flatMap portV ++ portV (true, 20000, 1) = (List.replicate (p + 1) ((true, 20000, 1) : PortC)).flatMap portV := by
   rw [List.replicate_succ', List.flatMap_append, List.flatMap_singleton]
  refine zk <| hc_seq <| hc_block <| zg <| zf rfl <| zl rfl rfl <| zv (ov_buildSN rfl rfl) <| ?_
  refine hl_new (on_buildSliceN rfl rfl rfl) rfl rfl rfl fun b24 =>  ?_
  refine hl_new (on_appendR (A := A) (news := portV (true, 20000, 1)) rfl rfl (SrcIs.blk (b := b24)) rfl Z49 Z63 Z64) rfl rfl rfl (fun q2 => ?_)
  rw [hrep]
  refine zf rfl <| ?_
  refine hl_u0 (on_storeE [.int .i64 32768, .int .i64 20, .int .i64 15, .slice q2.1 (p + 1) q2.2, .slice none 0 0, .slice none 0 0] rfl rfl (by simp) rfl rfl) rfl rfl ?_
  refine zn <| hc_region <| zf rfl <| zl rfl rfl <| zm rfl <| ?_
  refine zv (ov_conv rfl Z29) <| ?_
  refine hl_v (ov_shl (m := ((2 ^ p : Nat) : Int)) rfl rfl Z64 k1) rfl ?_
  refine hl_v (ov_or (m := ((2 ^ (p + 1) - 1 : Nat) : Int)) rfl rfl k2) rfl <| zf rfl <| ?_
  refine hl_u0 (on_storeE [.int .i64 1, .int .u8 ((2 ^ (p + 1) - 1 : Nat) : Int), .int .u8 0] rfl rfl (by simp) rfl rfl) rfl rfl ?_
  refine hl_nil <| zb <| zt <| hc_region <| zm rfl <| zv (ov_add rfl rfl Z28) <| ?_
  refine zs rfl <| hl_nil <| hx_next hK1 ((p + 1, q2)) (hlt) (by show m - (p + 1) < m - p; omega) Z16 Z10
 have hpn : p = m := by omega
 subst hpn
 have hlt : 2 ^ p ≤ 2 ^ 8 := Nat.pow_le_pow_right Z63 Z64
 have hu : (firstC p).2.2.2.2.1.flatMap vlanV = [.int .i64 1, .int .u8 ((2 ^ p - 1 : Nat) : Int), .int .u8 0] := by
  show vlanV (1, UInt8.ofNat (2 ^ p - 1), 0) ++ [] = _
  rw [List.append_nil]
  show [Value.int .i64 1, u8v (UInt8.ofNat (2 ^ p - 1)), u8v 0] = _
  rw [u8v_ofNat, Nat.mod_eq_of_lt Z64]; rfl
 have hl : (firstC p).2.2.2.1.length = p := List.length_replicate
 refine hc_exit <| ze <| ze <| hx_block_out <| zt <| hc_seq <| hc_region <| zv Z17 <| ?_
 refine hl_new (on_buildSliceN rfl rfl rfl) rfl rfl rfl fun b35 => 
  zf rfl <| hl_u0 (on_storeN rfl rfl rfl rfl rfl) rfl rfl <| zn <| hc_seq <| ?_
 refine hc_region <| zv Z17 <| ?_
 refine hl_u0 (on_storeGN rfl rfl rfl rfl rfl rfl) rfl rfl <| zs rfl <| zn <| zq <| ?_
 exact results_ct (.inr rfl) rfl rfl (by simp) rfl fun w' H' => ⟨⟨(((A, c), (some ⟨b35, 0, none⟩, 1), (none, 0)), firstC p, 0), .inr ⟨by omega, by omega, rfl⟩⟩, by dsimp only [cfgA]; rw [hl]; rfl, H'.ent (by dsimp only [cfgR]; rw [hl, hu]; exact (Ent.trans (b := [row none 149 3 0 0 [], blk b35 147 [.int .i64 1, .int .u8 ((2 ^ p - 1 : Nat) : Int), .int .u8 0], row A 83 3 p c ((firstC p).2.2.2.1.flatMap portV)]) (Ent.trans (Ent.nil_row 149 3) (show Ent _ [row none 149 3 0 0 [], _, row A 83 3 p c ((List.replicate p ((true, 20000, 1) : PortC)).flatMap portV)] from Z8)) (Ent.trans (b := [row (some ⟨b35, 0, none⟩) 147 3 1 1 [.int .i64 1, .int .u8 ((2 ^ p - 1 : Nat) : Int), .int .u8 0], row none 149 3 0 0 [], row A 83 3 p c ((firstC p).2.2.2.1.flatMap portV)]) (Ent.trans (b := [blk b35 147 [.int .i64 1, .int .u8 ((2 ^ p - 1 : Nat) : Int), .int .u8 0], row none 149 3 0 0 [], row A 83 3 p c ((firstC p).2.2.2.1.flatMap portV)]) Z8 (Ent.blk_row 3 1 rfl Z63)) (show Ent _ [row A 83 3 p c ((firstC p).2.2.2.1.flatMap portV), row (some ⟨b35, 0, none⟩) 147 3 1 1 [.int .i64 1, .int .u8 ((2 ^ p - 1 : Nat) : Int), .int .u8 0], row none 149 3 0 0 []] from Z8))))⟩
end Go.Proofs.YtjlolpmmpafjeaaGreat
