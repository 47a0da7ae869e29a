import Derived.Test.YtpgpfcplchaleaaCfZ
set_option linter.unusedVariables false
set_option linter.unusedSimpArgs false
namespace Go.Proofs.Ytpgpfcplchaleaa
open Slk
theorem keepC_spec (D : Nat → Prop) (w : World) (c d : ConfC) (vp vv vs wp wv ws : Value) (H1 : ConfOld D w c vp vv vs) (H2 : ConfOld D w d wp wv ws) :
    Calls Try.prog 19 #[.agg (cfgV c vp vv vs).toArray, .agg (cfgV d wp wv ws).toArray] w fun e w' => ∃ b : BIff (c = d), e = .returned (.bool b.1) ∧ Own D w w' [] := by
  obtain ⟨Ap, cp, hvp, _, _, Sp, op⟩ := H1.p.openF
  obtain ⟨Av, cv, hvv, _, _, Sv, ov⟩ := H1.v.openF
  obtain ⟨As, cs, hvs, _, _, Ss, os⟩ := H1.s.openF
  obtain ⟨Bp, dp, hwp, _, _, Tp, qp⟩ := H2.p.openF
  obtain ⟨Bv, dv, hwv, _, _, Tv, qv⟩ := H2.v.openF
  obtain ⟨Bs, ds, hws, _, _, Ts, qs⟩ := H2.s.openF
  have l1 := H1.lp; have l2 := H1.lv; have l3 := H1.ls
  have Sp : OldS D w Ap (c.2.2.2.1.flatMap portV) := Sp
  have Sv : OldS D w Av (c.2.2.2.2.1.flatMap vlanV) := Sv
  have Ss : OldS D w As (c.2.2.2.2.2.flatMap statV) := Ss
  have Tp : OldS D w Bp (d.2.2.2.1.flatMap portV) := Tp
  have Tv : OldS D w Bv (d.2.2.2.2.1.flatMap vlanV) := Tv
  have Ts : OldS D w Bs (d.2.2.2.2.2.flatMap statV) := Ts
  subst hvp; subst hvv; subst hvs; subst hwp; subst hwv; subst hws
  obtain ⟨c1, c2, c3, P, V, S⟩ := c
  obtain ⟨d1, d2, d3, P', V', S'⟩ := d
  dsimp only at *
  have hceq : ((c1, c2, c3, P, V, S) : ConfC) = (d1, d2, d3, P', V', S') ↔ c1 = d1 ∧ c2 = d2 ∧ c3 = d3 ∧ P = P' ∧ V = V' ∧ S = S' := by simp only [Prod.mk.injEq]
  refine hc_enter (vs := [.agg #[.int .i64 c1, .int .i64 c2, .int .i64 c3, .slice Ap P.length cp, .slice Av V.length cv, .slice As S.length cs], .agg #[.int .i64 d1, .int .i64 d2, .int .i64 d3, .slice Bp P'.length dp, .slice Bv V'.length dv, .slice Bs S'.length ds]]) Try.func19 rfl _ Try.ntmps19 rfl (Own.start D w) ?_
  simp only [argSlots, Nat.zero_add]
  refine hc_seq <| hc_region <| hl_new (on_boxN rfl rfl) rfl rfl rfl fun b2 =>  ?_
  refine hl_new (on_boxN rfl rfl) rfl rfl rfl fun b3 =>  ?_
  refine hl_v (ov_assign rfl) rfl <| hl_nil <| hx_then_normal <| hc_seq <| hc_seq <| hc_region <| ?_
  refine hl_v (ov_fieldA rfl) rfl <| hl_v (ov_load rfl (CellIs.blk rfl)) rfl <| hl_v (ov_fieldA rfl) rfl <| hl_v (ov_load rfl (CellIs.blk rfl)) rfl <| hl_v (ov_neq rfl rfl) rfl <| hl_v (ov_move rfl) rfl <| ?_
  refine hl_part (t := 13) rfl (fun g0 => ?_) (fun g0 => ?_)
  · have hno : ¬ ((c1, c2, c3, P, V, S) : ConfC) = (d1, d2, d3, P', V', S') := fun h => g0 ((hceq.1 h).1)
    refine hl_off rfl rfl rfl rfl rfl rfl <| hl_off rfl rfl rfl rfl rfl rfl <| hl_off rfl rfl rfl rfl rfl rfl <| hl_off rfl rfl rfl rfl rfl rfl <| hl_off rfl rfl rfl rfl rfl rfl <| hl_v (ov_pickT rfl rfl) rfl <| ?_
    refine hl_v (ov_move rfl) rfl <| hl_off rfl rfl rfl rfl rfl rfl <| hl_off rfl rfl rfl rfl rfl rfl <| hl_off rfl rfl rfl rfl rfl rfl <| hl_off rfl rfl rfl rfl rfl rfl <| hl_off rfl rfl rfl rfl rfl rfl <| ?_
    refine hl_v (ov_pickT rfl rfl) rfl <| hl_v (ov_move rfl) rfl <| hl_off rfl rfl rfl rfl rfl rfl <| hl_off rfl rfl rfl rfl rfl rfl <| hl_off rfl rfl rfl rfl rfl rfl <| hl_off rfl rfl rfl rfl rfl rfl <| ?_
    refine hl_off rfl rfl rfl rfl rfl rfl <| hl_off rfl rfl rfl rfl rfl rfl <| hl_off rfl rfl rfl rfl rfl rfl <| hl_v (ov_pickT rfl rfl) rfl <| hl_v (ov_move rfl) rfl <| hl_off rfl rfl rfl rfl rfl rfl <| ?_
    refine hl_off rfl rfl rfl rfl rfl rfl <| hl_off rfl rfl rfl rfl rfl rfl <| hl_off rfl rfl rfl rfl rfl rfl <| hl_off rfl rfl rfl rfl rfl rfl <| hl_off rfl rfl rfl rfl rfl rfl <| hl_off rfl rfl rfl rfl rfl rfl <| ?_
    refine hl_v (ov_pickT rfl rfl) rfl <| hl_v (ov_move rfl) rfl <| hl_off rfl rfl rfl rfl rfl rfl <| hl_off rfl rfl rfl rfl rfl rfl <| hl_off rfl rfl rfl rfl rfl rfl <| hl_off rfl rfl rfl rfl rfl rfl <| ?_
    refine hl_off rfl rfl rfl rfl rfl rfl <| hl_off rfl rfl rfl rfl rfl rfl <| hl_off rfl rfl rfl rfl rfl rfl <| hl_v (ov_pickT rfl rfl) rfl <| hl_nil <| hx_then_normal <| ?_
    refine hc_cond_true rfl <| hc_seq <| hc_region <| hl_v (ov_assign rfl) rfl <| hl_nil <| hx_then_normal <| ?_
    refine hc_ret <| hx_then_ret <| ?_
    exact results_1 (.inr rfl) rfl rfl fun w' H' => ⟨bF hno, rfl, H'.ent (Ent.nil _)⟩
  skip
  have g0 := Classical.not_not.1 g0
  refine hl_on rfl rfl <| hl_v (ov_fieldA rfl) rfl <| hl_on rfl rfl <| hl_v (ov_load rfl (CellIs.blk rfl)) rfl <| hl_on rfl rfl <| hl_v (ov_fieldA rfl) rfl <| hl_on rfl rfl <| hl_v (ov_load rfl (CellIs.blk rfl)) rfl <| hl_on rfl rfl <| hl_v (ov_neq rfl rfl) rfl <| hl_v (ov_pickF rfl rfl) rfl <| ?_
  refine hl_v (ov_move rfl) rfl <| ?_
  refine hl_part (t := 20) rfl (fun g1 => ?_) (fun g1 => ?_)
  · have hno : ¬ ((c1, c2, c3, P, V, S) : ConfC) = (d1, d2, d3, P', V', S') := fun h => g1 ((hceq.1 h).2.1)
    refine hl_off rfl rfl rfl rfl rfl rfl <| hl_off rfl rfl rfl rfl rfl rfl <| hl_off rfl rfl rfl rfl rfl rfl <| hl_off rfl rfl rfl rfl rfl rfl <| hl_off rfl rfl rfl rfl rfl rfl <| hl_v (ov_pickT rfl rfl) rfl <| ?_
    refine hl_v (ov_move rfl) rfl <| hl_off rfl rfl rfl rfl rfl rfl <| hl_off rfl rfl rfl rfl rfl rfl <| hl_off rfl rfl rfl rfl rfl rfl <| hl_off rfl rfl rfl rfl rfl rfl <| hl_off rfl rfl rfl rfl rfl rfl <| ?_
    refine hl_off rfl rfl rfl rfl rfl rfl <| hl_off rfl rfl rfl rfl rfl rfl <| hl_v (ov_pickT rfl rfl) rfl <| hl_v (ov_move rfl) rfl <| hl_off rfl rfl rfl rfl rfl rfl <| hl_off rfl rfl rfl rfl rfl rfl <| ?_
    refine hl_off rfl rfl rfl rfl rfl rfl <| hl_off rfl rfl rfl rfl rfl rfl <| hl_off rfl rfl rfl rfl rfl rfl <| hl_off rfl rfl rfl rfl rfl rfl <| hl_off rfl rfl rfl rfl rfl rfl <| hl_v (ov_pickT rfl rfl) rfl <| ?_
    refine hl_v (ov_move rfl) rfl <| hl_off rfl rfl rfl rfl rfl rfl <| hl_off rfl rfl rfl rfl rfl rfl <| hl_off rfl rfl rfl rfl rfl rfl <| hl_off rfl rfl rfl rfl rfl rfl <| hl_off rfl rfl rfl rfl rfl rfl <| ?_
    refine hl_off rfl rfl rfl rfl rfl rfl <| hl_off rfl rfl rfl rfl rfl rfl <| hl_v (ov_pickT rfl rfl) rfl <| hl_nil <| hx_then_normal <| hc_cond_true rfl <| ?_
    refine hc_seq <| hc_region <| hl_v (ov_assign rfl) rfl <| hl_nil <| hx_then_normal <| hc_ret <| ?_
    refine hx_then_ret <| ?_
    exact results_1 (.inr rfl) rfl rfl fun w' H' => ⟨bF hno, rfl, H'.ent (Ent.nil _)⟩
  skip
  have g1 := Classical.not_not.1 g1
  refine hl_on rfl rfl <| hl_v (ov_fieldA rfl) rfl <| hl_on rfl rfl <| hl_v (ov_load rfl (CellIs.blk rfl)) rfl <| hl_on rfl rfl <| hl_v (ov_fieldA rfl) rfl <| hl_on rfl rfl <| hl_v (ov_load rfl (CellIs.blk rfl)) rfl <| hl_on rfl rfl <| hl_v (ov_neq rfl rfl) rfl <| hl_v (ov_pickF rfl rfl) rfl <| ?_
  refine hl_v (ov_move rfl) rfl <| ?_
  refine hl_part (t := 27) rfl (fun g2 => ?_) (fun g2 => ?_)
  · have hno : ¬ ((c1, c2, c3, P, V, S) : ConfC) = (d1, d2, d3, P', V', S') := fun h => g2 ((hceq.1 h).2.2.1)
    refine hl_off rfl rfl rfl rfl rfl rfl <| hl_off rfl rfl rfl rfl rfl rfl <| hl_off rfl rfl rfl rfl rfl rfl <| hl_off rfl rfl rfl rfl rfl rfl <| hl_off rfl rfl rfl rfl rfl rfl <| hl_off rfl rfl rfl rfl rfl rfl <| ?_
    refine hl_off rfl rfl rfl rfl rfl rfl <| hl_v (ov_pickT rfl rfl) rfl <| hl_v (ov_move rfl) rfl <| hl_off rfl rfl rfl rfl rfl rfl <| hl_off rfl rfl rfl rfl rfl rfl <| hl_off rfl rfl rfl rfl rfl rfl <| ?_
    refine hl_off rfl rfl rfl rfl rfl rfl <| hl_off rfl rfl rfl rfl rfl rfl <| hl_off rfl rfl rfl rfl rfl rfl <| hl_off rfl rfl rfl rfl rfl rfl <| hl_v (ov_pickT rfl rfl) rfl <| hl_v (ov_move rfl) rfl <| ?_
    refine hl_off rfl rfl rfl rfl rfl rfl <| hl_off rfl rfl rfl rfl rfl rfl <| hl_off rfl rfl rfl rfl rfl rfl <| hl_off rfl rfl rfl rfl rfl rfl <| hl_off rfl rfl rfl rfl rfl rfl <| hl_off rfl rfl rfl rfl rfl rfl <| ?_
    refine hl_off rfl rfl rfl rfl rfl rfl <| hl_v (ov_pickT rfl rfl) rfl <| hl_nil <| hx_then_normal <| hc_cond_true rfl <| hc_seq <| ?_
    refine hc_region <| hl_v (ov_assign rfl) rfl <| hl_nil <| hx_then_normal <| hc_ret <| hx_then_ret <| ?_
    exact results_1 (.inr rfl) rfl rfl fun w' H' => ⟨bF hno, rfl, H'.ent (Ent.nil _)⟩
  skip
  have g2 := Classical.not_not.1 g2
  refine hl_on rfl rfl <| hl_v (ov_fieldA rfl) rfl <| hl_on rfl rfl <| hl_v (ov_load rfl (CellIs.blk rfl)) rfl <| hl_on rfl rfl <| hl_v (by first | exact ov_len rfl | exact ov_lenS rfl) rfl <| ?_
  refine hl_on rfl rfl <| hl_v (ov_fieldA rfl) rfl <| hl_on rfl rfl <| hl_v (ov_load rfl (CellIs.blk rfl)) rfl <| hl_on rfl rfl <| hl_v (by first | exact ov_len rfl | exact ov_lenS rfl) rfl <| ?_
  refine hl_on rfl rfl <| hl_v (ov_neq rfl rfl) rfl <| hl_v (ov_pickF rfl rfl) rfl <| hl_v (ov_move rfl) rfl <| ?_
  refine hl_part (t := 36) rfl (fun g3 => ?_) (fun g3 => ?_)
  · have hno : ¬ ((c1, c2, c3, P, V, S) : ConfC) = (d1, d2, d3, P', V', S') := fun h => g3 (by rw [(hceq.1 h).2.2.2.1])
    refine hl_off rfl rfl rfl rfl rfl rfl <| hl_off rfl rfl rfl rfl rfl rfl <| hl_off rfl rfl rfl rfl rfl rfl <| hl_off rfl rfl rfl rfl rfl rfl <| hl_off rfl rfl rfl rfl rfl rfl <| hl_off rfl rfl rfl rfl rfl rfl <| ?_
    refine hl_off rfl rfl rfl rfl rfl rfl <| hl_v (ov_pickT rfl rfl) rfl <| hl_v (ov_move rfl) rfl <| hl_off rfl rfl rfl rfl rfl rfl <| hl_off rfl rfl rfl rfl rfl rfl <| hl_off rfl rfl rfl rfl rfl rfl <| ?_
    refine hl_off rfl rfl rfl rfl rfl rfl <| hl_off rfl rfl rfl rfl rfl rfl <| hl_off rfl rfl rfl rfl rfl rfl <| hl_off rfl rfl rfl rfl rfl rfl <| hl_v (ov_pickT rfl rfl) rfl <| hl_nil <| ?_
    refine hx_then_normal <| hc_cond_true rfl <| hc_seq <| hc_region <| hl_v (ov_assign rfl) rfl <| hl_nil <| ?_
    refine hx_then_normal <| hc_ret <| hx_then_ret <| ?_
    exact results_1 (.inr rfl) rfl rfl fun w' H' => ⟨bF hno, rfl, H'.ent (Ent.nil _)⟩
  skip
  refine hl_on rfl rfl <| hl_v (ov_fieldA rfl) rfl <| hl_on rfl rfl <| hl_v (ov_load rfl (CellIs.blk rfl)) rfl <| hl_on rfl rfl <| hl_v (by first | exact ov_len rfl | exact ov_lenS rfl) rfl <| ?_
  refine hl_on rfl rfl <| hl_v (ov_fieldA rfl) rfl <| hl_on rfl rfl <| hl_v (ov_load rfl (CellIs.blk rfl)) rfl <| hl_on rfl rfl <| hl_v (by first | exact ov_len rfl | exact ov_lenS rfl) rfl <| ?_
  refine hl_on rfl rfl <| hl_v (ov_neq rfl rfl) rfl <| hl_v (ov_pickF rfl rfl) rfl <| hl_v (ov_move rfl) rfl <| ?_
  refine hl_part (t := 45) rfl (fun g4 => ?_) (fun g4 => ?_)
  · have hno : ¬ ((c1, c2, c3, P, V, S) : ConfC) = (d1, d2, d3, P', V', S') := fun h => g4 (by rw [(hceq.1 h).2.2.2.2.1])
    refine hl_off rfl rfl rfl rfl rfl rfl <| hl_off rfl rfl rfl rfl rfl rfl <| hl_off rfl rfl rfl rfl rfl rfl <| hl_off rfl rfl rfl rfl rfl rfl <| hl_off rfl rfl rfl rfl rfl rfl <| hl_off rfl rfl rfl rfl rfl rfl <| ?_
    refine hl_off rfl rfl rfl rfl rfl rfl <| hl_v (ov_pickT rfl rfl) rfl <| hl_nil <| hx_then_normal <| hc_cond_true rfl <| hc_seq <| ?_
    refine hc_region <| hl_v (ov_assign rfl) rfl <| hl_nil <| hx_then_normal <| hc_ret <| hx_then_ret <| ?_
    exact results_1 (.inr rfl) rfl rfl fun w' H' => ⟨bF hno, rfl, H'.ent (Ent.nil _)⟩
  skip
  refine hl_on rfl rfl <| hl_v (ov_fieldA rfl) rfl <| hl_on rfl rfl <| hl_v (ov_load rfl (CellIs.blk rfl)) rfl <| hl_on rfl rfl <| hl_v (by first | exact ov_len rfl | exact ov_lenS rfl) rfl <| ?_
  refine hl_on rfl rfl <| hl_v (ov_fieldA rfl) rfl <| hl_on rfl rfl <| hl_v (ov_load rfl (CellIs.blk rfl)) rfl <| hl_on rfl rfl <| hl_v (by first | exact ov_len rfl | exact ov_lenS rfl) rfl <| ?_
  refine hl_on rfl rfl <| hl_v (ov_neq rfl rfl) rfl <| hl_v (ov_pickF rfl rfl) rfl <| hl_nil <| hx_then_normal <| ?_
  refine hc_cond rfl (fun g5 => ?_) (fun g5 => ?_)
  · have hno : ¬ ((c1, c2, c3, P, V, S) : ConfC) = (d1, d2, d3, P', V', S') := fun h => g5 (by rw [(hceq.1 h).2.2.2.2.2])
    refine hc_seq <| hc_region <| hl_v (ov_assign rfl) rfl <| hl_nil <| hx_then_normal <| hc_ret <| ?_
    refine hx_then_ret <| ?_
    exact results_1 (.inr rfl) rfl rfl fun w' H' => ⟨bF hno, rfl, H'.ent (Ent.nil _)⟩
  skip
  refine hc_skip <| hx_then_normal <| hc_seq <| hc_seq <| hc_region <| hl_v (ov_assign rfl) rfl <| ?_
  refine hl_nil <| hx_then_normal <| hc_block <| ?_
  have hPl : P.length = P'.length := by omega
  have hVl : V.length = V'.length := by omega
  have hSl : S.length = S'.length := by omega
  refine hc_loops1 (σ := Nat) [2, 3] rfl 5 (fun k => .int .i64 (k : Int)) (fun k => k ≤ P.length ∧ P.take k = P'.take k) (fun k => P.length - k) (0) (⟨Nat.zero_le _, by simp⟩) rfl ?_
  rintro k ⟨hk, hkt⟩ K1 hK1
  refine hc_seq <| hc_seq <| hc_region <| hl_v (ov_move rfl) rfl <| hl_v (ov_fieldA rfl) rfl <| hl_v (ov_load rfl (CellIs.blk rfl)) rfl <| ?_
  refine hl_v (by first | exact ov_len rfl | exact ov_lenS rfl) rfl <| ?_
  refine hl_v (ov_lss rfl rfl) rfl <| hl_nil <| hx_then_normal <| ?_
  refine hc_cond rfl (fun h2 => ?_) (fun h2 => ?_)
  · have hlt : k < P.length := by omega
    have hlt2 : k < P'.length := by omega
    obtain ⟨hA, _⟩ := OldS.cells_flat (D := D) (w0 := w) (f := portV) (sz := 3) (fun _ => rfl) (by decide) Sp hlt []
    obtain ⟨hB, _⟩ := OldS.cells_flat (D := D) (w0 := w) (f := portV) (sz := 3) (fun _ => rfl) (by decide) Tp hlt2 []
    have hc1 := fun l => (OldS.cells_flat (D := D) (w0 := w) (f := portV) (sz := 3) (fun _ => rfl) (by decide) Sp hlt l).2
    have hc2 := fun l => (OldS.cells_flat (D := D) (w0 := w) (f := portV) (sz := 3) (fun _ => rfl) (by decide) Tp hlt2 l).2
    have hs1 := List.take_succ_eq_append_getElem hlt
    have hs2 := List.take_succ_eq_append_getElem hlt2
    have hat : P = P' → P[k] = P'[k] := fun e => by subst e; rfl
    have k1 := portOk' (op P[k] (List.getElem_mem hlt))
    have k2 := portOk' (qp P'[k] (List.getElem_mem hlt2))
    generalize P[k] = s at *
    generalize P'[k] = t at *
    refine hc_skip <| hx_then_normal <| hc_seq <| hc_block <| hc_seq <| hc_quiet mixed (by kernel_rfl) <| ?_
    refine hq_v (ov_fieldA rfl) rfl <| hq_v (ov_load rfl (CellIs.blk rfl)) rfl <| hq_v (ov_move rfl) rfl <| hq_v (ov_idxS rfl (by assumption) rfl _ rfl (by omega)) rfl <| ?_
    refine hq_v (ov_loadG (cs := portV s) rfl rfl (hc1 _)) rfl ?_
    refine hq_v (ov_fieldA rfl) rfl <| hq_v (ov_load rfl (CellIs.blk rfl)) rfl <| hq_v (ov_move rfl) rfl <| hq_v (ov_idxS rfl (by assumption) rfl _ rfl (by omega)) rfl <| ?_
    refine hq_v (ov_loadG (cs := portV t) rfl rfl (hc2 _)) rfl ?_
    refine hq_v (ov_neqG rfl rfl k1 k2 portV_inj) rfl ?_
    refine hq_nil <| hx_then_normal <| ?_
    refine hc_cond rfl (fun h3 => ?_) (fun h3 => ?_)
    · have hno : ¬ ((c1, c2, c3, P, V, S) : ConfC) = (d1, d2, d3, P', V', S') := fun h => h3 (hat (hceq.1 h).2.2.2.1)
      refine hc_seq <| hc_region <| hl_v (ov_assign rfl) rfl <| hl_nil <| hx_then_normal <| hc_ret <| ?_
      refine hx_block_ret <| hx_then_ret <| hx_then_ret <| hx_block_ret <| hx_then_ret <| ?_
      exact results_1 (.inr rfl) rfl rfl fun w' H' => ⟨bF hno, rfl, H'.ent (Ent.nil _)⟩
    have hst : s = t := Classical.not_not.1 h3
    refine hc_skip <| hx_block_normal <| hx_then_normal <| hc_region <| hl_v (ov_move rfl) rfl <| hl_v (ov_add rfl rfl (by first | exact wrap_i64 (by omega) | rfl)) rfl <| ?_
    refine hl_v (ov_assign rfl) rfl <| hl_nil <| ?_
    refine hx_next hK1 (k + 1) (⟨hlt, by rw [hs1, hs2, hkt, hst]⟩) (by omega) (by repeat (first | exact Slots.sub_nil _ | refine Slots.sub_cons rfl ?_)) (by first | assumption | exact Ent.refl _ | exact Ent.nil _ | (repeat (first | exact Ent.refl _ | exact Ent.nil _ | refine Ent.pick ?_)))
  have hk' : k = P.length := by omega
  have eP : P = P' := by rw [← List.take_length (l := P), ← hk', hkt, hk', hPl, List.take_length]
  refine hc_exit <| hx_then_exit <| hx_then_exit <| hx_block_out <| hx_then_normal <| hc_seq <| ?_
  refine hc_seq <| hc_region <| hl_v (ov_assign rfl) rfl <| hl_nil <| hx_then_normal <| hc_block <| ?_
  refine hc_loops1 (σ := Nat) [2, 3] rfl 6 (fun k => .int .i64 (k : Int)) (fun k => k ≤ V.length ∧ V.take k = V'.take k) (fun k => V.length - k) (0) (⟨Nat.zero_le _, by simp⟩) rfl ?_
  rintro k ⟨hk, hkt⟩ K2 hK2
  refine hc_seq <| hc_seq <| hc_region <| hl_v (ov_move rfl) rfl <| hl_v (ov_fieldA rfl) rfl <| hl_v (ov_load rfl (CellIs.blk rfl)) rfl <| ?_
  refine hl_v (by first | exact ov_len rfl | exact ov_lenS rfl) rfl <| ?_
  refine hl_v (ov_lss rfl rfl) rfl <| hl_nil <| hx_then_normal <| ?_
  refine hc_cond rfl (fun h2 => ?_) (fun h2 => ?_)
  · have hlt : k < V.length := by omega
    have hlt2 : k < V'.length := by omega
    obtain ⟨hA, _⟩ := OldS.cells_flat (D := D) (w0 := w) (f := vlanV) (sz := 3) (fun _ => rfl) (by decide) Sv hlt []
    obtain ⟨hB, _⟩ := OldS.cells_flat (D := D) (w0 := w) (f := vlanV) (sz := 3) (fun _ => rfl) (by decide) Tv hlt2 []
    have hc1 := fun l => (OldS.cells_flat (D := D) (w0 := w) (f := vlanV) (sz := 3) (fun _ => rfl) (by decide) Sv hlt l).2
    have hc2 := fun l => (OldS.cells_flat (D := D) (w0 := w) (f := vlanV) (sz := 3) (fun _ => rfl) (by decide) Tv hlt2 l).2
    have hs1 := List.take_succ_eq_append_getElem hlt
    have hs2 := List.take_succ_eq_append_getElem hlt2
    have hat : V = V' → V[k] = V'[k] := fun e => by subst e; rfl
    have k1 := vlanOk' (ov V[k] (List.getElem_mem hlt))
    have k2 := vlanOk' (qv V'[k] (List.getElem_mem hlt2))
    generalize V[k] = s at *
    generalize V'[k] = t at *
    refine hc_skip <| hx_then_normal <| hc_seq <| hc_block <| hc_seq <| hc_quiet mixed (by kernel_rfl) <| ?_
    refine hq_v (ov_fieldA rfl) rfl <| hq_v (ov_load rfl (CellIs.blk rfl)) rfl <| hq_v (ov_move rfl) rfl <| hq_v (ov_idxS rfl (by assumption) rfl _ rfl (by omega)) rfl <| ?_
    refine hq_v (ov_loadG (cs := vlanV s) rfl rfl (hc1 _)) rfl ?_
    refine hq_v (ov_fieldA rfl) rfl <| hq_v (ov_load rfl (CellIs.blk rfl)) rfl <| hq_v (ov_move rfl) rfl <| hq_v (ov_idxS rfl (by assumption) rfl _ rfl (by omega)) rfl <| ?_
    refine hq_v (ov_loadG (cs := vlanV t) rfl rfl (hc2 _)) rfl ?_
    refine hq_v (ov_neqG rfl rfl k1 k2 vlanV_inj) rfl ?_
    refine hq_nil <| hx_then_normal <| ?_
    refine hc_cond rfl (fun h3 => ?_) (fun h3 => ?_)
    · have hno : ¬ ((c1, c2, c3, P, V, S) : ConfC) = (d1, d2, d3, P', V', S') := fun h => h3 (hat (hceq.1 h).2.2.2.2.1)
      refine hc_seq <| hc_region <| hl_v (ov_assign rfl) rfl <| hl_nil <| hx_then_normal <| hc_ret <| ?_
      refine hx_block_ret <| hx_then_ret <| hx_then_ret <| hx_block_ret <| hx_then_ret <| ?_
      exact results_1 (.inr rfl) rfl rfl fun w' H' => ⟨bF hno, rfl, H'.ent (Ent.nil _)⟩
    have hst : s = t := Classical.not_not.1 h3
    refine hc_skip <| hx_block_normal <| hx_then_normal <| hc_region <| hl_v (ov_move rfl) rfl <| hl_v (ov_add rfl rfl (by first | exact wrap_i64 (by omega) | rfl)) rfl <| ?_
    refine hl_v (ov_assign rfl) rfl <| hl_nil <| ?_
    refine hx_next hK2 (k + 1) (⟨hlt, by rw [hs1, hs2, hkt, hst]⟩) (by omega) (by repeat (first | exact Slots.sub_nil _ | refine Slots.sub_cons rfl ?_)) (by first | assumption | exact Ent.refl _ | exact Ent.nil _ | (repeat (first | exact Ent.refl _ | exact Ent.nil _ | refine Ent.pick ?_)))
  have hk' : k = V.length := by omega
  have eV : V = V' := by rw [← List.take_length (l := V), ← hk', hkt, hk', hVl, List.take_length]
  refine hc_exit <| hx_then_exit <| hx_then_exit <| hx_block_out <| hx_then_normal <| hc_seq <| ?_
  refine hc_seq <| hc_region <| hl_v (ov_assign rfl) rfl <| hl_nil <| hx_then_normal <| hc_block <| ?_
  refine hc_loops1 (σ := Nat) [2, 3] rfl 7 (fun k => .int .i64 (k : Int)) (fun k => k ≤ S.length ∧ S.take k = S'.take k) (fun k => S.length - k) (0) (⟨Nat.zero_le _, by simp⟩) rfl ?_
  rintro k ⟨hk, hkt⟩ K3 hK3
  refine hc_seq <| hc_seq <| hc_region <| hl_v (ov_move rfl) rfl <| hl_v (ov_fieldA rfl) rfl <| hl_v (ov_load rfl (CellIs.blk rfl)) rfl <| ?_
  refine hl_v (by first | exact ov_len rfl | exact ov_lenS rfl) rfl <| ?_
  refine hl_v (ov_lss rfl rfl) rfl <| hl_nil <| hx_then_normal <| ?_
  refine hc_cond rfl (fun h2 => ?_) (fun h2 => ?_)
  · have hlt : k < S.length := by omega
    have hlt2 : k < S'.length := by omega
    obtain ⟨hA, _⟩ := OldS.cells_flat (D := D) (w0 := w) (f := statV) (sz := 3) (fun _ => rfl) (by decide) Ss hlt []
    obtain ⟨hB, _⟩ := OldS.cells_flat (D := D) (w0 := w) (f := statV) (sz := 3) (fun _ => rfl) (by decide) Ts hlt2 []
    have hc1 := fun l => (OldS.cells_flat (D := D) (w0 := w) (f := statV) (sz := 3) (fun _ => rfl) (by decide) Ss hlt l).2
    have hc2 := fun l => (OldS.cells_flat (D := D) (w0 := w) (f := statV) (sz := 3) (fun _ => rfl) (by decide) Ts hlt2 l).2
    have hs1 := List.take_succ_eq_append_getElem hlt
    have hs2 := List.take_succ_eq_append_getElem hlt2
    have hat : S = S' → S[k] = S'[k] := fun e => by subst e; rfl
    have k1 := statOk' (os S[k] (List.getElem_mem hlt))
    have k2 := statOk' (qs S'[k] (List.getElem_mem hlt2))
    generalize S[k] = s at *
    generalize S'[k] = t at *
    refine hc_skip <| hx_then_normal <| hc_seq <| hc_block <| hc_seq <| hc_quiet mixed (by kernel_rfl) <| ?_
    refine hq_v (ov_fieldA rfl) rfl <| hq_v (ov_load rfl (CellIs.blk rfl)) rfl <| hq_v (ov_move rfl) rfl <| hq_v (ov_idxS rfl (by assumption) rfl _ rfl (by omega)) rfl <| ?_
    refine hq_v (ov_loadG (cs := statV s) rfl rfl (hc1 _)) rfl ?_
    refine hq_v (ov_fieldA rfl) rfl <| hq_v (ov_load rfl (CellIs.blk rfl)) rfl <| hq_v (ov_move rfl) rfl <| hq_v (ov_idxS rfl (by assumption) rfl _ rfl (by omega)) rfl <| ?_
    refine hq_v (ov_loadG (cs := statV t) rfl rfl (hc2 _)) rfl ?_
    refine hq_v (ov_neqG rfl rfl k1 k2 statV_inj) rfl ?_
    refine hq_nil <| hx_then_normal <| ?_
    refine hc_cond rfl (fun h3 => ?_) (fun h3 => ?_)
    · have hno : ¬ ((c1, c2, c3, P, V, S) : ConfC) = (d1, d2, d3, P', V', S') := fun h => h3 (hat (hceq.1 h).2.2.2.2.2)
      refine hc_seq <| hc_region <| hl_v (ov_assign rfl) rfl <| hl_nil <| hx_then_normal <| hc_ret <| ?_
      refine hx_block_ret <| hx_then_ret <| hx_then_ret <| hx_block_ret <| hx_then_ret <| ?_
      exact results_1 (.inr rfl) rfl rfl fun w' H' => ⟨bF hno, rfl, H'.ent (Ent.nil _)⟩
    have hst : s = t := Classical.not_not.1 h3
    refine hc_skip <| hx_block_normal <| hx_then_normal <| hc_region <| hl_v (ov_move rfl) rfl <| hl_v (ov_add rfl rfl (by first | exact wrap_i64 (by omega) | rfl)) rfl <| ?_
    refine hl_v (ov_assign rfl) rfl <| hl_nil <| ?_
    refine hx_next hK3 (k + 1) (⟨hlt, by rw [hs1, hs2, hkt, hst]⟩) (by omega) (by repeat (first | exact Slots.sub_nil _ | refine Slots.sub_cons rfl ?_)) (by first | assumption | exact Ent.refl _ | exact Ent.nil _ | (repeat (first | exact Ent.refl _ | exact Ent.nil _ | refine Ent.pick ?_)))
  have hk' : k = S.length := by omega
  have eS : S = S' := by rw [← List.take_length (l := S), ← hk', hkt, hk', hSl, List.take_length]
  refine hc_exit <| hx_then_exit <| hx_then_exit <| hx_block_out <| hx_then_normal <| hc_seq <| ?_
  refine hc_region <| hl_v (ov_assign rfl) rfl <| hl_nil <| hx_then_normal <| hc_ret <| ?_
  exact results_1 (.inr rfl) rfl rfl fun w' H' => ⟨bT (hceq.2 ⟨g0, g1, g2, eP, eV, eS⟩), rfl, H'.ent (Ent.nil _)⟩
end Go.Proofs.Ytpgpfcplchaleaa
