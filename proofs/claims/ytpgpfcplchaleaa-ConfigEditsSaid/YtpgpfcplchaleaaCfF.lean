import Derived.Test.YtpgpfcplchaleaaCfE
import Derived.Test.YtpgpfcplchaleaaCod7
set_option linter.unusedVariables false
set_option linter.unusedSimpArgs false
namespace Go.Proofs.Ytpgpfcplchaleaa
open Slk
theorem EqlP_spec (D : Nat → Prop) (w : World) (v1 v2 : Value) (S T : List PortC) (HA : Old D w (Rep.rep S [v1])) (HB : Old D w (Rep.rep T [v2])) :
    Calls Try.prog 64 #[v1, v2] w fun e w' => ∃ b : BIff (S = T), e = .returned (.bool b.1) ∧ Own D w w' [] := by
  obtain ⟨A, c1, rfl, hA1, hA2, HS, oS⟩ := HA.openF
  obtain ⟨B, c2, rfl, hB1, hB2, HT, oT⟩ := HB.openF
  have HS : OldS D w A (S.flatMap portV) := HS
  have HT : OldS D w B (T.flatMap portV) := HT
  refine hc_enter (vs := [.slice A S.length c1, .slice B T.length c2]) Try.func64 rfl _ Try.ntmps64 rfl (Own.start D w) ?_
  simp only [argSlots, Nat.zero_add]
  refine hc_seq <| hc_region <| hl_v (ov_assign rfl) rfl <| hl_nil <| hx_then_normal <| hc_seq <| ?_
  refine hc_seq <| hc_region <| hl_v (ov_move rfl) rfl <| hl_v (by first | exact ov_len rfl | exact ov_lenS rfl) rfl <| ?_
  refine hl_v (ov_move rfl) rfl <| hl_v (by first | exact ov_len rfl | exact ov_lenS rfl) rfl <| ?_
  refine hl_v (ov_neq rfl rfl) rfl <| hl_nil <| hx_then_normal <| ?_
  refine hc_cond rfl (fun h => ?_) (fun h => ?_)
  · have hne : ¬ S = T := fun e => by subst e; exact h rfl
    refine hc_seq <| hc_region <| hl_v (ov_assign rfl) rfl <| hl_nil <| hx_then_normal <| hc_ret <| ?_
    refine hx_then_ret <| ?_
    exact results_1 (.inr rfl) rfl rfl fun w' H' => ⟨bF hne, rfl, H'⟩
  have hl : S.length = T.length := by omega
  refine hc_skip <| hx_then_normal <| hc_seq <| hc_seq <| hc_region <| hl_v (ov_move rfl) rfl <| ?_
  refine hl_v (by first | exact ov_len rfl | exact ov_lenS rfl) rfl <| ?_
  refine hl_v (ov_move rfl) rfl <| hl_nil <| hx_then_normal <| hc_block <| ?_
  refine hc_loops1 (σ := Nat) [0, 1, 12] rfl 13 (fun k => .int .i64 (k : Int)) (fun k => k ≤ S.length ∧ S.take k = T.take k) (fun k => S.length - k) (0) (⟨Nat.zero_le _, by simp⟩) rfl ?_
  rintro k ⟨hk, hkt⟩ K1 hK1
  refine hc_seq <| hc_region <| hl_v (ov_lss rfl rfl) rfl <| hl_nil <| hx_then_normal <| hc_seq <| ?_
  refine hc_cond rfl (fun h2 => ?_) (fun h2 => ?_)
  · have hlt : k < S.length := by omega
    have hlt2 : k < T.length := by omega
    obtain ⟨hA, _⟩ := OldS.cells_flat (D := D) (w0 := w) (f := portV) (sz := 3) (fun _ => rfl) (by decide) HS hlt []
    obtain ⟨hB, _⟩ := OldS.cells_flat (D := D) (w0 := w) (f := portV) (sz := 3) (fun _ => rfl) (by decide) HT hlt2 []
    have hc1 := fun l => (OldS.cells_flat (D := D) (w0 := w) (f := portV) (sz := 3) (fun _ => rfl) (by decide) HS hlt l).2
    have hc2 := fun l => (OldS.cells_flat (D := D) (w0 := w) (f := portV) (sz := 3) (fun _ => rfl) (by decide) HT hlt2 l).2
    have hs1 := List.take_succ_eq_append_getElem hlt
    have hs2 := List.take_succ_eq_append_getElem hlt2
    have hat : S = T → S[k] = T[k] := fun e => by subst e; rfl
    have os := portOk' (oS S[k] (List.getElem_mem hlt))
    have ot := portOk' (oT T[k] (List.getElem_mem hlt2))
    generalize S[k] = s at *
    generalize T[k] = t at *
    refine hc_skip <| hx_then_normal <| hc_seq <| hc_block <| hc_seq <| hc_region <| ?_
    refine hl_v (ov_move rfl) rfl <| hl_v (ov_assign rfl) rfl <| hl_nil <| hx_then_normal <| hc_seq <| hc_quiet mixed (by kernel_rfl) <| ?_
    refine hq_v (ov_move rfl) rfl <| hq_v (ov_move rfl) rfl <| hq_v (ov_idxS rfl (by assumption) rfl _ rfl (by omega)) rfl <| ?_
    refine hq_v (ov_loadG (cs := portV s) rfl rfl (hc1 _)) rfl ?_
    refine hq_v (ov_move rfl) rfl <| hq_v (ov_move rfl) rfl <| hq_v (ov_idxS rfl (by assumption) rfl _ rfl (by omega)) rfl <| ?_
    refine hq_v (ov_loadG (cs := portV t) rfl rfl (hc2 _)) rfl ?_
    refine hq_v (ov_neqG rfl rfl os ot portV_inj) rfl ?_
    refine hq_nil <| hx_then_normal <| ?_
    refine hc_cond rfl (fun h3 => ?_) (fun h3 => ?_)
    · have hne : ¬ S = T := fun e => h3 (hat e)
      refine hc_seq <| hc_region <| hl_v (ov_assign rfl) rfl <| hl_nil <| hx_then_normal <| hc_ret <| ?_
      refine hx_block_ret <| hx_then_ret <| hx_then_ret <| hx_block_ret <| hx_then_ret <| ?_
      exact results_1 (.inr rfl) rfl rfl fun w' H' => ⟨bF hne, rfl, H'⟩
    have hst : s = t := Classical.not_not.1 h3
    refine hc_skip <| hx_block_normal <| hx_then_normal <| hc_region <| hl_v (ov_add rfl rfl (by first | exact wrap_i64 (by omega) | rfl)) rfl <| ?_
    refine hl_v (ov_move rfl) rfl <| hl_nil <| ?_
    refine hx_next hK1 (k + 1) (⟨hlt, by rw [hs1, hs2, hkt, hst]⟩) (by omega) (by repeat (first | exact Slots.sub_nil _ | refine Slots.sub_cons rfl ?_)) (by first | assumption | exact Ent.refl _ | exact Ent.nil _ | (repeat (first | exact Ent.refl _ | exact Ent.nil _ | refine Ent.pick ?_)))
  have hk' : k = S.length := by omega
  have he : S = T := by rw [← List.take_length (l := S), ← hk', hkt, hk', hl, List.take_length]
  refine hc_exit <| hx_then_exit <| hx_then_exit <| hx_block_out <| hx_then_normal <| hc_seq <| ?_
  refine hc_region <| hl_v (ov_assign rfl) rfl <| hl_nil <| hx_then_normal <| hc_ret <| ?_
  exact results_1 (.inr rfl) rfl rfl fun w' H' => ⟨bT he, rfl, H'⟩
theorem EqlV_spec (D : Nat → Prop) (w : World) (v1 v2 : Value) (S T : List VlanC) (HA : Old D w (Rep.rep S [v1])) (HB : Old D w (Rep.rep T [v2])) :
    Calls Try.prog 65 #[v1, v2] w fun e w' => ∃ b : BIff (S = T), e = .returned (.bool b.1) ∧ Own D w w' [] := by
  obtain ⟨A, c1, rfl, hA1, hA2, HS, oS⟩ := HA.openF
  obtain ⟨B, c2, rfl, hB1, hB2, HT, oT⟩ := HB.openF
  have HS : OldS D w A (S.flatMap vlanV) := HS
  have HT : OldS D w B (T.flatMap vlanV) := HT
  refine hc_enter (vs := [.slice A S.length c1, .slice B T.length c2]) Try.func65 rfl _ Try.ntmps65 rfl (Own.start D w) ?_
  simp only [argSlots, Nat.zero_add]
  refine hc_seq <| hc_region <| hl_v (ov_assign rfl) rfl <| hl_nil <| hx_then_normal <| hc_seq <| ?_
  refine hc_seq <| hc_region <| hl_v (ov_move rfl) rfl <| hl_v (by first | exact ov_len rfl | exact ov_lenS rfl) rfl <| ?_
  refine hl_v (ov_move rfl) rfl <| hl_v (by first | exact ov_len rfl | exact ov_lenS rfl) rfl <| ?_
  refine hl_v (ov_neq rfl rfl) rfl <| hl_nil <| hx_then_normal <| ?_
  refine hc_cond rfl (fun h => ?_) (fun h => ?_)
  · have hne : ¬ S = T := fun e => by subst e; exact h rfl
    refine hc_seq <| hc_region <| hl_v (ov_assign rfl) rfl <| hl_nil <| hx_then_normal <| hc_ret <| ?_
    refine hx_then_ret <| ?_
    exact results_1 (.inr rfl) rfl rfl fun w' H' => ⟨bF hne, rfl, H'⟩
  have hl : S.length = T.length := by omega
  refine hc_skip <| hx_then_normal <| hc_seq <| hc_seq <| hc_region <| hl_v (ov_move rfl) rfl <| ?_
  refine hl_v (by first | exact ov_len rfl | exact ov_lenS rfl) rfl <| ?_
  refine hl_v (ov_move rfl) rfl <| hl_nil <| hx_then_normal <| hc_block <| ?_
  refine hc_loops1 (σ := Nat) [0, 1, 12] rfl 13 (fun k => .int .i64 (k : Int)) (fun k => k ≤ S.length ∧ S.take k = T.take k) (fun k => S.length - k) (0) (⟨Nat.zero_le _, by simp⟩) rfl ?_
  rintro k ⟨hk, hkt⟩ K1 hK1
  refine hc_seq <| hc_region <| hl_v (ov_lss rfl rfl) rfl <| hl_nil <| hx_then_normal <| hc_seq <| ?_
  refine hc_cond rfl (fun h2 => ?_) (fun h2 => ?_)
  · have hlt : k < S.length := by omega
    have hlt2 : k < T.length := by omega
    obtain ⟨hA, _⟩ := OldS.cells_flat (D := D) (w0 := w) (f := vlanV) (sz := 3) (fun _ => rfl) (by decide) HS hlt []
    obtain ⟨hB, _⟩ := OldS.cells_flat (D := D) (w0 := w) (f := vlanV) (sz := 3) (fun _ => rfl) (by decide) HT hlt2 []
    have hc1 := fun l => (OldS.cells_flat (D := D) (w0 := w) (f := vlanV) (sz := 3) (fun _ => rfl) (by decide) HS hlt l).2
    have hc2 := fun l => (OldS.cells_flat (D := D) (w0 := w) (f := vlanV) (sz := 3) (fun _ => rfl) (by decide) HT hlt2 l).2
    have hs1 := List.take_succ_eq_append_getElem hlt
    have hs2 := List.take_succ_eq_append_getElem hlt2
    have hat : S = T → S[k] = T[k] := fun e => by subst e; rfl
    have os := vlanOk' (oS S[k] (List.getElem_mem hlt))
    have ot := vlanOk' (oT T[k] (List.getElem_mem hlt2))
    generalize S[k] = s at *
    generalize T[k] = t at *
    refine hc_skip <| hx_then_normal <| hc_seq <| hc_block <| hc_seq <| hc_region <| ?_
    refine hl_v (ov_move rfl) rfl <| hl_v (ov_assign rfl) rfl <| hl_nil <| hx_then_normal <| hc_seq <| hc_quiet mixed (by kernel_rfl) <| ?_
    refine hq_v (ov_move rfl) rfl <| hq_v (ov_move rfl) rfl <| hq_v (ov_idxS rfl (by assumption) rfl _ rfl (by omega)) rfl <| ?_
    refine hq_v (ov_loadG (cs := vlanV s) rfl rfl (hc1 _)) rfl ?_
    refine hq_v (ov_move rfl) rfl <| hq_v (ov_move rfl) rfl <| hq_v (ov_idxS rfl (by assumption) rfl _ rfl (by omega)) rfl <| ?_
    refine hq_v (ov_loadG (cs := vlanV t) rfl rfl (hc2 _)) rfl ?_
    refine hq_v (ov_neqG rfl rfl os ot vlanV_inj) rfl ?_
    refine hq_nil <| hx_then_normal <| ?_
    refine hc_cond rfl (fun h3 => ?_) (fun h3 => ?_)
    · have hne : ¬ S = T := fun e => h3 (hat e)
      refine hc_seq <| hc_region <| hl_v (ov_assign rfl) rfl <| hl_nil <| hx_then_normal <| hc_ret <| ?_
      refine hx_block_ret <| hx_then_ret <| hx_then_ret <| hx_block_ret <| hx_then_ret <| ?_
      exact results_1 (.inr rfl) rfl rfl fun w' H' => ⟨bF hne, rfl, H'⟩
    have hst : s = t := Classical.not_not.1 h3
    refine hc_skip <| hx_block_normal <| hx_then_normal <| hc_region <| hl_v (ov_add rfl rfl (by first | exact wrap_i64 (by omega) | rfl)) rfl <| ?_
    refine hl_v (ov_move rfl) rfl <| hl_nil <| ?_
    refine hx_next hK1 (k + 1) (⟨hlt, by rw [hs1, hs2, hkt, hst]⟩) (by omega) (by repeat (first | exact Slots.sub_nil _ | refine Slots.sub_cons rfl ?_)) (by first | assumption | exact Ent.refl _ | exact Ent.nil _ | (repeat (first | exact Ent.refl _ | exact Ent.nil _ | refine Ent.pick ?_)))
  have hk' : k = S.length := by omega
  have he : S = T := by rw [← List.take_length (l := S), ← hk', hkt, hk', hl, List.take_length]
  refine hc_exit <| hx_then_exit <| hx_then_exit <| hx_block_out <| hx_then_normal <| hc_seq <| ?_
  refine hc_region <| hl_v (ov_assign rfl) rfl <| hl_nil <| hx_then_normal <| hc_ret <| ?_
  exact results_1 (.inr rfl) rfl rfl fun w' H' => ⟨bT he, rfl, H'⟩
theorem EqlS_spec (D : Nat → Prop) (w : World) (v1 v2 : Value) (S T : List StatC) (HA : Old D w (Rep.rep S [v1])) (HB : Old D w (Rep.rep T [v2])) :
    Calls Try.prog 66 #[v1, v2] w fun e w' => ∃ b : BIff (S = T), e = .returned (.bool b.1) ∧ Own D w w' [] := by
  obtain ⟨A, c1, rfl, hA1, hA2, HS, oS⟩ := HA.openF
  obtain ⟨B, c2, rfl, hB1, hB2, HT, oT⟩ := HB.openF
  have HS : OldS D w A (S.flatMap statV) := HS
  have HT : OldS D w B (T.flatMap statV) := HT
  refine hc_enter (vs := [.slice A S.length c1, .slice B T.length c2]) Try.func66 rfl _ Try.ntmps66 rfl (Own.start D w) ?_
  simp only [argSlots, Nat.zero_add]
  refine hc_seq <| hc_region <| hl_v (ov_assign rfl) rfl <| hl_nil <| hx_then_normal <| hc_seq <| ?_
  refine hc_seq <| hc_region <| hl_v (ov_move rfl) rfl <| hl_v (by first | exact ov_len rfl | exact ov_lenS rfl) rfl <| ?_
  refine hl_v (ov_move rfl) rfl <| hl_v (by first | exact ov_len rfl | exact ov_lenS rfl) rfl <| ?_
  refine hl_v (ov_neq rfl rfl) rfl <| hl_nil <| hx_then_normal <| ?_
  refine hc_cond rfl (fun h => ?_) (fun h => ?_)
  · have hne : ¬ S = T := fun e => by subst e; exact h rfl
    refine hc_seq <| hc_region <| hl_v (ov_assign rfl) rfl <| hl_nil <| hx_then_normal <| hc_ret <| ?_
    refine hx_then_ret <| ?_
    exact results_1 (.inr rfl) rfl rfl fun w' H' => ⟨bF hne, rfl, H'⟩
  have hl : S.length = T.length := by omega
  refine hc_skip <| hx_then_normal <| hc_seq <| hc_seq <| hc_region <| hl_v (ov_move rfl) rfl <| ?_
  refine hl_v (by first | exact ov_len rfl | exact ov_lenS rfl) rfl <| ?_
  refine hl_v (ov_move rfl) rfl <| hl_nil <| hx_then_normal <| hc_block <| ?_
  refine hc_loops1 (σ := Nat) [0, 1, 12] rfl 13 (fun k => .int .i64 (k : Int)) (fun k => k ≤ S.length ∧ S.take k = T.take k) (fun k => S.length - k) (0) (⟨Nat.zero_le _, by simp⟩) rfl ?_
  rintro k ⟨hk, hkt⟩ K1 hK1
  refine hc_seq <| hc_region <| hl_v (ov_lss rfl rfl) rfl <| hl_nil <| hx_then_normal <| hc_seq <| ?_
  refine hc_cond rfl (fun h2 => ?_) (fun h2 => ?_)
  · have hlt : k < S.length := by omega
    have hlt2 : k < T.length := by omega
    obtain ⟨hA, _⟩ := OldS.cells_flat (D := D) (w0 := w) (f := statV) (sz := 3) (fun _ => rfl) (by decide) HS hlt []
    obtain ⟨hB, _⟩ := OldS.cells_flat (D := D) (w0 := w) (f := statV) (sz := 3) (fun _ => rfl) (by decide) HT hlt2 []
    have hc1 := fun l => (OldS.cells_flat (D := D) (w0 := w) (f := statV) (sz := 3) (fun _ => rfl) (by decide) HS hlt l).2
    have hc2 := fun l => (OldS.cells_flat (D := D) (w0 := w) (f := statV) (sz := 3) (fun _ => rfl) (by decide) HT hlt2 l).2
    have hs1 := List.take_succ_eq_append_getElem hlt
    have hs2 := List.take_succ_eq_append_getElem hlt2
    have hat : S = T → S[k] = T[k] := fun e => by subst e; rfl
    have os := statOk' (oS S[k] (List.getElem_mem hlt))
    have ot := statOk' (oT T[k] (List.getElem_mem hlt2))
    generalize S[k] = s at *
    generalize T[k] = t at *
    refine hc_skip <| hx_then_normal <| hc_seq <| hc_block <| hc_seq <| hc_region <| ?_
    refine hl_v (ov_move rfl) rfl <| hl_v (ov_assign rfl) rfl <| hl_nil <| hx_then_normal <| hc_seq <| hc_quiet mixed (by kernel_rfl) <| ?_
    refine hq_v (ov_move rfl) rfl <| hq_v (ov_move rfl) rfl <| hq_v (ov_idxS rfl (by assumption) rfl _ rfl (by omega)) rfl <| ?_
    refine hq_v (ov_loadG (cs := statV s) rfl rfl (hc1 _)) rfl ?_
    refine hq_v (ov_move rfl) rfl <| hq_v (ov_move rfl) rfl <| hq_v (ov_idxS rfl (by assumption) rfl _ rfl (by omega)) rfl <| ?_
    refine hq_v (ov_loadG (cs := statV t) rfl rfl (hc2 _)) rfl ?_
    refine hq_v (ov_neqG rfl rfl os ot statV_inj) rfl ?_
    refine hq_nil <| hx_then_normal <| ?_
    refine hc_cond rfl (fun h3 => ?_) (fun h3 => ?_)
    · have hne : ¬ S = T := fun e => h3 (hat e)
      refine hc_seq <| hc_region <| hl_v (ov_assign rfl) rfl <| hl_nil <| hx_then_normal <| hc_ret <| ?_
      refine hx_block_ret <| hx_then_ret <| hx_then_ret <| hx_block_ret <| hx_then_ret <| ?_
      exact results_1 (.inr rfl) rfl rfl fun w' H' => ⟨bF hne, rfl, H'⟩
    have hst : s = t := Classical.not_not.1 h3
    refine hc_skip <| hx_block_normal <| hx_then_normal <| hc_region <| hl_v (ov_add rfl rfl (by first | exact wrap_i64 (by omega) | rfl)) rfl <| ?_
    refine hl_v (ov_move rfl) rfl <| hl_nil <| ?_
    refine hx_next hK1 (k + 1) (⟨hlt, by rw [hs1, hs2, hkt, hst]⟩) (by omega) (by repeat (first | exact Slots.sub_nil _ | refine Slots.sub_cons rfl ?_)) (by first | assumption | exact Ent.refl _ | exact Ent.nil _ | (repeat (first | exact Ent.refl _ | exact Ent.nil _ | refine Ent.pick ?_)))
  have hk' : k = S.length := by omega
  have he : S = T := by rw [← List.take_length (l := S), ← hk', hkt, hk', hl, List.take_length]
  refine hc_exit <| hx_then_exit <| hx_then_exit <| hx_block_out <| hx_then_normal <| hc_seq <| ?_
  refine hc_region <| hl_v (ov_assign rfl) rfl <| hl_nil <| hx_then_normal <| hc_ret <| ?_
  exact results_1 (.inr rfl) rfl rfl fun w' H' => ⟨bT he, rfl, H'⟩
theorem Same_spec (D : Nat → Prop) (w : World) (c d : ConfC) (vp vv vs wp wv ws : Value) (H1 : ConfOld D w c vp vv vs) (H2c : ConfOld D w d wp wv ws) :
    Calls Try.prog 34 #[.agg (cfgV c vp vv vs).toArray, .agg (cfgV d wp wv ws).toArray] w fun e w' => ∃ b : BIff (c = d), e = .returned (.bool b.1) ∧ Own D w w' [] := by
  obtain ⟨Ap, cp, hvp, _⟩ := H1.p.openF
  obtain ⟨Av, cv, hvv, _⟩ := H1.v.openF
  obtain ⟨As, cs, hvs, _⟩ := H1.s.openF
  obtain ⟨Bp, dp, hwp, _⟩ := H2c.p.openF
  obtain ⟨Bv, dv, hwv, _⟩ := H2c.v.openF
  obtain ⟨Bs, ds, hws, _⟩ := H2c.s.openF
  have K1 := H1.p; have K2 := H1.v; have K3 := H1.s; have K4 := H2c.p; have K5 := H2c.v; have K6 := H2c.s
  subst hvp; subst hvv; subst hvs; subst hwp; subst hwv; subst hws
  obtain ⟨c1, c2, c3, P, V, S⟩ := c
  obtain ⟨d1, d2, d3, P', V', S'⟩ := d
  dsimp only at *
  have hceq : ((c1, c2, c3, P, V, S) : ConfC) = (d1, d2, d3, P', V', S') ↔ c1 = d1 ∧ c2 = d2 ∧ c3 = d3 ∧ P = P' ∧ V = V' ∧ S = S' := by simp only [Prod.mk.injEq]
  clear H1 H2c
  refine hc_enter (vs := [.agg #[.int .i64 c1, .int .i64 c2, .int .i64 c3, .slice Ap P.length cp, .slice Av V.length cv, .slice As S.length cs], .agg #[.int .i64 d1, .int .i64 d2, .int .i64 d3, .slice Bp P'.length dp, .slice Bv V'.length dv, .slice Bs S'.length ds]]) Try.func34 rfl _ Try.ntmps34 rfl (Own.start D w) ?_
  simp only [argSlots, Nat.zero_add]
  refine hc_seq <| hc_region <| hl_new (on_boxN rfl rfl) rfl rfl rfl fun b2 =>  ?_
  refine hl_new (on_boxN rfl rfl) rfl rfl rfl fun b3 =>  ?_
  refine hl_v (ov_assign rfl) rfl <| hl_nil <| hx_then_normal <| hc_seq <| hc_region <| hl_v (ov_fieldA rfl) rfl <| ?_
  refine hl_v (ov_load rfl (CellIs.blk rfl)) rfl <| hl_v (ov_fieldA rfl) rfl <| hl_v (ov_load rfl (CellIs.blk rfl)) rfl <| hl_v (ov_eql rfl rfl) rfl <| hl_v (ov_move rfl) rfl <| ?_
  refine hl_part (t := 10) rfl (fun g1 => ?_) (fun g1 => ?_)
  · refine hl_on rfl rfl <| hl_v (ov_fieldA rfl) rfl <| hl_on rfl rfl <| hl_v (ov_load rfl (CellIs.blk rfl)) rfl <| hl_on rfl rfl <| hl_v (ov_fieldA rfl) rfl <| hl_on rfl rfl <| hl_v (ov_load rfl (CellIs.blk rfl)) rfl <| hl_on rfl rfl <| hl_v (ov_eql rfl rfl) rfl <| hl_v (ov_pickT rfl rfl) rfl <| ?_
    refine hl_v (ov_move rfl) rfl <| ?_
    refine hl_part (t := 17) rfl (fun g2 => ?_) (fun g2 => ?_)
    · refine hl_on rfl rfl <| hl_v (ov_fieldA rfl) rfl <| hl_on rfl rfl <| hl_v (ov_load rfl (CellIs.blk rfl)) rfl <| hl_on rfl rfl <| hl_v (ov_fieldA rfl) rfl <| hl_on rfl rfl <| hl_v (ov_load rfl (CellIs.blk rfl)) rfl <| hl_on rfl rfl <| hl_v (ov_eql rfl rfl) rfl <| hl_v (ov_pickT rfl rfl) rfl <| ?_
      refine hl_v (ov_move rfl) rfl <| ?_
      refine hl_part (t := 24) rfl (fun g3 => ?_) (fun g3 => ?_)
      · refine hl_on rfl rfl <| hl_v (ov_fieldA rfl) rfl <| hl_on rfl rfl <| hl_v (ov_load rfl (CellIs.blk rfl)) rfl <| hl_on rfl rfl <| hl_v (ov_fieldA rfl) rfl <| hl_on rfl rfl <| hl_v (ov_load rfl (CellIs.blk rfl)) rfl <| ?_
        refine hl_on rfl rfl <| hl_call (σ := BIff (P = P')) Try.call64 rfl rfl (fun w1 H1 => Own.callx0 H1 fun D' hold hin H2 => EqlP_spec D' w1 _ _ P P' (hold _ K1) (hold _ K4)) ?_
        intro r1
        try rw [List.nil_append]
        refine hl_v (ov_pickT rfl rfl) rfl <| hl_v (ov_move rfl) rfl <| ?_
        refine hl_partb (t := 31) rfl (fun g4 => ?_) (fun g4 => ?_)
        · have e4 := r1.2.1 g4
          refine hl_on rfl rfl <| hl_v (ov_fieldA rfl) rfl <| hl_on rfl rfl <| hl_v (ov_load rfl (CellIs.blk rfl)) rfl <| hl_on rfl rfl <| hl_v (ov_fieldA rfl) rfl <| hl_on rfl rfl <| hl_v (ov_load rfl (CellIs.blk rfl)) rfl <| ?_
          refine hl_on rfl rfl <| hl_call (σ := BIff (V = V')) Try.call65 rfl rfl (fun w1 H1 => Own.callx0 H1 fun D' hold hin H2 => EqlV_spec D' w1 _ _ V V' (hold _ K2) (hold _ K5)) ?_
          intro r2
          try rw [List.nil_append]
          refine hl_v (ov_pickT rfl rfl) rfl <| hl_v (ov_move rfl) rfl <| ?_
          refine hl_partb (t := 38) rfl (fun g5 => ?_) (fun g5 => ?_)
          · have e5 := r2.2.1 g5
            refine hl_on rfl rfl <| hl_v (ov_fieldA rfl) rfl <| hl_on rfl rfl <| hl_v (ov_load rfl (CellIs.blk rfl)) rfl <| hl_on rfl rfl <| hl_v (ov_fieldA rfl) rfl <| hl_on rfl rfl <| hl_v (ov_load rfl (CellIs.blk rfl)) rfl <| ?_
            refine hl_on rfl rfl <| hl_call (σ := BIff (S = S')) Try.call66 rfl rfl (fun w1 H1 => Own.callx0 H1 fun D' hold hin H2 => EqlS_spec D' w1 _ _ S S' (hold _ K3) (hold _ K6)) ?_
            intro r3
            try rw [List.nil_append]
            refine hl_v (ov_pickT rfl rfl) rfl <| hl_v (ov_assign rfl) rfl <| hl_nil <| hx_then_normal <| hc_ret <| ?_
            exact results_1 (.inr rfl) rfl rfl fun w' H' => ⟨⟨r3.1, by rw [r3.2, hceq]; exact ⟨fun h => ⟨g1, g2, g3, e4, e5, h⟩, fun h => h.2.2.2.2.2⟩⟩, rfl, H'.ent (Ent.nil _)⟩
          have hno : ¬ ((c1, c2, c3, P, V, S) : ConfC) = (d1, d2, d3, P', V', S') := fun h => by have := r2.2.2 (hceq.1 h).2.2.2.2.1; rw [this] at g5; cases g5
          refine hl_off rfl rfl rfl rfl rfl rfl <| hl_off rfl rfl rfl rfl rfl rfl <| hl_off rfl rfl rfl rfl rfl rfl <| hl_off rfl rfl rfl rfl rfl rfl <| hl_off rfl rfl rfl rfl rfl rfl <| hl_v (ov_pickF rfl rfl) rfl <| ?_
          refine hl_v (ov_assign rfl) rfl <| hl_nil <| hx_then_normal <| hc_ret <| ?_
          exact results_1 (.inr rfl) rfl rfl fun w' H' => ⟨bF hno, rfl, H'.ent (Ent.nil _)⟩
        have hno : ¬ ((c1, c2, c3, P, V, S) : ConfC) = (d1, d2, d3, P', V', S') := fun h => by have := r1.2.2 (hceq.1 h).2.2.2.1; rw [this] at g4; cases g4
        refine hl_off rfl rfl rfl rfl rfl rfl <| hl_off rfl rfl rfl rfl rfl rfl <| hl_off rfl rfl rfl rfl rfl rfl <| hl_off rfl rfl rfl rfl rfl rfl <| hl_off rfl rfl rfl rfl rfl rfl <| hl_v (ov_pickF rfl rfl) rfl <| ?_
        refine hl_v (ov_move rfl) rfl <| hl_off rfl rfl rfl rfl rfl rfl <| hl_off rfl rfl rfl rfl rfl rfl <| hl_off rfl rfl rfl rfl rfl rfl <| hl_off rfl rfl rfl rfl rfl rfl <| hl_off rfl rfl rfl rfl rfl rfl <| ?_
        refine hl_v (ov_pickF rfl rfl) rfl <| hl_v (ov_assign rfl) rfl <| hl_nil <| hx_then_normal <| hc_ret <| ?_
        exact results_1 (.inr rfl) rfl rfl fun w' H' => ⟨bF hno, rfl, H'.ent (Ent.nil _)⟩
      have hno : ¬ ((c1, c2, c3, P, V, S) : ConfC) = (d1, d2, d3, P', V', S') := fun h => g3 (hceq.1 h).2.2.1
      refine hl_off rfl rfl rfl rfl rfl rfl <| hl_off rfl rfl rfl rfl rfl rfl <| hl_off rfl rfl rfl rfl rfl rfl <| hl_off rfl rfl rfl rfl rfl rfl <| hl_off rfl rfl rfl rfl rfl rfl <| hl_v (ov_pickF rfl rfl) rfl <| ?_
      refine hl_v (ov_move rfl) rfl <| hl_off rfl rfl rfl rfl rfl rfl <| hl_off rfl rfl rfl rfl rfl rfl <| hl_off rfl rfl rfl rfl rfl rfl <| hl_off rfl rfl rfl rfl rfl rfl <| hl_off rfl rfl rfl rfl rfl rfl <| ?_
      refine hl_v (ov_pickF rfl rfl) rfl <| hl_v (ov_move rfl) rfl <| hl_off rfl rfl rfl rfl rfl rfl <| hl_off rfl rfl rfl rfl rfl rfl <| hl_off rfl rfl rfl rfl rfl rfl <| hl_off rfl rfl rfl rfl rfl rfl <| ?_
      refine hl_off rfl rfl rfl rfl rfl rfl <| hl_v (ov_pickF rfl rfl) rfl <| hl_v (ov_assign rfl) rfl <| hl_nil <| hx_then_normal <| hc_ret <| ?_
      exact results_1 (.inr rfl) rfl rfl fun w' H' => ⟨bF hno, rfl, H'.ent (Ent.nil _)⟩
    have hno : ¬ ((c1, c2, c3, P, V, S) : ConfC) = (d1, d2, d3, P', V', S') := fun h => g2 (hceq.1 h).2.1
    refine hl_off rfl rfl rfl rfl rfl rfl <| hl_off rfl rfl rfl rfl rfl rfl <| hl_off rfl rfl rfl rfl rfl rfl <| hl_off rfl rfl rfl rfl rfl rfl <| hl_off rfl rfl rfl rfl rfl rfl <| hl_v (ov_pickF rfl rfl) rfl <| ?_
    refine hl_v (ov_move rfl) rfl <| hl_off rfl rfl rfl rfl rfl rfl <| hl_off rfl rfl rfl rfl rfl rfl <| hl_off rfl rfl rfl rfl rfl rfl <| hl_off rfl rfl rfl rfl rfl rfl <| hl_off rfl rfl rfl rfl rfl rfl <| ?_
    refine hl_v (ov_pickF rfl rfl) rfl <| hl_v (ov_move rfl) rfl <| hl_off rfl rfl rfl rfl rfl rfl <| hl_off rfl rfl rfl rfl rfl rfl <| hl_off rfl rfl rfl rfl rfl rfl <| hl_off rfl rfl rfl rfl rfl rfl <| ?_
    refine hl_off rfl rfl rfl rfl rfl rfl <| hl_v (ov_pickF rfl rfl) rfl <| hl_v (ov_move rfl) rfl <| hl_off rfl rfl rfl rfl rfl rfl <| hl_off rfl rfl rfl rfl rfl rfl <| hl_off rfl rfl rfl rfl rfl rfl <| ?_
    refine hl_off rfl rfl rfl rfl rfl rfl <| hl_off rfl rfl rfl rfl rfl rfl <| hl_v (ov_pickF rfl rfl) rfl <| hl_v (ov_assign rfl) rfl <| hl_nil <| hx_then_normal <| ?_
    refine hc_ret <| ?_
    exact results_1 (.inr rfl) rfl rfl fun w' H' => ⟨bF hno, rfl, H'.ent (Ent.nil _)⟩
  have hno : ¬ ((c1, c2, c3, P, V, S) : ConfC) = (d1, d2, d3, P', V', S') := fun h => g1 (hceq.1 h).1
  refine hl_off rfl rfl rfl rfl rfl rfl <| hl_off rfl rfl rfl rfl rfl rfl <| hl_off rfl rfl rfl rfl rfl rfl <| hl_off rfl rfl rfl rfl rfl rfl <| hl_off rfl rfl rfl rfl rfl rfl <| hl_v (ov_pickF rfl rfl) rfl <| ?_
  refine hl_v (ov_move rfl) rfl <| hl_off rfl rfl rfl rfl rfl rfl <| hl_off rfl rfl rfl rfl rfl rfl <| hl_off rfl rfl rfl rfl rfl rfl <| hl_off rfl rfl rfl rfl rfl rfl <| hl_off rfl rfl rfl rfl rfl rfl <| ?_
  refine hl_v (ov_pickF rfl rfl) rfl <| hl_v (ov_move rfl) rfl <| hl_off rfl rfl rfl rfl rfl rfl <| hl_off rfl rfl rfl rfl rfl rfl <| hl_off rfl rfl rfl rfl rfl rfl <| hl_off rfl rfl rfl rfl rfl rfl <| ?_
  refine hl_off rfl rfl rfl rfl rfl rfl <| hl_v (ov_pickF rfl rfl) rfl <| hl_v (ov_move rfl) rfl <| hl_off rfl rfl rfl rfl rfl rfl <| hl_off rfl rfl rfl rfl rfl rfl <| hl_off rfl rfl rfl rfl rfl rfl <| ?_
  refine hl_off rfl rfl rfl rfl rfl rfl <| hl_off rfl rfl rfl rfl rfl rfl <| hl_v (ov_pickF rfl rfl) rfl <| hl_v (ov_move rfl) rfl <| hl_off rfl rfl rfl rfl rfl rfl <| hl_off rfl rfl rfl rfl rfl rfl <| ?_
  refine hl_off rfl rfl rfl rfl rfl rfl <| hl_off rfl rfl rfl rfl rfl rfl <| hl_off rfl rfl rfl rfl rfl rfl <| hl_v (ov_pickF rfl rfl) rfl <| hl_v (ov_assign rfl) rfl <| hl_nil <| ?_
  refine hx_then_normal <| hc_ret <| ?_
  exact results_1 (.inr rfl) rfl rfl fun w' H' => ⟨bF hno, rfl, H'.ent (Ent.nil _)⟩
theorem KCopy_spec (D : Nat → Prop) (w : World) (c : ConfC) (vp vv vs : Value) (HC0 : ConfOld D w c vp vv vs) :
    Calls Try.prog 35 #[.agg (cfgV c vp vv vs).toArray] w fun e w' => ∃ q : Three, e = .returned (.agg (cfgA c q).toArray) ∧ Own D w w' (cfgR c q) := by
  have hlp := HC0.lp
  have hlv := HC0.lv
  have hls := HC0.ls
  obtain ⟨Ap, cp, hvp, _, _, HSp, _⟩ := HC0.p.openF
  obtain ⟨Av, cv, hvv, _, _, HSv, _⟩ := HC0.v.openF
  obtain ⟨As, cs, hvs, _, _, HSs, _⟩ := HC0.s.openF
  have HSp : OldS D w Ap (c.2.2.2.1.flatMap portV) := HSp
  have HSv : OldS D w Av (c.2.2.2.2.1.flatMap vlanV) := HSv
  have HSs : OldS D w As (c.2.2.2.2.2.flatMap statV) := HSs
  subst hvp; subst hvv; subst hvs
  refine hc_enter (vs := [.agg (cfgV c (.slice Ap c.2.2.2.1.length cp) (.slice Av c.2.2.2.2.1.length cv) (.slice As c.2.2.2.2.2.length cs)).toArray]) Try.func35 rfl _ Try.ntmps35 rfl (Own.start D w) ?_
  simp only [argSlots, Nat.zero_add]
  refine hc_seq <| hc_region <| hl_new (on_boxN rfl rfl) rfl rfl rfl fun b1 =>  ?_
  refine hl_new (on_alloc) rfl rfl rfl fun b2 => 
    hl_nil <| hx_then_normal <| hc_seq <| hc_region <| hl_new (on_buildSliceN rfl rfl rfl) rfl rfl rfl fun b3 =>  ?_
  refine HL.ent (Ent.blk_row (b := b3) 3 0 rfl (by decide)) ?_
  refine hl_v (ov_fieldA rfl) rfl <| hl_v (ov_load rfl (CellIs.blk rfl)) rfl <| ?_
  refine hl_new (on_appendR (A := some ⟨b3, 0, none⟩) (news := c.2.2.2.1.flatMap portV) rfl rfl (SrcIs.old HSp) (flat_len (f := portV) (sz := 3) (fun _ => rfl) _) (flat_one portV_one _) (by decide) (by omega)) rfl rfl rfl (fun q1 => ?_)
  rw [List.nil_append, Nat.zero_add]
  refine hl_v (ov_fieldA rfl) rfl <| ?_
  refine hl_u0 (on_storeE (cfgV c (.slice q1.1 c.2.2.2.1.length q1.2) (.slice Av c.2.2.2.2.1.length cv) (.slice As c.2.2.2.2.2.length cs)) rfl rfl (by simp) rfl rfl) rfl rfl ?_
  refine hl_nil <| hx_then_normal <| hc_seq <| hc_region <| hl_new (on_buildSliceN rfl rfl rfl) rfl rfl rfl fun b8 =>  ?_
  refine HL.ent (Ent.blk_row (b := b8) 3 0 rfl (by decide)) ?_
  refine hl_v (ov_fieldA rfl) rfl <| hl_v (ov_load rfl (CellIs.blk rfl)) rfl <| ?_
  refine hl_new (on_appendR (A := some ⟨b8, 0, none⟩) (news := c.2.2.2.2.1.flatMap vlanV) rfl rfl (SrcIs.old HSv) (flat_len (f := vlanV) (sz := 3) (fun _ => rfl) _) (flat_one vlanV_one _) (by decide) (by omega)) rfl rfl rfl (fun q2 => ?_)
  rw [List.nil_append, Nat.zero_add]
  refine hl_v (ov_fieldA rfl) rfl <| ?_
  refine hl_u0 (on_storeE (cfgV c (.slice q1.1 c.2.2.2.1.length q1.2) (.slice q2.1 c.2.2.2.2.1.length q2.2) (.slice As c.2.2.2.2.2.length cs)) rfl rfl (by simp) rfl rfl) rfl rfl ?_
  refine hl_nil <| hx_then_normal <| hc_seq <| hc_region <| hl_new (on_buildSliceN rfl rfl rfl) rfl rfl rfl fun b13 =>  ?_
  refine HL.ent (Ent.blk_row (b := b13) 3 0 rfl (by decide)) ?_
  refine hl_v (ov_fieldA rfl) rfl <| hl_v (ov_load rfl (CellIs.blk rfl)) rfl <| ?_
  refine hl_new (on_appendR (A := some ⟨b13, 0, none⟩) (news := c.2.2.2.2.2.flatMap statV) rfl rfl (SrcIs.old HSs) (flat_len (f := statV) (sz := 3) (fun _ => rfl) _) (flat_one statV_one _) (by decide) (by omega)) rfl rfl rfl (fun q3 => ?_)
  rw [List.nil_append, Nat.zero_add]
  refine hl_v (ov_fieldA rfl) rfl <| ?_
  refine hl_u0 (on_storeE (cfgA c (q1, q2, q3)) rfl rfl (by simp) rfl rfl) rfl rfl ?_
  refine hl_nil <| hx_then_normal <| hc_seq <| hc_region <| hl_v (by first | exact ov_loadW rfl (by simp; done) | exact ov_loadGB rfl rfl) rfl <| ?_
  refine hl_u0 (on_storeGN rfl rfl rfl rfl rfl rfl) rfl rfl <| hl_nil <| hx_then_normal <| hc_ret <| ?_
  exact results_c (.inr rfl) rfl rfl (by simp) fun w' H' => ⟨(q1, q2, q3), rfl, H'.ent (by first | assumption | exact Ent.refl _ | exact Ent.nil _ | exact Ent.row_any (Ent.refl _) | (repeat (first | exact Ent.refl _ | exact Ent.nil _ | refine Ent.pick ?_)))⟩
theorem RCopy_spec (D : Nat → Prop) (w : World) (c : ConfC) (vp vv vs : Value) (HC0 : ConfOld D w c vp vv vs) :
    Calls Try.prog 68 #[.agg (cfgV c vp vv vs).toArray] w fun e w' => ∃ q : Three, e = .returned (.agg (cfgA c q).toArray) ∧ Own D w w' (cfgR c q) := by
  have hlp := HC0.lp
  have hlv := HC0.lv
  have hls := HC0.ls
  obtain ⟨Ap, cp, hvp, _, _, HSp, _⟩ := HC0.p.openF
  obtain ⟨Av, cv, hvv, _, _, HSv, _⟩ := HC0.v.openF
  obtain ⟨As, cs, hvs, _, _, HSs, _⟩ := HC0.s.openF
  have HSp : OldS D w Ap (c.2.2.2.1.flatMap portV) := HSp
  have HSv : OldS D w Av (c.2.2.2.2.1.flatMap vlanV) := HSv
  have HSs : OldS D w As (c.2.2.2.2.2.flatMap statV) := HSs
  subst hvp; subst hvv; subst hvs
  refine hc_enter (vs := [.agg (cfgV c (.slice Ap c.2.2.2.1.length cp) (.slice Av c.2.2.2.2.1.length cv) (.slice As c.2.2.2.2.2.length cs)).toArray]) Try.func68 rfl _ Try.ntmps68 rfl (Own.start D w) ?_
  simp only [argSlots, Nat.zero_add]
  refine hc_seq <| hc_region <| hl_new (on_boxN rfl rfl) rfl rfl rfl fun b1 =>  ?_
  refine hl_new (on_alloc) rfl rfl rfl fun b2 => 
    hl_nil <| hx_then_normal <| hc_seq <| hc_region <| hl_new (on_buildSliceN rfl rfl rfl) rfl rfl rfl fun b3 =>  ?_
  refine HL.ent (Ent.blk_row (b := b3) 3 0 rfl (by decide)) ?_
  refine hl_v (ov_fieldA rfl) rfl <| hl_v (ov_load rfl (CellIs.blk rfl)) rfl <| ?_
  refine hl_new (on_appendR (A := some ⟨b3, 0, none⟩) (news := c.2.2.2.1.flatMap portV) rfl rfl (SrcIs.old HSp) (flat_len (f := portV) (sz := 3) (fun _ => rfl) _) (flat_one portV_one _) (by decide) (by omega)) rfl rfl rfl (fun q1 => ?_)
  rw [List.nil_append, Nat.zero_add]
  refine hl_v (ov_fieldA rfl) rfl <| ?_
  refine hl_u0 (on_storeE (cfgV c (.slice q1.1 c.2.2.2.1.length q1.2) (.slice Av c.2.2.2.2.1.length cv) (.slice As c.2.2.2.2.2.length cs)) rfl rfl (by simp) rfl rfl) rfl rfl ?_
  refine hl_nil <| hx_then_normal <| hc_seq <| hc_region <| hl_new (on_buildSliceN rfl rfl rfl) rfl rfl rfl fun b8 =>  ?_
  refine HL.ent (Ent.blk_row (b := b8) 3 0 rfl (by decide)) ?_
  refine hl_v (ov_fieldA rfl) rfl <| hl_v (ov_load rfl (CellIs.blk rfl)) rfl <| ?_
  refine hl_new (on_appendR (A := some ⟨b8, 0, none⟩) (news := c.2.2.2.2.1.flatMap vlanV) rfl rfl (SrcIs.old HSv) (flat_len (f := vlanV) (sz := 3) (fun _ => rfl) _) (flat_one vlanV_one _) (by decide) (by omega)) rfl rfl rfl (fun q2 => ?_)
  rw [List.nil_append, Nat.zero_add]
  refine hl_v (ov_fieldA rfl) rfl <| ?_
  refine hl_u0 (on_storeE (cfgV c (.slice q1.1 c.2.2.2.1.length q1.2) (.slice q2.1 c.2.2.2.2.1.length q2.2) (.slice As c.2.2.2.2.2.length cs)) rfl rfl (by simp) rfl rfl) rfl rfl ?_
  refine hl_nil <| hx_then_normal <| hc_seq <| hc_region <| hl_new (on_buildSliceN rfl rfl rfl) rfl rfl rfl fun b13 =>  ?_
  refine HL.ent (Ent.blk_row (b := b13) 3 0 rfl (by decide)) ?_
  refine hl_v (ov_fieldA rfl) rfl <| hl_v (ov_load rfl (CellIs.blk rfl)) rfl <| ?_
  refine hl_new (on_appendR (A := some ⟨b13, 0, none⟩) (news := c.2.2.2.2.2.flatMap statV) rfl rfl (SrcIs.old HSs) (flat_len (f := statV) (sz := 3) (fun _ => rfl) _) (flat_one statV_one _) (by decide) (by omega)) rfl rfl rfl (fun q3 => ?_)
  rw [List.nil_append, Nat.zero_add]
  refine hl_v (ov_fieldA rfl) rfl <| ?_
  refine hl_u0 (on_storeE (cfgA c (q1, q2, q3)) rfl rfl (by simp) rfl rfl) rfl rfl ?_
  refine hl_nil <| hx_then_normal <| hc_seq <| hc_region <| hl_v (by first | exact ov_loadW rfl (by simp; done) | exact ov_loadGB rfl rfl) rfl <| ?_
  refine hl_u0 (on_storeGN rfl rfl rfl rfl rfl rfl) rfl rfl <| hl_nil <| hx_then_normal <| hc_ret <| ?_
  exact results_c (.inr rfl) rfl rfl (by simp) fun w' H' => ⟨(q1, q2, q3), rfl, H'.ent (by first | assumption | exact Ent.refl _ | exact Ent.nil _ | exact Ent.row_any (Ent.refl _) | (repeat (first | exact Ent.refl _ | exact Ent.nil _ | refine Ent.pick ?_)))⟩
abbrev FirstT (n : Int) := { r : Three × ConfC × Int // (¬ (1 ≤ n ∧ n ≤ 8) ∧ r.2 = (zeroC, 1)) ∨ (1 ≤ n ∧ n ≤ 8 ∧ r.2 = (firstC n.toNat, 0)) }
theorem First_bad (D : Nat → Prop) (w : World) (n : Int) (h : ¬ (1 ≤ n ∧ n ≤ 8)) :
    Calls Try.prog 29 #[.int .i64 n] w fun e w' => ∃ r : FirstT n, e = .returned (.tuple #[.agg (cfgA r.1.2.1 r.1.1).toArray, .int .i64 r.1.2.2]) ∧ Own D w w' (cfgR r.1.2.1 r.1.1) := by
  refine hc_enter (vs := [.int .i64 n]) Try.func29 rfl _ Try.ntmps29 rfl (Own.start D w) ?_
  simp only [argSlots, Nat.zero_add]
  refine hc_seq <| hc_region <| hl_new (on_alloc) rfl rfl rfl fun b2 =>
    hl_v (ov_assign rfl) rfl <| hl_nil <| hx_then_normal <| ?_
  refine hc_seq <| hc_seq <| hc_region <| hl_v (ov_move rfl) rfl <| hl_v (ov_lss rfl rfl) rfl <| hl_v (ov_move rfl) rfl <| ?_
  refine hl_part (t := 9) rfl (fun h1 => ?_) (fun h1 => ?_)
  · refine hl_off rfl rfl rfl rfl rfl rfl <| hl_off rfl rfl rfl rfl rfl rfl <| hl_v (ov_pickT rfl rfl) rfl <| hl_nil <| hx_then_normal <| hc_cond_true rfl <| ?_
    refine hc_seq <| hc_region <| hl_v (ov_buildSN rfl rfl) rfl <| ?_
    refine hl_u0 (on_storeGN rfl rfl rfl rfl rfl rfl) rfl rfl <| hl_v (ov_assign rfl) rfl <| hl_nil <| hx_then_normal <| hc_ret <| hx_then_ret <| ?_
    exact results_ct (.inr rfl) rfl rfl (by simp) rfl fun w' H' => ⟨⟨(q0, zeroC, 1), .inl ⟨by omega, rfl⟩⟩, rfl, H'.ent (Ent.trans (Ent.cfgR0 _) Ent.append_l)⟩
  refine hl_on rfl rfl <| hl_v (ov_move rfl) rfl <| hl_on rfl rfl <| hl_v (ov_gtr rfl rfl) rfl <| hl_v (ov_pickF rfl rfl) rfl <| hl_nil <| hx_then_normal <| ?_
  refine hc_cond_T rfl (by omega) ?_
  refine hc_seq <| hc_region <| hl_v (ov_buildSN rfl rfl) rfl <| ?_
  refine hl_u0 (on_storeGN rfl rfl rfl rfl rfl rfl) rfl rfl <| hl_v (ov_assign rfl) rfl <| hl_nil <| hx_then_normal <| hc_ret <| hx_then_ret <| ?_
  exact results_ct (.inr rfl) rfl rfl (by simp) rfl fun w' H' => ⟨⟨(q0, zeroC, 1), .inl ⟨by omega, rfl⟩⟩, rfl, H'.ent (Ent.trans (Ent.cfgR0 _) Ent.append_l)⟩
theorem First_res (D : Nat → Prop) (w : World) (n : Int) :
    Calls Try.prog 29 #[.int .i64 n] w fun e w' => ∃ r : FirstT n, e = .returned (.tuple #[.agg (cfgA r.1.2.1 r.1.1).toArray, .int .i64 r.1.2.2]) ∧ Own D w w' (cfgR r.1.2.1 r.1.1) := by
  by_cases h : 1 ≤ n ∧ n ≤ 8
  · have h1 := First_spec D w n.toNat (by omega) (by omega)
    rw [Int.toNat_of_nonneg (by omega)] at h1
    refine h1.mono fun e w' hp => ?_
    obtain ⟨⟨⟨A, c⟩, b⟩, he, H'⟩ := hp
    have hl : (firstC n.toNat).2.2.2.1.length = n.toNat := List.length_replicate
    refine ⟨⟨(((A, c), (some ⟨b, 0, none⟩, 1), (none, 0)), firstC n.toNat, 0), .inr ⟨h.1, h.2, rfl⟩⟩, ?_, ?_⟩
    · rw [he]
      dsimp only [cfgA]
      rw [hl]; rfl
    refine H'.ent (Ent.trans (b := [row none 72 3 0 0 [], row A 70 3 n.toNat c ((firstC n.toNat).2.2.2.1.flatMap portV), row (some ⟨b, 0, none⟩) 66 3 1 1 ((firstC n.toNat).2.2.2.2.1.flatMap vlanV)]) (Ent.nil_row 72 3) ?_)
    dsimp only [cfgR]
    rw [hl]
    show Ent _ [row A 70 3 n.toNat c ((firstC n.toNat).2.2.2.1.flatMap portV), row (some ⟨b, 0, none⟩) 66 3 1 1 ((firstC n.toNat).2.2.2.2.1.flatMap vlanV), row none 72 3 0 0 []]
    exact (by first | assumption | exact Ent.refl _ | exact Ent.nil _ | exact Ent.row_any (Ent.refl _) | (repeat (first | exact Ent.refl _ | exact Ent.nil _ | refine Ent.pick ?_)))
  exact First_bad D w n h
theorem RFirst_res (D : Nat → Prop) (w : World) (n : Int) (hn : inI64 n) :
    Calls Try.prog 30 #[.int .i64 n] w fun e w' => ∃ r : FirstT n, e = .returned (.tuple #[.agg (cfgA r.1.2.1 r.1.1).toArray, .int .i64 r.1.2.2]) ∧ Own D w w' (cfgR r.1.2.1 r.1.1) := by
  unfold inI64 at hn
  refine hc_enter (vs := [.int .i64 n]) Try.func30 rfl _ Try.ntmps30 rfl (Own.start D w) ?_
  simp only [argSlots, Nat.zero_add]
  refine hc_seq <| hc_region <| hl_new (on_alloc) rfl rfl rfl fun b2 =>
    hl_v (ov_assign rfl) rfl <| hl_nil <| hx_then_normal <| ?_
  refine hc_seq <| hc_seq <| hc_region <| hl_v (ov_move rfl) rfl <| hl_v (ov_lss rfl rfl) rfl <| hl_v (ov_move rfl) rfl <| ?_
  refine hl_part (t := 9) rfl (fun h1 => ?_) (fun h1 => ?_)
  · refine hl_off rfl rfl rfl rfl rfl rfl <| hl_off rfl rfl rfl rfl rfl rfl <| hl_v (ov_pickT rfl rfl) rfl <| hl_nil <| hx_then_normal <| hc_cond_true rfl <| ?_
    refine hc_seq <| hc_region <| hl_v (ov_buildSN rfl rfl) rfl <| ?_
    refine hl_u0 (on_storeGN rfl rfl rfl rfl rfl rfl) rfl rfl <| hl_v (ov_assign rfl) rfl <| hl_nil <| hx_then_normal <| hc_ret <| hx_then_ret <| ?_
    exact results_ct (.inr rfl) rfl rfl (by simp) rfl fun w' H' => ⟨⟨(q0, zeroC, 1), .inl ⟨by omega, rfl⟩⟩, rfl, H'.ent (Ent.trans (Ent.cfgR0 _) Ent.append_l)⟩
  refine hl_on rfl rfl <| hl_v (ov_move rfl) rfl <| hl_on rfl rfl <| hl_v (ov_gtr rfl rfl) rfl <| hl_v (ov_pickF rfl rfl) rfl <| hl_nil <| hx_then_normal <| ?_
  refine hc_cond rfl (fun h2 => ?_) (fun h2 => ?_)
  · refine hc_seq <| hc_region <| hl_v (ov_buildSN rfl rfl) rfl <| ?_
    refine hl_u0 (on_storeGN rfl rfl rfl rfl rfl rfl) rfl rfl <| hl_v (ov_assign rfl) rfl <| hl_nil <| hx_then_normal <| hc_ret <| hx_then_ret <| ?_
    exact results_ct (.inr rfl) rfl rfl (by simp) rfl fun w' H' => ⟨⟨(q0, zeroC, 1), .inl ⟨by omega, rfl⟩⟩, rfl, H'.ent (Ent.trans (Ent.cfgR0 _) Ent.append_l)⟩
  obtain ⟨m, hm⟩ : ∃ m : Nat, n = (m : Int) := ⟨n.toNat, by omega⟩
  subst hm
  refine hc_skip <| hx_then_normal <| hc_seq <| hc_region <| hl_v (ov_buildSN rfl rfl) rfl <| ?_
  refine hl_new (on_alloc) rfl rfl rfl fun b4 => 
    hl_u0 (on_storeGN rfl rfl rfl rfl rfl rfl) rfl rfl <| hl_nil <| hx_then_normal <| hc_seq <| hc_region <| ?_
  refine hl_v (ov_buildSN rfl rfl) rfl <| ?_
  refine hl_new (on_alloc) rfl rfl rfl fun b5 => 
    hl_u0 (on_storeGN rfl rfl rfl rfl rfl rfl) rfl rfl <| hl_nil <| hx_then_normal <| hc_seq <| hc_seq <| ?_
  refine hc_region <| hl_v (ov_assign rfl) rfl <| hl_nil <| hx_then_normal <| hc_block <| ?_
  refine hc_loopK1 (σ := Nat × Option Addr × Nat) [0, 2, 4, 5] rfl 6 (fun s => .int .i64 (s.1 : Int)) (fun s => [blk b4 26 [.int .i64 32768, .int .i64 20, .int .i64 15, .slice s.2.1 s.1 s.2.2, .slice none 0 0, .slice none 0 0], row s.2.1 70 3 s.1 s.2.2 ((List.replicate s.1 ((true, 20000, 1) : PortC)).flatMap portV), blk b5 66 [.int .i64 1, .int .u8 ((2 ^ s.1 - 1 : Nat) : Int), .int .u8 0], blk b2 26 [.int .i64 0, .int .i64 0, .int .i64 0, .slice none 0 0, .slice none 0 0, .slice none 0 0]]) (fun s => s.1 ≤ m) (fun s => m - s.1) ((0, none, 0)) (Nat.zero_le _) rfl (Ent.trans (b := [blk b4 26 [.int .i64 32768, .int .i64 20, .int .i64 15, .slice none 0 0, .slice none 0 0, .slice none 0 0], row none 70 3 0 0 [], blk b5 66 [.int .i64 1, .int .u8 0, .int .u8 0], blk b2 26 [.int .i64 0, .int .i64 0, .int .i64 0, .slice none 0 0, .slice none 0 0, .slice none 0 0]]) (Ent.trans (Ent.nil_row 70 3) (by first | assumption | exact Ent.refl _ | exact Ent.nil _ | exact Ent.row_any (Ent.refl _) | (repeat (first | exact Ent.refl _ | exact Ent.nil _ | refine Ent.pick ?_)))) (Ent.refl _)) ?_
  rintro ⟨p, A, c⟩ hp K1 hK1
  dsimp only at hp ⊢
  refine hc_seq <| hc_seq <| hc_region <| hl_v (ov_move rfl) rfl <| hl_v (ov_move rfl) rfl <| hl_v (ov_lss rfl rfl) rfl <| ?_
  refine hl_nil <| hx_then_normal <| ?_
  refine hc_cond rfl (fun h => ?_) (fun h => ?_)
  · have hlt : p < m := by omega
    obtain ⟨k1, k2⟩ := shl_or ⟨p, by omega⟩
    have hrep : (List.replicate p ((true, 20000, 1) : PortC)).flatMap portV ++ portV (true, 20000, 1) = (List.replicate (p + 1) ((true, 20000, 1) : PortC)).flatMap portV := by
      rw [List.replicate_succ', List.flatMap_append, List.flatMap_singleton]
    refine hc_skip <| hx_then_normal <| hc_seq <| hc_block <| hc_seq <| hc_region <| ?_
    refine hl_v (ov_fieldA rfl) rfl <| hl_v (ov_load rfl (CellIs.blk rfl)) rfl <| hl_v (ov_buildSN rfl rfl) rfl <| ?_
    refine hl_new (on_buildSliceN rfl rfl rfl) rfl rfl rfl fun b24 =>  ?_
    refine hl_new (on_appendR (A := A) (news := portV (true, 20000, 1)) rfl rfl (SrcIs.blk (b := b24)) rfl (by simp [Value.oneCell']) (by decide) (by omega)) rfl rfl rfl (fun q2 => ?_)
    rw [hrep]
    refine hl_v (ov_fieldA rfl) rfl <| ?_
    refine hl_u0 (on_storeE [.int .i64 32768, .int .i64 20, .int .i64 15, .slice q2.1 (p + 1) q2.2, .slice none 0 0, .slice none 0 0] rfl rfl (by simp) rfl rfl) rfl rfl ?_
    refine hl_nil <| hx_then_normal <| hc_region <| hl_v (ov_fieldA rfl) rfl <| hl_v (ov_load rfl (CellIs.blk rfl)) rfl <| hl_v (ov_move rfl) rfl <| ?_
    refine hl_v (ov_conv rfl (by first | exact wrap_u64 (by omega) | rfl)) rfl <| ?_
    refine hl_v (ov_shl (m := ((2 ^ p : Nat) : Int)) rfl rfl (by omega) k1) rfl ?_
    refine hl_v (ov_or (m := ((2 ^ (p + 1) - 1 : Nat) : Int)) rfl rfl k2) rfl ?_
    refine hl_v (ov_fieldA rfl) rfl <| ?_
    refine hl_u0 (on_storeE [.int .i64 1, .int .u8 ((2 ^ (p + 1) - 1 : Nat) : Int), .int .u8 0] rfl rfl (by simp) rfl rfl) rfl rfl ?_
    refine hl_nil <| hx_block_normal <| hx_then_normal <| hc_region <| hl_v (ov_move rfl) rfl <| hl_v (ov_add rfl rfl (by first | exact wrap_i64 (by omega) | rfl)) rfl <| ?_
    refine hl_v (ov_assign rfl) rfl <| hl_nil <| ?_
    refine hx_next hK1 ((p + 1, q2)) (hlt) (by show m - (p + 1) < m - p; omega) (by repeat (first | exact Slots.sub_nil _ | refine Slots.sub_cons rfl ?_)) (by first | assumption | exact Ent.refl _ | exact Ent.nil _ | (repeat (first | exact Ent.refl _ | exact Ent.nil _ | refine Ent.pick ?_)))
  have hpn : p = m := by omega
  subst hpn
  have hlt : 2 ^ p ≤ 2 ^ 8 := Nat.pow_le_pow_right (by decide) (by omega)
  have hu : (firstC p).2.2.2.2.1.flatMap vlanV = [.int .i64 1, .int .u8 ((2 ^ p - 1 : Nat) : Int), .int .u8 0] := by
    show vlanV (1, UInt8.ofNat (2 ^ p - 1), 0) ++ [] = _
    rw [List.append_nil]
    show [Value.int .i64 1, u8v (UInt8.ofNat (2 ^ p - 1)), u8v 0] = _
    rw [u8v_ofNat, Nat.mod_eq_of_lt (by omega)]; rfl
  have hl : (firstC p).2.2.2.1.length = p := List.length_replicate
  refine hc_exit <| hx_then_exit <| hx_then_exit <| hx_block_out <| hx_then_normal <| hc_seq <| ?_
  refine hc_region <| hl_v (by first | exact ov_loadW rfl (by simp; done) | exact ov_loadGB rfl rfl) rfl <| ?_
  refine hl_new (on_buildSliceN rfl rfl rfl) rfl rfl rfl fun b35 => 
    hl_v (ov_fieldA rfl) rfl <| hl_u0 (on_storeN rfl rfl rfl rfl rfl) rfl rfl <| hl_nil <| hx_then_normal <| hc_seq <| ?_
  refine hc_region <| hl_v (by first | exact ov_loadW rfl (by simp; done) | exact ov_loadGB rfl rfl) rfl <| ?_
  refine hl_u0 (on_storeGN rfl rfl rfl rfl rfl rfl) rfl rfl <| hl_v (ov_assign rfl) rfl <| hl_nil <| hx_then_normal <| hc_ret <| ?_
  exact results_ct (.inr rfl) rfl rfl (by simp) rfl fun w' H' => ⟨⟨(((A, c), (some ⟨b35, 0, none⟩, 1), (none, 0)), firstC p, 0), .inr ⟨by omega, by omega, rfl⟩⟩, by dsimp only [cfgA]; rw [hl]; rfl, H'.ent (by dsimp only [cfgR]; rw [hl, hu]; exact (Ent.trans (b := [row none 72 3 0 0 [], blk b35 66 [.int .i64 1, .int .u8 ((2 ^ p - 1 : Nat) : Int), .int .u8 0], row A 70 3 p c ((firstC p).2.2.2.1.flatMap portV)]) (Ent.trans (Ent.nil_row 72 3) (show Ent _ [row none 72 3 0 0 [], _, row A 70 3 p c ((List.replicate p ((true, 20000, 1) : PortC)).flatMap portV)] from (by first | assumption | exact Ent.refl _ | exact Ent.nil _ | exact Ent.row_any (Ent.refl _) | (repeat (first | exact Ent.refl _ | exact Ent.nil _ | refine Ent.pick ?_))))) (Ent.trans (b := [row (some ⟨b35, 0, none⟩) 66 3 1 1 [.int .i64 1, .int .u8 ((2 ^ p - 1 : Nat) : Int), .int .u8 0], row none 72 3 0 0 [], row A 70 3 p c ((firstC p).2.2.2.1.flatMap portV)]) (Ent.trans (b := [blk b35 66 [.int .i64 1, .int .u8 ((2 ^ p - 1 : Nat) : Int), .int .u8 0], row none 72 3 0 0 [], row A 70 3 p c ((firstC p).2.2.2.1.flatMap portV)]) (by first | assumption | exact Ent.refl _ | exact Ent.nil _ | exact Ent.row_any (Ent.refl _) | (repeat (first | exact Ent.refl _ | exact Ent.nil _ | refine Ent.pick ?_))) (Ent.blk_row 3 1 rfl (by decide))) (show Ent _ [row A 70 3 p c ((firstC p).2.2.2.1.flatMap portV), row (some ⟨b35, 0, none⟩) 66 3 1 1 [.int .i64 1, .int .u8 ((2 ^ p - 1 : Nat) : Int), .int .u8 0], row none 72 3 0 0 []] from (by first | assumption | exact Ent.refl _ | exact Ent.nil _ | exact Ent.row_any (Ent.refl _) | (repeat (first | exact Ent.refl _ | exact Ent.nil _ | refine Ent.pick ?_)))))))⟩
end Go.Proofs.Ytpgpfcplchaleaa
