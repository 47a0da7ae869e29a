import Derived.Test.YtjlolpmmpafjeaaGreatW01
import Derived.Test.YtjlolpmmpafjeaaGreatW02
import Derived.Test.YtjlolpmmpafjeaaGreatW03
import Derived.Test.YtjlolpmmpafjeaaGreatW04
import Derived.Test.YtjlolpmmpafjeaaGreatW05
import Derived.Test.YtjlolpmmpafjeaaGreatW06
import Derived.Test.YtjlolpmmpafjeaaGreatW07
import Derived.Test.YtjlolpmmpafjeaaGreatW08
import Derived.Test.YtjlolpmmpafjeaaGreatW09
import Derived.Test.YtjlolpmmpafjeaaGreatW10
import Derived.Test.YtjlolpmmpafjeaaGreatW11
import Derived.Test.YtjlolpmmpafjeaaGreatW12
import Derived.Test.YtjlolpmmpafjeaaGreatW13
import Derived.Test.YtjlolpmmpafjeaaGreatW14
import Derived.Test.YtjlolpmmpafjeaaGreatW15
import Derived.Test.YtjlolpmmpafjeaaGreatW16
import Derived.Test.YtjlolpmmpafjeaaGreatW17
import Derived.Test.YtjlolpmmpafjeaaGreatW18
import Derived.Test.YtjlolpmmpafjeaaGreatW19
import Derived.Test.YtjlolpmmpafjeaaGreatW20
import Derived.Test.YtjlolpmmpafjeaaGreatW21
import Derived.Test.YtjlolpmmpafjeaaGreatW22
import Derived.Test.YtjlolpmmpafjeaaGreatXR01
set_option linter.unusedVariables false
set_option linter.unusedSimpArgs false
namespace Go.Proofs.YtjlolpmmpafjeaaGreat
open Slk
def lC : List EditC := [(1, 0, 4096, 0, 0, 0, 0), (2, 0, 10, 0, 0, 0, 0)]
def dC : ConfC := (4096, 10, 15, [(true, 20000, 1), (true, 20000, 1)], [(1, 3, 0)], [])
theorem lC_fold : foldC (firstC 2) lC = (dC, 0) := by decide +kernel
theorem dC_good : goodP dC := by decide +kernel
theorem lC_eds : okEds lC := by decide +kernel
theorem lC_ok : ∀ x ∈ lC, Flat.ok x := fun x hx => by
  have : x = (1, 0, 4096, 0, 0, 0, 0) ∨ x = (2, 0, 10, 0, 0, 0, 0) := by simpa [lC] using hx
  rcases this with rfl | rfl <;> exact editOk1 _ ⟨by decide, by decide⟩ ⟨by decide, by decide⟩ (inI _ ⟨by decide, by decide⟩) ⟨by decide, by decide⟩
theorem firstC2' : goodP (firstC 2) := firstC_good 2 (by decide) (by decide)
theorem lC_ed : edF (firstC 2) lC = (dC, 0) := (edF_R _ _).ok firstC2' (by decide) lC_fold dC_good
theorem wake23_facts : ∃ s2, ccomR 44 (firstSt 44 2) lC = (2, 0, s2) ∧ SI 44 s2 ∧ s2.c = dC := by
  have h1 := firstSt_ok (m := 44) (p := 2) (by decide) (by decide) (by decide)
  have hn : needM (edsB lC).length ≤ 44 - 32 := by
    rw [edsB_len]
    show needM (1 + 16 * 2) ≤ 12
    decide
  have hc : commR 44 (firstSt 44 2) lC = (0, appSt (firstSt 44 2) lC) := by
    unfold commR
    have he : edF (firstSt 44 2).c lC = (dC, 0) := lC_ed
    rw [he, if_neg (fun h => h rfl), if_neg (fun h => h lC_eds)]
    exact if_pos (show _ ≤ 44 - 32 - 0 from hn)
  have h2 := commR_ok h1 lC_ok (show 1 < 4294967290 by decide)
  rw [hc] at h2
  have hc2 : (appSt (firstSt 44 2) lC).c = dC := by show (edF (firstC 2) lC).1 = _; rw [lC_ed]
  refine ⟨_, ?_, h2.1, hc2⟩
  unfold ccomR
  rw [if_neg (show ¬ lC.length = 0 by decide), hc, if_neg (fun h => h rfl)]
  rfl
set_option maxHeartbeats 1000000 in
theorem wakes23_spec (D : Nat → Prop) (w : World) : Calls Tryz.prog 36 #[] w fun e w' => e = .returned (.bool true) ∧ Own D w w' [] := by
  obtain ⟨s1, hs1⟩ : ∃ s, s = firstSt 44 2 := ⟨_, rfl⟩
  obtain ⟨s2, f1, f2, f3⟩ := wake23_facts
  rw [← hs1] at f1
  have k1 : SI 44 s1 := by rw [hs1]; exact firstSt_ok (by decide) (by decide) (by decide)
  have e1 : s1.ep = 1 := by rw [hs1]; rfl
  obtain ⟨S0, hS0⟩ : ∃ S, S = List.replicate 44 zeroSec := ⟨_, rfl⟩
  refine hc_enter (vs := []) Tryz.func36 rfl _ Tryz.ntmps36 rfl (Own.start D w) ?_
  simp only [argSlots, Nat.zero_add]
  refine zg <| hl_v (ov_assign rfl) rfl <| zn <| hc_seq <| ?_
  refine hc_region <| ?_
  refine hl_call (σ := Nat) Tryz.call15 rfl rfl (fun w1 H1 => Own.callx0 H1 fun D' hold hin H2 => (New_ok D' w1 44 (by decide) (by decide)).mono fun e w' ⟨g, he, H'⟩ => ⟨g, he, show Own D' w1 w' [dsk g S0 []] by rw [hS0]; exact H'⟩) ?_
  intro g
  try rw [List.nil_append]
  refine hl_v (ov_move rfl) rfl <| hl_v (ov_extract rfl rfl) rfl <| hl_v (ov_extract rfl rfl) rfl <| hl_v (ov_assign rfl) rfl <| hl_v (ov_assign rfl) rfl <| hl_nil <| ?_
  refine hx_then_normal <| zg <| hl_v (ov_move rfl) rfl <| ?_
  refine hl_call (σ := Nat) Tryz.call17 rfl rfl (fun w1 H1 => Own.callpx (dsk g S0 []) H1 fun D' hold hin H2 => (SOpen_new D' w1 g 44 2 (by decide) (by decide) (by decide) (by decide) S0 hS0 H2).mono fun e w' ⟨sb, he, H'⟩ => ⟨sb, he, show Own D' w1 w' [sto sb g 44 s1, dsk g s1.S []] by rw [hs1]; exact H'⟩) ?_
  intro sb
  refine hl_v (ov_move rfl) rfl <| hl_v (ov_extract rfl rfl) rfl <| hl_v (ov_extract rfl rfl) rfl <| hl_v (ov_assign rfl) rfl <| hl_v (ov_assign rfl) rfl <| hl_nil <| ?_
  refine hx_then_normal <| zg <| ?_
  refine hl_call (σ := Nat) Tryz.call37 rfl rfl (fun w1 H1 => Own.callx0 H1 fun D' hold hin H2 => CNew_spec D' w1) ?_
  intro b
  try rw [List.nil_append]
  refine hl_v (ov_assign rfl) rfl <| zn <| hc_seq <| zg <| ?_
  refine hl_v (ov_move rfl) rfl <| hl_v (ov_neq rfl rfl) rfl <| hl_v (ov_move rfl) rfl <| ?_
  refine hl_partF (t := 20) rfl ((fun h => h rfl)) ?_
  refine hl_on rfl rfl <| hl_v (ov_move rfl) rfl <| hl_on rfl rfl <| hl_v (ov_neq rfl rfl) rfl <| hl_v (ov_pickF rfl rfl) rfl <| hl_v (ov_move rfl) rfl <| ?_
  refine hl_partF (t := 24) rfl ((fun h => h rfl)) ?_
  refine hl_on rfl rfl <| hl_v (ov_move rfl) rfl <| hl_on rfl rfl <| hl_v (ov_eqlP rfl rfl) rfl <| hl_v (ov_pickF rfl rfl) rfl <| hl_v (ov_move rfl) rfl <| ?_
  refine hl_on rfl rfl <| hl_v (ov_move rfl) rfl <| hl_on rfl rfl <| hl_v (ov_buildSN rfl rfl) rfl <| ?_
  refine hl_on rfl rfl <| hl_v (ov_buildSN rfl rfl) rfl <| ?_
  refine hl_on rfl rfl <| hl_new (on_buildSliceN rfl rfl rfl) rfl rfl rfl fun b32 =>  ?_
  refine hl_on rfl rfl <| hl_c Tryz.call38 rfl rfl (fun w1 H1 => Own.callp (ses b []) H1 fun D' hold hin H2 => (CAdd_spec D' w1 b [] lC _ (by decide) (by decide) (hin _ fun h hs ho => rep_lits (b := b32) hs lC (repL_F.2 ⟨rfl, lC_ok⟩) (by decide)) H2).mono fun e w' ⟨he, H'⟩ => ⟨(show e = .returned (.int .i64 0) from he), show Own D' w1 w' [ses b lC] from H'⟩) ?_
  refine hl_on rfl rfl <| hl_v (ov_neq rfl rfl) rfl <| hl_v (ov_pickF rfl rfl) rfl <| hl_v (ov_move rfl) rfl <| ?_
  refine hl_partF (t := 36) rfl ((fun h => h rfl)) ?_
  refine hl_on rfl rfl <| hl_v (ov_move rfl) rfl <| ?_
  refine hl_on rfl rfl <| hl_call (σ := Option Addr × Nat) Tryz.call40 rfl rfl (fun w1 H1 => Own.callpx (ses b lC) H1 fun D' hold hin H2 => CAll_spec D' w1 b lC (by decide) lC_ok H2) ?_
  intro q1
  refine hl_on rfl rfl <| hl_v za15 rfl <| ?_
  refine hl_on rfl rfl <| hl_v (ov_neq rfl rfl) rfl <| hl_v (ov_pickF rfl rfl) rfl <| zn <| ?_
  refine hc_cond_F rfl ((fun h => h rfl)) ?_
  refine zk <| zg <| hl_v (ov_move rfl) rfl <| hl_v (ov_move rfl) rfl <| ?_
  refine hl_c Tryz.call39 rfl rfl (fun w1 H1 => Own.callp3 (ses b lC) (sto sb g 44 s1) (dsk g s1.S []) H1 fun D' hold hin H2 => (CCommit_spec D' w1 b sb g 44 s1 lC k1 (by decide) (by omega) (by decide) lC_ok H2).mono fun e w' ⟨he, H'⟩ => ⟨(by rw [f1] at he; exact he : e = .returned (.tuple #[.int .i64 2, .int .i64 0])), show Own D' w1 w' [ses b [], sto sb g 44 s2, dsk g s2.S []] by rw [f1] at H'; exact H'⟩) ?_
  refine hl_v (ov_move rfl) rfl <| hl_v (ov_extract rfl rfl) rfl <| hl_v (ov_extract rfl rfl) rfl <| hl_v (ov_assign rfl) rfl <| hl_v (ov_assign rfl) rfl <| hl_nil <| ?_
  refine hx_then_normal <| zg <| hl_v (ov_move rfl) rfl <| hl_v (ov_eql rfl rfl) rfl <| hl_v (ov_move rfl) rfl <| ?_
  refine hl_partT (t := 50) rfl (rfl) ?_
  refine hl_on rfl rfl <| hl_v (ov_move rfl) rfl <| hl_on rfl rfl <| hl_v (ov_eql rfl rfl) rfl <| hl_v (ov_pickT rfl rfl) rfl <| hl_v (ov_move rfl) rfl <| ?_
  refine hl_partT (t := 54) rfl (rfl) ?_
  refine hl_on rfl rfl <| hl_v (ov_move rfl) rfl <| ?_
  refine hl_on rfl rfl <| hl_call (σ := Option Addr × Nat) Tryz.call40 rfl rfl (fun w1 H1 => Own.callpx (ses b []) H1 fun D' hold hin H2 => CAll_spec D' w1 b [] (by decide) (fun x hx => by cases hx) H2) ?_
  intro q2
  refine hl_on rfl rfl <| hl_v za15 rfl <| ?_
  refine hl_on rfl rfl <| hl_v (ov_eql rfl rfl) rfl <| hl_v (ov_pickT rfl rfl) rfl <| hl_v (ov_move rfl) rfl <| ?_
  refine hl_partT (t := 60) rfl (rfl) ?_
  refine hl_on rfl rfl <| hl_v (ov_move rfl) rfl <| ?_
  refine hl_on rfl rfl <| hl_call (σ := Three) Tryz.call26 rfl rfl (fun w1 H1 => Own.callpx (sto sb g 44 s2) H1 fun D' hold hin H2 => SConfig_spec D' w1 sb g 44 s2 f2.okc H2) ?_
  intro q3
  refine hl_on rfl rfl <| hl_v (ov_field rfl rfl) rfl <| hl_on rfl rfl <| hl_v (ov_eql rfl rfl) rfl <| hl_v (ov_pickT rfl rfl) rfl <| hl_v (ov_move rfl) rfl <| ?_
  refine hl_partT (t := 66) rfl ((by rw [f3]; rfl)) ?_
  refine hl_on rfl rfl <| hl_v (ov_move rfl) rfl <| ?_
  refine hl_on rfl rfl <| hl_c Tryz.call42 rfl rfl (fun w1 H1 => Own.callp (ses b []) H1 fun D' hold hin H2 => CDrop_spec D' w1 b [] H2) ?_
  refine hl_on rfl rfl <| hl_v (ov_eql rfl rfl) rfl <| hl_v (ov_pickT rfl rfl) rfl <| hl_v (ov_assign rfl) rfl <| zn <| hc_ret <| ?_
  exact results_1 (.inr rfl) rfl rfl fun w' H' => ⟨rfl, H'.ent (Ent.nil _)⟩
/-! ### Steps -/
abbrev CdStep := Int × List EditC
instance : ReadsAs Tryz.prog 97 CdStep := ReadsAs.structG 0 (by kernel_rfl) rfl (ReadsG.cons 0 (ReadsG.last 1 (by decide)))
end Go.Proofs.YtjlolpmmpafjeaaGreat
set_option linter.unusedVariables false
set_option linter.unusedSimpArgs false
namespace Go.Proofs.YtjlolpmmpafjeaaGreat
open Slk
theorem keepC_spec (D : Nat → Prop) (w : World) (c d : ConfC) (vp vv vs wp wv ws : Value) (H1 : ConfOld D w c vp vv vs) (H2 : ConfOld D w d wp wv ws) :
    Calls Tryz.prog 27 #[.agg (cfgV c vp vv vs).toArray, .agg (cfgV d wp wv ws).toArray] w fun e w' => ∃ b : BIff (c = d), e = .returned (.bool b.1) ∧ Own D w w' [] := by
  obtain ⟨Ap, cp, hvp, _, _, Sp, op⟩ := H1.p.openF
  obtain ⟨Av, cv, hvv, _, _, Sv, ov⟩ := H1.v.openF
  obtain ⟨As, cs, hvs, _, _, Ss, os⟩ := H1.s.openF
  obtain ⟨Bp, dp, hwp, _, _, Tp, qp⟩ := H2.p.openF
  obtain ⟨Bv, dv, hwv, _, _, Tv, qv⟩ := H2.v.openF
  obtain ⟨Bs, ds, hws, _, _, Ts, qs⟩ := H2.s.openF
  have l1 := H1.lp; have l2 := H1.lv; have l3 := H1.ls
  have Sp : OldS D w Ap (c.2.2.2.1.flatMap portV) := Sp
  have Sv : OldS D w Av (c.2.2.2.2.1.flatMap vlanV) := Sv
  have Ss : OldS D w As (c.2.2.2.2.2.flatMap statV) := Ss
  have Tp : OldS D w Bp (d.2.2.2.1.flatMap portV) := Tp
  have Tv : OldS D w Bv (d.2.2.2.2.1.flatMap vlanV) := Tv
  have Ts : OldS D w Bs (d.2.2.2.2.2.flatMap statV) := Ts
  subst hvp; subst hvv; subst hvs; subst hwp; subst hwv; subst hws
  obtain ⟨c1, c2, c3, P, V, S⟩ := c
  obtain ⟨d1, d2, d3, P', V', S'⟩ := d
  dsimp only at *
  have hceq : ((c1, c2, c3, P, V, S) : ConfC) = (d1, d2, d3, P', V', S') ↔ c1 = d1 ∧ c2 = d2 ∧ c3 = d3 ∧ P = P' ∧ V = V' ∧ S = S' := by simp only [Prod.mk.injEq]
  refine hc_enter (vs := [.agg #[.int .i64 c1, .int .i64 c2, .int .i64 c3, .slice Ap P.length cp, .slice Av V.length cv, .slice As S.length cs], .agg #[.int .i64 d1, .int .i64 d2, .int .i64 d3, .slice Bp P'.length dp, .slice Bv V'.length dv, .slice Bs S'.length ds]]) Tryz.func27 rfl _ Tryz.ntmps27 rfl (Own.start D w) ?_
  simp only [argSlots, Nat.zero_add]
  refine zg <| hl_new (on_boxN rfl rfl) rfl rfl rfl fun b2 =>  ?_
  refine hl_new (on_boxN rfl rfl) rfl rfl rfl fun b3 =>  ?_
  refine hl_v (ov_assign rfl) rfl <| zn <| hc_seq <| zg <| ?_
  refine hl_v (ov_fieldA rfl) rfl <| hl_v (ov_load rfl (CellIs.blk rfl)) rfl <| hl_v (ov_fieldA rfl) rfl <| hl_v (ov_load rfl (CellIs.blk rfl)) rfl <| hl_v (ov_neq rfl rfl) rfl <| hl_v (ov_move rfl) rfl <| ?_
  refine hl_part (t := 13) rfl (fun g0 => ?_) (fun g0 => ?_)
  · have hno : ¬ ((c1, c2, c3, P, V, S) : ConfC) = (d1, d2, d3, P', V', S') := fun h => g0 ((hceq.1 h).1)
    refine hl_off rfl rfl rfl rfl rfl rfl <| hl_off rfl rfl rfl rfl rfl rfl <| hl_off rfl rfl rfl rfl rfl rfl <| hl_off rfl rfl rfl rfl rfl rfl <| hl_off rfl rfl rfl rfl rfl rfl <| hl_v (ov_pickT rfl rfl) rfl <| ?_
    refine hl_v (ov_move rfl) rfl <| hl_off rfl rfl rfl rfl rfl rfl <| hl_off rfl rfl rfl rfl rfl rfl <| hl_off rfl rfl rfl rfl rfl rfl <| hl_off rfl rfl rfl rfl rfl rfl <| hl_off rfl rfl rfl rfl rfl rfl <| ?_
    refine hl_v (ov_pickT rfl rfl) rfl <| hl_v (ov_move rfl) rfl <| hl_off rfl rfl rfl rfl rfl rfl <| hl_off rfl rfl rfl rfl rfl rfl <| hl_off rfl rfl rfl rfl rfl rfl <| hl_off rfl rfl rfl rfl rfl rfl <| ?_
    refine hl_off rfl rfl rfl rfl rfl rfl <| hl_off rfl rfl rfl rfl rfl rfl <| hl_off rfl rfl rfl rfl rfl rfl <| hl_v (ov_pickT rfl rfl) rfl <| hl_v (ov_move rfl) rfl <| hl_off rfl rfl rfl rfl rfl rfl <| ?_
    refine hl_off rfl rfl rfl rfl rfl rfl <| hl_off rfl rfl rfl rfl rfl rfl <| hl_off rfl rfl rfl rfl rfl rfl <| hl_off rfl rfl rfl rfl rfl rfl <| hl_off rfl rfl rfl rfl rfl rfl <| hl_off rfl rfl rfl rfl rfl rfl <| ?_
    refine hl_v (ov_pickT rfl rfl) rfl <| hl_v (ov_move rfl) rfl <| hl_off rfl rfl rfl rfl rfl rfl <| hl_off rfl rfl rfl rfl rfl rfl <| hl_off rfl rfl rfl rfl rfl rfl <| hl_off rfl rfl rfl rfl rfl rfl <| ?_
    refine hl_off rfl rfl rfl rfl rfl rfl <| hl_off rfl rfl rfl rfl rfl rfl <| hl_off rfl rfl rfl rfl rfl rfl <| hl_v (ov_pickT rfl rfl) rfl <| zn <| ?_
    refine hc_cond_true rfl <| zg <| hl_v (ov_assign rfl) rfl <| zn <| ?_
    refine hc_ret <| hx_then_ret <| ?_
    exact results_1 (.inr rfl) rfl rfl fun w' H' => ⟨bF hno, rfl, H'.ent (Ent.nil _)⟩
  skip
  have g0 := Classical.not_not.1 g0
  refine hl_on rfl rfl <| hl_v (ov_fieldA rfl) rfl <| hl_on rfl rfl <| hl_v (ov_load rfl (CellIs.blk rfl)) rfl <| hl_on rfl rfl <| hl_v (ov_fieldA rfl) rfl <| hl_on rfl rfl <| hl_v (ov_load rfl (CellIs.blk rfl)) rfl <| hl_on rfl rfl <| hl_v (ov_neq rfl rfl) rfl <| hl_v (ov_pickF rfl rfl) rfl <| ?_
  refine hl_v (ov_move rfl) rfl <| ?_
  refine hl_part (t := 20) rfl (fun g1 => ?_) (fun g1 => ?_)
  · have hno : ¬ ((c1, c2, c3, P, V, S) : ConfC) = (d1, d2, d3, P', V', S') := fun h => g1 ((hceq.1 h).2.1)
    refine hl_off rfl rfl rfl rfl rfl rfl <| hl_off rfl rfl rfl rfl rfl rfl <| hl_off rfl rfl rfl rfl rfl rfl <| hl_off rfl rfl rfl rfl rfl rfl <| hl_off rfl rfl rfl rfl rfl rfl <| hl_v (ov_pickT rfl rfl) rfl <| ?_
    refine hl_v (ov_move rfl) rfl <| hl_off rfl rfl rfl rfl rfl rfl <| hl_off rfl rfl rfl rfl rfl rfl <| hl_off rfl rfl rfl rfl rfl rfl <| hl_off rfl rfl rfl rfl rfl rfl <| hl_off rfl rfl rfl rfl rfl rfl <| ?_
    refine hl_off rfl rfl rfl rfl rfl rfl <| hl_off rfl rfl rfl rfl rfl rfl <| hl_v (ov_pickT rfl rfl) rfl <| hl_v (ov_move rfl) rfl <| hl_off rfl rfl rfl rfl rfl rfl <| hl_off rfl rfl rfl rfl rfl rfl <| ?_
    refine hl_off rfl rfl rfl rfl rfl rfl <| hl_off rfl rfl rfl rfl rfl rfl <| hl_off rfl rfl rfl rfl rfl rfl <| hl_off rfl rfl rfl rfl rfl rfl <| hl_off rfl rfl rfl rfl rfl rfl <| hl_v (ov_pickT rfl rfl) rfl <| ?_
    refine hl_v (ov_move rfl) rfl <| hl_off rfl rfl rfl rfl rfl rfl <| hl_off rfl rfl rfl rfl rfl rfl <| hl_off rfl rfl rfl rfl rfl rfl <| hl_off rfl rfl rfl rfl rfl rfl <| hl_off rfl rfl rfl rfl rfl rfl <| ?_
    refine hl_off rfl rfl rfl rfl rfl rfl <| hl_off rfl rfl rfl rfl rfl rfl <| hl_v (ov_pickT rfl rfl) rfl <| zn <| hc_cond_true rfl <| ?_
    refine zg <| hl_v (ov_assign rfl) rfl <| zn <| hc_ret <| ?_
    refine hx_then_ret <| ?_
    exact results_1 (.inr rfl) rfl rfl fun w' H' => ⟨bF hno, rfl, H'.ent (Ent.nil _)⟩
  skip
  have g1 := Classical.not_not.1 g1
  refine hl_on rfl rfl <| hl_v (ov_fieldA rfl) rfl <| hl_on rfl rfl <| hl_v (ov_load rfl (CellIs.blk rfl)) rfl <| hl_on rfl rfl <| hl_v (ov_fieldA rfl) rfl <| hl_on rfl rfl <| hl_v (ov_load rfl (CellIs.blk rfl)) rfl <| hl_on rfl rfl <| hl_v (ov_neq rfl rfl) rfl <| hl_v (ov_pickF rfl rfl) rfl <| ?_
  refine hl_v (ov_move rfl) rfl <| ?_
  refine hl_part (t := 27) rfl (fun g2 => ?_) (fun g2 => ?_)
  · have hno : ¬ ((c1, c2, c3, P, V, S) : ConfC) = (d1, d2, d3, P', V', S') := fun h => g2 ((hceq.1 h).2.2.1)
    refine hl_off rfl rfl rfl rfl rfl rfl <| hl_off rfl rfl rfl rfl rfl rfl <| hl_off rfl rfl rfl rfl rfl rfl <| hl_off rfl rfl rfl rfl rfl rfl <| hl_off rfl rfl rfl rfl rfl rfl <| hl_off rfl rfl rfl rfl rfl rfl <| ?_
    refine hl_off rfl rfl rfl rfl rfl rfl <| hl_v (ov_pickT rfl rfl) rfl <| hl_v (ov_move rfl) rfl <| hl_off rfl rfl rfl rfl rfl rfl <| hl_off rfl rfl rfl rfl rfl rfl <| hl_off rfl rfl rfl rfl rfl rfl <| ?_
    refine hl_off rfl rfl rfl rfl rfl rfl <| hl_off rfl rfl rfl rfl rfl rfl <| hl_off rfl rfl rfl rfl rfl rfl <| hl_off rfl rfl rfl rfl rfl rfl <| hl_v (ov_pickT rfl rfl) rfl <| hl_v (ov_move rfl) rfl <| ?_
    refine hl_off rfl rfl rfl rfl rfl rfl <| hl_off rfl rfl rfl rfl rfl rfl <| hl_off rfl rfl rfl rfl rfl rfl <| hl_off rfl rfl rfl rfl rfl rfl <| hl_off rfl rfl rfl rfl rfl rfl <| hl_off rfl rfl rfl rfl rfl rfl <| ?_
    refine hl_off rfl rfl rfl rfl rfl rfl <| hl_v (ov_pickT rfl rfl) rfl <| zn <| hc_cond_true rfl <| hc_seq <| ?_
    refine hc_region <| hl_v (ov_assign rfl) rfl <| zn <| hc_ret <| hx_then_ret <| ?_
    exact results_1 (.inr rfl) rfl rfl fun w' H' => ⟨bF hno, rfl, H'.ent (Ent.nil _)⟩
  skip
  have g2 := Classical.not_not.1 g2
  refine hl_on rfl rfl <| hl_v (ov_fieldA rfl) rfl <| hl_on rfl rfl <| hl_v (ov_load rfl (CellIs.blk rfl)) rfl <| hl_on rfl rfl <| hl_v za15 rfl <| ?_
  refine hl_on rfl rfl <| hl_v (ov_fieldA rfl) rfl <| hl_on rfl rfl <| hl_v (ov_load rfl (CellIs.blk rfl)) rfl <| hl_on rfl rfl <| hl_v za15 rfl <| ?_
  refine hl_on rfl rfl <| hl_v (ov_neq rfl rfl) rfl <| hl_v (ov_pickF rfl rfl) rfl <| hl_v (ov_move rfl) rfl <| ?_
  refine hl_part (t := 36) rfl (fun g3 => ?_) (fun g3 => ?_)
  · have hno : ¬ ((c1, c2, c3, P, V, S) : ConfC) = (d1, d2, d3, P', V', S') := fun h => g3 (by rw [(hceq.1 h).2.2.2.1])
    refine hl_off rfl rfl rfl rfl rfl rfl <| hl_off rfl rfl rfl rfl rfl rfl <| hl_off rfl rfl rfl rfl rfl rfl <| hl_off rfl rfl rfl rfl rfl rfl <| hl_off rfl rfl rfl rfl rfl rfl <| hl_off rfl rfl rfl rfl rfl rfl <| ?_
    refine hl_off rfl rfl rfl rfl rfl rfl <| hl_v (ov_pickT rfl rfl) rfl <| hl_v (ov_move rfl) rfl <| hl_off rfl rfl rfl rfl rfl rfl <| hl_off rfl rfl rfl rfl rfl rfl <| hl_off rfl rfl rfl rfl rfl rfl <| ?_
    refine hl_off rfl rfl rfl rfl rfl rfl <| hl_off rfl rfl rfl rfl rfl rfl <| hl_off rfl rfl rfl rfl rfl rfl <| hl_off rfl rfl rfl rfl rfl rfl <| hl_v (ov_pickT rfl rfl) rfl <| hl_nil <| ?_
    refine hx_then_normal <| hc_cond_true rfl <| zg <| hl_v (ov_assign rfl) rfl <| hl_nil <| ?_
    refine hx_then_normal <| hc_ret <| hx_then_ret <| ?_
    exact results_1 (.inr rfl) rfl rfl fun w' H' => ⟨bF hno, rfl, H'.ent (Ent.nil _)⟩
  skip
  refine hl_on rfl rfl <| hl_v (ov_fieldA rfl) rfl <| hl_on rfl rfl <| hl_v (ov_load rfl (CellIs.blk rfl)) rfl <| hl_on rfl rfl <| hl_v za15 rfl <| ?_
  refine hl_on rfl rfl <| hl_v (ov_fieldA rfl) rfl <| hl_on rfl rfl <| hl_v (ov_load rfl (CellIs.blk rfl)) rfl <| hl_on rfl rfl <| hl_v za15 rfl <| ?_
  refine hl_on rfl rfl <| hl_v (ov_neq rfl rfl) rfl <| hl_v (ov_pickF rfl rfl) rfl <| hl_v (ov_move rfl) rfl <| ?_
  refine hl_part (t := 45) rfl (fun g4 => ?_) (fun g4 => ?_)
  · have hno : ¬ ((c1, c2, c3, P, V, S) : ConfC) = (d1, d2, d3, P', V', S') := fun h => g4 (by rw [(hceq.1 h).2.2.2.2.1])
    refine hl_off rfl rfl rfl rfl rfl rfl <| hl_off rfl rfl rfl rfl rfl rfl <| hl_off rfl rfl rfl rfl rfl rfl <| hl_off rfl rfl rfl rfl rfl rfl <| hl_off rfl rfl rfl rfl rfl rfl <| hl_off rfl rfl rfl rfl rfl rfl <| ?_
    refine hl_off rfl rfl rfl rfl rfl rfl <| hl_v (ov_pickT rfl rfl) rfl <| zn <| hc_cond_true rfl <| hc_seq <| ?_
    refine hc_region <| hl_v (ov_assign rfl) rfl <| zn <| hc_ret <| hx_then_ret <| ?_
    exact results_1 (.inr rfl) rfl rfl fun w' H' => ⟨bF hno, rfl, H'.ent (Ent.nil _)⟩
  skip
  refine hl_on rfl rfl <| hl_v (ov_fieldA rfl) rfl <| hl_on rfl rfl <| hl_v (ov_load rfl (CellIs.blk rfl)) rfl <| hl_on rfl rfl <| hl_v za15 rfl <| ?_
  refine hl_on rfl rfl <| hl_v (ov_fieldA rfl) rfl <| hl_on rfl rfl <| hl_v (ov_load rfl (CellIs.blk rfl)) rfl <| hl_on rfl rfl <| hl_v za15 rfl <| ?_
  refine hl_on rfl rfl <| hl_v (ov_neq rfl rfl) rfl <| hl_v (ov_pickF rfl rfl) rfl <| zn <| ?_
  refine hc_cond rfl (fun g5 => ?_) (fun g5 => ?_)
  · have hno : ¬ ((c1, c2, c3, P, V, S) : ConfC) = (d1, d2, d3, P', V', S') := fun h => g5 (by rw [(hceq.1 h).2.2.2.2.2])
    refine zg <| hl_v (ov_assign rfl) rfl <| zn <| hc_ret <| ?_
    refine hx_then_ret <| ?_
    exact results_1 (.inr rfl) rfl rfl fun w' H' => ⟨bF hno, rfl, H'.ent (Ent.nil _)⟩
  skip
  refine zk <| hc_seq <| zg <| hl_v (ov_assign rfl) rfl <| ?_
  refine zn <| hc_block <| ?_
  have hPl : P.length = P'.length := by omega
  have hVl : V.length = V'.length := by omega
  have hSl : S.length = S'.length := by omega
  refine hc_loops1 (σ := Nat) [2, 3] rfl 5 (fun k => .int .i64 (k : Int)) (fun k => k ≤ P.length ∧ P.take k = P'.take k) (fun k => P.length - k) (0) (⟨Nat.zero_le _, by simp⟩) rfl ?_
  rintro k ⟨hk, hkt⟩ K1 hK1
  refine hc_seq <| zg <| hl_v (ov_move rfl) rfl <| hl_v (ov_fieldA rfl) rfl <| hl_v (ov_load rfl (CellIs.blk rfl)) rfl <| ?_
  refine hl_v za15 rfl <| ?_
  refine hl_v (ov_lss rfl rfl) rfl <| zn <| ?_
  refine hc_cond rfl (fun h2 => ?_) (fun h2 => ?_)
  · have hlt : k < P.length := by omega
    have hlt2 : k < P'.length := by omega
    obtain ⟨hA, _⟩ := OldS.cells_flat (D := D) (w0 := w) (f := portV) (sz := 3) (fun _ => rfl) (by decide) Sp hlt []
    obtain ⟨hB, _⟩ := OldS.cells_flat (D := D) (w0 := w) (f := portV) (sz := 3) (fun _ => rfl) (by decide) Tp hlt2 []
    have hc1 := fun l => (OldS.cells_flat (D := D) (w0 := w) (f := portV) (sz := 3) (fun _ => rfl) (by decide) Sp hlt l).2
    have hc2 := fun l => (OldS.cells_flat (D := D) (w0 := w) (f := portV) (sz := 3) (fun _ => rfl) (by decide) Tp hlt2 l).2
    have hs1 := List.take_succ_eq_append_getElem hlt
    have hs2 := List.take_succ_eq_append_getElem hlt2
    have hat : P = P' → P[k] = P'[k] := fun e => by subst e; rfl
    have k1 := portOk' (op P[k] (List.getElem_mem hlt))
    have k2 := portOk' (qp P'[k] (List.getElem_mem hlt2))
    generalize P[k] = s at *
    generalize P'[k] = t at *
    refine zk <| hc_seq <| hc_block <| hc_seq <| hc_quiet mixed (by kernel_rfl) <| ?_
    refine hq_v (ov_fieldA rfl) rfl <| hq_v (ov_load rfl (CellIs.blk rfl)) rfl <| hq_v (ov_move rfl) rfl <| hq_v (ov_idxS rfl (by assumption) rfl _ rfl (by omega)) rfl <| ?_
    refine hq_v (ov_loadG (cs := portV s) rfl rfl (hc1 _)) rfl ?_
    refine hq_v (ov_fieldA rfl) rfl <| hq_v (ov_load rfl (CellIs.blk rfl)) rfl <| hq_v (ov_move rfl) rfl <| hq_v (ov_idxS rfl (by assumption) rfl _ rfl (by omega)) rfl <| ?_
    refine hq_v (ov_loadG (cs := portV t) rfl rfl (hc2 _)) rfl ?_
    refine hq_v (ov_neqG rfl rfl k1 k2 portV_inj) rfl ?_
    refine hq_nil <| hx_then_normal <| ?_
    refine hc_cond rfl (fun h3 => ?_) (fun h3 => ?_)
    · have hno : ¬ ((c1, c2, c3, P, V, S) : ConfC) = (d1, d2, d3, P', V', S') := fun h => h3 (hat (hceq.1 h).2.2.2.1)
      refine zg <| hl_v (ov_assign rfl) rfl <| zn <| hc_ret <| ?_
      refine hx_block_ret <| hx_then_ret <| hx_then_ret <| hx_block_ret <| hx_then_ret <| ?_
      exact results_1 (.inr rfl) rfl rfl fun w' H' => ⟨bF hno, rfl, H'.ent (Ent.nil _)⟩
    have hst : s = t := Classical.not_not.1 h3
    refine hc_skip <| hx_block_normal <| hx_then_normal <| hc_region <| hl_v (ov_move rfl) rfl <| hl_v (ov_add rfl rfl za18) rfl <| ?_
    refine hl_v (ov_assign rfl) rfl <| hl_nil <| ?_
    refine hx_next hK1 (k + 1) (⟨hlt, by rw [hs1, hs2, hkt, hst]⟩) (by omega) za9 za6
  have hk' : k = P.length := by omega
  have eP : P = P' := by rw [← List.take_length (l := P), ← hk', hkt, hk', hPl, List.take_length]
  refine hc_exit <| hx_then_exit <| hx_then_exit <| hx_block_out <| hx_then_normal <| hc_seq <| ?_
  refine zg <| hl_v (ov_assign rfl) rfl <| zn <| hc_block <| ?_
  refine hc_loops1 (σ := Nat) [2, 3] rfl 6 (fun k => .int .i64 (k : Int)) (fun k => k ≤ V.length ∧ V.take k = V'.take k) (fun k => V.length - k) (0) (⟨Nat.zero_le _, by simp⟩) rfl ?_
  rintro k ⟨hk, hkt⟩ K2 hK2
  refine hc_seq <| zg <| hl_v (ov_move rfl) rfl <| hl_v (ov_fieldA rfl) rfl <| hl_v (ov_load rfl (CellIs.blk rfl)) rfl <| ?_
  refine hl_v za15 rfl <| ?_
  refine hl_v (ov_lss rfl rfl) rfl <| zn <| ?_
  refine hc_cond rfl (fun h2 => ?_) (fun h2 => ?_)
  · have hlt : k < V.length := by omega
    have hlt2 : k < V'.length := by omega
    obtain ⟨hA, _⟩ := OldS.cells_flat (D := D) (w0 := w) (f := vlanV) (sz := 3) (fun _ => rfl) (by decide) Sv hlt []
    obtain ⟨hB, _⟩ := OldS.cells_flat (D := D) (w0 := w) (f := vlanV) (sz := 3) (fun _ => rfl) (by decide) Tv hlt2 []
    have hc1 := fun l => (OldS.cells_flat (D := D) (w0 := w) (f := vlanV) (sz := 3) (fun _ => rfl) (by decide) Sv hlt l).2
    have hc2 := fun l => (OldS.cells_flat (D := D) (w0 := w) (f := vlanV) (sz := 3) (fun _ => rfl) (by decide) Tv hlt2 l).2
    have hs1 := List.take_succ_eq_append_getElem hlt
    have hs2 := List.take_succ_eq_append_getElem hlt2
    have hat : V = V' → V[k] = V'[k] := fun e => by subst e; rfl
    have k1 := vlanOk' (ov V[k] (List.getElem_mem hlt))
    have k2 := vlanOk' (qv V'[k] (List.getElem_mem hlt2))
    generalize V[k] = s at *
    generalize V'[k] = t at *
    refine zk <| hc_seq <| hc_block <| hc_seq <| hc_quiet mixed (by kernel_rfl) <| ?_
    refine hq_v (ov_fieldA rfl) rfl <| hq_v (ov_load rfl (CellIs.blk rfl)) rfl <| hq_v (ov_move rfl) rfl <| hq_v (ov_idxS rfl (by assumption) rfl _ rfl (by omega)) rfl <| ?_
    refine hq_v (ov_loadG (cs := vlanV s) rfl rfl (hc1 _)) rfl ?_
    refine hq_v (ov_fieldA rfl) rfl <| hq_v (ov_load rfl (CellIs.blk rfl)) rfl <| hq_v (ov_move rfl) rfl <| hq_v (ov_idxS rfl (by assumption) rfl _ rfl (by omega)) rfl <| ?_
    refine hq_v (ov_loadG (cs := vlanV t) rfl rfl (hc2 _)) rfl ?_
    refine hq_v (ov_neqG rfl rfl k1 k2 vlanV_inj) rfl ?_
    refine hq_nil <| hx_then_normal <| ?_
    refine hc_cond rfl (fun h3 => ?_) (fun h3 => ?_)
    · have hno : ¬ ((c1, c2, c3, P, V, S) : ConfC) = (d1, d2, d3, P', V', S') := fun h => h3 (hat (hceq.1 h).2.2.2.2.1)
      refine zg <| hl_v (ov_assign rfl) rfl <| zn <| hc_ret <| ?_
      refine hx_block_ret <| hx_then_ret <| hx_then_ret <| hx_block_ret <| hx_then_ret <| ?_
      exact results_1 (.inr rfl) rfl rfl fun w' H' => ⟨bF hno, rfl, H'.ent (Ent.nil _)⟩
    have hst : s = t := Classical.not_not.1 h3
    refine hc_skip <| hx_block_normal <| hx_then_normal <| hc_region <| hl_v (ov_move rfl) rfl <| hl_v (ov_add rfl rfl za18) rfl <| ?_
    refine hl_v (ov_assign rfl) rfl <| hl_nil <| ?_
    refine hx_next hK2 (k + 1) (⟨hlt, by rw [hs1, hs2, hkt, hst]⟩) (by omega) za9 za6
  have hk' : k = V.length := by omega
  have eV : V = V' := by rw [← List.take_length (l := V), ← hk', hkt, hk', hVl, List.take_length]
  refine hc_exit <| hx_then_exit <| hx_then_exit <| hx_block_out <| hx_then_normal <| hc_seq <| ?_
  refine zg <| hl_v (ov_assign rfl) rfl <| zn <| hc_block <| ?_
  refine hc_loops1 (σ := Nat) [2, 3] rfl 7 (fun k => .int .i64 (k : Int)) (fun k => k ≤ S.length ∧ S.take k = S'.take k) (fun k => S.length - k) (0) (⟨Nat.zero_le _, by simp⟩) rfl ?_
  rintro k ⟨hk, hkt⟩ K3 hK3
  refine hc_seq <| zg <| hl_v (ov_move rfl) rfl <| hl_v (ov_fieldA rfl) rfl <| hl_v (ov_load rfl (CellIs.blk rfl)) rfl <| ?_
  refine hl_v za15 rfl <| ?_
  refine hl_v (ov_lss rfl rfl) rfl <| zn <| ?_
  refine hc_cond rfl (fun h2 => ?_) (fun h2 => ?_)
  · have hlt : k < S.length := by omega
    have hlt2 : k < S'.length := by omega
    obtain ⟨hA, _⟩ := OldS.cells_flat (D := D) (w0 := w) (f := statV) (sz := 3) (fun _ => rfl) (by decide) Ss hlt []
    obtain ⟨hB, _⟩ := OldS.cells_flat (D := D) (w0 := w) (f := statV) (sz := 3) (fun _ => rfl) (by decide) Ts hlt2 []
    have hc1 := fun l => (OldS.cells_flat (D := D) (w0 := w) (f := statV) (sz := 3) (fun _ => rfl) (by decide) Ss hlt l).2
    have hc2 := fun l => (OldS.cells_flat (D := D) (w0 := w) (f := statV) (sz := 3) (fun _ => rfl) (by decide) Ts hlt2 l).2
    have hs1 := List.take_succ_eq_append_getElem hlt
    have hs2 := List.take_succ_eq_append_getElem hlt2
    have hat : S = S' → S[k] = S'[k] := fun e => by subst e; rfl
    have k1 := statOk' (os S[k] (List.getElem_mem hlt))
    have k2 := statOk' (qs S'[k] (List.getElem_mem hlt2))
    generalize S[k] = s at *
    generalize S'[k] = t at *
    refine zk <| hc_seq <| hc_block <| hc_seq <| hc_quiet mixed (by kernel_rfl) <| ?_
    refine hq_v (ov_fieldA rfl) rfl <| hq_v (ov_load rfl (CellIs.blk rfl)) rfl <| hq_v (ov_move rfl) rfl <| hq_v (ov_idxS rfl (by assumption) rfl _ rfl (by omega)) rfl <| ?_
    refine hq_v (ov_loadG (cs := statV s) rfl rfl (hc1 _)) rfl ?_
    refine hq_v (ov_fieldA rfl) rfl <| hq_v (ov_load rfl (CellIs.blk rfl)) rfl <| hq_v (ov_move rfl) rfl <| hq_v (ov_idxS rfl (by assumption) rfl _ rfl (by omega)) rfl <| ?_
    refine hq_v (ov_loadG (cs := statV t) rfl rfl (hc2 _)) rfl ?_
    refine hq_v (ov_neqG rfl rfl k1 k2 statV_inj) rfl ?_
    refine hq_nil <| hx_then_normal <| ?_
    refine hc_cond rfl (fun h3 => ?_) (fun h3 => ?_)
    · have hno : ¬ ((c1, c2, c3, P, V, S) : ConfC) = (d1, d2, d3, P', V', S') := fun h => h3 (hat (hceq.1 h).2.2.2.2.2)
      refine zg <| hl_v (ov_assign rfl) rfl <| zn <| hc_ret <| ?_
      refine hx_block_ret <| hx_then_ret <| hx_then_ret <| hx_block_ret <| hx_then_ret <| ?_
      exact results_1 (.inr rfl) rfl rfl fun w' H' => ⟨bF hno, rfl, H'.ent (Ent.nil _)⟩
    have hst : s = t := Classical.not_not.1 h3
    refine hc_skip <| hx_block_normal <| hx_then_normal <| hc_region <| hl_v (ov_move rfl) rfl <| hl_v (ov_add rfl rfl za18) rfl <| ?_
    refine hl_v (ov_assign rfl) rfl <| hl_nil <| ?_
    refine hx_next hK3 (k + 1) (⟨hlt, by rw [hs1, hs2, hkt, hst]⟩) (by omega) za9 za6
  have hk' : k = S.length := by omega
  have eS : S = S' := by rw [← List.take_length (l := S), ← hk', hkt, hk', hSl, List.take_length]
  refine hc_exit <| hx_then_exit <| hx_then_exit <| hx_block_out <| hx_then_normal <| hc_seq <| ?_
  refine hc_region <| hl_v (ov_assign rfl) rfl <| zn <| hc_ret <| ?_
  exact results_1 (.inr rfl) rfl rfl fun w' H' => ⟨bT (hceq.2 ⟨g0, g1, g2, eP, eV, eS⟩), rfl, H'.ent (Ent.nil _)⟩
end Go.Proofs.YtjlolpmmpafjeaaGreat
namespace Go.Proofs.YtjlolpmmpafjeaaGreat
open Slk
theorem Mod_nat (D : Nat → Prop) (w : World) (k : Int) (n : Nat) (hk : inI64 k) (h0 : 0 < n) (hn : n ≤ 1000000) :
    Calls Tryz.prog 14 #[.int .i64 k, .int .i64 n] w fun e w' => e = .returned (.int .i64 (modN k n : Nat)) ∧ Own D w w' [] := by
  refine (Mod_spec D w k n hk (by unfold inI64; omega) (by omega)).mono fun e w' ⟨he, H'⟩ => ⟨?_, H'⟩
  rw [he, if_neg (by omega)]
  have := Int.emod_nonneg k (show (n : Int) ≠ 0 by omega)
  unfold modN
  rw [Int.toNat_of_nonneg this]
end Go.Proofs.YtjlolpmmpafjeaaGreat
