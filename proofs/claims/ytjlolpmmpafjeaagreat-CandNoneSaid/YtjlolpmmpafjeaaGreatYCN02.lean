import Derived.Test.YtjlolpmmpafjeaaGreatZ01
import Derived.Test.YtjlolpmmpafjeaaGreatZ02
import Derived.Test.YtjlolpmmpafjeaaGreatZ03
import Derived.Test.YtjlolpmmpafjeaaGreatZ04
import Derived.Test.YtjlolpmmpafjeaaGreatZ05
import Derived.Test.YtjlolpmmpafjeaaGreatZ06
import Derived.Test.YtjlolpmmpafjeaaGreatZ07
import Derived.Test.YtjlolpmmpafjeaaGreatZ08
import Derived.Test.YtjlolpmmpafjeaaGreatZ09
import Derived.Test.YtjlolpmmpafjeaaGreatZ10
import Derived.Test.YtjlolpmmpafjeaaGreatZ11
import Derived.Test.YtjlolpmmpafjeaaGreatZ12
import Derived.Test.YtjlolpmmpafjeaaGreatZ13
import Derived.Test.YtjlolpmmpafjeaaGreatZ14
import Derived.Test.YtjlolpmmpafjeaaGreatZ15
import Derived.Test.YtjlolpmmpafjeaaGreatZ16
import Derived.Test.YtjlolpmmpafjeaaGreatZ17
import Derived.Test.YtjlolpmmpafjeaaGreatZ18
import Derived.Test.YtjlolpmmpafjeaaGreatZ19
import Derived.Test.YtjlolpmmpafjeaaGreatZ20
import Derived.Test.YtjlolpmmpafjeaaGreatZ21
import Derived.Test.YtjlolpmmpafjeaaGreatZ22
import Derived.Test.YtjlolpmmpafjeaaGreatZ23
import Derived.Test.YtjlolpmmpafjeaaGreatZ24
import Derived.Test.YtjlolpmmpafjeaaGreatYCN01
import Derived.WalkKit
import Derived.ProofKit
import Derived.OpenShut
import Derived.ShutString
import Derived.ChangeOld
import Derived.Below
import Derived.Test.YtjlolpmmpafjeaaGreatRows
set_option linter.unusedVariables false
set_option linter.unusedSimpArgs false
namespace Go.Proofs.YtjlolpmmpafjeaaGreat
open Slk
def lC : List EditC := [(1, 0, 4096, 0, 0, 0, 0), (2, 0, 10, 0, 0, 0, 0)]
def dC : ConfC := (4096, 10, 15, [(true, 20000, 1), (true, 20000, 1)], [(1, 3, 0)], [])
theorem lC_fold : foldC (firstC 2) lC = (dC, 0) := by decide +kernel
theorem dC_good : goodP dC := by decide +kernel
theorem lC_eds : okEds lC := by decide +kernel
theorem lC_ok : ∀ x ∈ lC, Flat.ok x := fun x hx => by
  have : x = (1, 0, 4096, 0, 0, 0, 0) ∨ x = (2, 0, 10, 0, 0, 0, 0) := by simpa [lC] using hx
  rcases this with rfl | rfl <;> exact editOk1 _ ⟨by decide, by decide⟩ ⟨by decide, by decide⟩ (inI _ ⟨by decide, by decide⟩) ⟨by decide, by decide⟩
theorem firstC2' : goodP (firstC 2) := firstC_good 2 (by decide) (by decide)
theorem lC_ed : edF (firstC 2) lC = (dC, 0) := (edF_R _ _).ok firstC2' (by decide) lC_fold dC_good
theorem wake23_facts : ∃ s2, ccomR 44 (firstSt 44 2) lC = (2, 0, s2) ∧ SI 44 s2 ∧ s2.c = dC := by
  have h1 := firstSt_ok (m := 44) (p := 2) (by decide) (by decide) (by decide)
  have hn : needM (edsB lC).length ≤ 44 - 32 := by
    rw [edsB_len]
    show needM (1 + 16 * 2) ≤ 12
    decide
  have hc : commR 44 (firstSt 44 2) lC = (0, appSt (firstSt 44 2) lC) := by
    unfold commR
    have he : edF (firstSt 44 2).c lC = (dC, 0) := lC_ed
    rw [he, if_neg (fun h => h rfl), if_neg (fun h => h lC_eds)]
    exact if_pos (show _ ≤ 44 - 32 - 0 from hn)
  have h2 := commR_ok h1 lC_ok (show 1 < 4294967290 by decide)
  rw [hc] at h2
  have hc2 : (appSt (firstSt 44 2) lC).c = dC := by show (edF (firstC 2) lC).1 = _; rw [lC_ed]
  refine ⟨_, ?_, h2.1, hc2⟩
  unfold ccomR
  rw [if_neg (show ¬ lC.length = 0 by decide), hc, if_neg (fun h => h rfl)]
  rfl
set_option maxHeartbeats 1000000 in
theorem wakes23_spec (D : Nat → Prop) (w : World) : Calls Tryz.prog 36 #[] w fun e w' => e = .returned (.bool true) ∧ Own D w w' [] := by
  obtain ⟨s1, hs1⟩ : ∃ s, s = firstSt 44 2 := ⟨_, rfl⟩
  obtain ⟨s2, f1, f2, f3⟩ := wake23_facts
  rw [← hs1] at f1
  have k1 : SI 44 s1 := by rw [hs1]; exact firstSt_ok (by decide) (by decide) (by decide)
  have e1 : s1.ep = 1 := by rw [hs1]; rfl
  obtain ⟨S0, hS0⟩ : ∃ S, S = List.replicate 44 zeroSec := ⟨_, rfl⟩
  refine hc_enter (vs := []) Tryz.func36 rfl _ Tryz.ntmps36 rfl (Own.start D w) ?_
  simp only [argSlots, Nat.zero_add]
  refine hc_seq <| hc_region <| hl_v (ov_assign rfl) rfl <| hl_nil <| hx_then_normal <| hc_seq <| ?_
  refine hc_region <| ?_
  refine hl_call (σ := Nat) Tryz.call15 rfl rfl (fun w1 H1 => Own.callx0 H1 fun D' hold hin H2 => (New_ok D' w1 44 (by decide) (by decide)).mono fun e w' ⟨g, he, H'⟩ => ⟨g, he, show Own D' w1 w' [dsk g S0 []] by rw [hS0]; exact H'⟩) ?_
  intro g
  try rw [List.nil_append]
  refine hl_v (ov_move rfl) rfl <| hl_v (ov_extract rfl rfl) rfl <| hl_v (ov_extract rfl rfl) rfl <| hl_v (ov_assign rfl) rfl <| hl_v (ov_assign rfl) rfl <| hl_nil <| ?_
  refine hx_then_normal <| hc_seq <| hc_region <| hl_v (ov_move rfl) rfl <| ?_
  refine hl_call (σ := Nat) Tryz.call17 rfl rfl (fun w1 H1 => Own.callpx (dsk g S0 []) H1 fun D' hold hin H2 => (SOpen_new D' w1 g 44 2 (by decide) (by decide) (by decide) (by decide) S0 hS0 H2).mono fun e w' ⟨sb, he, H'⟩ => ⟨sb, he, show Own D' w1 w' [sto sb g 44 s1, dsk g s1.S []] by rw [hs1]; exact H'⟩) ?_
  intro sb
  refine hl_v (ov_move rfl) rfl <| hl_v (ov_extract rfl rfl) rfl <| hl_v (ov_extract rfl rfl) rfl <| hl_v (ov_assign rfl) rfl <| hl_v (ov_assign rfl) rfl <| hl_nil <| ?_
  refine hx_then_normal <| hc_seq <| hc_region <| ?_
  refine hl_call (σ := Nat) Tryz.call37 rfl rfl (fun w1 H1 => Own.callx0 H1 fun D' hold hin H2 => CNew_spec D' w1) ?_
  intro b
  try rw [List.nil_append]
  refine hl_v (ov_assign rfl) rfl <| hl_nil <| hx_then_normal <| hc_seq <| hc_seq <| hc_region <| ?_
  refine hl_v (ov_move rfl) rfl <| hl_v (ov_neq rfl rfl) rfl <| hl_v (ov_move rfl) rfl <| ?_
  refine hl_partF (t := 20) rfl ((fun h => h rfl)) ?_
  refine hl_on rfl rfl <| hl_v (ov_move rfl) rfl <| hl_on rfl rfl <| hl_v (ov_neq rfl rfl) rfl <| hl_v (ov_pickF rfl rfl) rfl <| hl_v (ov_move rfl) rfl <| ?_
  refine hl_partF (t := 24) rfl ((fun h => h rfl)) ?_
  refine hl_on rfl rfl <| hl_v (ov_move rfl) rfl <| hl_on rfl rfl <| hl_v (ov_eqlP rfl rfl) rfl <| hl_v (ov_pickF rfl rfl) rfl <| hl_v (ov_move rfl) rfl <| ?_
  refine hl_on rfl rfl <| hl_v (ov_move rfl) rfl <| hl_on rfl rfl <| hl_v (ov_buildSN rfl rfl) rfl <| ?_
  refine hl_on rfl rfl <| hl_v (ov_buildSN rfl rfl) rfl <| ?_
  refine hl_on rfl rfl <| hl_new (on_buildSliceN rfl rfl rfl) rfl rfl rfl fun b32 =>  ?_
  refine hl_on rfl rfl <| hl_c Tryz.call38 rfl rfl (fun w1 H1 => Own.callp (ses b []) H1 fun D' hold hin H2 => (CAdd_spec D' w1 b [] lC _ (by decide) (by decide) (hin _ fun h hs ho => rep_lits (b := b32) hs lC (repL_F.2 ⟨rfl, lC_ok⟩) (by decide)) H2).mono fun e w' ⟨he, H'⟩ => ⟨(show e = .returned (.int .i64 0) from he), show Own D' w1 w' [ses b lC] from H'⟩) ?_
  refine hl_on rfl rfl <| hl_v (ov_neq rfl rfl) rfl <| hl_v (ov_pickF rfl rfl) rfl <| hl_v (ov_move rfl) rfl <| ?_
  refine hl_partF (t := 36) rfl ((fun h => h rfl)) ?_
  refine hl_on rfl rfl <| hl_v (ov_move rfl) rfl <| ?_
  refine hl_on rfl rfl <| hl_call (σ := Option Addr × Nat) Tryz.call40 rfl rfl (fun w1 H1 => Own.callpx (ses b lC) H1 fun D' hold hin H2 => CAll_spec D' w1 b lC (by decide) lC_ok H2) ?_
  intro q1
  refine hl_on rfl rfl <| hl_v (by first | exact ov_len rfl | exact ov_lenS rfl) rfl <| ?_
  refine hl_on rfl rfl <| hl_v (ov_neq rfl rfl) rfl <| hl_v (ov_pickF rfl rfl) rfl <| hl_nil <| hx_then_normal <| ?_
  refine hc_cond_F rfl ((fun h => h rfl)) ?_
  refine hc_skip <| hx_then_normal <| hc_seq <| hc_region <| hl_v (ov_move rfl) rfl <| hl_v (ov_move rfl) rfl <| ?_
  refine hl_c Tryz.call39 rfl rfl (fun w1 H1 => Own.callp3 (ses b lC) (sto sb g 44 s1) (dsk g s1.S []) H1 fun D' hold hin H2 => (CCommit_spec D' w1 b sb g 44 s1 lC k1 (by decide) (by omega) (by decide) lC_ok H2).mono fun e w' ⟨he, H'⟩ => ⟨(by rw [f1] at he; exact he : e = .returned (.tuple #[.int .i64 2, .int .i64 0])), show Own D' w1 w' [ses b [], sto sb g 44 s2, dsk g s2.S []] by rw [f1] at H'; exact H'⟩) ?_
  refine hl_v (ov_move rfl) rfl <| hl_v (ov_extract rfl rfl) rfl <| hl_v (ov_extract rfl rfl) rfl <| hl_v (ov_assign rfl) rfl <| hl_v (ov_assign rfl) rfl <| hl_nil <| ?_
  refine hx_then_normal <| hc_seq <| hc_region <| hl_v (ov_move rfl) rfl <| hl_v (ov_eql rfl rfl) rfl <| hl_v (ov_move rfl) rfl <| ?_
  refine hl_partT (t := 50) rfl (rfl) ?_
  refine hl_on rfl rfl <| hl_v (ov_move rfl) rfl <| hl_on rfl rfl <| hl_v (ov_eql rfl rfl) rfl <| hl_v (ov_pickT rfl rfl) rfl <| hl_v (ov_move rfl) rfl <| ?_
  refine hl_partT (t := 54) rfl (rfl) ?_
  refine hl_on rfl rfl <| hl_v (ov_move rfl) rfl <| ?_
  refine hl_on rfl rfl <| hl_call (σ := Option Addr × Nat) Tryz.call40 rfl rfl (fun w1 H1 => Own.callpx (ses b []) H1 fun D' hold hin H2 => CAll_spec D' w1 b [] (by decide) (fun x hx => by cases hx) H2) ?_
  intro q2
  refine hl_on rfl rfl <| hl_v (by first | exact ov_len rfl | exact ov_lenS rfl) rfl <| ?_
  refine hl_on rfl rfl <| hl_v (ov_eql rfl rfl) rfl <| hl_v (ov_pickT rfl rfl) rfl <| hl_v (ov_move rfl) rfl <| ?_
  refine hl_partT (t := 60) rfl (rfl) ?_
  refine hl_on rfl rfl <| hl_v (ov_move rfl) rfl <| ?_
  refine hl_on rfl rfl <| hl_call (σ := Three) Tryz.call26 rfl rfl (fun w1 H1 => Own.callpx (sto sb g 44 s2) H1 fun D' hold hin H2 => SConfig_spec D' w1 sb g 44 s2 f2.okc H2) ?_
  intro q3
  refine hl_on rfl rfl <| hl_v (ov_field rfl rfl) rfl <| hl_on rfl rfl <| hl_v (ov_eql rfl rfl) rfl <| hl_v (ov_pickT rfl rfl) rfl <| hl_v (ov_move rfl) rfl <| ?_
  refine hl_partT (t := 66) rfl ((by rw [f3]; rfl)) ?_
  refine hl_on rfl rfl <| hl_v (ov_move rfl) rfl <| ?_
  refine hl_on rfl rfl <| hl_c Tryz.call42 rfl rfl (fun w1 H1 => Own.callp (ses b []) H1 fun D' hold hin H2 => CDrop_spec D' w1 b [] H2) ?_
  refine hl_on rfl rfl <| hl_v (ov_eql rfl rfl) rfl <| hl_v (ov_pickT rfl rfl) rfl <| hl_v (ov_assign rfl) rfl <| hl_nil <| hx_then_normal <| hc_ret <| ?_
  exact results_1 (.inr rfl) rfl rfl fun w' H' => ⟨rfl, H'.ent (Ent.nil _)⟩
/-! ### Steps -/
abbrev CdStep := Int × List EditC
instance : ReadsAs Tryz.prog 97 CdStep := ReadsAs.structG 0 (by kernel_rfl) rfl (ReadsG.cons 0 (ReadsG.last 1 (by decide)))
theorem cstep_open {D : Nat → Prop} {w0 : World} {x : CdStep} {cs : List Value} (k : Old D w0 (Rep.rep x cs)) : ∃ A cap, cs = [.int .i64 x.1, .slice A x.2.length cap] ∧ inI64 x.1 ∧ Old D w0 (Rep.rep x.2 [.slice A x.2.length cap]) := by
  obtain ⟨h, hh, c1, c2, rfl, ⟨rfl, ia⟩, A, cap, rfl, hr2⟩ := k
  exact ⟨A, cap, rfl, ia, h, hh, A, cap, rfl, hr2⟩
def fairC (l : List CdStep) : Prop := l.length ≤ 60 ∧ ∀ x ∈ l, x.2.length ≤ 50
theorem fair23_spec (D : Nat → Prop) (w : World) (v : Value) (l : List CdStep) (HA : Old D w (Rep.rep l [v])) :
    Calls Tryz.prog 41 #[v] w fun e w' => ∃ b : { b : Bool // b = true → fairC l }, e = .returned (.bool b.1) ∧ Own D w w' [] := by
  obtain ⟨A, cap, rfl, hc1, hc2, hel⟩ := HA.openX (by decide)
  refine hc_enter (vs := [.slice A l.length cap]) Tryz.func41 rfl _ Tryz.ntmps41 rfl (Own.start D w) ?_
  simp only [argSlots, Nat.zero_add]
  refine hc_seq <| hc_region <| hl_v (ov_assign rfl) rfl <| hl_nil <| hx_then_normal <| hc_seq <| ?_
  refine hc_seq <| hc_region <| hl_v (ov_assign rfl) rfl <| hl_nil <| hx_then_normal <| hc_block <| ?_
  refine hc_loops1 (σ := Nat) [0] rfl 3 (fun i => .int .i64 i) (fun i => i ≤ l.length ∧ ∀ x ∈ l.take i, x.2.length ≤ 50) (fun i => l.length - i) (0) (⟨Nat.zero_le _, by simp⟩) rfl ?_
  rintro i ⟨hi, hok⟩ K1 hK1
  refine hc_seq <| hc_seq <| hc_region <| hl_v (ov_move rfl) rfl <| hl_v (ov_move rfl) rfl <| hl_v (by first | exact ov_len rfl | exact ov_lenS rfl) rfl <| ?_
  refine hl_v (ov_lss rfl rfl) rfl <| hl_nil <| hx_then_normal <| ?_
  refine hc_cond rfl (fun hlt => ?_) (fun hlt => ?_)
  · have hlt : i < l.length := by omega
    obtain ⟨hA, cs, hx, hcs⟩ := hel i hlt
    obtain ⟨B, capB, rfl, _, hu⟩ := cstep_open hx
    have hcl := hcs 1 _ rfl
    rw [show Rep.sz CdStep = 2 from rfl] at hcl
    have hsn := List.take_succ_eq_append_getElem hlt
    refine hc_skip <| hx_then_normal <| hc_seq <| hc_block <| hc_seq <| hc_region <| ?_
    refine hl_v (ov_move rfl) rfl <| hl_v (ov_move rfl) rfl <| ?_
    refine hl_v (ov_idxS rfl hA rfl i rfl hlt) rfl ?_
    refine hl_v (ov_fieldA rfl) rfl <| hl_v (by first | exact ov_load rfl (by assumption) | exact ov_load rfl (hcl _) | exact ov_load rfl (hcl2 _) | exact ov_load rfl (hcl3 _) | exact ov_load rfl (CellIs.blk rfl)) rfl <| ?_
    refine hl_v (by first | exact ov_len rfl | exact ov_lenS rfl) rfl <| ?_
    refine hl_v (ov_gtr rfl rfl) rfl <| hl_nil <| hx_then_normal <| ?_
    refine hc_cond rfl (fun hbig => ?_) (fun hbig => ?_)
    · refine hc_seq <| hc_region <| hl_v (ov_assign rfl) rfl <| hl_nil <| hx_then_normal <| hc_ret <| ?_
      refine hx_block_ret <| hx_then_ret <| hx_then_ret <| hx_block_ret <| hx_then_ret <| ?_
      exact results_1 (.inr rfl) rfl rfl fun w' H' => ⟨⟨false, fun h => by cases h⟩, rfl, H'⟩
    have hok' : ∀ x ∈ l.take (i + 1), x.2.length ≤ 50 := fun x hx => by
      rw [hsn] at hx
      rcases List.mem_append.1 hx with hx | hx
      · exact hok x hx
      · obtain rfl := List.mem_singleton.1 hx; omega
    refine hc_skip <| hx_block_normal <| hx_then_normal <| hc_region <| hl_v (ov_move rfl) rfl <| hl_v (ov_add rfl rfl (by first | exact wrap_i64 (by omega) | rfl)) rfl <| ?_
    refine hl_v (ov_assign rfl) rfl <| hl_nil <| ?_
    refine hx_next hK1 (i + 1) (⟨by omega, hok'⟩) (by omega) (by repeat (first | exact Slots.sub_nil _ | refine Slots.sub_cons rfl ?_)) (by first | assumption | exact Ent.refl _ | exact Ent.nil _ | (repeat (first | exact Ent.refl _ | exact Ent.nil _ | refine Ent.pick ?_)))
  have hil : i = l.length := by omega
  subst hil
  rw [List.take_length] at hok
  refine hc_exit <| hx_then_exit <| hx_then_exit <| hx_block_out <| hx_then_normal <| hc_seq <| ?_
  refine hc_region <| hl_v (ov_move rfl) rfl <| hl_v (by first | exact ov_len rfl | exact ov_lenS rfl) rfl <| ?_
  refine hl_v (ov_leq rfl rfl) rfl <| hl_v (ov_assign rfl) rfl <| hl_nil <| hx_then_normal <| hc_ret <| ?_
  exact results_1 (.inr rfl) rfl rfl fun w' H' => ⟨⟨_, fun hb => ⟨by have := of_decide_eq_true hb; omega, hok⟩⟩, rfl, H'⟩
set_option maxHeartbeats 1000000 in
theorem CandNone_walk (W : World) (c0 : List Value) (x : CdStep) (h0 : Old none' W (Rep.rep x c0)) :
    Calls Tryz.prog 10 #[.agg c0.toArray] W fun e w' => e = .returned (.bool true) ∧ Own none' W w' [] := by
  obtain ⟨A, cap, rfl, h1, hk⟩ := cstep_open h0
  refine hc_enter (vs := [.agg #[.int .i64 x.1, .slice A x.2.length cap]]) Tryz.func10 rfl _ Tryz.ntmps10 rfl (Own.start none' W) ?_
  simp only [argSlots, Nat.zero_add]
  refine hc_seq <| hc_region <| hl_new (on_boxN rfl rfl) rfl rfl rfl fun b1 =>  ?_
  refine hl_v (ov_assign rfl) rfl <| hl_nil <| hx_then_normal <| hc_seq <| hc_seq <| hc_region <| ?_
  refine hl_v (by first | exact ov_loadW rfl (by simp; done) | exact ov_loadGB rfl rfl) rfl <| ?_
  refine hl_new (on_buildSliceN rfl rfl rfl) rfl rfl rfl fun b7 =>  ?_
  refine hl_call (σ := { b : Bool // b = true → fairC [x] }) Tryz.call41 rfl rfl (fun w1 H1 => Own.callx0 H1 fun D' hold hin H2 => fair23_spec D' w1 _ [x] (hin _ fun h hs ho => rep_lits (b := b7) hs [x] ⟨_, [], rfl, rep_old ho h0, rfl⟩ (by simp))) ?_
  rintro ⟨bv, hbv⟩
  try rw [List.nil_append]
  cases bv
  · skip
    refine hl_v (ov_not rfl) rfl <| hl_nil <| hx_then_normal <| hc_cond_true rfl <| hc_seq <| hc_region <| ?_
    refine hl_c Tryz.call36 rfl rfl (fun w1 H1 => Own.calln H1 fun D' hold hin H2 => wakes23_spec D' w1) ?_
    refine hl_v (ov_assign rfl) rfl <| hl_nil <| hx_then_normal <| hc_ret <| hx_then_ret <| ?_
    exact results_1 (.inr rfl) rfl rfl fun w' H' => ⟨rfl, H'.ent (Ent.nil _)⟩
  skip
  refine hl_v (ov_not rfl) rfl <| hl_nil <| hx_then_normal <| hc_cond_false rfl <| hc_skip <| hx_then_normal <| ?_
  refine hc_seq <| hc_region <| hl_v (ov_assign rfl) rfl <| hl_nil <| hx_then_normal <| hc_seq <| ?_
  refine hc_region <| hl_v (ov_move rfl) rfl <| ?_
  refine hl_c Tryz.call39 rfl rfl (fun w1 H1 => Own.calln H1 fun D' hold hin H2 => CCommit_nil D' w1 _) ?_
  refine hl_v (ov_move rfl) rfl <| hl_v (ov_extract rfl rfl) rfl <| hl_v (ov_extract rfl rfl) rfl <| hl_v (ov_assign rfl) rfl <| hl_v (ov_assign rfl) rfl <| hl_nil <| ?_
  refine hx_then_normal <| hc_seq <| hc_region <| hl_v (ov_move rfl) rfl <| hl_v (ov_fieldA rfl) rfl <| hl_v (ov_load rfl (CellIs.blk rfl)) rfl <| ?_
  refine hl_c Tryz.call38 rfl rfl (fun w1 H1 => Own.calln H1 fun D' hold hin H2 => CAdd_nil D' w1 _) ?_
  refine hl_v (ov_eql rfl rfl) rfl <| hl_v (ov_move rfl) rfl <| ?_
  refine hl_partT (t := 21) rfl (rfl) ?_
  refine hl_on rfl rfl <| hl_v (ov_move rfl) rfl <| ?_
  refine hl_on rfl rfl <| hl_c Tryz.call40 rfl rfl (fun w1 H1 => Own.calln H1 fun D' hold hin H2 => CAll_nil D' w1) ?_
  refine hl_on rfl rfl <| hl_v (by first | exact ov_len rfl | exact ov_lenS rfl) rfl <| ?_
  refine hl_on rfl rfl <| hl_v (ov_eql rfl rfl) rfl <| hl_v (ov_pickT rfl rfl) rfl <| hl_v (ov_move rfl) rfl <| ?_
  refine hl_partT (t := 27) rfl (rfl) ?_
  refine hl_on rfl rfl <| hl_v (ov_move rfl) rfl <| ?_
  refine hl_on rfl rfl <| hl_c Tryz.call42 rfl rfl (fun w1 H1 => Own.calln H1 fun D' hold hin H2 => CDrop_nil D' w1) ?_
  refine hl_on rfl rfl <| hl_v (ov_eql rfl rfl) rfl <| hl_v (ov_pickT rfl rfl) rfl <| hl_v (ov_move rfl) rfl <| ?_
  refine hl_partT (t := 32) rfl (rfl) ?_
  refine hl_on rfl rfl <| hl_v (ov_move rfl) rfl <| hl_on rfl rfl <| hl_v (ov_eql rfl rfl) rfl <| hl_v (ov_pickT rfl rfl) rfl <| hl_v (ov_move rfl) rfl <| ?_
  refine hl_partT (t := 36) rfl (rfl) ?_
  refine hl_on rfl rfl <| hl_v (ov_move rfl) rfl <| hl_on rfl rfl <| hl_v (ov_eql rfl rfl) rfl <| hl_v (ov_pickT rfl rfl) rfl <| hl_v (ov_move rfl) rfl <| ?_
  refine hl_partT (t := 40) rfl (rfl) ?_
  refine hl_on rfl rfl <| hl_c Tryz.call36 rfl rfl (fun w1 H1 => Own.calln H1 fun D' hold hin H2 => wakes23_spec D' w1) ?_
  refine hl_v (ov_pickT rfl rfl) rfl <| hl_v (ov_assign rfl) rfl <| hl_nil <| hx_then_normal <| hc_ret <| ?_
  exact results_1 (.inr rfl) rfl rfl fun w' H' => ⟨rfl, H'.ent (Ent.nil _)⟩
end Go.Proofs.YtjlolpmmpafjeaaGreat
/- PROVED: the given statement CandNone: for every input the law returns true, and each argument reads behind the call as it read before; no condition. -/
set_option linter.unusedVariables false
namespace Go.Proofs.YtjlolpmmpafjeaaGreat.candNone
open Go.ChangeShapes Go.WideShapes Go.ChangeAt Go.RowKit
open Slk
theorem own : ownKnob Tryz.prog.godebug = none := by kernel_rfl
theorem laidOut : laidOutB Tryz.prog = true := by kernel_rfl
set_option maxRecDepth 100000 in
theorem lifted (os : Os) (started : os.Started) (H : Type) (enc : TypeId × Value → H) :
    ReturnsInHanded {} Tryz.checked os 10 .any (Rows.candNoneSpec.pre6 enc Tryz.prog Tryz.f10 Rows.candNoneRow.domain false) (Rows.candNoneSpec.post enc Tryz.prog Tryz.f10 false true false false) := by
  refine returnsInHanded_of_change (C := Tryz.checked) own started (by kernel_rfl) Tryz.func10
    (ChangeSpec.witness6 (enc := enc) (C := Tryz.checked) false ⟨#[], #[.agg #[.int .i64 0, .slice none 0 0]], []⟩ 8 (by kernel_rfl) (by kernel_rfl) (by kernel_rfl) (by kernel_rfl)) ?_
  intro W base args ds gs before hval0 hW hcnd _
  have hval : ∀ (j : Nat) t v, Tryz.f10.params[j]? = some t → args[j]? = some v → Value.okWide Tryz.prog W .any base t v := hval0
  have hW' := hW
  obtain ⟨p, q, hA0, hV, rfl, hfz, hnd⟩ := hW
  have hA : DataW.TrodAll enc Tryz.prog W 0 (fun _ => true) true Tryz.f10.params.toList args.toList ds p := hA0
  rw [Tryz.params10] at hA hval
  obtain ⟨v0, vs0, d0, ds0, p0, q0, hargs, rfl, rfl, h0, r0⟩ := trodAll_cons hA
  obtain ⟨rfl, rfl, rfl⟩ := trodAll_nil r0
  obtain rfl : args = #[v0] := by cases args; simp_all
  obtain ⟨rfl, rfl⟩ := trodVars_none hV
  have k0 := h0
  have lt0 : ∀ x ∈ p0, x.block < W.heap.size := by obtain ⟨m, hm⟩ := k0; exact DataW.trod_lt m _ _ _ hm
  obtain ⟨c0, e0⟩ := cells_agg (hval 0 97 v0 rfl rfl)
  subst e0
  obtain ⟨x0, y0⟩ := arg_rep (α := CdStep) h0
  simp only [Value.cells] at y0
  clear hA0 hval0
  refine (CandNone_walk W c0 x0 y0).mono fun e W' ⟨he, hO⟩ => ?_
  have bel := hO.below
  subst he
  exact ⟨_, rfl, _, _, _, [], _, [], hW', trodAll_mk1 (shut_bool Tryz.underlying4 _), (trodAll_cons_mk (Below.trod laidOut (by kernel_rfl) (of_decide_eq_true (by kernel_rfl)) k0 bel lt0) trodAll_mk0), rfl, bel.frame _, fun h => by cases h⟩
theorem over : Rows.candNoneRow.holds Tryz.pinned (OpenSpec.ofChange Rows.candNoneSpec) :=
  OpenClaim.holds_of_wide 10 Tryz.f10 rfl rfl rfl rfl rfl rfl rfl ⟨rfl, rfl, rfl, rfl, rfl⟩ rfl rfl rfl rfl rfl (by kernel_rfl) Tryz.func10 (by kernel_rfl)
    (of_decide_eq_true (by kernel_rfl)) (by unfold Func.isWrapper; first | (rw [if_pos (by decide +kernel)]; kernel_rfl) | (rw [if_neg (by decide +kernel)]; exact ⟨rfl, rfl⟩))
    (fun os started H enc _ => lifted os started H enc)
theorem proved : Rows.CandNoneSaid := over
#print axioms proved
end Go.Proofs.YtjlolpmmpafjeaaGreat.candNone
