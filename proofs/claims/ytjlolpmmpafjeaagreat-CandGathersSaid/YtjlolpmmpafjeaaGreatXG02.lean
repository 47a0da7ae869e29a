import Derived.Test.YtjlolpmmpafjeaaGreatW01
import Derived.Test.YtjlolpmmpafjeaaGreatW02
import Derived.Test.YtjlolpmmpafjeaaGreatW03
import Derived.Test.YtjlolpmmpafjeaaGreatW04
import Derived.Test.YtjlolpmmpafjeaaGreatW05
import Derived.Test.YtjlolpmmpafjeaaGreatW06
import Derived.Test.YtjlolpmmpafjeaaGreatW07
import Derived.Test.YtjlolpmmpafjeaaGreatW08
import Derived.Test.YtjlolpmmpafjeaaGreatW09
import Derived.Test.YtjlolpmmpafjeaaGreatW10
import Derived.Test.YtjlolpmmpafjeaaGreatW11
import Derived.Test.YtjlolpmmpafjeaaGreatW12
import Derived.Test.YtjlolpmmpafjeaaGreatW13
import Derived.Test.YtjlolpmmpafjeaaGreatW14
import Derived.Test.YtjlolpmmpafjeaaGreatW15
import Derived.Test.YtjlolpmmpafjeaaGreatW16
import Derived.Test.YtjlolpmmpafjeaaGreatW17
import Derived.Test.YtjlolpmmpafjeaaGreatW18
import Derived.Test.YtjlolpmmpafjeaaGreatW19
import Derived.Test.YtjlolpmmpafjeaaGreatW20
import Derived.Test.YtjlolpmmpafjeaaGreatW21
import Derived.Test.YtjlolpmmpafjeaaGreatW22
import Derived.Test.YtjlolpmmpafjeaaGreatXG01
import Derived.WalkKit
import Derived.ProofKit
import Derived.OpenShut
import Derived.ShutString
import Derived.ChangeOld
import Derived.Below
import Derived.Test.YtjlolpmmpafjeaaGreatRows
set_option linter.unusedVariables false
set_option linter.unusedSimpArgs false
namespace Go.Proofs.YtjlolpmmpafjeaaGreat
open Slk
def lC : List EditC := [(1, 0, 4096, 0, 0, 0, 0), (2, 0, 10, 0, 0, 0, 0)]
def dC : ConfC := (4096, 10, 15, [(true, 20000, 1), (true, 20000, 1)], [(1, 3, 0)], [])
theorem lC_fold : foldC (firstC 2) lC = (dC, 0) := by decide +kernel
theorem dC_good : goodP dC := by decide +kernel
theorem lC_eds : okEds lC := by decide +kernel
theorem lC_ok : ∀ x ∈ lC, Flat.ok x := fun x hx => by
  have : x = (1, 0, 4096, 0, 0, 0, 0) ∨ x = (2, 0, 10, 0, 0, 0, 0) := by simpa [lC] using hx
  rcases this with rfl | rfl <;> exact editOk1 _ ⟨by decide, by decide⟩ ⟨by decide, by decide⟩ (inI _ ⟨by decide, by decide⟩) ⟨by decide, by decide⟩
theorem firstC2' : goodP (firstC 2) := firstC_good 2 (by decide) (by decide)
theorem lC_ed : edF (firstC 2) lC = (dC, 0) := (edF_R _ _).ok firstC2' (by decide) lC_fold dC_good
theorem wake23_facts : ∃ s2, ccomR 44 (firstSt 44 2) lC = (2, 0, s2) ∧ SI 44 s2 ∧ s2.c = dC := by
  have h1 := firstSt_ok (m := 44) (p := 2) (by decide) (by decide) (by decide)
  have hn : needM (edsB lC).length ≤ 44 - 32 := by
    rw [edsB_len]
    show needM (1 + 16 * 2) ≤ 12
    decide
  have hc : commR 44 (firstSt 44 2) lC = (0, appSt (firstSt 44 2) lC) := by
    unfold commR
    have he : edF (firstSt 44 2).c lC = (dC, 0) := lC_ed
    rw [he, if_neg (fun h => h rfl), if_neg (fun h => h lC_eds)]
    exact if_pos (show _ ≤ 44 - 32 - 0 from hn)
  have h2 := commR_ok h1 lC_ok (show 1 < 4294967290 by decide)
  rw [hc] at h2
  have hc2 : (appSt (firstSt 44 2) lC).c = dC := by show (edF (firstC 2) lC).1 = _; rw [lC_ed]
  refine ⟨_, ?_, h2.1, hc2⟩
  unfold ccomR
  rw [if_neg (show ¬ lC.length = 0 by decide), hc, if_neg (fun h => h rfl)]
  rfl
set_option maxHeartbeats 1000000 in
theorem wakes23_spec (D : Nat → Prop) (w : World) : Calls Tryz.prog 36 #[] w fun e w' => e = .returned (.bool true) ∧ Own D w w' [] := by
  obtain ⟨s1, hs1⟩ : ∃ s, s = firstSt 44 2 := ⟨_, rfl⟩
  obtain ⟨s2, f1, f2, f3⟩ := wake23_facts
  rw [← hs1] at f1
  have k1 : SI 44 s1 := by rw [hs1]; exact firstSt_ok (by decide) (by decide) (by decide)
  have e1 : s1.ep = 1 := by rw [hs1]; rfl
  obtain ⟨S0, hS0⟩ : ∃ S, S = List.replicate 44 zeroSec := ⟨_, rfl⟩
  refine hc_enter (vs := []) Tryz.func36 rfl _ Tryz.ntmps36 rfl (Own.start D w) ?_
  simp only [argSlots, Nat.zero_add]
  refine zg <| hl_v (ov_assign rfl) rfl <| zn <| hc_seq <| ?_
  refine hc_region <| ?_
  refine hl_call (σ := Nat) Tryz.call15 rfl rfl (fun w1 H1 => Own.callx0 H1 fun D' hold hin H2 => (New_ok D' w1 44 (by decide) (by decide)).mono fun e w' ⟨g, he, H'⟩ => ⟨g, he, show Own D' w1 w' [dsk g S0 []] by rw [hS0]; exact H'⟩) ?_
  intro g
  try rw [List.nil_append]
  refine hl_v (ov_move rfl) rfl <| hl_v (ov_extract rfl rfl) rfl <| hl_v (ov_extract rfl rfl) rfl <| hl_v (ov_assign rfl) rfl <| hl_v (ov_assign rfl) rfl <| hl_nil <| ?_
  refine hx_then_normal <| zg <| hl_v (ov_move rfl) rfl <| ?_
  refine hl_call (σ := Nat) Tryz.call17 rfl rfl (fun w1 H1 => Own.callpx (dsk g S0 []) H1 fun D' hold hin H2 => (SOpen_new D' w1 g 44 2 (by decide) (by decide) (by decide) (by decide) S0 hS0 H2).mono fun e w' ⟨sb, he, H'⟩ => ⟨sb, he, show Own D' w1 w' [sto sb g 44 s1, dsk g s1.S []] by rw [hs1]; exact H'⟩) ?_
  intro sb
  refine hl_v (ov_move rfl) rfl <| hl_v (ov_extract rfl rfl) rfl <| hl_v (ov_extract rfl rfl) rfl <| hl_v (ov_assign rfl) rfl <| hl_v (ov_assign rfl) rfl <| hl_nil <| ?_
  refine hx_then_normal <| zg <| ?_
  refine hl_call (σ := Nat) Tryz.call37 rfl rfl (fun w1 H1 => Own.callx0 H1 fun D' hold hin H2 => CNew_spec D' w1) ?_
  intro b
  try rw [List.nil_append]
  refine hl_v (ov_assign rfl) rfl <| zn <| hc_seq <| zg <| ?_
  refine hl_v (ov_move rfl) rfl <| hl_v (ov_neq rfl rfl) rfl <| hl_v (ov_move rfl) rfl <| ?_
  refine hl_partF (t := 20) rfl ((fun h => h rfl)) ?_
  refine hl_on rfl rfl <| hl_v (ov_move rfl) rfl <| hl_on rfl rfl <| hl_v (ov_neq rfl rfl) rfl <| hl_v (ov_pickF rfl rfl) rfl <| hl_v (ov_move rfl) rfl <| ?_
  refine hl_partF (t := 24) rfl ((fun h => h rfl)) ?_
  refine hl_on rfl rfl <| hl_v (ov_move rfl) rfl <| hl_on rfl rfl <| hl_v (ov_eqlP rfl rfl) rfl <| hl_v (ov_pickF rfl rfl) rfl <| hl_v (ov_move rfl) rfl <| ?_
  refine hl_on rfl rfl <| hl_v (ov_move rfl) rfl <| hl_on rfl rfl <| hl_v (ov_buildSN rfl rfl) rfl <| ?_
  refine hl_on rfl rfl <| hl_v (ov_buildSN rfl rfl) rfl <| ?_
  refine hl_on rfl rfl <| hl_new (on_buildSliceN rfl rfl rfl) rfl rfl rfl fun b32 =>  ?_
  refine hl_on rfl rfl <| hl_c Tryz.call38 rfl rfl (fun w1 H1 => Own.callp (ses b []) H1 fun D' hold hin H2 => (CAdd_spec D' w1 b [] lC _ (by decide) (by decide) (hin _ fun h hs ho => rep_lits (b := b32) hs lC (repL_F.2 ⟨rfl, lC_ok⟩) (by decide)) H2).mono fun e w' ⟨he, H'⟩ => ⟨(show e = .returned (.int .i64 0) from he), show Own D' w1 w' [ses b lC] from H'⟩) ?_
  refine hl_on rfl rfl <| hl_v (ov_neq rfl rfl) rfl <| hl_v (ov_pickF rfl rfl) rfl <| hl_v (ov_move rfl) rfl <| ?_
  refine hl_partF (t := 36) rfl ((fun h => h rfl)) ?_
  refine hl_on rfl rfl <| hl_v (ov_move rfl) rfl <| ?_
  refine hl_on rfl rfl <| hl_call (σ := Option Addr × Nat) Tryz.call40 rfl rfl (fun w1 H1 => Own.callpx (ses b lC) H1 fun D' hold hin H2 => CAll_spec D' w1 b lC (by decide) lC_ok H2) ?_
  intro q1
  refine hl_on rfl rfl <| hl_v za15 rfl <| ?_
  refine hl_on rfl rfl <| hl_v (ov_neq rfl rfl) rfl <| hl_v (ov_pickF rfl rfl) rfl <| zn <| ?_
  refine hc_cond_F rfl ((fun h => h rfl)) ?_
  refine zk <| zg <| hl_v (ov_move rfl) rfl <| hl_v (ov_move rfl) rfl <| ?_
  refine hl_c Tryz.call39 rfl rfl (fun w1 H1 => Own.callp3 (ses b lC) (sto sb g 44 s1) (dsk g s1.S []) H1 fun D' hold hin H2 => (CCommit_spec D' w1 b sb g 44 s1 lC k1 (by decide) (by omega) (by decide) lC_ok H2).mono fun e w' ⟨he, H'⟩ => ⟨(by rw [f1] at he; exact he : e = .returned (.tuple #[.int .i64 2, .int .i64 0])), show Own D' w1 w' [ses b [], sto sb g 44 s2, dsk g s2.S []] by rw [f1] at H'; exact H'⟩) ?_
  refine hl_v (ov_move rfl) rfl <| hl_v (ov_extract rfl rfl) rfl <| hl_v (ov_extract rfl rfl) rfl <| hl_v (ov_assign rfl) rfl <| hl_v (ov_assign rfl) rfl <| hl_nil <| ?_
  refine hx_then_normal <| zg <| hl_v (ov_move rfl) rfl <| hl_v (ov_eql rfl rfl) rfl <| hl_v (ov_move rfl) rfl <| ?_
  refine hl_partT (t := 50) rfl (rfl) ?_
  refine hl_on rfl rfl <| hl_v (ov_move rfl) rfl <| hl_on rfl rfl <| hl_v (ov_eql rfl rfl) rfl <| hl_v (ov_pickT rfl rfl) rfl <| hl_v (ov_move rfl) rfl <| ?_
  refine hl_partT (t := 54) rfl (rfl) ?_
  refine hl_on rfl rfl <| hl_v (ov_move rfl) rfl <| ?_
  refine hl_on rfl rfl <| hl_call (σ := Option Addr × Nat) Tryz.call40 rfl rfl (fun w1 H1 => Own.callpx (ses b []) H1 fun D' hold hin H2 => CAll_spec D' w1 b [] (by decide) (fun x hx => by cases hx) H2) ?_
  intro q2
  refine hl_on rfl rfl <| hl_v za15 rfl <| ?_
  refine hl_on rfl rfl <| hl_v (ov_eql rfl rfl) rfl <| hl_v (ov_pickT rfl rfl) rfl <| hl_v (ov_move rfl) rfl <| ?_
  refine hl_partT (t := 60) rfl (rfl) ?_
  refine hl_on rfl rfl <| hl_v (ov_move rfl) rfl <| ?_
  refine hl_on rfl rfl <| hl_call (σ := Three) Tryz.call26 rfl rfl (fun w1 H1 => Own.callpx (sto sb g 44 s2) H1 fun D' hold hin H2 => SConfig_spec D' w1 sb g 44 s2 f2.okc H2) ?_
  intro q3
  refine hl_on rfl rfl <| hl_v (ov_field rfl rfl) rfl <| hl_on rfl rfl <| hl_v (ov_eql rfl rfl) rfl <| hl_v (ov_pickT rfl rfl) rfl <| hl_v (ov_move rfl) rfl <| ?_
  refine hl_partT (t := 66) rfl ((by rw [f3]; rfl)) ?_
  refine hl_on rfl rfl <| hl_v (ov_move rfl) rfl <| ?_
  refine hl_on rfl rfl <| hl_c Tryz.call42 rfl rfl (fun w1 H1 => Own.callp (ses b []) H1 fun D' hold hin H2 => CDrop_spec D' w1 b [] H2) ?_
  refine hl_on rfl rfl <| hl_v (ov_eql rfl rfl) rfl <| hl_v (ov_pickT rfl rfl) rfl <| hl_v (ov_assign rfl) rfl <| zn <| hc_ret <| ?_
  exact results_1 (.inr rfl) rfl rfl fun w' H' => ⟨rfl, H'.ent (Ent.nil _)⟩
/-! ### Steps -/
abbrev CdStep := Int × List EditC
instance : ReadsAs Tryz.prog 97 CdStep := ReadsAs.structG 0 (by kernel_rfl) rfl (ReadsG.cons 0 (ReadsG.last 1 (by decide)))
end Go.Proofs.YtjlolpmmpafjeaaGreat
set_option linter.unusedVariables false
set_option linter.unusedSimpArgs false
namespace Go.Proofs.YtjlolpmmpafjeaaGreat
open Slk
theorem oldCutC {α : Type} [Rep α] {D : Nat → Prop} {w0 : World} {xs : List α} {A : Option Addr} {n cap : Nat} (k : Old D w0 (Rep.rep xs [.slice A n cap])) (lo hi : Nat) (h1 : lo ≤ hi) (h2 : hi ≤ xs.length) : Old D w0 (Rep.rep ((xs.drop lo).take (hi - lo)) [.slice (if cap = lo then A else A.map (·.add (lo * Rep.sz α))) (hi - lo) (cap - lo)]) := by
  obtain ⟨h, hh, q⟩ := k
  exact ⟨h, hh, rep_cut q lo hi h1 h2⟩
theorem CAdd_fit (D : Nat → Prop) (w : World) (b : Nat) (l x y : List EditC) (v : Value) (hy : y = l ++ x) (hn : l.length + x.length ≤ 32) (HA : Old D w (Rep.rep x [v])) (H : Own D w w [ses b l]) :
    Calls Tryz.prog 38 #[.pointer (some ⟨b, 0, none⟩), v] w fun e w' => e = .returned (.int .i64 0) ∧ Own D w w' [ses b y] :=
  (CAdd_spec D w b l x v (by omega) (by omega) HA H).mono fun e w' ⟨he, H'⟩ => by
    rw [if_pos hn] at he H'
    rw [hy]; exact ⟨he, H'⟩
end Go.Proofs.YtjlolpmmpafjeaaGreat
set_option linter.unusedVariables false
set_option linter.unusedSimpArgs false
namespace Go.Proofs.YtjlolpmmpafjeaaGreat
open Slk
instance : ReadsAs Tryz.prog 101 (Vector UInt8 2) := ReadsAs.arr (by kernel_rfl)
theorem pair_openC {D : Nat → Prop} {w0 : World} {x : Vector UInt8 2} {cs : List Value} (k : Old D w0 (Rep.rep x cs)) : ∃ a b : UInt8, cs = [.int .u8 a.toNat, .int .u8 b.toNat] := by
  obtain ⟨h, hh, hr⟩ := k
  have hr : repL x.toList cs h := hr
  have hl : x.toList.length = 2 := by simp
  rcases hx : x.toList with _ | ⟨a, _ | ⟨b, _ | ⟨c, r⟩⟩⟩
  · rw [hx] at hl; cases hl
  · rw [hx] at hl; cases hl
  · rw [hx] at hr
    obtain ⟨c1, c2, rfl, e1, c3, c4, rfl, e2, e3⟩ := hr
    have e1 : c1 = [.int .u8 a.toNat] := e1
    have e2 : c3 = [.int .u8 b.toNat] := e2
    have e3 : c4 = [] := e3
    exact ⟨a, b, by rw [e1, e2, e3]; rfl⟩
  rw [hx] at hl; simp at hl
set_option maxHeartbeats 2000000 in
theorem CandGathers_walk (W : World) (v0 : Value) (c1 : List Value) (l : List EditC) (cuts : Vector UInt8 2) (h0 : Old none' W (Rep.rep l [v0])) (h1 : Old none' W (Rep.rep cuts c1)) :
    Calls Tryz.prog 11 #[v0, .agg c1.toArray] W fun e w' => e = .returned (.bool true) ∧ Own none' W w' [] := by
  obtain ⟨x, y, rfl⟩ := pair_openC h1
  obtain ⟨X, hX⟩ : ∃ X, X = x.toNat := ⟨_, rfl⟩
  obtain ⟨Y, hY⟩ : ∃ Y, Y = y.toNat := ⟨_, rfl⟩
  have hX2 := x.toNat_lt
  have hY2 := y.toNat_lt
  rw [← hX] at hX2 ⊢
  rw [← hY] at hY2 ⊢
  obtain ⟨A, cap, rfl, hc1, hc2, _, hfl⟩ := h0.openF
  refine hc_enter (vs := [.slice A l.length cap, .agg #[.int .u8 (X : Int), .int .u8 (Y : Int)]]) Tryz.func11 rfl _ Tryz.ntmps11 rfl (Own.start none' W) ?_
  simp only [argSlots, Nat.zero_add]
  refine zg <| hl_new (on_boxN rfl rfl) rfl rfl rfl fun b3 =>  ?_
  refine hl_v (ov_assign rfl) rfl <| zn <| zg <| ?_
  refine hl_call (σ := Nat) Tryz.call37 rfl rfl (fun w1 H1 => Own.callx0 H1 fun D' hold hin H2 => CNew_spec D' w1) ?_
  intro b
  try rw [List.nil_append]
  refine hl_v (ov_assign rfl) rfl <| zn <| hc_seq <| zg <| ?_
  refine hl_v (ov_move rfl) rfl <| hl_v (ov_eqlP rfl rfl) rfl <| hl_v (ov_move rfl) rfl <| ?_
  refine hl_on rfl rfl <| hl_v (ov_move rfl) rfl <| hl_on rfl rfl <| hl_v za15 rfl <| ?_
  refine hl_on rfl rfl <| hl_v (ov_gtr rfl rfl) rfl <| hl_v (ov_pickF rfl rfl) rfl <| zn <| ?_
  refine hc_cond rfl (fun hbig => ?_) (fun hbig => ?_)
  · refine zg <| hl_v (ov_move rfl) rfl <| hl_v (ov_neqP rfl rfl) rfl <| hl_v (ov_move rfl) rfl <| ?_
    refine hl_on rfl rfl <| hl_c Tryz.call36 rfl rfl (fun w1 H1 => Own.calln H1 fun D' hold hin H2 => wakes23_spec D' w1) ?_
    refine hl_v (ov_pickT rfl rfl) rfl <| hl_v (ov_assign rfl) rfl <| zn <| hc_ret <| hx_then_ret <| ?_
    exact results_1 (.inr rfl) rfl rfl fun w' H' => ⟨rfl, H'.ent (Ent.nil _)⟩
  have hll : l.length ≤ 60 := by omega
  obtain ⟨a, ha, hal⟩ : ∃ a, a = X % (l.length + 1) ∧ a ≤ l.length := ⟨_, rfl, by have := Nat.mod_lt X (show 0 < l.length + 1 by omega); omega⟩
  obtain ⟨d, hd, hdl⟩ : ∃ d, d = Y % (l.length - a + 1) ∧ d ≤ l.length - a := ⟨_, rfl, by have := Nat.mod_lt Y (show 0 < l.length - a + 1 by omega); omega⟩
  obtain ⟨e, he, hel⟩ : ∃ e, e = a + d ∧ e ≤ l.length := ⟨_, rfl, by omega⟩
  have hP0 := oldCutC h0 0 a (by omega) (by omega)
  have hP1 := oldCutC h0 a e (by omega) (by omega)
  have hP2 := oldCutC h0 e l.length (by omega) (by omega)
  rw [cut0, List.drop_zero, Nat.sub_zero, Nat.sub_zero] at hP0
  rw [List.take_of_length_le za27] at hP2
  refine zk <| zg <| hl_v (ov_idxPc rfl rfl rfl rfl rfl) rfl <| hl_v (ov_load rfl (CellIs.blk rfl)) rfl <| ?_
  refine hl_v (ov_conv rfl za18) rfl <| ?_
  refine hl_v (ov_move rfl) rfl <| hl_v za15 rfl <| ?_
  refine hl_v (ov_add rfl rfl za18) rfl <| ?_
  refine hl_v (ov_remE (m := a) (b := l.length + 1) rfl rfl (by omega) ha) rfl ?_
  refine hl_v (ov_assign rfl) rfl <| zn <| zg <| hl_v (ov_move rfl) rfl <| ?_
  refine hl_v (ov_idxPc rfl rfl rfl rfl rfl) rfl <| hl_v (ov_load rfl (CellIs.blk rfl)) rfl <| hl_v (ov_conv rfl za18) rfl <| ?_
  refine hl_v (ov_move rfl) rfl <| hl_v za15 rfl <| ?_
  refine hl_v (ov_move rfl) rfl <| ?_
  refine hl_v (ov_sub (m := ((l.length - a : Nat) : Int)) rfl rfl ((wrap_i64 (by omega)).trans (by omega))) rfl ?_
  refine hl_v (ov_add rfl rfl za18) rfl <| ?_
  refine hl_v (ov_remE (m := d) (b := l.length - a + 1) rfl rfl (by omega) hd) rfl ?_
  refine hl_v (ov_add (m := (e : Int)) rfl rfl ((wrap_i64 (by omega)).trans (by omega))) rfl ?_
  refine hl_v (ov_assign rfl) rfl <| zn <| hc_seq <| ?_
  refine hc_any [] mixed 12 rfl ?_
  refine ha_v 0 rfl (ov_move rfl) rfl <| ?_
  refine ha_v 1 rfl (ov_move rfl) rfl <| ?_
  refine ha_v 2 rfl (ov_slTo rfl a rfl (by omega)) rfl ?_
  refine ha_v 3 rfl (ov_move rfl) rfl <| ?_
  refine ha_v 4 rfl (ov_move rfl) rfl <| ?_
  refine ha_v 5 rfl (ov_move rfl) rfl <| ?_
  refine ha_v 6 rfl (ov_slice rfl a e (.inr ⟨_, _, rfl, rfl⟩) (.inr ⟨_, _, rfl, rfl⟩) (by omega) (by omega)) rfl ?_
  refine ha_v 7 rfl (ov_move rfl) rfl <| ?_
  refine ha_v 8 rfl (ov_move rfl) rfl <| ?_
  refine ha_v 9 rfl (ov_slice rfl e l.length (.inr ⟨_, _, rfl, rfl⟩) (.inl ⟨rfl, rfl⟩) (by omega) (by omega)) rfl ?_
  refine ha_one 10 (by kernel_rfl) <| ho_n rfl (on_buildSliceN rfl rfl rfl) rfl fun b54 =>  ?_
  refine ha_v 11 rfl (ov_assign rfl) rfl <| ?_
  refine ha_done (by kernel_rfl) <| hx_then_normal <| zg <| hl_v (ov_assign rfl) rfl <| hl_nil <| ?_
  refine hx_then_normal <| hc_seq <| zg <| hl_v (ov_assign rfl) rfl <| hl_nil <| ?_
  refine hx_then_normal <| hc_block <| ?_
  obtain ⟨P, hP⟩ : ∃ P : Nat → List EditC, P = fun i => if i = 0 then l.take a else if i = 1 then (l.drop a).take (e - a) else l.drop e := ⟨_, rfl⟩
  obtain ⟨V, hV⟩ : ∃ V : List Value, V = [.slice A a cap, .slice (if cap = a then A else A.map (·.add (a * 7))) (e - a) (cap - a), .slice (if cap = e then A else A.map (·.add (e * 7))) (l.length - e) (cap - e)] := ⟨_, rfl⟩
  have hPV : ∀ i, i < 3 → ∃ B c, V[i]? = some (.slice B (P i).length c) ∧ Old none' W (Rep.rep (P i) [.slice B (P i).length c]) ∧ (P i).length ≤ 60 ∧ ∀ x ∈ P i, Flat.ok x := by
    intro i hi
    have l0 : (l.take a).length = a := by rw [List.length_take]; omega
    have l1 : ((l.drop a).take (e - a)).length = e - a := by rw [List.length_take, List.length_drop]; omega
    have l2 : (l.drop e).length = l.length - e := List.length_drop
    rw [hP, hV]
    match i, hi with
    | 0, _ => exact ⟨A, cap, by show some _ = some (Value.slice A (l.take a).length cap); rw [l0], by show Old none' W (Rep.rep (l.take a) [.slice A (l.take a).length cap]); rw [l0]; exact hP0, by show (l.take a).length ≤ 60; omega, fun x hx => hfl x (List.mem_of_mem_take hx)⟩
    | 1, _ => exact ⟨(if cap = a then A else A.map (·.add (a * 7))), cap - a, by show some _ = some (Value.slice _ ((l.drop a).take (e - a)).length _); rw [l1], by show Old none' W (Rep.rep ((l.drop a).take (e - a)) [.slice _ ((l.drop a).take (e - a)).length _]); rw [l1]; exact hP1, by show ((l.drop a).take (e - a)).length ≤ 60; omega, fun x hx => hfl x (List.mem_of_mem_drop (List.mem_of_mem_take hx))⟩
    | 2, _ => exact ⟨(if cap = e then A else A.map (·.add (e * 7))), cap - e, by show some _ = some (Value.slice _ (l.drop e).length _); rw [l2], by show Old none' W (Rep.rep (l.drop e) [.slice _ (l.drop e).length _]); rw [l2]; exact hP2, by show (l.drop e).length ≤ 60; omega, fun x hx => hfl x (List.mem_of_mem_drop hx)⟩
  refine HC.ent (l' := [ses b [], blk b54 23 V, row none 81 7 0 0 []]) (by rw [hV]; exact Ent.trans (Ent.nil_row 81 7) za4) ?_
  refine hc_loopK2 (σ := Nat × List EditC × Option Addr × Nat) [5, 8] rfl 10 (fun st => .int .i64 (st.1 : Int)) 9 (fun st => .slice st.2.2.1 st.2.1.length st.2.2.2) (fun st => [ses b st.2.1, blk b54 23 V, row st.2.2.1 81 7 st.2.1.length st.2.2.2 (st.2.1.flatMap editV)]) (fun st => st.1 ≤ 3 ∧ st.2.1.length ≤ 32 ∧ (∀ x ∈ st.2.1, Flat.ok x)) (fun st => 3 - st.1) ((0, [], none, 0)) (⟨Nat.zero_le _, Nat.zero_le _, fun x hx => by cases hx⟩) rfl rfl (Ent.refl _) ?_
  rintro ⟨i, hv, Ah, ch⟩ hj_ K1 hK1
  dsimp only at hj_ ⊢
  obtain ⟨hi, hhv, hhf⟩ := hj_
  refine hc_seq <| zg <| hl_v (ov_move rfl) rfl <| hl_v (ov_lss rfl rfl) rfl <| hl_nil <| ?_
  refine hx_then_normal <| ?_
  refine hc_cond rfl (fun hlt => ?_) (fun hlt => ?_)
  · have hlt : i < 3 := by omega
    obtain ⟨B, cB, hVi, hOi, hPl, hPf⟩ := hPV i hlt
    have hVi' : V[0 + i * 1]? = some (.slice B (P i).length cB) := by rw [Nat.zero_add, Nat.mul_one]; exact hVi
    refine zk <| hc_seq <| hc_block <| zg <| ?_
    refine hl_v (ov_move rfl) rfl <| hl_v (ov_move rfl) rfl <| hl_v (ov_move rfl) rfl <| ?_
    refine hl_v (ov_idxA rfl rfl i rfl hlt) rfl ?_
    refine hl_v (ov_load rfl (CellIs.blk hVi')) rfl ?_
    obtain ⟨p, hp⟩ : ∃ p, p = P i := ⟨_, rfl⟩
    rw [← hp] at hVi' hOi hPl hPf ⊢
    by_cases hfit : hv.length + p.length ≤ 32
    · obtain ⟨hn, hhn⟩ : ∃ hn, hn = hv ++ p := ⟨_, rfl⟩
      have hnl : hn.length = hv.length + p.length := by rw [hhn, List.length_append]
      refine hl_c Tryz.call38 rfl rfl (fun w1 H1 => Own.callp (ses b hv) H1 fun D' hold hin H2 => CAdd_fit D' w1 b hv p hn _ hhn hfit (hold _ hOi) H2) ?_
      refine hl_v (ov_assign rfl) rfl <| zn <| zg <| hl_v (ov_move rfl) rfl <| ?_
      refine hl_v za15 rfl <| ?_
      refine hl_v (ov_move rfl) rfl <| hl_v (ov_move rfl) rfl <| ?_
      refine hl_v (ov_idxA rfl rfl i rfl hlt) rfl ?_
      refine hl_v (ov_load rfl (CellIs.blk hVi')) rfl ?_
      refine hl_v za15 rfl <| ?_
      refine hl_v (ov_add (m := ((hn.length : Nat) : Int)) rfl rfl ((wrap_i64 (by omega)).trans (by omega))) rfl ?_
      refine hl_v (ov_leq rfl rfl) rfl <| ?_
      rw [decide_eq_true (show (hn.length : Int) ≤ 32 by omega)]
      refine hl_v (ov_assign rfl) rfl <| zn <| hc_seq <| zg <| ?_
      refine hl_v (ov_move rfl) rfl <| hl_v (ov_move rfl) rfl <| hl_v (ov_eql rfl rfl) rfl <| hl_v (ov_neqB rfl rfl) rfl <| hl_v (ov_move rfl) rfl <| ?_
      refine hl_on rfl rfl <| hl_v (ov_move rfl) rfl <| hl_on rfl rfl <| hl_v za16 rfl <| ?_
      refine hl_on rfl rfl <| hl_v (ov_move rfl) rfl <| ?_
      refine hl_off rfl rfl rfl rfl rfl rfl <| hl_off rfl rfl rfl rfl rfl rfl <| hl_on rfl rfl <| hl_v (ov_pickF rfl rfl) rfl <| hl_v (ov_pickF rfl rfl) rfl <| zn <| ?_
      refine hc_cond_false rfl <| zk <| hc_seq <| zg <| ?_
      refine hl_v (ov_move rfl) rfl <| zn <| ?_
      refine hc_cond_true rfl ?_
      obtain ⟨_, _, ep, hp1, hp2, HSp, _⟩ := hOi.openF
      simp only [Value.slice.injEq] at ep
      obtain ⟨rfl, _, rfl⟩ := ep
      have HSp : OldS none' W B (p.flatMap editV) := HSp
      have hff : hn.flatMap editV = hv.flatMap editV ++ p.flatMap editV := by rw [hhn]; exact List.flatMap_append
      have hnf : ∀ x ∈ hn, Flat.ok x := fun x hx => by
        rw [hhn] at hx
        rcases List.mem_append.1 hx with hx | hx
        · exact hhf x hx
        · exact hPf x hx
      refine hc_region <| hl_v (ov_move rfl) rfl <| hl_v (ov_move rfl) rfl <| hl_v (ov_move rfl) rfl <| ?_
      refine hl_v (ov_idxA rfl rfl i rfl hlt) rfl ?_
      refine hl_v (ov_load rfl (CellIs.blk hVi')) rfl ?_
      refine hl_new (on_appendR (A := Ah) (news := p.flatMap editV) rfl rfl (SrcIs.old HSp) (flat_len (f := editV) (sz := 7) (fun _ => rfl) p) (flat_one editV_one p) (by decide) (by omega)) rfl rfl rfl (fun qn => ?_)
      rw [← hff, ← hnl]
      refine hl_v (ov_assign rfl) rfl <| zn <| zg <| hl_v (ov_move rfl) rfl <| ?_
      refine hl_call (σ := Option Addr × Nat) Tryz.call40 rfl rfl (fun w1 H1 => Own.callpx (ses b hn) H1 fun D' hold hin H2 => CAll_spec D' w1 b hn (by omega) hnf H2) ?_
      intro qa
      refine hl_v (ov_move rfl) rfl <| ?_
      refine hl_call (σ := BIff (hn = hn)) Tryz.call43 rfl rfl (fun w1 H1 => Own.callx0 H1 fun D' hold hin H2 => keepE_spec D' w1 _ _ hn hn (hin _ fun h hs ho => rep_row (A := qa.1) hs hn rfl (repL_F.2 ⟨rfl, hnf⟩)) (hin _ fun h hs ho => rep_row (A := qn.1) hs hn rfl (repL_F.2 ⟨rfl, hnf⟩))) ?_
      intro g1
      try rw [List.nil_append]
      have hg1 : g1.1 = true := g1.2.2 rfl
      rw [hg1]
      refine hl_v za16 rfl <| ?_
      refine zn <| ?_
      refine hc_cond_false rfl ?_
      refine hc_skip <| hx_block_normal <| hx_then_normal <| hc_region <| hl_v (ov_move rfl) rfl <| hl_v (ov_add rfl rfl za18) rfl <| ?_
      refine hl_v (ov_assign rfl) rfl <| hl_nil <| ?_
      refine hx_next hK1 ((i + 1, hn, qn)) (⟨hlt, by show hn.length ≤ 32; omega, hnf⟩) (by show 3 - (i + 1) < 3 - i; omega) za9 za6
    refine hl_c Tryz.call38 rfl rfl (fun w1 H1 => Own.callp (ses b hv) H1 fun D' hold hin H2 => (CAdd_spec D' w1 b hv p _ hhv (by omega) (hold _ hOi) H2).mono fun e w' ⟨he, H'⟩ => ⟨(by rw [if_neg hfit] at he; exact he : e = .returned (.int .i64 3)), show Own D' w1 w' [ses b hv] by rw [if_neg hfit] at H'; exact H'⟩) ?_
    refine hl_v (ov_assign rfl) rfl <| zn <| zg <| hl_v (ov_move rfl) rfl <| ?_
    refine hl_v za15 rfl <| ?_
    refine hl_v (ov_move rfl) rfl <| hl_v (ov_move rfl) rfl <| ?_
    refine hl_v (ov_idxA rfl rfl i rfl hlt) rfl ?_
    refine hl_v (ov_load rfl (CellIs.blk hVi')) rfl ?_
    refine hl_v za15 rfl <| ?_
    refine hl_v (ov_add (m := ((hv.length + p.length : Nat) : Int)) rfl rfl ((wrap_i64 (by omega)).trans (by omega))) rfl ?_
    refine hl_v (ov_leq rfl rfl) rfl <| ?_
    rw [decide_eq_false (show ¬ ((hv.length + p.length : Nat) : Int) ≤ 32 by omega)]
    refine hl_v (ov_assign rfl) rfl <| zn <| hc_seq <| zg <| ?_
    refine hl_v (ov_move rfl) rfl <| hl_v (ov_move rfl) rfl <| hl_v (ov_eql rfl rfl) rfl <| hl_v (ov_neqB rfl rfl) rfl <| hl_v (ov_move rfl) rfl <| ?_
    refine hl_on rfl rfl <| hl_v (ov_move rfl) rfl <| hl_on rfl rfl <| hl_v za16 rfl <| ?_
    refine hl_on rfl rfl <| hl_v (ov_move rfl) rfl <| ?_
    refine hl_on rfl rfl <| hl_v (ov_move rfl) rfl <| hl_on rfl rfl <| hl_v (ov_neq rfl rfl) rfl <| hl_on rfl rfl <| hl_v (ov_pickT rfl rfl) rfl <| hl_v (ov_pickF rfl rfl) rfl <| zn <| ?_
    refine hc_cond_F rfl ((fun h => h rfl)) ?_
    refine zk <| hc_seq <| zg <| hl_v (ov_move rfl) rfl <| ?_
    refine zn <| ?_
    refine hc_cond_false rfl ?_
    refine zk <| zg <| hl_v (ov_move rfl) rfl <| ?_
    refine hl_call (σ := Option Addr × Nat) Tryz.call40 rfl rfl (fun w1 H1 => Own.callpx (ses b hv) H1 fun D' hold hin H2 => CAll_spec D' w1 b hv hhv hhf H2) ?_
    intro qa
    refine hl_v (ov_move rfl) rfl <| ?_
    refine hl_call (σ := BIff (hv = hv)) Tryz.call43 rfl rfl (fun w1 H1 => Own.callx0 H1 fun D' hold hin H2 => keepE_spec D' w1 _ _ hv hv (hin _ fun h hs ho => rep_row (A := qa.1) hs hv rfl (repL_F.2 ⟨rfl, hhf⟩)) (hin _ fun h hs ho => rep_row (A := Ah) hs hv rfl (repL_F.2 ⟨rfl, hhf⟩))) ?_
    intro g1
    try rw [List.nil_append]
    have hg1 : g1.1 = true := g1.2.2 rfl
    rw [hg1]
    refine hl_v za16 rfl <| ?_
    refine zn <| ?_
    refine hc_cond_false rfl ?_
    refine hc_skip <| hx_block_normal <| hx_then_normal <| hc_region <| hl_v (ov_move rfl) rfl <| hl_v (ov_add rfl rfl za18) rfl <| ?_
    refine hl_v (ov_assign rfl) rfl <| hl_nil <| ?_
    refine hx_next hK1 ((i + 1, hv, Ah, ch)) (⟨hlt, hhv, hhf⟩) (by show 3 - (i + 1) < 3 - i; omega) za9 za6
  refine hc_exit <| hx_then_exit <| hx_then_exit <| hx_block_out <| hx_then_normal <| hc_seq <| ?_
  refine hc_region <| hl_v (ov_move rfl) rfl <| ?_
  refine hl_c Tryz.call42 rfl rfl (fun w1 H1 => Own.callp (ses b hv) H1 fun D' hold hin H2 => CDrop_spec D' w1 b hv H2) ?_
  refine hl_v (ov_move rfl) rfl <| hl_v za15 rfl <| ?_
  refine hl_v (ov_eql rfl rfl) rfl <| hl_v (ov_move rfl) rfl <| ?_
  refine hl_partT (t := 103) rfl (rfl) ?_
  refine hl_on rfl rfl <| hl_v (ov_move rfl) rfl <| ?_
  refine hl_on rfl rfl <| hl_call (σ := Option Addr × Nat) Tryz.call40 rfl rfl (fun w1 H1 => Own.callpx (ses b []) H1 fun D' hold hin H2 => CAll_spec D' w1 b [] (by decide) (fun x hx => by cases hx) H2) ?_
  intro q2
  refine hl_on rfl rfl <| hl_v za15 rfl <| ?_
  refine hl_on rfl rfl <| hl_v (ov_eql rfl rfl) rfl <| hl_v (ov_pickT rfl rfl) rfl <| hl_v (ov_move rfl) rfl <| ?_
  refine hl_partT (t := 109) rfl (rfl) ?_
  refine hl_on rfl rfl <| hl_c Tryz.call36 rfl rfl (fun w1 H1 => Own.calln H1 fun D' hold hin H2 => wakes23_spec D' w1) ?_
  refine hl_v (ov_pickT rfl rfl) rfl <| hl_v (ov_assign rfl) rfl <| zn <| hc_ret <| ?_
  exact results_1 (.inr rfl) rfl rfl fun w' H' => ⟨rfl, H'.ent (Ent.nil _)⟩
end Go.Proofs.YtjlolpmmpafjeaaGreat
/- PROVED: the given statement CandGathers: for every input the law returns true, and each argument reads behind the call as it read before; no condition. -/
set_option linter.unusedVariables false
namespace Go.Proofs.YtjlolpmmpafjeaaGreat.candGathers
open Go.ChangeShapes Go.WideShapes Go.ChangeAt Go.RowKit
open Slk
theorem own : ownKnob Tryz.prog.godebug = none := by kernel_rfl
theorem laidOut : laidOutB Tryz.prog = true := by kernel_rfl
set_option maxRecDepth 100000 in
theorem lifted (os : Os) (started : os.Started) (H : Type) (enc : TypeId × Value → H) :
    ReturnsInHanded {} Tryz.checked os 11 .any (Rows.candGathersSpec.pre6 enc Tryz.prog Tryz.f11 Rows.candGathersRow.domain false) (Rows.candGathersSpec.post enc Tryz.prog Tryz.f11 false true false false) := by
  refine returnsInHanded_of_change (C := Tryz.checked) own started (by kernel_rfl) Tryz.func11
    (ChangeSpec.witness6 (enc := enc) (C := Tryz.checked) false ⟨#[], #[.slice none 0 0, .agg #[.int .u8 0, .int .u8 0]], []⟩ 8 (by kernel_rfl) (by kernel_rfl) (by kernel_rfl) (by kernel_rfl)) ?_
  intro W base args ds gs before hval0 hW hcnd _
  have hval : ∀ (j : Nat) t v, Tryz.f11.params[j]? = some t → args[j]? = some v → Value.okWide Tryz.prog W .any base t v := hval0
  have hW' := hW
  obtain ⟨p, q, hA0, hV, rfl, hfz, hnd⟩ := hW
  have hA : DataW.TrodAll enc Tryz.prog W 0 (fun _ => true) true Tryz.f11.params.toList args.toList ds p := hA0
  rw [Tryz.params11] at hA hval
  obtain ⟨v0, vs0, d0, ds0, p0, q0, hargs, rfl, rfl, h0, r0⟩ := trodAll_cons hA
  obtain ⟨v1, vs1, d1, ds1, p1, q1, rfl, rfl, rfl, h1, r1⟩ := trodAll_cons r0
  obtain ⟨rfl, rfl, rfl⟩ := trodAll_nil r1
  obtain rfl : args = #[v0, v1] := by cases args; simp_all
  obtain ⟨rfl, rfl⟩ := trodVars_none hV
  have k0 := h0
  have lt0 : ∀ x ∈ p0, x.block < W.heap.size := by obtain ⟨m, hm⟩ := k0; exact DataW.trod_lt m _ _ _ hm
  have e0 := cells_one (hval 0 23 v0 rfl rfl)
  obtain ⟨x0, y0⟩ := arg_rep (α := List EditC) h0
  rw [e0] at y0
  have k1 := h1
  have lt1 : ∀ x ∈ p1, x.block < W.heap.size := by obtain ⟨m, hm⟩ := k1; exact DataW.trod_lt m _ _ _ hm
  obtain ⟨c1, e1⟩ := cells_agg (hval 1 101 v1 rfl rfl)
  subst e1
  obtain ⟨x1, y1⟩ := arg_rep (α := Vector UInt8 2) h1
  simp only [Value.cells] at y1
  clear hA0 hval0
  refine (CandGathers_walk W v0 c1 x0 x1 y0 y1).mono fun e W' ⟨he, hO⟩ => ?_
  have bel := hO.below
  subst he
  exact ⟨_, rfl, _, _, _, [], _, [], hW', trodAll_mk1 (shut_bool Tryz.underlying4 _), (trodAll_cons_mk (Below.trod laidOut (by kernel_rfl) (of_decide_eq_true (by kernel_rfl)) k0 bel lt0) (trodAll_cons_mk (Below.trod laidOut (by kernel_rfl) (of_decide_eq_true (by kernel_rfl)) k1 bel lt1) trodAll_mk0)), rfl, bel.frame _, fun h => by cases h⟩
theorem over : Rows.candGathersRow.holds Tryz.pinned (OpenSpec.ofChange Rows.candGathersSpec) :=
  OpenClaim.holds_of_wide 11 Tryz.f11 rfl rfl rfl rfl rfl rfl rfl ⟨rfl, rfl, rfl, rfl, rfl⟩ rfl rfl rfl rfl rfl (by kernel_rfl) Tryz.func11 (by kernel_rfl)
    (of_decide_eq_true (by kernel_rfl)) (by unfold Func.isWrapper; first | (rw [if_pos (by decide +kernel)]; kernel_rfl) | (rw [if_neg (by decide +kernel)]; exact ⟨rfl, rfl⟩))
    (fun os started H enc _ => lifted os started H enc)
theorem proved : Rows.CandGathersSaid := over
#print axioms proved
end Go.Proofs.YtjlolpmmpafjeaaGreat.candGathers
