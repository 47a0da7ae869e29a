import Derived.Test.YtijaldfiaeafgaaSnp6
import Derived.Test.YtijaldfiaeafgaaM2
set_option linter.unusedVariables false
set_option linter.unusedSimpArgs false
namespace Go.Proofs.Ytijaldfiaeafgaa
open Slk
instance : ReadsAs Try.prog 39 (Vector UInt8 2) := ReadsAs.arr (by kernel_rfl)
theorem pair_open {D : Nat → Prop} {w0 : World} {x : Vector UInt8 2} {cs : List Value} (k : Old D w0 (Rep.rep x cs)) : ∃ a b : UInt8, cs = [.int .u8 a.toNat, .int .u8 b.toNat] := by
  obtain ⟨h, hh, hr⟩ := k
  have hr : repL x.toList cs h := hr
  have hl : x.toList.length = 2 := by simp
  rcases hx : x.toList with _ | ⟨a, _ | ⟨b, _ | ⟨c, r⟩⟩⟩
  · rw [hx] at hl; cases hl
  · rw [hx] at hl; cases hl
  · rw [hx] at hr
    obtain ⟨u1, u2, rfl, r1, u3, u4, rfl, r2, r3⟩ := hr
    have r1 : u1 = [u8v a] := r1
    have r2 : u3 = [u8v b] := r2
    have r3 : u4 = [] := r3
    subst r1; subst r2; subst r3
    exact ⟨a, b, rfl⟩
  rw [hx] at hl; simp at hl
theorem SnapElder_walk (W : World) (v0 v1 : Value) (c2 : List Value) (a b : List UInt8) (nn : Vector UInt8 2) (h0 : Old none' W (Rep.rep a [v0])) (h1 : Old none' W (Rep.rep b [v1])) (h2 : Old none' W (Rep.rep nn c2)) :
    Calls Try.prog 5 #[v0, v1, .agg c2.toArray] W fun e w' => e = .returned (.bool true) ∧ Own none' W w' [] := by
  obtain ⟨A, capA, rfl, _, _, _⟩ := h0.openB
  obtain ⟨B, capB, rfl, _, _, _⟩ := h1.openB
  obtain ⟨n0, n1, rfl⟩ := pair_open h2
  have hn0 := n0.toNat_lt
  have hn1 := n1.toNat_lt
  obtain ⟨x, hx⟩ : ∃ x, x = n0.toNat % 5 := ⟨_, rfl⟩
  obtain ⟨y, hy⟩ : ∃ y, y = n1.toNat % 5 := ⟨_, rfl⟩
  obtain ⟨S0, hS0⟩ : ∃ S, S = List.replicate 32 zeroSec := ⟨_, rfl⟩
  obtain ⟨S1, hS1⟩ : ∃ S, S = saveS S0 x a := ⟨_, rfl⟩
  obtain ⟨S2, hS2⟩ : ∃ S, S = saveS S1 y b := ⟨_, rfl⟩
  have hl0 : S0.length = 32 := by rw [hS0]; exact List.length_replicate
  refine hc_enter (vs := [.slice A a.length capA, .slice B b.length capB, .agg #[.int .u8 n0.toNat, .int .u8 n1.toNat]]) Try.func5 rfl _ Try.ntmps5 rfl (Own.start none' W) ?_
  simp only [argSlots, Nat.zero_add]
  refine hc_seq <| hc_region <| hl_new (on_boxN rfl rfl) rfl rfl rfl fun b5 =>  ?_
  refine hl_v (ov_assign rfl) rfl <| hl_nil <| hx_then_normal <| hc_seq <| hc_seq <| hc_region <| ?_
  refine hl_v (ov_move rfl) rfl <| hl_v (by first | exact ov_len rfl | exact ov_lenS rfl) rfl <| ?_
  refine hl_v (ov_gtr rfl rfl) rfl <| hl_v (ov_move rfl) rfl <| ?_
  refine hl_part (t := 17) rfl (fun a1 => ?_) (fun a1 => ?_)
  · refine hl_off rfl rfl rfl rfl rfl rfl <| hl_off rfl rfl rfl rfl rfl rfl <| hl_off rfl rfl rfl rfl rfl rfl <| hl_v (ov_pickT rfl rfl) rfl <| hl_nil <| hx_then_normal <| ?_
    refine hc_cond_true rfl <| hc_seq <| hc_region <| ?_
    refine hl_c Try.call13 rfl rfl (fun w1 H1 => Own.calln H1 fun D' hold hin H2 => wakes7_spec D' w1) ?_
    refine hl_v (ov_assign rfl) rfl <| hl_nil <| hx_then_normal <| hc_ret <| hx_then_ret <| ?_
    exact results_1 (.inr rfl) rfl rfl fun w' H' => ⟨rfl, H'.ent (Ent.nil _)⟩
  refine hl_on rfl rfl <| hl_v (ov_move rfl) rfl <| hl_on rfl rfl <| hl_v (by first | exact ov_len rfl | exact ov_lenS rfl) rfl <| ?_
  refine hl_on rfl rfl <| hl_v (ov_gtr rfl rfl) rfl <| hl_v (ov_pickF rfl rfl) rfl <| hl_nil <| hx_then_normal <| ?_
  refine hc_cond rfl (fun a2 => ?_) (fun a2 => ?_)
  · refine hc_seq <| hc_region <| ?_
    refine hl_c Try.call13 rfl rfl (fun w1 H1 => Own.calln H1 fun D' hold hin H2 => wakes7_spec D' w1) ?_
    refine hl_v (ov_assign rfl) rfl <| hl_nil <| hx_then_normal <| hc_ret <| hx_then_ret <| ?_
    exact results_1 (.inr rfl) rfl rfl fun w' H' => ⟨rfl, H'.ent (Ent.nil _)⟩
  have hla : a.length ≤ 993 := by omega
  have hlb : b.length ≤ 993 := by omega
  obtain ⟨hl1, hl2, hn2, _⟩ := two_saves (n := 32) (x := x) (y := y) (a := a) (b := b) (by decide) (by omega) (by omega) hla hlb (S1 := S1) (S2 := S2) (by rw [hS1, hS0]) hS2
  refine hc_skip <| hx_then_normal <| hc_seq <| hc_region <| ?_
  refine hl_call (σ := Nat) Try.call14 rfl rfl (fun w1 H1 => Own.callx0 H1 fun D' hold hin H2 => (New_ok D' w1 32 (by decide) (by decide)).mono fun e w' ⟨g, he, H'⟩ => ⟨g, he, show Own D' w1 w' [dsk g S0 []] by rw [hS0]; exact H'⟩) ?_
  intro g
  try rw [List.nil_append]
  refine hl_v (ov_move rfl) rfl <| hl_v (ov_extract rfl rfl) rfl <| hl_v (ov_extract rfl rfl) rfl <| hl_v (ov_assign rfl) rfl <| hl_v (ov_assign rfl) rfl <| hl_nil <| ?_
  refine hx_then_normal <| hc_seq <| hc_quiet mixed (by kernel_rfl) <| hq_v (ov_idxPc rfl rfl rfl rfl rfl) rfl <| hq_v (ov_load rfl (CellIs.blk rfl)) rfl <| hq_v (ov_conv rfl (by first | exact wrap_u32 (by omega) | rfl)) rfl <| ?_
  refine hq_v (ov_remE (m := x) (b := 5) rfl rfl (by decide) hx) rfl ?_
  refine hq_v (ov_idxPc rfl rfl rfl rfl rfl) rfl <| hq_v (ov_load rfl (CellIs.blk rfl)) rfl <| hq_v (ov_conv rfl (by first | exact wrap_u32 (by omega) | rfl)) rfl <| ?_
  refine hq_v (ov_remE (m := y) (b := 5) rfl rfl (by decide) hy) rfl ?_
  refine hq_v (ov_assign rfl) rfl <| hq_v (ov_assign rfl) rfl <| hq_nil <| hx_then_normal <| hc_seq <| hc_seq <| ?_
  refine hc_region <| hl_v (ov_move rfl) rfl <| hl_v (ov_neq rfl rfl) rfl <| hl_v (ov_move rfl) rfl <| ?_
  refine hl_partF (t := 37) rfl ((fun h => h rfl)) ?_
  refine hl_on rfl rfl <| hl_v (ov_move rfl) rfl <| hl_on rfl rfl <| hl_v (ov_move rfl) rfl <| hl_on rfl rfl <| hl_v (ov_move rfl) rfl <| ?_
  refine hl_on rfl rfl <| hl_c Try.call16 rfl rfl (fun w1 H1 => Own.callp (dsk g S0 []) H1 fun D' hold hin H2 => (Save_ok D' w1 g S0 x _ a (by omega) (by omega) hla (hold _ h0) H2).mono fun e w' ⟨he, H'⟩ => ⟨he, show Own D' w1 w' [dsk g S1 []] by rw [hS1]; exact H'⟩) ?_
  refine hl_on rfl rfl <| hl_v (ov_neq rfl rfl) rfl <| hl_v (ov_pickF rfl rfl) rfl <| hl_v (ov_move rfl) rfl <| ?_
  refine hl_partF (t := 44) rfl ((fun h => h rfl)) ?_
  refine hl_on rfl rfl <| hl_v (ov_move rfl) rfl <| hl_on rfl rfl <| hl_v (ov_move rfl) rfl <| hl_on rfl rfl <| hl_v (ov_move rfl) rfl <| ?_
  refine hl_on rfl rfl <| hl_c Try.call16 rfl rfl (fun w1 H1 => Own.callp (dsk g S1 []) H1 fun D' hold hin H2 => (Save_ok D' w1 g S1 y _ b (by omega) (by omega) hlb (hold _ h1) H2).mono fun e w' ⟨he, H'⟩ => ⟨he, show Own D' w1 w' [dsk g S2 []] by rw [hS2]; exact H'⟩) ?_
  refine hl_on rfl rfl <| hl_v (ov_neq rfl rfl) rfl <| hl_v (ov_pickF rfl rfl) rfl <| hl_nil <| hx_then_normal <| ?_
  refine hc_cond_F rfl ((fun h => h rfl)) ?_
  by_cases hxy : x < y
  · rw [if_pos hxy] at hn2
    have hL2 : loadE S2 = (y, b, 0) := loadE_some hn2
    refine hc_skip <| hx_then_normal <| hc_seq <| hc_region <| hl_v (ov_move rfl) rfl <| ?_
    refine hl_call (σ := Option Addr × Nat) Try.call15 rfl rfl (fun w1 H1 => Own.callpx (dsk g S2 []) H1 fun D' hold hin H2 => Load_is D' w1 g S2 y b 0 hL2 (by omega) H2) ?_
    intro q2
    refine hl_v (ov_move rfl) rfl <| hl_v (ov_extract rfl rfl) rfl <| hl_v (ov_extract rfl rfl) rfl <| hl_v (ov_extract rfl rfl) rfl <| hl_v (ov_assign rfl) rfl <| hl_v (ov_assign rfl) rfl <| ?_
    refine hl_v (ov_assign rfl) rfl <| hl_nil <| hx_then_normal <| hc_seq <| hc_seq <| hc_region <| ?_
    refine hl_v (ov_move rfl) rfl <| hl_v (ov_move rfl) rfl <| hl_v (ov_gtr rfl rfl) rfl <| hl_nil <| hx_then_normal <| ?_
    refine hc_cond_T rfl ((by omega)) ?_
    refine hc_seq <| hc_region <| hl_v (ov_move rfl) rfl <| hl_v (ov_eql rfl rfl) rfl <| hl_v (ov_move rfl) rfl <| ?_
    refine hl_partT (t := 62) rfl (rfl) ?_
    refine hl_on rfl rfl <| hl_v (ov_move rfl) rfl <| hl_on rfl rfl <| hl_v (ov_move rfl) rfl <| hl_on rfl rfl <| hl_v (ov_eql rfl rfl) rfl <| hl_v (ov_pickT rfl rfl) rfl <| hl_v (ov_move rfl) rfl <| ?_
    refine hl_partT (t := 67) rfl (rfl) ?_
    refine hl_on rfl rfl <| hl_v (ov_move rfl) rfl <| hl_on rfl rfl <| hl_v (ov_move rfl) rfl <| ?_
    refine hl_on rfl rfl <| hl_c Try.call18 rfl rfl (fun w1 H1 => Own.calln H1 fun D' hold hin H2 => Bytes_spec D' w1 _ _ b b (hin _ fun h hs ho => rep_row (A := q2.1) hs b rfl (repL_bytes.2 rfl)) (hold _ h1)) ?_
    refine hl_v (ov_pickT rfl rfl) rfl <| hl_v (ov_move rfl) rfl <| ?_
    refine hl_partT (t := 72) rfl (rfl) ?_
    refine hl_on rfl rfl <| hl_c Try.call13 rfl rfl (fun w1 H1 => Own.calln H1 fun D' hold hin H2 => wakes7_spec D' w1) ?_
    refine hl_v (ov_pickT rfl rfl) rfl <| hl_v (ov_assign rfl) rfl <| hl_nil <| hx_then_normal <| hc_ret <| hx_then_ret <| ?_
    exact results_1 (.inr rfl) rfl rfl fun w' H' => ⟨rfl, H'.ent (Ent.nil _)⟩
  rw [if_neg hxy] at hn2
  have hL2 : loadE S2 = (x, a, 0) := loadE_some hn2
  refine hc_skip <| hx_then_normal <| hc_seq <| hc_region <| hl_v (ov_move rfl) rfl <| ?_
  refine hl_call (σ := Option Addr × Nat) Try.call15 rfl rfl (fun w1 H1 => Own.callpx (dsk g S2 []) H1 fun D' hold hin H2 => Load_is D' w1 g S2 x a 0 hL2 (by omega) H2) ?_
  intro q2
  refine hl_v (ov_move rfl) rfl <| hl_v (ov_extract rfl rfl) rfl <| hl_v (ov_extract rfl rfl) rfl <| hl_v (ov_extract rfl rfl) rfl <| hl_v (ov_assign rfl) rfl <| hl_v (ov_assign rfl) rfl <| ?_
  refine hl_v (ov_assign rfl) rfl <| hl_nil <| hx_then_normal <| hc_seq <| hc_seq <| hc_region <| ?_
  refine hl_v (ov_move rfl) rfl <| hl_v (ov_move rfl) rfl <| hl_v (ov_gtr rfl rfl) rfl <| hl_nil <| hx_then_normal <| ?_
  refine hc_cond_F rfl ((by omega)) ?_
  refine hc_skip <| hx_then_normal <| hc_seq <| hc_region <| hl_v (ov_move rfl) rfl <| hl_v (ov_eql rfl rfl) rfl <| ?_
  refine hl_v (ov_move rfl) rfl <| ?_
  refine hl_partT (t := 77) rfl (rfl) ?_
  refine hl_on rfl rfl <| hl_v (ov_move rfl) rfl <| hl_on rfl rfl <| hl_v (ov_move rfl) rfl <| hl_on rfl rfl <| hl_v (ov_eql rfl rfl) rfl <| hl_v (ov_pickT rfl rfl) rfl <| hl_v (ov_move rfl) rfl <| ?_
  refine hl_partT (t := 82) rfl (rfl) ?_
  refine hl_on rfl rfl <| hl_v (ov_move rfl) rfl <| hl_on rfl rfl <| hl_v (ov_move rfl) rfl <| ?_
  refine hl_on rfl rfl <| hl_c Try.call18 rfl rfl (fun w1 H1 => Own.calln H1 fun D' hold hin H2 => Bytes_spec D' w1 _ _ a a (hin _ fun h hs ho => rep_row (A := q2.1) hs a rfl (repL_bytes.2 rfl)) (hold _ h0)) ?_
  refine hl_v (ov_pickT rfl rfl) rfl <| hl_v (ov_move rfl) rfl <| ?_
  refine hl_partT (t := 87) rfl (rfl) ?_
  refine hl_on rfl rfl <| hl_c Try.call13 rfl rfl (fun w1 H1 => Own.calln H1 fun D' hold hin H2 => wakes7_spec D' w1) ?_
  refine hl_v (ov_pickT rfl rfl) rfl <| hl_v (ov_assign rfl) rfl <| hl_nil <| hx_then_normal <| hc_ret <| ?_
  exact results_1 (.inr rfl) rfl rfl fun w' H' => ⟨rfl, H'.ent (Ent.nil _)⟩
end Go.Proofs.Ytijaldfiaeafgaa
