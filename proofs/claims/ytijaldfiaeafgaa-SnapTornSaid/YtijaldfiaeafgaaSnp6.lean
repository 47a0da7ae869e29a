import Derived.Test.YtijaldfiaeafgaaSnp5
set_option linter.unusedVariables false
set_option linter.unusedSimpArgs false
namespace Go.Proofs.Ytijaldfiaeafgaa
open Slk
theorem wakes7_spec (D : Nat → Prop) (w : World) : Calls Try.prog 13 #[] w fun e w' => e = .returned (.bool true) ∧ Own D w w' [] := by
  obtain ⟨S0, hS0⟩ : ∃ S, S = List.replicate 40 zeroSec := ⟨_, rfl⟩
  obtain ⟨S1, hS1⟩ : ∃ S, S = saveS S0 1 [97] := ⟨_, rfl⟩
  obtain ⟨S2, hS2⟩ : ∃ S, S = saveS S1 2 [98] := ⟨_, rfl⟩
  have hl0 : S0.length = 40 := by rw [hS0]; exact List.length_replicate
  obtain ⟨hl1, hl2, hn2, s, hs16, hs0⟩ := two_saves (n := 40) (x := 1) (y := 2) (a := [97]) (b := [98]) (by decide) (by decide) (by decide) (by decide) (by decide) (S1 := S1) (S2 := S2) (by rw [hS1, hS0]) hS2
  rw [if_pos (by decide)] at hn2
  have hL0 : loadE S0 = (0, [], 13) := loadE_none (by rw [hS0]; exact blank_new (by decide))
  have hL2 : loadE S2 = (2, [98], 0) := loadE_some hn2
  obtain ⟨h16, he16⟩ := List.getElem?_eq_some_iff.1 hs16
  refine hc_enter (vs := []) Try.func13 rfl _ Try.ntmps13 rfl (Own.start D w) ?_
  simp only [argSlots, Nat.zero_add]
  refine hc_seq <| hc_region <| hl_v (ov_assign rfl) rfl <| hl_nil <| hx_then_normal <| hc_seq <| ?_
  refine hc_region <| ?_
  refine hl_call (σ := Nat) Try.call14 rfl rfl (fun w1 H1 => Own.callx0 H1 fun D' hold hin H2 => (New_ok D' w1 40 (by decide) (by decide)).mono fun e w' ⟨g, he, H'⟩ => ⟨g, he, show Own D' w1 w' [dsk g S0 []] by rw [hS0]; exact H'⟩) ?_
  intro g
  try rw [List.nil_append]
  refine hl_v (ov_move rfl) rfl <| hl_v (ov_extract rfl rfl) rfl <| hl_v (ov_extract rfl rfl) rfl <| hl_v (ov_assign rfl) rfl <| hl_v (ov_assign rfl) rfl <| hl_nil <| ?_
  refine hx_then_normal <| hc_seq <| hc_region <| hl_v (ov_move rfl) rfl <| ?_
  refine hl_call (σ := Option Addr × Nat) Try.call15 rfl rfl (fun w1 H1 => Own.callpx (dsk g S0 []) H1 fun D' hold hin H2 => Load_is D' w1 g S0 0 [] 13 hL0 (by omega) H2) ?_
  intro q0
  refine hl_v (ov_move rfl) rfl <| hl_v (ov_extract rfl rfl) rfl <| hl_v (ov_extract rfl rfl) rfl <| hl_v (ov_extract rfl rfl) rfl <| hl_v (ov_assign rfl) rfl <| hl_v (ov_assign rfl) rfl <| ?_
  refine hl_v (ov_assign rfl) rfl <| hl_nil <| hx_then_normal <| hc_seq <| hc_seq <| hc_region <| ?_
  refine hl_v (ov_move rfl) rfl <| hl_v (ov_neq rfl rfl) rfl <| hl_v (ov_move rfl) rfl <| ?_
  refine hl_partF (t := 23) rfl ((fun h => h rfl)) ?_
  refine hl_on rfl rfl <| hl_v (ov_move rfl) rfl <| hl_on rfl rfl <| hl_v (ov_neq rfl rfl) rfl <| hl_v (ov_pickF rfl rfl) rfl <| hl_v (ov_move rfl) rfl <| ?_
  refine hl_partF (t := 27) rfl ((fun h => h rfl)) ?_
  refine hl_on rfl rfl <| hl_v (ov_move rfl) rfl <| hl_on rfl rfl <| hl_new (on_buildSliceN rfl rfl rfl) rfl rfl rfl fun b29 =>
    hl_on rfl rfl <| hl_u (on_mark rfl) rfl rfl rfl <| ?_
  refine hl_on rfl rfl <| hl_c Try.call16 rfl rfl (fun w1 H1 => Own.callp (dsk g S0 []) H1 fun D' hold hin H2 => (Save_ok D' w1 g S0 1 _ [97] (by omega) (by decide) (by decide) (hin _ fun h hs ho => rep_bytes (b := b29) hs [97] rfl (by decide)) H2).mono fun e w' ⟨he, H'⟩ => ⟨he, show Own D' w1 w' [dsk g S1 []] by rw [hS1]; exact H'⟩) ?_
  refine hl_on rfl rfl <| hl_v (ov_neq rfl rfl) rfl <| hl_v (ov_pickF rfl rfl) rfl <| hl_v (ov_move rfl) rfl <| ?_
  refine hl_partF (t := 34) rfl ((fun h => h rfl)) ?_
  refine hl_on rfl rfl <| hl_v (ov_move rfl) rfl <| hl_on rfl rfl <| hl_new (on_buildSliceN rfl rfl rfl) rfl rfl rfl fun b36 =>
    hl_on rfl rfl <| hl_u (on_mark rfl) rfl rfl rfl <| ?_
  refine hl_on rfl rfl <| hl_c Try.call16 rfl rfl (fun w1 H1 => Own.callp (dsk g S1 []) H1 fun D' hold hin H2 => (Save_ok D' w1 g S1 2 _ [98] (by omega) (by decide) (by decide) (hin _ fun h hs ho => rep_bytes (b := b36) hs [98] rfl (by decide)) H2).mono fun e w' ⟨he, H'⟩ => ⟨he, show Own D' w1 w' [dsk g S2 []] by rw [hS2]; exact H'⟩) ?_
  refine hl_on rfl rfl <| hl_v (ov_neq rfl rfl) rfl <| hl_v (ov_pickF rfl rfl) rfl <| hl_nil <| hx_then_normal <| ?_
  refine hc_cond_F rfl ((fun h => h rfl)) ?_
  refine hc_skip <| hx_then_normal <| hc_seq <| hc_region <| hl_v (ov_move rfl) rfl <| ?_
  refine hl_call (σ := Option Addr × Nat) Try.call15 rfl rfl (fun w1 H1 => Own.callpx (dsk g S2 []) H1 fun D' hold hin H2 => Load_is D' w1 g S2 2 [98] 0 hL2 (by omega) H2) ?_
  intro q2
  refine hl_v (ov_move rfl) rfl <| hl_v (ov_extract rfl rfl) rfl <| hl_v (ov_extract rfl rfl) rfl <| hl_v (ov_extract rfl rfl) rfl <| hl_v (ov_assign rfl) rfl <| hl_v (ov_assign rfl) rfl <| ?_
  refine hl_v (ov_assign rfl) rfl <| hl_nil <| hx_then_normal <| hc_seq <| hc_region <| hl_v (ov_move rfl) rfl <| ?_
  refine hl_c Try.call17 rfl rfl (fun w1 H1 => Own.callp (dsk g S2 []) H1 fun D' hold hin H2 => (Read_ok D' w1 g 16 S2 [] h16 H2).mono fun e w' ⟨he, H'⟩ => ⟨show e = Ending.returned (.tuple #[.agg (secC s).toArray, .int .i64 0]) by rw [he, he16]; rfl, H'⟩) ?_
  refine hl_v (ov_move rfl) rfl <| hl_v (ov_extract rfl rfl) rfl <| hl_v (ov_extract rfl rfl) rfl <| hl_new (on_alloc) rfl rfl rfl fun b9 =>  ?_
  refine hl_u0 (on_storeW (vs := secC s) rfl rfl (by simp [secC_len]) (by simp [secC_len]) (secC_one s)) rfl rfl ?_
  refine HL.fact (fun w H => Own.factR q2.1 H) ?_
  rintro ⟨_, _, _, hA3⟩
  have hA3 : isA q2.1 := hA3 (by decide)
  refine hl_v (ov_assign rfl) rfl <| hl_nil <| hx_then_normal <| hc_seq <| hc_region <| hl_v (ov_move rfl) rfl <| ?_
  refine hl_v (ov_eql rfl rfl) rfl <| hl_v (ov_move rfl) rfl <| ?_
  refine hl_partT (t := 54) rfl (rfl) ?_
  refine hl_on rfl rfl <| hl_v (ov_move rfl) rfl <| hl_on rfl rfl <| hl_v (ov_eql rfl rfl) rfl <| hl_v (ov_pickT rfl rfl) rfl <| hl_v (ov_move rfl) rfl <| ?_
  refine hl_partT (t := 58) rfl (rfl) ?_
  refine hl_on rfl rfl <| hl_v (ov_move rfl) rfl <| hl_on rfl rfl <| hl_v (ov_eql rfl rfl) rfl <| hl_v (ov_pickT rfl rfl) rfl <| hl_v (ov_move rfl) rfl <| ?_
  refine hl_partT (t := 62) rfl (rfl) ?_
  refine hl_on rfl rfl <| hl_v (ov_move rfl) rfl <| ?_
  refine hl_on rfl rfl <| hl_v (ov_string (xs := [98]) rfl (SrcIs.rowR (A := q2.1) (fun _ => hA3))) rfl ?_
  refine hl_on rfl rfl <| hl_v (by first | exact ov_eqlV rfl rfl | exact ov_eqlS rfl rfl) rfl <| ?_
  refine hl_v (ov_pickT rfl rfl) rfl <| hl_v (ov_move rfl) rfl <| ?_
  refine hl_partT (t := 67) rfl (rfl) ?_
  refine hl_on rfl rfl <| hl_v (ov_idxPc rfl rfl rfl rfl rfl) rfl <| ?_
  refine hl_on rfl rfl <| hl_v (ov_load rfl (CellIs.blk (secC_at s (j := 0) (by decide)))) rfl ?_
  refine hl_on rfl rfl <| hl_v (ov_eql rfl rfl) rfl <| hl_v (ov_pickT rfl rfl) rfl <| hl_v (ov_move rfl) rfl <| ?_
  refine hl_partT (t := 72) rfl ((by rw [hs0]; rfl)) ?_
  refine hl_on rfl rfl <| hl_v (ov_move rfl) rfl <| ?_
  refine hl_on rfl rfl <| hl_c Try.call43 rfl rfl (fun w1 H1 => Own.callp (dsk g S2 []) H1 fun D' hold hin H2 => Pending_spec D' w1 g S2 [] H2) ?_
  refine hl_on rfl rfl <| hl_v (ov_eql rfl rfl) rfl <| hl_v (ov_pickT rfl rfl) rfl <| hl_v (ov_assign rfl) rfl <| hl_nil <| hx_then_normal <| hc_ret <| ?_
  exact results_1 (.inr rfl) rfl rfl fun w' H' => ⟨rfl, H'.ent (Ent.nil _)⟩
theorem SnapNone_walk (W : World) (v0 v1 v2 : Value) (ep : UInt32) (b : List UInt8) (nn : UInt8) (h0 : Old none' W (Rep.rep ep [v0])) (h1 : Old none' W (Rep.rep b [v1])) (h2 : Old none' W (Rep.rep nn [v2])) :
    Calls Try.prog 3 #[v0, v1, v2] W fun e w' => e = .returned (.bool true) ∧ Own none' W w' [] := by
  obtain ⟨hh0, _, e0⟩ := h0
  have e0 : [v0] = [Value.int .u32 ep.toNat] := e0
  obtain rfl : v0 = .int .u32 ep.toNat := by simpa using e0
  obtain ⟨hh2, _, e2⟩ := h2
  have e2 : [v2] = [Value.int .u8 nn.toNat] := e2
  obtain rfl : v2 = .int .u8 nn.toNat := by simpa using e2
  obtain ⟨A, cap, rfl, hc1, hc2, HS⟩ := h1.openB
  have hnn := nn.toNat_lt
  obtain ⟨N, hNe⟩ : ∃ N, N = nn.toNat := ⟨_, rfl⟩
  rw [← hNe] at hnn ⊢
  obtain ⟨n, hn⟩ : ∃ n, n = 1 + N % 31 := ⟨_, rfl⟩
  obtain ⟨S, hS⟩ : ∃ S, S = List.replicate n zeroSec := ⟨_, rfl⟩
  have hSl : S.length < 32 := by rw [hS, List.length_replicate]; omega
  refine hc_enter (vs := [.int .u32 ep.toNat, .slice A b.length cap, .int .u8 (N : Int)]) Try.func3 rfl _ Try.ntmps3 rfl (Own.start none' W) ?_
  simp only [argSlots, Nat.zero_add]
  refine hc_seq <| hc_region <| hl_v (ov_assign rfl) rfl <| hl_nil <| hx_then_normal <| hc_seq <| ?_
  refine hc_seq <| hc_region <| hl_v (ov_move rfl) rfl <| hl_v (by first | exact ov_len rfl | exact ov_lenS rfl) rfl <| ?_
  refine hl_v (ov_gtr rfl rfl) rfl <| hl_nil <| hx_then_normal <| ?_
  refine hc_cond rfl (fun a1 => ?_) (fun a1 => ?_)
  · refine hc_seq <| hc_region <| ?_
    refine hl_c Try.call13 rfl rfl (fun w1 H1 => Own.calln H1 fun D' hold hin H2 => wakes7_spec D' w1) ?_
    refine hl_v (ov_assign rfl) rfl <| hl_nil <| hx_then_normal <| hc_ret <| hx_then_ret <| ?_
    exact results_1 (.inr rfl) rfl rfl fun w' H' => ⟨rfl, H'.ent (Ent.nil _)⟩
  refine hc_skip <| hx_then_normal <| hc_seq <| hc_region <| hl_v (ov_move rfl) rfl <| hl_v (ov_conv rfl (by first | exact wrap_i64 (by omega) | rfl)) rfl <| ?_
  refine hl_v (ov_remE (m := N % 31) (b := 31) rfl rfl (by omega) rfl) rfl ?_
  refine hl_v (ov_add (m := (n : Int)) rfl rfl ((wrap_i64 (by omega)).trans (by omega))) rfl ?_
  refine hl_call (σ := Nat) Try.call14 rfl rfl (fun w1 H1 => Own.callx0 H1 fun D' hold hin H2 => (New_ok D' w1 n (by omega) (by omega)).mono fun e w' ⟨g, he, H'⟩ => ⟨g, he, show Own D' w1 w' [dsk g S []] by rw [hS]; exact H'⟩) ?_
  intro g
  try rw [List.nil_append]
  refine hl_v (ov_move rfl) rfl <| hl_v (ov_extract rfl rfl) rfl <| hl_v (ov_extract rfl rfl) rfl <| hl_v (ov_assign rfl) rfl <| hl_v (ov_assign rfl) rfl <| hl_nil <| ?_
  refine hx_then_normal <| hc_seq <| hc_region <| hl_v (ov_move rfl) rfl <| ?_
  refine hl_c Try.call15 rfl rfl (fun w1 H1 => Own.callp (dsk g S []) H1 fun D' hold hin H2 => Load_small D' w1 g S hSl H2) ?_
  refine hl_v (ov_move rfl) rfl <| hl_v (ov_extract rfl rfl) rfl <| hl_v (ov_extract rfl rfl) rfl <| hl_v (ov_extract rfl rfl) rfl <| hl_v (ov_assign rfl) rfl <| hl_v (ov_assign rfl) rfl <| ?_
  refine hl_v (ov_assign rfl) rfl <| hl_nil <| hx_then_normal <| hc_seq <| hc_region <| ?_
  refine hl_c Try.call15 rfl rfl (fun w1 H1 => Own.calln H1 fun D' hold hin H2 => Load_nil D' w1) ?_
  refine hl_v (ov_move rfl) rfl <| hl_v (ov_extract rfl rfl) rfl <| hl_v (ov_extract rfl rfl) rfl <| hl_v (ov_extract rfl rfl) rfl <| hl_v (ov_assign rfl) rfl <| hl_v (ov_assign rfl) rfl <| ?_
  refine hl_v (ov_assign rfl) rfl <| hl_nil <| hx_then_normal <| hc_seq <| hc_region <| hl_v (ov_move rfl) rfl <| ?_
  refine hl_v (ov_eql rfl rfl) rfl <| hl_v (ov_move rfl) rfl <| ?_
  refine hl_partT (t := 40) rfl (rfl) ?_
  refine hl_on rfl rfl <| hl_v (ov_move rfl) rfl <| hl_on rfl rfl <| hl_v (ov_eql rfl rfl) rfl <| hl_v (ov_pickT rfl rfl) rfl <| hl_v (ov_move rfl) rfl <| ?_
  refine hl_partT (t := 44) rfl (rfl) ?_
  refine hl_on rfl rfl <| hl_v (ov_move rfl) rfl <| hl_on rfl rfl <| hl_v (ov_eql rfl rfl) rfl <| hl_v (ov_pickT rfl rfl) rfl <| hl_v (ov_move rfl) rfl <| ?_
  refine hl_partT (t := 48) rfl (rfl) ?_
  refine hl_on rfl rfl <| hl_v (ov_move rfl) rfl <| hl_on rfl rfl <| hl_v (ov_move rfl) rfl <| hl_on rfl rfl <| hl_v (ov_move rfl) rfl <| ?_
  refine hl_on rfl rfl <| hl_c Try.call16 rfl rfl (fun w1 H1 => Own.callp (dsk g S []) H1 fun D' hold hin H2 => Save_small D' w1 g S ep.toNat _ hSl H2) ?_
  refine hl_on rfl rfl <| hl_v (ov_eql rfl rfl) rfl <| hl_v (ov_pickT rfl rfl) rfl <| hl_v (ov_move rfl) rfl <| ?_
  refine hl_partT (t := 55) rfl (rfl) ?_
  refine hl_on rfl rfl <| hl_v (ov_move rfl) rfl <| hl_on rfl rfl <| hl_v (ov_move rfl) rfl <| ?_
  refine hl_on rfl rfl <| hl_c Try.call16 rfl rfl (fun w1 H1 => Own.calln H1 fun D' hold hin H2 => Save_nil D' w1 ep.toNat _) ?_
  refine hl_on rfl rfl <| hl_v (ov_eql rfl rfl) rfl <| hl_v (ov_pickT rfl rfl) rfl <| hl_v (ov_move rfl) rfl <| ?_
  refine hl_partT (t := 61) rfl (rfl) ?_
  refine hl_on rfl rfl <| hl_c Try.call13 rfl rfl (fun w1 H1 => Own.calln H1 fun D' hold hin H2 => wakes7_spec D' w1) ?_
  refine hl_v (ov_pickT rfl rfl) rfl <| hl_v (ov_assign rfl) rfl <| hl_nil <| hx_then_normal <| hc_ret <| ?_
  exact results_1 (.inr rfl) rfl rfl fun w' H' => ⟨rfl, H'.ent (Ent.nil _)⟩
end Go.Proofs.Ytijaldfiaeafgaa
