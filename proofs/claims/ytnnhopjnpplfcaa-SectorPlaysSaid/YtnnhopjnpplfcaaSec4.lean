import Derived.Test.YtnnhopjnpplfcaaSec3
set_option linter.unusedVariables false
set_option linter.unusedSimpArgs false
namespace Go.Proofs.Ytnnhopjnpplfcaa
open Slk
theorem wakes_spec (D : Nat → Prop) (w : World) : Calls Try.prog 13 #[] w fun e w' => e = .returned (.bool true) ∧ Own D w w' [] := by
  obtain ⟨S4, hS4⟩ : ∃ S : List Sec, S = List.replicate 4 zeroSec := ⟨_, rfl⟩
  have hl4 : S4.length = 4 := by rw [hS4]; rfl
  have hse : settleL (fun k => [false, true].getD k false) 0 S4 ([] ++ [(1, fullS 7)] ++ [(2, fullS 8)]) = S4.set 2 (fullS 8) := by simp [settleL]
  refine hc_enter (vs := []) Try.func13 rfl _ Try.ntmps13 rfl (Own.start D w) ?_
  simp only [argSlots, Nat.zero_add]
  refine hc_seq <|
    hc_region <|
    hl_val (ov_assign rfl) rfl rfl rfl <|
    hl_nil <|
    hx_then_normal <|
    hc_seq <| ?_
  refine hc_region <| ?_
  refine hl_call (σ := Nat) Try.call11 rfl rfl (fun w1 H1 => Own.callx0 H1 fun D' hold hin H2 => (New_ok D' w1 4 (by decide) (by decide)).mono fun e w' ⟨g, he, H'⟩ => ⟨g, he, show Own D' w1 w' [dsk g S4 []] by rw [hS4]; exact H'⟩) ?_
  intro g
  try rw [List.nil_append]
  refine hl_val (ov_move rfl) rfl rfl rfl <|
    hl_val (ov_extract rfl rfl) rfl rfl rfl <|
    hl_val (ov_extract rfl rfl) rfl rfl rfl <|
    hl_val (ov_assign rfl) rfl rfl rfl <|
    hl_val (ov_assign rfl) rfl rfl rfl <|
    hl_nil <| ?_
  refine hx_then_normal <|
    hc_seq <|
    hc_seq <|
    hc_region <|
    hl_val (ov_move rfl) rfl rfl rfl <|
    hl_val (ov_neq rfl rfl) rfl rfl rfl <| ?_
  refine hl_val (ov_move rfl) rfl rfl rfl <| ?_
  refine hl_partF (t := 13) rfl (by omega) ?_
  refine hl_on rfl rfl <| hl_val (ov_move rfl) rfl rfl rfl <|
    hl_on rfl rfl <| hl_val (ov_eqlP rfl rfl) rfl rfl rfl <| ?_
  refine hl_val (ov_pickF rfl rfl) rfl rfl rfl <|
    hl_val (ov_move rfl) rfl rfl rfl <|
    hl_on rfl rfl <| hl_val (ov_move rfl) rfl rfl rfl <| ?_
  refine hl_on rfl rfl <| hl_c Try.call32 rfl rfl (fun w1 H1 => Own.calln H1 fun D' hold hin H2 => full_spec D' w1 7) ?_
  refine hl_on rfl rfl <| hl_c Try.call15 rfl rfl (fun w1 H1 => Own.callp (dsk g S4 []) H1 fun D' hold hin H2 => Write_ok D' w1 g 1 (fullS 7) S4 [] (by omega) (by simp) H2) ?_
  refine hl_on rfl rfl <| hl_val (ov_neq rfl rfl) rfl rfl rfl <|
    hl_val (ov_pickF rfl rfl) rfl rfl rfl <|
    hl_val (ov_move rfl) rfl rfl rfl <| ?_
  refine hl_partF (t := 23) rfl (by omega) ?_
  refine hl_on rfl rfl <| hl_val (ov_move rfl) rfl rfl rfl <| ?_
  refine hl_on rfl rfl <| hl_c Try.call32 rfl rfl (fun w1 H1 => Own.calln H1 fun D' hold hin H2 => full_spec D' w1 8) ?_
  refine hl_on rfl rfl <| hl_c Try.call15 rfl rfl (fun w1 H1 => Own.callp (dsk g S4 ([] ++ [(1, fullS 7)])) H1 fun D' hold hin H2 => Write_ok D' w1 g 2 (fullS 8) S4 ([] ++ [(1, fullS 7)]) (by omega) (by simp) H2) ?_
  refine hl_on rfl rfl <| hl_val (ov_neq rfl rfl) rfl rfl rfl <|
    hl_val (ov_pickF rfl rfl) rfl rfl rfl <|
    hl_val (ov_move rfl) rfl rfl rfl <| ?_
  refine hl_partF (t := 29) rfl (by omega) ?_
  refine hl_on rfl rfl <| hl_val (ov_move rfl) rfl rfl rfl <| ?_
  refine hl_on rfl rfl <| hl_c Try.call32 rfl rfl (fun w1 H1 => Own.calln H1 fun D' hold hin H2 => full_spec D' w1 9) ?_
  refine hl_on rfl rfl <| hl_c Try.call15 rfl rfl (fun w1 H1 => Own.callp (dsk g S4 ([] ++ [(1, fullS 7)] ++ [(2, fullS 8)])) H1 fun D' hold hin H2 => Write_no D' w1 g 4 (fullS 9) S4 ([] ++ [(1, fullS 7)] ++ [(2, fullS 8)]) (by omega) H2) ?_
  refine hl_on rfl rfl <| hl_val (ov_neq rfl rfl) rfl rfl rfl <|
    hl_val (ov_pickF rfl rfl) rfl rfl rfl <|
    hl_val (ov_move rfl) rfl rfl rfl <| ?_
  refine hl_partF (t := 35) rfl (by omega) ?_
  refine hl_on rfl rfl <| hl_val (ov_move rfl) rfl rfl rfl <| ?_
  refine hl_on rfl rfl <| hl_c Try.call25 rfl rfl (fun w1 H1 => Own.callp (dsk g S4 ([] ++ [(1, fullS 7)] ++ [(2, fullS 8)])) H1 fun D' hold hin H2 => Pending_spec D' w1 g S4 ([] ++ [(1, fullS 7)] ++ [(2, fullS 8)]) H2) ?_
  refine hl_on rfl rfl <| hl_val (ov_neq rfl rfl) rfl rfl rfl <|
    hl_val (ov_pickF rfl rfl) rfl rfl rfl <|
    hl_nil <|
    hx_then_normal <| ?_
  refine hc_cond_F rfl (by decide) ?_
  refine hc_skip <|
    hx_then_normal <|
    hc_seq <|
    hc_region <|
    hl_val (ov_move rfl) rfl rfl rfl <|
    hl_new (on_buildSliceN rfl rfl rfl) rfl rfl rfl fun b41 =>  ?_
  refine hl_c Try.call18 rfl rfl (fun w1 H1 => Own.callp (dsk g S4 ([] ++ [(1, fullS 7)] ++ [(2, fullS 8)])) H1 fun D' hold hin H2 => (Crash_spec D' w1 g S4 ([] ++ [(1, fullS 7)] ++ [(2, fullS 8)]) _ [false, true] (by simp [hl4]) (hin _ fun h hs ho => rep_lits (b := b41) hs [false, true] ⟨[_], [_], rfl, rfl, [_], [], rfl, rfl, rfl⟩ (by simp)) H2).mono fun e w' ⟨he, H'⟩ => ⟨he, show Own D' w1 w' [dsk g (S4.set 2 (fullS 8)) []] by rw [← hse]; exact H'⟩) ?_
  have hl5 : (S4.set 2 (fullS 8)).length = 4 := by simp [hl4]
  have hr1 : (S4.set 2 (fullS 8))[1]'(by omega) = zeroSec := by simp [hS4]
  have hr2 : (S4.set 2 (fullS 8))[2]'(by omega) = fullS 8 := by simp
  refine hl_nil <|
    hx_then_normal <|
    hc_seq <|
    hc_region <|
    hl_val (ov_move rfl) rfl rfl rfl <| ?_
  refine hl_c Try.call17 rfl rfl (fun w1 H1 => Own.callp (dsk g (S4.set 2 (fullS 8)) []) H1 fun D' hold hin H2 => (Read_ok D' w1 g 1 (S4.set 2 (fullS 8)) [] (by omega) H2).mono fun e w' ⟨he, H'⟩ => ⟨show e = Ending.returned (.tuple #[.agg (secC zeroSec).toArray, .int .i64 0]) by rw [he, hr1]; rfl, H'⟩) ?_
  refine hl_val (ov_move rfl) rfl rfl rfl <|
    hl_val (ov_extract rfl rfl) rfl rfl rfl <|
    hl_val (ov_extract rfl rfl) rfl rfl rfl <|
    hl_new (on_alloc) rfl rfl rfl fun b3 =>  ?_
  refine hl_u0 (on_storeW (vs := secC zeroSec) rfl rfl (by simp) (by simp) (secC_one _)) rfl rfl ?_
  refine hl_val (ov_assign rfl) rfl rfl rfl <|
    hl_nil <|
    hx_then_normal <|
    hc_seq <|
    hc_region <|
    hl_val (ov_move rfl) rfl rfl rfl <| ?_
  refine hl_c Try.call17 rfl rfl (fun w1 H1 => Own.callp (dsk g (S4.set 2 (fullS 8)) []) H1 fun D' hold hin H2 => (Read_ok D' w1 g 2 (S4.set 2 (fullS 8)) [] (by omega) H2).mono fun e w' ⟨he, H'⟩ => ⟨show e = Ending.returned (.tuple #[.agg (secC (fullS 8)).toArray, .int .i64 0]) by rw [he, hr2]; rfl, H'⟩) ?_
  refine hl_val (ov_move rfl) rfl rfl rfl <|
    hl_val (ov_extract rfl rfl) rfl rfl rfl <|
    hl_val (ov_extract rfl rfl) rfl rfl rfl <|
    hl_new (on_alloc) rfl rfl rfl fun b5 =>  ?_
  refine hl_u0 (on_storeW (vs := secC (fullS 8)) rfl rfl (by simp) (by simp) (secC_one _)) rfl rfl ?_
  refine hl_val (ov_assign rfl) rfl rfl rfl <|
    hl_nil <|
    hx_then_normal <|
    hc_seq <|
    hc_region <|
    hl_val (ov_move rfl) rfl rfl rfl <| ?_
  refine hl_val (ov_eql rfl rfl) rfl rfl rfl <|
    hl_val (ov_move rfl) rfl rfl rfl <| ?_
  refine hl_partT (t := 55) rfl (rfl) ?_
  refine hl_on rfl rfl <| hl_val (ov_move rfl) rfl rfl rfl <|
    hl_on rfl rfl <| hl_val (ov_eql rfl rfl) rfl rfl rfl <|
    hl_val (ov_pickT rfl rfl) rfl rfl rfl <|
    hl_val (ov_move rfl) rfl rfl rfl <| ?_
  refine hl_partT (t := 59) rfl (rfl) ?_
  refine hl_on rfl rfl <| hl_val (ov_idxPc rfl rfl rfl rfl rfl) rfl rfl rfl <| ?_
  refine hl_on rfl rfl <| hl_val (ov_load rfl (CellIs.blk (v := u8v 0) (by rw [secC_at zeroSec (show 0 + Int.toNat 0 * 1 < 64 by decide)]; simp [zeroSec]))) rfl rfl rfl ?_
  refine hl_on rfl rfl <| hl_val (ov_eql rfl rfl) rfl rfl rfl <|
    hl_val (ov_pickT rfl rfl) rfl rfl rfl <|
    hl_val (ov_move rfl) rfl rfl rfl <| ?_
  refine hl_partT (t := 64) rfl (rfl) ?_
  refine hl_on rfl rfl <| hl_val (ov_idxPc rfl rfl rfl rfl rfl) rfl rfl rfl <| ?_
  refine hl_on rfl rfl <| hl_val (ov_load rfl (CellIs.blk (v := u8v 8) (full_at 8 (show 0 + Int.toNat 63 * 1 < 64 by decide)))) rfl rfl rfl ?_
  refine hl_on rfl rfl <| hl_val (ov_eql rfl rfl) rfl rfl rfl <|
    hl_val (ov_pickT rfl rfl) rfl rfl rfl <|
    hl_val (ov_move rfl) rfl rfl rfl <| ?_
  refine hl_partT (t := 69) rfl (rfl) ?_
  refine hl_on rfl rfl <| hl_val (ov_move rfl) rfl rfl rfl <| ?_
  refine hl_on rfl rfl <| hl_c Try.call25 rfl rfl (fun w1 H1 => Own.callp (dsk g (S4.set 2 (fullS 8)) []) H1 fun D' hold hin H2 => Pending_spec D' w1 g (S4.set 2 (fullS 8)) [] H2) ?_
  refine hl_on rfl rfl <| hl_val (ov_eql rfl rfl) rfl rfl rfl <|
    hl_val (ov_pickT rfl rfl) rfl rfl rfl <|
    hl_val (ov_move rfl) rfl rfl rfl <| ?_
  refine hl_partT (t := 74) rfl (rfl) ?_
  refine hl_on rfl rfl <| hl_val (ov_move rfl) rfl rfl rfl <| ?_
  refine hl_on rfl rfl <| hl_c Try.call26 rfl rfl (fun w1 H1 => Own.callp (dsk g (S4.set 2 (fullS 8)) []) H1 fun D' hold hin H2 => (Len_spec D' w1 g (S4.set 2 (fullS 8)) [] H2).mono fun e w' ⟨he, H'⟩ => ⟨show e = Ending.returned (.int .i64 4) by rw [he, hl5]; rfl, H'⟩) ?_
  refine hl_on rfl rfl <| hl_val (ov_eql rfl rfl) rfl rfl rfl <|
    hl_val (ov_pickT rfl rfl) rfl rfl rfl <|
    hl_val (ov_assign rfl) rfl rfl rfl <|
    hl_nil <|
    hx_then_normal <|
    hc_ret <| ?_
  exact results_1 (.inr rfl) rfl rfl fun w' H' => ⟨rfl, H'.ent (Ent.nil _)⟩
theorem SectorNone_walk (W : World) (c0 : List Value) (x : Step) (h0 : Old none' W (Rep.rep x c0)) :
    Calls Try.prog 6 #[.agg c0.toArray] W fun e w' => e = .returned (.bool true) ∧ Own none' W w' [] := by
  obtain ⟨A, cap, rfl, h1, h2, h3, hk⟩ := step_open h0
  refine hc_enter (vs := [.agg #[.int .i64 x.1, .int .i64 x.2.1, .int .i64 x.2.2.1, .int .u8 x.2.2.2.1.toNat, .slice A x.2.2.2.2.length cap]]) Try.func6 rfl _ Try.ntmps6 rfl (Own.start none' W) ?_
  simp only [argSlots, Nat.zero_add]
  refine hc_seq <|
    hc_region <|
    hl_new (on_boxN rfl rfl) rfl rfl rfl fun b1 =>  ?_
  refine hl_val (ov_assign rfl) rfl rfl rfl <|
    hl_nil <|
    hx_then_normal <|
    hc_seq <|
    hc_seq <|
    hc_region <| ?_
  refine hl_val (by first | exact ov_loadW rfl (by simp; done) | exact ov_loadGB rfl rfl) rfl rfl rfl <| ?_
  refine hl_new (on_buildSliceN rfl rfl rfl) rfl rfl rfl fun b7 =>  ?_
  refine hl_call (σ := { b : Bool // b = true → fairP [x] }) Try.call12 rfl rfl (fun w1 H1 => Own.callx0 H1 fun D' hold hin H2 => fair_spec D' w1 _ [x] (hin _ fun h hs ho => rep_lits (b := b7) hs [x] ⟨_, [], rfl, rep_old ho h0, rfl⟩ (by simp))) ?_
  rintro ⟨bv, hbv⟩
  try rw [List.nil_append]
  cases bv
  · skip
    refine hl_val (ov_not rfl) rfl rfl rfl <|
      hl_nil <|
      hx_then_normal <|
      hc_cond_true rfl <|
      hc_seq <|
      hc_region <| ?_
    refine hl_c Try.call13 rfl rfl (fun w1 H1 => Own.calln H1 fun D' hold hin H2 => wakes_spec D' w1) ?_
    refine hl_val (ov_assign rfl) rfl rfl rfl <|
      hl_nil <|
      hx_then_normal <|
      hc_ret <|
      hx_then_ret <| ?_
    exact results_1 (.inr rfl) rfl rfl fun w' H' => ⟨rfl, H'.ent (Ent.nil _)⟩
  · skip
    refine hl_val (ov_not rfl) rfl rfl rfl <|
      hl_nil <|
      hx_then_normal <|
      hc_cond_false rfl <|
      hc_skip <|
      hx_then_normal <| ?_
    refine hc_seq <|
      hc_region <|
      hl_val (ov_assign rfl) rfl rfl rfl <|
      hl_nil <|
      hx_then_normal <|
      hc_seq <| ?_
    refine hc_region <|
      hl_val (ov_move rfl) rfl rfl rfl <|
      hl_val (ov_fieldA rfl) rfl rfl rfl <|
      hl_val (ov_load rfl (CellIs.blk rfl)) rfl rfl rfl <| ?_
    refine hl_c Try.call18 rfl rfl (fun w1 H1 => Own.calln H1 fun D' hold hin H2 => Crash_nil D' w1 _) ?_
    refine hl_nil <|
      hx_then_normal <|
      hc_seq <|
      hc_region <|
      hl_val (ov_move rfl) rfl rfl rfl <|
      hl_val (ov_fieldA rfl) rfl rfl rfl <| ?_
    refine hl_val (ov_load rfl (CellIs.blk rfl)) rfl rfl rfl <| ?_
    refine hl_c Try.call17 rfl rfl (fun w1 H1 => Own.calln H1 fun D' hold hin H2 => Read_nil D' w1 _) ?_
    refine hl_val (ov_move rfl) rfl rfl rfl <|
      hl_val (ov_extract rfl rfl) rfl rfl rfl <|
      hl_val (ov_extract rfl rfl) rfl rfl rfl <|
      hl_new (on_alloc) rfl rfl rfl fun b4 =>  ?_
    refine hl_u0 (on_storeW (vs := secC zeroSec) rfl rfl (by simp) (by simp) (secC_one _)) rfl rfl ?_
    refine hl_val (ov_assign rfl) rfl rfl rfl <|
      hl_nil <|
      hx_then_normal <|
      hc_seq <| ?_
    refine hc_any [blk b4 30 (secC zeroSec), blk b1 33 [.int .i64 x.1, .int .i64 x.2.1, .int .i64 x.2.2.1, .int .u8 x.2.2.2.1.toNat, .slice A x.2.2.2.2.length cap]] mixed 35 rfl ?_
    refine ha_take 0 rfl (by first | exact ov_loadW rfl (by simp; done) | exact ov_loadGB rfl rfl) rfl rfl rfl (by kernel_rfl) (by kernel_rfl) (by kernel_rfl) (by first | assumption | exact Ent.refl _ | exact Ent.nil _ | (repeat (first | exact Ent.refl _ | exact Ent.nil _ | refine Ent.pick ?_))) <| ?_
    refine ha_one 1 (by kernel_rfl) <| ?_
    refine ho_val rfl (ov_buildA (res := secC zeroSec) rfl (by rw [secC_zero]; rfl)) rfl rfl rfl (by first | assumption | exact Ent.refl _ | exact Ent.nil _ | (repeat (first | exact Ent.refl _ | exact Ent.nil _ | refine Ent.pick ?_))) ?_
    refine ha_take 2 rfl (ov_eqlSec rfl rfl) rfl rfl rfl (by kernel_rfl) (by kernel_rfl) (by kernel_rfl) (by first | assumption | exact Ent.refl _ | exact Ent.nil _ | (repeat (first | exact Ent.refl _ | exact Ent.nil _ | refine Ent.pick ?_))) ?_
    refine ha_take 3 rfl (ov_move rfl) rfl rfl rfl (by kernel_rfl) (by kernel_rfl) (by kernel_rfl) (by first | assumption | exact Ent.refl _ | exact Ent.nil _ | (repeat (first | exact Ent.refl _ | exact Ent.nil _ | refine Ent.pick ?_))) <| ?_
    refine ha_partT (t := 25) rfl (rfl) ?_
    refine ha_take 4 rfl (ov_move rfl) rfl rfl rfl (by kernel_rfl) (by kernel_rfl) (by kernel_rfl) (by first | assumption | exact Ent.refl _ | exact Ent.nil _ | (repeat (first | exact Ent.refl _ | exact Ent.nil _ | refine Ent.pick ?_))) <| ?_
    refine ha_take 5 rfl (ov_eql rfl rfl) rfl rfl rfl (by kernel_rfl) (by kernel_rfl) (by kernel_rfl) (by first | assumption | exact Ent.refl _ | exact Ent.nil _ | (repeat (first | exact Ent.refl _ | exact Ent.nil _ | refine Ent.pick ?_))) <| ?_
    refine ha_take 6 rfl (ov_pickT rfl rfl) rfl rfl rfl (by kernel_rfl) (by kernel_rfl) (by kernel_rfl) (by first | assumption | exact Ent.refl _ | exact Ent.nil _ | (repeat (first | exact Ent.refl _ | exact Ent.nil _ | refine Ent.pick ?_))) <| ?_
    refine ha_take 7 rfl (ov_move rfl) rfl rfl rfl (by kernel_rfl) (by kernel_rfl) (by kernel_rfl) (by first | assumption | exact Ent.refl _ | exact Ent.nil _ | (repeat (first | exact Ent.refl _ | exact Ent.nil _ | refine Ent.pick ?_))) <| ?_
    refine ha_partT (t := 29) rfl (rfl) ?_
    refine ha_take 8 rfl (ov_move rfl) rfl rfl rfl (by kernel_rfl) (by kernel_rfl) (by kernel_rfl) (by first | assumption | exact Ent.refl _ | exact Ent.nil _ | (repeat (first | exact Ent.refl _ | exact Ent.nil _ | refine Ent.pick ?_))) <| ?_
    refine ha_take 9 rfl (ov_fieldA rfl) rfl rfl rfl (by kernel_rfl) (by kernel_rfl) (by kernel_rfl) (by first | assumption | exact Ent.refl _ | exact Ent.nil _ | (repeat (first | exact Ent.refl _ | exact Ent.nil _ | refine Ent.pick ?_))) <| ?_
    refine ha_take 10 rfl (ov_load rfl (CellIs.blk rfl)) rfl rfl rfl (by kernel_rfl) (by kernel_rfl) (by kernel_rfl) (by first | assumption | exact Ent.refl _ | exact Ent.nil _ | (repeat (first | exact Ent.refl _ | exact Ent.nil _ | refine Ent.pick ?_))) <| ?_
    refine ha_take 11 rfl (by first | exact ov_loadW rfl (by simp; done) | exact ov_loadGB rfl rfl) rfl rfl rfl (by kernel_rfl) (by kernel_rfl) (by kernel_rfl) (by first | assumption | exact Ent.refl _ | exact Ent.nil _ | (repeat (first | exact Ent.refl _ | exact Ent.nil _ | refine Ent.pick ?_))) <| ?_
    refine ha_one 12 (by kernel_rfl) <| ?_
    refine ho_c rfl Try.call16 rfl rfl rfl (fun w1 H1 => Own.calln H1 fun D' hold hin H2 => sector_spec D' w1 x _ rfl h3) (by first | assumption | exact Ent.refl _ | exact Ent.nil _ | (repeat (first | exact Ent.refl _ | exact Ent.nil _ | refine Ent.pick ?_))) ?_
    refine ha_one 13 (by kernel_rfl) <| ?_
    refine ho_c rfl Try.call15 rfl rfl rfl (fun w1 H1 => Own.calln H1 fun D' hold hin H2 => Write_nil D' w1 _ _) (by first | assumption | exact Ent.refl _ | exact Ent.nil _ | (repeat (first | exact Ent.refl _ | exact Ent.nil _ | refine Ent.pick ?_))) ?_
    refine ha_take 14 rfl (ov_eql rfl rfl) rfl rfl rfl (by kernel_rfl) (by kernel_rfl) (by kernel_rfl) (by first | assumption | exact Ent.refl _ | exact Ent.nil _ | (repeat (first | exact Ent.refl _ | exact Ent.nil _ | refine Ent.pick ?_))) <| ?_
    refine ha_take 15 rfl (ov_pickT rfl rfl) rfl rfl rfl (by kernel_rfl) (by kernel_rfl) (by kernel_rfl) (by first | assumption | exact Ent.refl _ | exact Ent.nil _ | (repeat (first | exact Ent.refl _ | exact Ent.nil _ | refine Ent.pick ?_))) <| ?_
    refine ha_take 16 rfl (ov_move rfl) rfl rfl rfl (by kernel_rfl) (by kernel_rfl) (by kernel_rfl) (by first | assumption | exact Ent.refl _ | exact Ent.nil _ | (repeat (first | exact Ent.refl _ | exact Ent.nil _ | refine Ent.pick ?_))) <| ?_
    refine ha_partT (t := 38) rfl (rfl) ?_
    refine ha_take 17 rfl (ov_move rfl) rfl rfl rfl (by kernel_rfl) (by kernel_rfl) (by kernel_rfl) (by first | assumption | exact Ent.refl _ | exact Ent.nil _ | (repeat (first | exact Ent.refl _ | exact Ent.nil _ | refine Ent.pick ?_))) <| ?_
    refine ha_one 18 (by kernel_rfl) <| ?_
    refine ho_c rfl Try.call22 rfl rfl rfl (fun w1 H1 => Own.calln H1 fun D' hold hin H2 => Flush_nil D' w1) (by first | assumption | exact Ent.refl _ | exact Ent.nil _ | (repeat (first | exact Ent.refl _ | exact Ent.nil _ | refine Ent.pick ?_))) ?_
    refine ha_take 19 rfl (ov_eql rfl rfl) rfl rfl rfl (by kernel_rfl) (by kernel_rfl) (by kernel_rfl) (by first | assumption | exact Ent.refl _ | exact Ent.nil _ | (repeat (first | exact Ent.refl _ | exact Ent.nil _ | refine Ent.pick ?_))) <| ?_
    refine ha_take 20 rfl (ov_pickT rfl rfl) rfl rfl rfl (by kernel_rfl) (by kernel_rfl) (by kernel_rfl) (by first | assumption | exact Ent.refl _ | exact Ent.nil _ | (repeat (first | exact Ent.refl _ | exact Ent.nil _ | refine Ent.pick ?_))) <| ?_
    refine ha_take 21 rfl (ov_move rfl) rfl rfl rfl (by kernel_rfl) (by kernel_rfl) (by kernel_rfl) (by first | assumption | exact Ent.refl _ | exact Ent.nil _ | (repeat (first | exact Ent.refl _ | exact Ent.nil _ | refine Ent.pick ?_))) <| ?_
    refine ha_partT (t := 43) rfl (rfl) ?_
    refine ha_take 22 rfl (ov_move rfl) rfl rfl rfl (by kernel_rfl) (by kernel_rfl) (by kernel_rfl) (by first | assumption | exact Ent.refl _ | exact Ent.nil _ | (repeat (first | exact Ent.refl _ | exact Ent.nil _ | refine Ent.pick ?_))) <| ?_
    refine ha_one 23 (by kernel_rfl) <| ?_
    refine ho_c rfl Try.call25 rfl rfl rfl (fun w1 H1 => Own.calln H1 fun D' hold hin H2 => Pending_nil D' w1) (by first | assumption | exact Ent.refl _ | exact Ent.nil _ | (repeat (first | exact Ent.refl _ | exact Ent.nil _ | refine Ent.pick ?_))) ?_
    refine ha_take 24 rfl (ov_eql rfl rfl) rfl rfl rfl (by kernel_rfl) (by kernel_rfl) (by kernel_rfl) (by first | assumption | exact Ent.refl _ | exact Ent.nil _ | (repeat (first | exact Ent.refl _ | exact Ent.nil _ | refine Ent.pick ?_))) <| ?_
    refine ha_take 25 rfl (ov_pickT rfl rfl) rfl rfl rfl (by kernel_rfl) (by kernel_rfl) (by kernel_rfl) (by first | assumption | exact Ent.refl _ | exact Ent.nil _ | (repeat (first | exact Ent.refl _ | exact Ent.nil _ | refine Ent.pick ?_))) <| ?_
    refine ha_take 26 rfl (ov_move rfl) rfl rfl rfl (by kernel_rfl) (by kernel_rfl) (by kernel_rfl) (by first | assumption | exact Ent.refl _ | exact Ent.nil _ | (repeat (first | exact Ent.refl _ | exact Ent.nil _ | refine Ent.pick ?_))) <| ?_
    refine ha_partT (t := 48) rfl (rfl) ?_
    refine ha_take 27 rfl (ov_move rfl) rfl rfl rfl (by kernel_rfl) (by kernel_rfl) (by kernel_rfl) (by first | assumption | exact Ent.refl _ | exact Ent.nil _ | (repeat (first | exact Ent.refl _ | exact Ent.nil _ | refine Ent.pick ?_))) <| ?_
    refine ha_one 28 (by kernel_rfl) <| ?_
    refine ho_c rfl Try.call26 rfl rfl rfl (fun w1 H1 => Own.calln H1 fun D' hold hin H2 => Len_nil D' w1) (by first | assumption | exact Ent.refl _ | exact Ent.nil _ | (repeat (first | exact Ent.refl _ | exact Ent.nil _ | refine Ent.pick ?_))) ?_
    refine ha_take 29 rfl (ov_eql rfl rfl) rfl rfl rfl (by kernel_rfl) (by kernel_rfl) (by kernel_rfl) (by first | assumption | exact Ent.refl _ | exact Ent.nil _ | (repeat (first | exact Ent.refl _ | exact Ent.nil _ | refine Ent.pick ?_))) <| ?_
    refine ha_take 30 rfl (ov_pickT rfl rfl) rfl rfl rfl (by kernel_rfl) (by kernel_rfl) (by kernel_rfl) (by first | assumption | exact Ent.refl _ | exact Ent.nil _ | (repeat (first | exact Ent.refl _ | exact Ent.nil _ | refine Ent.pick ?_))) <| ?_
    refine ha_take 31 rfl (ov_move rfl) rfl rfl rfl (by kernel_rfl) (by kernel_rfl) (by kernel_rfl) (by first | assumption | exact Ent.refl _ | exact Ent.nil _ | (repeat (first | exact Ent.refl _ | exact Ent.nil _ | refine Ent.pick ?_))) <| ?_
    refine ha_partT (t := 53) rfl (rfl) ?_
    refine ha_one 32 (by kernel_rfl) <| ?_
    refine ho_c rfl Try.call13 rfl rfl rfl (fun w1 H1 => Own.calln H1 fun D' hold hin H2 => wakes_spec D' w1) (by first | assumption | exact Ent.refl _ | exact Ent.nil _ | (repeat (first | exact Ent.refl _ | exact Ent.nil _ | refine Ent.pick ?_))) ?_
    refine ha_take 33 rfl (ov_pickT rfl rfl) rfl rfl rfl (by kernel_rfl) (by kernel_rfl) (by kernel_rfl) (by first | assumption | exact Ent.refl _ | exact Ent.nil _ | (repeat (first | exact Ent.refl _ | exact Ent.nil _ | refine Ent.pick ?_))) <| ?_
    refine ha_take 34 rfl (ov_assign rfl) rfl rfl rfl (by kernel_rfl) (by kernel_rfl) (by kernel_rfl) (by first | assumption | exact Ent.refl _ | exact Ent.nil _ | (repeat (first | exact Ent.refl _ | exact Ent.nil _ | refine Ent.pick ?_))) <| ?_
    refine ha_done (by kernel_rfl) <|
      hx_then_normal <|
      hc_ret <| ?_
    exact results_1 (.inr rfl) rfl rfl fun w' H' => ⟨rfl, H'.ent (Ent.nil _)⟩
end Go.Proofs.Ytnnhopjnpplfcaa
