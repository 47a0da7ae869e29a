import Derived.Test.YtijaldfiaeafgaaSec2
set_option linter.unusedVariables false
set_option linter.unusedSimpArgs false
namespace Go.Proofs.Ytijaldfiaeafgaa
open Slk
abbrev rdsk (g : Nat) (S : List Sec) (P : List (Nat × Sec)) : HProp := dskT 59 116 g S P
theorem RNew_ok (D : Nat → Prop) (w : World) (n : Nat) (h1 : 1 ≤ n) (h2 : n ≤ 4096) :
    Calls Try.prog 20 #[.int .i64 n] w fun e w' => ∃ g : Nat, e = .returned (.tuple #[.pointer (some ⟨g, 0, none⟩), .int .i64 0]) ∧ Own D w w' [rdsk g (List.replicate n zeroSec) []] := by
  refine hc_enter (vs := [.int .i64 n]) Try.func20 rfl _ Try.ntmps20 rfl (Own.start D w) ?_
  simp only [argSlots, Nat.zero_add]
  refine hc_seq <| hc_region <| hl_v (ov_assign rfl) rfl <| hl_v (ov_assign rfl) rfl <| hl_nil <| hx_then_normal <| ?_
  refine hc_seq <| hc_seq <| hc_region <| hl_v (ov_move rfl) rfl <| hl_v (ov_lss rfl rfl) rfl <| hl_v (ov_move rfl) rfl <| ?_
  refine hl_partF (t := 6) rfl (by omega) ?_
  refine hl_on rfl rfl <| hl_v (ov_move rfl) rfl <| hl_on rfl rfl <| hl_v (ov_gtr rfl rfl) rfl <| hl_v (ov_pickF rfl rfl) rfl <| hl_nil <| hx_then_normal <| ?_
  refine hc_cond_F rfl (by omega) ?_
  refine hc_skip <| hx_then_normal <| hc_seq <| hc_region <| hl_v (ov_move rfl) rfl <| ?_
  refine hl_new (on_make rfl rfl n rfl (by omega) (by omega)) rfl rfl rfl (fun b => ?_)
  refine hl_v (ov_buildSN rfl rfl) rfl <| ?_
  refine hl_new (on_boxN rfl rfl) rfl rfl rfl fun b13 =>  ?_
  refine hl_v (ov_assign rfl) rfl <| hl_v (ov_assign rfl) rfl <| hl_nil <| hx_then_normal <| hc_ret <| ?_
  refine results_2 (.inr rfl) rfl rfl rfl fun w' H' => ⟨_, rfl, H'.ent ?_⟩
  refine Ent.trans (b := [blk b13 59 [.slice (some ⟨b, 0, none⟩) (List.replicate n zeroSec).length n, .slice none ([] : List (Nat × Sec)).length 0], row (some ⟨b, 0, none⟩) 34 64 (List.replicate n zeroSec).length n ((List.replicate n zeroSec).flatMap secC), row none 116 65 0 0 []]) ?_ dsk_mk
  rw [List.length_replicate, ← zeros_sec]
  exact Ent.cons ((Ent.blk_row 64 n (by rw [zerosL_length]; simp) (by omega)).trans (Ent.cons (Ent.nil_row _ _)))
theorem RNew_no (D : Nat → Prop) (w : World) (n : Int) (h : n < 1 ∨ 4096 < n) :
    Calls Try.prog 20 #[.int .i64 n] w fun e w' => e = .returned (.tuple #[.pointer none, .int .i64 1]) ∧ Own D w w' [] := by
  refine hc_enter (vs := [.int .i64 n]) Try.func20 rfl _ Try.ntmps20 rfl (Own.start D w) ?_
  simp only [argSlots, Nat.zero_add]
  refine hc_seq <| hc_region <| hl_v (ov_assign rfl) rfl <| hl_v (ov_assign rfl) rfl <| hl_nil <| hx_then_normal <| ?_
  refine hc_seq <| hc_seq <| hc_region <| hl_v (ov_move rfl) rfl <| hl_v (ov_lss rfl rfl) rfl <| hl_v (ov_move rfl) rfl <| ?_
  refine hl_part (t := 6) rfl (fun h1 => ?_) (fun h1 => ?_)
  · refine hl_off rfl rfl rfl rfl rfl rfl <| hl_off rfl rfl rfl rfl rfl rfl <| hl_v (ov_pickT rfl rfl) rfl <| hl_nil <| hx_then_normal <| hc_cond_true rfl <| ?_
    refine hc_seq <| hc_region <| hl_v (ov_assign rfl) rfl <| hl_v (ov_assign rfl) rfl <| hl_nil <| hx_then_normal <| ?_
    refine hc_ret <| hx_then_ret <| ?_
    exact results_2 (.inr rfl) rfl rfl rfl fun w' H' => ⟨rfl, H'⟩
  refine hl_on rfl rfl <| hl_v (ov_move rfl) rfl <| hl_on rfl rfl <| hl_v (ov_gtr rfl rfl) rfl <| hl_v (ov_pickF rfl rfl) rfl <| hl_nil <| hx_then_normal <| ?_
  refine hc_cond_T rfl (by omega) ?_
  refine hc_seq <| hc_region <| hl_v (ov_assign rfl) rfl <| hl_v (ov_assign rfl) rfl <| hl_nil <| hx_then_normal <| ?_
  refine hc_ret <| hx_then_ret <| ?_
  exact results_2 (.inr rfl) rfl rfl rfl fun w' H' => ⟨rfl, H'⟩
theorem Rhas_spec (D : Nat → Prop) (w : World) (g : Nat) (i : Int) (A0 A1 : Option Addr) (n c0 m c1 : Nat) (H : Own D w w [blk g 59 [.slice A0 n c0, .slice A1 m c1]]) :
    Calls Try.prog 53 #[.pointer (some ⟨g, 0, none⟩), .int .i64 i] w fun e w' => e = .returned (.bool (decide (0 ≤ i ∧ i < n))) ∧ Own D w w' [blk g 59 [.slice A0 n c0, .slice A1 m c1]] := by
  refine hc_enter (vs := [.pointer (some ⟨g, 0, none⟩), .int .i64 i]) Try.func53 rfl _ Try.ntmps53 rfl H ?_
  simp only [argSlots, Nat.zero_add]
  refine hc_seq <| hc_region <| hl_v (ov_assign rfl) rfl <| hl_nil <| hx_then_normal <| hc_seq <| ?_
  refine hc_region <| hl_v (ov_move rfl) rfl <| hl_v (ov_geq rfl rfl) rfl <| hl_v (ov_move rfl) rfl <| ?_
  refine hl_part (t := 7) rfl (fun h1 => ?_) (fun h1 => ?_)
  · refine hl_on rfl rfl <| hl_v (ov_move rfl) rfl <| hl_on rfl rfl <| hl_v (ov_move rfl) rfl <| hl_on rfl rfl <| hl_v (ov_nil rfl) rfl <| hl_on rfl rfl <| hl_v (ov_fieldA rfl) rfl <| hl_on rfl rfl <| hl_v (ov_load rfl (CellIs.blk rfl)) rfl <| hl_on rfl rfl <| hl_v (by first | exact ov_len rfl | exact ov_lenS rfl) rfl <| ?_
    refine hl_on rfl rfl <| hl_v (ov_lss rfl rfl) rfl <| hl_v (ov_pickT rfl rfl) rfl <| hl_v (ov_assign rfl) rfl <| hl_nil <| hx_then_normal <| hc_ret <| ?_
    exact results_1 (.inr rfl) rfl rfl fun w' H' => ⟨by simp [h1], H'⟩
  refine hl_off rfl rfl rfl rfl rfl rfl <| hl_off rfl rfl rfl rfl rfl rfl <| hl_off rfl rfl rfl rfl rfl rfl <| hl_off rfl rfl rfl rfl rfl rfl <| hl_off rfl rfl rfl rfl rfl rfl <| hl_off rfl rfl rfl rfl rfl rfl <| ?_
  refine hl_off rfl rfl rfl rfl rfl rfl <| hl_v (ov_pickF rfl rfl) rfl <| hl_v (ov_assign rfl) rfl <| hl_nil <| hx_then_normal <| hc_ret <| ?_
  exact results_1 (.inr rfl) rfl rfl fun w' H' => ⟨by simp [h1], H'⟩
theorem RWrite_no (D : Nat → Prop) (w : World) (g : Nat) (i : Int) (s : Sec) (S : List Sec) (P : List (Nat × Sec)) (hi : ¬ (0 ≤ i ∧ i < S.length)) (H : Own D w w [rdsk g S P]) :
    Calls Try.prog 25 #[.pointer (some ⟨g, 0, none⟩), .int .i64 i, .agg (secC s).toArray] w fun e w' => e = .returned (.int .i64 1) ∧ Own D w w' [rdsk g S P] := by
  refine hc_enter (vs := [.pointer (some ⟨g, 0, none⟩), .int .i64 i, .agg (secC s).toArray]) Try.func25 rfl _ Try.ntmps25 rfl H ?_
  simp only [argSlots, Nat.zero_add]
  refine HC.exs ?_
  rintro ⟨⟨A0, c0⟩, A1, c1⟩
  refine HC.ent (l' := [blk g 59 [.slice A0 S.length c0, .slice A1 P.length c1], row A0 34 64 S.length c0 (S.flatMap secC), row A1 116 65 P.length c1 (P.flatMap latC)]) (fun _ h => h) ?_
  refine hc_seq <| hc_region <| ?_
  refine hl_new (on_boxG (cs := secC s) rfl) rfl rfl rfl (fun b5 => ?_)
  refine hl_v (ov_assign rfl) rfl <| hl_nil <| hx_then_normal <| hc_seq <| hc_seq <| hc_region <| ?_
  refine hl_v (ov_move rfl) rfl <| hl_v (ov_move rfl) rfl <| ?_
  refine hl_c Try.call53 rfl rfl (fun w1 H1 => Own.callp (blk g 59 [.slice A0 S.length c0, .slice A1 P.length c1]) H1 fun D' hold hin H2 => Rhas_spec D' w1 g i A0 A1 _ c0 _ c1 H2) ?_
  refine hl_v (by first | exact ov_notd rfl | exact ov_not rfl) rfl <| ?_
  refine hl_nil <| hx_then_normal <| ?_
  refine hc_cond_T rfl (fun h => hi h) ?_
  refine hc_seq <| hc_region <| hl_v (ov_assign rfl) rfl <| hl_nil <| hx_then_normal <| hc_ret <| ?_
  refine hx_then_ret <| ?_
  exact results_1 (.inr rfl) rfl rfl fun w' H' => ⟨rfl, H'.ent (Ent.trans (by first | assumption | exact Ent.refl _ | exact Ent.nil _ | exact Ent.row_any (Ent.refl _) | (repeat (first | exact Ent.refl _ | exact Ent.nil _ | refine Ent.pick ?_))) (dsk_mk (A0 := A0) (c0 := c0) (A1 := A1) (c1 := c1)))⟩
theorem RWrite_ok (D : Nat → Prop) (w : World) (g : Nat) (i : Nat) (s : Sec) (S : List Sec) (P : List (Nat × Sec)) (hi : i < S.length) (hP : P.length ≤ 1000000) (H : Own D w w [rdsk g S P]) :
    Calls Try.prog 25 #[.pointer (some ⟨g, 0, none⟩), .int .i64 i, .agg (secC s).toArray] w fun e w' => e = .returned (.int .i64 0) ∧ Own D w w' [rdsk g S (P ++ [(i, s)])] := by
  refine hc_enter (vs := [.pointer (some ⟨g, 0, none⟩), .int .i64 i, .agg (secC s).toArray]) Try.func25 rfl _ Try.ntmps25 rfl H ?_
  simp only [argSlots, Nat.zero_add]
  refine HC.exs ?_
  rintro ⟨⟨A0, c0⟩, A1, c1⟩
  refine HC.ent (l' := [blk g 59 [.slice A0 S.length c0, .slice A1 P.length c1], row A0 34 64 S.length c0 (S.flatMap secC), row A1 116 65 P.length c1 (P.flatMap latC)]) (fun _ h => h) ?_
  refine hc_seq <| hc_region <| ?_
  refine hl_new (on_boxG (cs := secC s) rfl) rfl rfl rfl (fun b5 => ?_)
  refine hl_v (ov_assign rfl) rfl <| hl_nil <| hx_then_normal <| hc_seq <| hc_seq <| hc_region <| ?_
  refine hl_v (ov_move rfl) rfl <| hl_v (ov_move rfl) rfl <| ?_
  refine hl_c Try.call53 rfl rfl (fun w1 H1 => Own.callp (blk g 59 [.slice A0 S.length c0, .slice A1 P.length c1]) H1 fun D' hold hin H2 => Rhas_spec D' w1 g i A0 A1 _ c0 _ c1 H2) ?_
  refine hl_v (by first | exact ov_notd rfl | exact ov_not rfl) rfl <| ?_
  refine hl_nil <| hx_then_normal <| ?_
  refine hc_cond_F rfl (by simp [hi]) ?_
  refine hc_skip <| hx_then_normal <| hc_seq <| ?_
  refine hc_cutK0 (σ := Option Addr × Nat) [] rfl  (fun q => [blk g 59 [.slice A0 S.length c0, .slice q.1 (P.length + 1) q.2], row A0 34 64 S.length c0 (S.flatMap secC), row q.1 116 65 (P.length + 1) q.2 ((P ++ [(i, s)]).flatMap latC)]) (fun K1 hK1 => ?_) (fun q => ?_)
  · refine HC.ent (Ent.trans (b := [blk b5 34 (secC s), blk g 59 [.slice A0 S.length c0, .slice A1 P.length c1], row A0 34 64 S.length c0 (S.flatMap secC), row A1 116 65 P.length c1 (P.flatMap latC)]) (by first | assumption | exact Ent.refl _ | exact Ent.nil _ | exact Ent.row_any (Ent.refl _) | (repeat (first | exact Ent.refl _ | exact Ent.nil _ | refine Ent.pick ?_))) (Ent.refl _)) ?_
    refine hc_any [blk b5 34 (secC s)] mixed 13 rfl ?_
    refine ha_v 0 rfl (ov_move rfl) rfl <| ?_
    refine ha_v 1 rfl (ov_move rfl) rfl <| ?_
    refine ha_v 2 rfl (ov_nil rfl) rfl <| ?_
    refine ha_v 3 rfl (ov_fieldA rfl) rfl <| ?_
    refine ha_v 5 rfl (ov_move rfl) rfl <| ?_
    refine ha_v 6 rfl (by first | exact ov_loadW rfl (by simp; done) | exact ov_loadGB rfl rfl) rfl <| ?_
    refine ha_v 7 rfl (ov_buildS (res := latC (i, s)) rfl (fill_lat i s)) rfl ?_
    refine ha_two 4 8 (by kernel_rfl) ?_ ?_
    · skip
      refine ho_v rfl (ov_load rfl (CellIs.blk rfl)) rfl ?_
      refine ha_one 8 (by kernel_rfl) <| ?_
      refine ho_n rfl (on_buildSlice (res := latC (i, s)) rfl rfl (fill_one i s)) rfl (fun b19 => ?_)
      refine ha_one 9 (by kernel_rfl) <| ?_
      refine ho_n rfl (on_appendR (A := A1) (news := latC (i, s)) rfl rfl (SrcIs.blk (b := b19)) (by rw [latC_len]) (latC_one _) (by decide) (by omega)) rfl ?_
      rintro ⟨B, cB⟩
      dsimp only
      refine ha_v 10 rfl (ov_nil rfl) rfl <| ?_
      refine ha_v 11 rfl (ov_fieldA rfl) rfl <| ?_
      refine ha_one 12 (by kernel_rfl) <| ?_
      refine ho_w0 rfl (on_storeN rfl rfl rfl rfl rfl) rfl ?_
      refine ha_done (by kernel_rfl) <| ?_
      exact hx_cut hK1 ((B, cB)) (by repeat (first | exact Slots.sub_nil _ | refine Slots.sub_cons rfl ?_)) (by rw [List.flatMap_append, List.flatMap_singleton]; exact (by first | assumption | exact Ent.refl _ | exact Ent.nil _ | exact Ent.row_any (Ent.refl _) | (repeat (first | exact Ent.refl _ | exact Ent.nil _ | refine Ent.pick ?_))))
    skip
    refine ho_n rfl (on_buildSlice (res := latC (i, s)) rfl rfl (fill_one i s)) rfl (fun b19 => ?_)
    refine ha_one 4 (by kernel_rfl) <| ?_
    refine ho_v rfl (ov_load rfl (CellIs.blk rfl)) rfl ?_
    refine ha_one 9 (by kernel_rfl) <| ?_
    refine ho_n rfl (on_appendR (A := A1) (news := latC (i, s)) rfl rfl (SrcIs.blk (b := b19)) (by rw [latC_len]) (latC_one _) (by decide) (by omega)) rfl ?_
    rintro ⟨B, cB⟩
    dsimp only
    refine ha_v 10 rfl (ov_nil rfl) rfl <| ?_
    refine ha_v 11 rfl (ov_fieldA rfl) rfl <| ?_
    refine ha_one 12 (by kernel_rfl) <| ?_
    refine ho_w0 rfl (on_storeN rfl rfl rfl rfl rfl) rfl ?_
    refine ha_done (by kernel_rfl) <| ?_
    exact hx_cut hK1 ((B, cB)) (by repeat (first | exact Slots.sub_nil _ | refine Slots.sub_cons rfl ?_)) (by rw [List.flatMap_append, List.flatMap_singleton]; exact (by first | assumption | exact Ent.refl _ | exact Ent.nil _ | exact Ent.row_any (Ent.refl _) | (repeat (first | exact Ent.refl _ | exact Ent.nil _ | refine Ent.pick ?_))))
  refine hx_then_normal <| hc_seq <| hc_region <| hl_v (ov_assign rfl) rfl <| hl_nil <| hx_then_normal <| ?_
  refine hc_ret <| ?_
  exact results_1 (.inr rfl) rfl rfl fun w' H' => ⟨rfl, H'.ent (by have := dsk_mk (tD := 59) (tL := 116) (g := g) (S := S) (P := P ++ [(i, s)]) (A0 := A0) (c0 := c0) (A1 := q.1) (c1 := q.2) (l := []); rw [List.length_append] at this; exact this)⟩
end Go.Proofs.Ytijaldfiaeafgaa
