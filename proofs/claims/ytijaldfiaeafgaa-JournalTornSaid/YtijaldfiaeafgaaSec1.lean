import Derived.Test.YtijaldfiaeafgaaSecV
set_option linter.unusedVariables false
set_option linter.unusedSimpArgs false
namespace Go.Proofs.Ytijaldfiaeafgaa
open Slk
def latC (p : Nat × Sec) : List Value := .int .i64 (p.1 : Int) :: secC p.2
@[simp] theorem latC_len (p : Nat × Sec) : (latC p).length = 65 := by simp [latC, secC_len]
theorem latC_one (p : Nat × Sec) : ∀ v ∈ latC p, v.oneCell' = true := fun v hv => by
  rcases List.mem_cons.1 hv with rfl | h
  · rfl
  · exact secC_one _ v h
/-- A disk at g of types tD (the disk) and tL (a pending write): its sectors, its pending writes. -/
def dskL (tD tL g : Nat) (S : List Sec) (P : List (Nat × Sec)) (q : (Option Addr × Nat) × (Option Addr × Nat)) : List HProp :=
  [blk g tD [.slice q.1.1 S.length q.1.2, .slice q.2.1 P.length q.2.2], row q.1.1 34 64 S.length q.1.2 (S.flatMap secC), row q.2.1 tL 65 P.length q.2.2 (P.flatMap latC)]
def dskT (tD tL g : Nat) (S : List Sec) (P : List (Nat × Sec)) : HProp := exS (dskL tD tL g S P)
abbrev dsk (g : Nat) (S : List Sec) (P : List (Nat × Sec)) : HProp := dskT 100 111 g S P
theorem dsk_mk {tD tL g : Nat} {S : List Sec} {P : List (Nat × Sec)} {A0 A1 : Option Addr} {c0 c1 : Nat} {l : List HProp} :
    Ent (blk g tD [.slice A0 S.length c0, .slice A1 P.length c1] :: row A0 34 64 S.length c0 (S.flatMap secC) :: row A1 tL 65 P.length c1 (P.flatMap latC) :: l) (dskT tD tL g S P :: l) :=
  Ent.exS (L := dskL tD tL g S P) (l := l) ((A0, c0), (A1, c1))
theorem zeros_sec (n : Nat) : zerosL (List.replicate 64 (Value.int .u8 0)) n = (List.replicate n zeroSec).flatMap secC := by
  rw [zerosL, List.flatMap_replicate, secC_zero]
theorem New_ok (D : Nat → Prop) (w : World) (n : Nat) (h1 : 1 ≤ n) (h2 : n ≤ 4096) :
    Calls Try.prog 14 #[.int .i64 n] w fun e w' => ∃ g : Nat, e = .returned (.tuple #[.pointer (some ⟨g, 0, none⟩), .int .i64 0]) ∧ Own D w w' [dsk g (List.replicate n zeroSec) []] := by
  refine hc_enter (vs := [.int .i64 n]) Try.func14 rfl _ Try.ntmps14 rfl (Own.start D w) ?_
  simp only [argSlots, Nat.zero_add]
  refine hc_seq <| hc_region <| hl_v (ov_assign rfl) rfl <| hl_v (ov_assign rfl) rfl <| hl_nil <| hx_then_normal <| ?_
  refine hc_seq <| hc_seq <| hc_region <| hl_v (ov_move rfl) rfl <| hl_v (ov_lss rfl rfl) rfl <| hl_v (ov_move rfl) rfl <| ?_
  refine hl_partF (t := 6) rfl (by omega) ?_
  refine hl_on rfl rfl <| hl_v (ov_move rfl) rfl <| hl_on rfl rfl <| hl_v (ov_gtr rfl rfl) rfl <| hl_v (ov_pickF rfl rfl) rfl <| hl_nil <| hx_then_normal <| ?_
  refine hc_cond_F rfl (by omega) ?_
  refine hc_skip <| hx_then_normal <| hc_seq <| hc_region <| hl_v (ov_move rfl) rfl <| ?_
  refine hl_new (on_make rfl rfl n rfl (by omega) (by omega)) rfl rfl rfl (fun b => ?_)
  refine hl_v (ov_buildSN rfl rfl) rfl <| ?_
  refine hl_new (on_boxN rfl rfl) rfl rfl rfl fun b13 =>  ?_
  refine hl_v (ov_assign rfl) rfl <| hl_v (ov_assign rfl) rfl <| hl_nil <| hx_then_normal <| hc_ret <| ?_
  refine results_2 (.inr rfl) rfl rfl rfl fun w' H' => ⟨_, rfl, H'.ent ?_⟩
  refine Ent.trans (b := [blk b13 100 [.slice (some ⟨b, 0, none⟩) (List.replicate n zeroSec).length n, .slice none ([] : List (Nat × Sec)).length 0], row (some ⟨b, 0, none⟩) 34 64 (List.replicate n zeroSec).length n ((List.replicate n zeroSec).flatMap secC), row none 111 65 0 0 []]) ?_ dsk_mk
  rw [List.length_replicate, ← zeros_sec]
  exact Ent.cons ((Ent.blk_row 64 n (by rw [zerosL_length]; simp) (by omega)).trans (Ent.cons (Ent.nil_row _ _)))
theorem New_no (D : Nat → Prop) (w : World) (n : Int) (h : n < 1 ∨ 4096 < n) :
    Calls Try.prog 14 #[.int .i64 n] w fun e w' => e = .returned (.tuple #[.pointer none, .int .i64 1]) ∧ Own D w w' [] := by
  refine hc_enter (vs := [.int .i64 n]) Try.func14 rfl _ Try.ntmps14 rfl (Own.start D w) ?_
  simp only [argSlots, Nat.zero_add]
  refine hc_seq <| hc_region <| hl_v (ov_assign rfl) rfl <| hl_v (ov_assign rfl) rfl <| hl_nil <| hx_then_normal <| ?_
  refine hc_seq <| hc_seq <| hc_region <| hl_v (ov_move rfl) rfl <| hl_v (ov_lss rfl rfl) rfl <| hl_v (ov_move rfl) rfl <| ?_
  refine hl_part (t := 6) rfl (fun h1 => ?_) (fun h1 => ?_)
  · refine hl_off rfl rfl rfl rfl rfl rfl <| hl_off rfl rfl rfl rfl rfl rfl <| hl_v (ov_pickT rfl rfl) rfl <| hl_nil <| hx_then_normal <| hc_cond_true rfl <| ?_
    refine hc_seq <| hc_region <| hl_v (ov_assign rfl) rfl <| hl_v (ov_assign rfl) rfl <| hl_nil <| hx_then_normal <| ?_
    refine hc_ret <| hx_then_ret <| ?_
    exact results_2 (.inr rfl) rfl rfl rfl fun w' H' => ⟨rfl, H'⟩
  refine hl_on rfl rfl <| hl_v (ov_move rfl) rfl <| hl_on rfl rfl <| hl_v (ov_gtr rfl rfl) rfl <| hl_v (ov_pickF rfl rfl) rfl <| hl_nil <| hx_then_normal <| ?_
  refine hc_cond_T rfl (by omega) ?_
  refine hc_seq <| hc_region <| hl_v (ov_assign rfl) rfl <| hl_v (ov_assign rfl) rfl <| hl_nil <| hx_then_normal <| ?_
  refine hc_ret <| hx_then_ret <| ?_
  exact results_2 (.inr rfl) rfl rfl rfl fun w' H' => ⟨rfl, H'⟩
theorem has_nil (D : Nat → Prop) (w : World) (i : Int) :
    Calls Try.prog 48 #[.pointer none, .int .i64 i] w fun e w' => e = .returned (.bool false) ∧ Own D w w' [] := by
  refine hc_enter (vs := [.pointer none, .int .i64 i]) Try.func48 rfl _ Try.ntmps48 rfl (Own.start D w) ?_
  simp only [argSlots, Nat.zero_add]
  refine hc_seq <| hc_region <| hl_v (ov_assign rfl) rfl <| hl_nil <| hx_then_normal <| hc_seq <| ?_
  refine hc_region <| hl_v (ov_move rfl) rfl <| hl_v (ov_neqP rfl rfl) rfl <| hl_v (ov_move rfl) rfl <| ?_
  refine hl_off rfl rfl rfl rfl rfl rfl <| hl_off rfl rfl rfl rfl rfl rfl <| hl_v (ov_pickF rfl rfl) rfl <| hl_v (ov_move rfl) rfl <| hl_off rfl rfl rfl rfl rfl rfl <| hl_off rfl rfl rfl rfl rfl rfl <| ?_
  refine hl_off rfl rfl rfl rfl rfl rfl <| hl_off rfl rfl rfl rfl rfl rfl <| hl_off rfl rfl rfl rfl rfl rfl <| hl_off rfl rfl rfl rfl rfl rfl <| hl_off rfl rfl rfl rfl rfl rfl <| hl_v (ov_pickF rfl rfl) rfl <| ?_
  refine hl_v (ov_assign rfl) rfl <| hl_nil <| hx_then_normal <| hc_ret <| ?_
  exact results_1 (.inr rfl) rfl rfl fun w' H' => ⟨rfl, H'⟩
/-- Is i a sector? (No more than the disk's own cells are owned.) -/
theorem has_spec (D : Nat → Prop) (w : World) (g : Nat) (i : Int) (A0 A1 : Option Addr) (n c0 m c1 : Nat) (H : Own D w w [blk g 100 [.slice A0 n c0, .slice A1 m c1]]) :
    Calls Try.prog 48 #[.pointer (some ⟨g, 0, none⟩), .int .i64 i] w fun e w' => e = .returned (.bool (decide (0 ≤ i ∧ i < n))) ∧ Own D w w' [blk g 100 [.slice A0 n c0, .slice A1 m c1]] := by
  refine hc_enter (vs := [.pointer (some ⟨g, 0, none⟩), .int .i64 i]) Try.func48 rfl _ Try.ntmps48 rfl H ?_
  simp only [argSlots, Nat.zero_add]
  refine hc_seq <| hc_region <| hl_v (ov_assign rfl) rfl <| hl_nil <| hx_then_normal <| hc_seq <| ?_
  refine hc_region <| hl_v (ov_move rfl) rfl <| hl_v (ov_neqP rfl rfl) rfl <| hl_v (ov_move rfl) rfl <| ?_
  refine hl_on rfl rfl <| hl_v (ov_move rfl) rfl <| hl_on rfl rfl <| hl_v (ov_geq rfl rfl) rfl <| hl_v (ov_pickT rfl rfl) rfl <| hl_v (ov_move rfl) rfl <| ?_
  refine hl_part (t := 11) rfl (fun h1 => ?_) (fun h1 => ?_)
  · refine hl_on rfl rfl <| hl_v (ov_move rfl) rfl <| hl_on rfl rfl <| hl_v (ov_move rfl) rfl <| hl_on rfl rfl <| hl_v (ov_nil rfl) rfl <| hl_on rfl rfl <| hl_v (ov_fieldA rfl) rfl <| hl_on rfl rfl <| hl_v (ov_load rfl (CellIs.blk rfl)) rfl <| hl_on rfl rfl <| hl_v (by first | exact ov_len rfl | exact ov_lenS rfl) rfl <| ?_
    refine hl_on rfl rfl <| hl_v (ov_lss rfl rfl) rfl <| hl_v (ov_pickT rfl rfl) rfl <| hl_v (ov_assign rfl) rfl <| hl_nil <| hx_then_normal <| hc_ret <| ?_
    exact results_1 (.inr rfl) rfl rfl fun w' H' => ⟨by simp [h1], H'⟩
  refine hl_off rfl rfl rfl rfl rfl rfl <| hl_off rfl rfl rfl rfl rfl rfl <| hl_off rfl rfl rfl rfl rfl rfl <| hl_off rfl rfl rfl rfl rfl rfl <| hl_off rfl rfl rfl rfl rfl rfl <| hl_off rfl rfl rfl rfl rfl rfl <| ?_
  refine hl_off rfl rfl rfl rfl rfl rfl <| hl_v (ov_pickF rfl rfl) rfl <| hl_v (ov_assign rfl) rfl <| hl_nil <| hx_then_normal <| hc_ret <| ?_
  exact results_1 (.inr rfl) rfl rfl fun w' H' => ⟨by simp [h1], H'⟩
theorem Write_nil (D : Nat → Prop) (w : World) (i : Int) (v : Value) :
    Calls Try.prog 23 #[.pointer none, .int .i64 i, v] w fun e w' => e = .returned (.int .i64 1) ∧ Own D w w' [] := by
  refine hc_enter (vs := [.pointer none, .int .i64 i, v]) Try.func23 rfl _ Try.ntmps23 rfl (Own.start D w) ?_
  simp only [argSlots, Nat.zero_add]
  refine hc_seq <| hc_region <| ?_
  refine hl_new (on_box rfl) rfl rfl rfl (fun b5 => ?_)
  refine hl_v (ov_assign rfl) rfl <| hl_nil <| hx_then_normal <| hc_seq <| hc_seq <| hc_region <| ?_
  refine hl_v (ov_move rfl) rfl <| hl_v (ov_move rfl) rfl <| ?_
  refine hl_c Try.call48 rfl rfl (fun w1 H1 => Own.calln H1 fun D' hold hin H2 => has_nil D' w1 i) ?_
  refine hl_v (ov_not rfl) rfl <| hl_nil <| hx_then_normal <| hc_cond_true rfl <| hc_seq <| hc_region <| ?_
  refine hl_v (ov_assign rfl) rfl <| hl_nil <| hx_then_normal <| hc_ret <| hx_then_ret <| ?_
  exact results_1 (.inr rfl) rfl rfl fun w' H' => ⟨rfl, H'.ent (Ent.nil _)⟩
theorem Write_no (D : Nat → Prop) (w : World) (g : Nat) (i : Int) (s : Sec) (S : List Sec) (P : List (Nat × Sec)) (hi : ¬ (0 ≤ i ∧ i < S.length)) (H : Own D w w [dsk g S P]) :
    Calls Try.prog 23 #[.pointer (some ⟨g, 0, none⟩), .int .i64 i, .agg (secC s).toArray] w fun e w' => e = .returned (.int .i64 1) ∧ Own D w w' [dsk g S P] := by
  refine hc_enter (vs := [.pointer (some ⟨g, 0, none⟩), .int .i64 i, .agg (secC s).toArray]) Try.func23 rfl _ Try.ntmps23 rfl H ?_
  simp only [argSlots, Nat.zero_add]
  refine HC.exs ?_
  rintro ⟨⟨A0, c0⟩, A1, c1⟩
  refine HC.ent (l' := [blk g 100 [.slice A0 S.length c0, .slice A1 P.length c1], row A0 34 64 S.length c0 (S.flatMap secC), row A1 111 65 P.length c1 (P.flatMap latC)]) (fun _ h => h) ?_
  refine hc_seq <| hc_region <| ?_
  refine hl_new (on_boxG (cs := secC s) rfl) rfl rfl rfl (fun b5 => ?_)
  refine hl_v (ov_assign rfl) rfl <| hl_nil <| hx_then_normal <| hc_seq <| hc_seq <| hc_region <| ?_
  refine hl_v (ov_move rfl) rfl <| hl_v (ov_move rfl) rfl <| ?_
  refine hl_c Try.call48 rfl rfl (fun w1 H1 => Own.callp (blk g 100 [.slice A0 S.length c0, .slice A1 P.length c1]) H1 fun D' hold hin H2 => has_spec D' w1 g i A0 A1 _ c0 _ c1 H2) ?_
  refine hl_v (by first | exact ov_notd rfl | exact ov_not rfl) rfl <| ?_
  refine hl_nil <| hx_then_normal <| ?_
  refine hc_cond_T rfl (fun h => hi h) ?_
  refine hc_seq <| hc_region <| hl_v (ov_assign rfl) rfl <| hl_nil <| hx_then_normal <| hc_ret <| ?_
  refine hx_then_ret <| ?_
  exact results_1 (.inr rfl) rfl rfl fun w' H' => ⟨rfl, H'.ent (Ent.trans (by first | assumption | exact Ent.refl _ | exact Ent.nil _ | exact Ent.row_any (Ent.refl _) | (repeat (first | exact Ent.refl _ | exact Ent.nil _ | refine Ent.pick ?_))) (dsk_mk (A0 := A0) (c0 := c0) (A1 := A1) (c1 := c1)))⟩
theorem fill_lat (i : Nat) (s : Sec) : fillL (fun j => [(0, 1), (1, 64)][j]?) ([.int .i64 0] ++ List.replicate 64 (.int .u8 0)) [(0, .int .i64 (i : Int)), (1, .agg (secC s).toArray)] = some (latC (i, s)) := by
  have h : setSeg (.int .i64 (i : Int) :: List.replicate 64 (.int .u8 0)) 1 (secC s) = .int .i64 (i : Int) :: secC s := by
    have := setSeg_mid [.int .i64 (i : Int)] (List.replicate 64 (.int .u8 0)) [] (secC s) 1 rfl (by rw [secC_len]; simp)
    simpa using this
  simp only [fillL, Value.cells, List.getElem?_cons_zero, List.getElem?_cons_succ, List.size_toArray, secC_len]
  simp only [setSeg, List.length_cons, List.length_nil, List.cons_append, List.nil_append, List.length_replicate, List.set_cons_zero, h, and_self]
  simp [latC]
theorem fill_one (i : Nat) (s : Sec) : fillL (fun j => some (j * 65, 65)) (zerosL ([.int .i64 0] ++ List.replicate 64 (.int .u8 0)) 1) [(0, .agg (latC (i, s)).toArray)] = some (latC (i, s)) := by
  simp only [fillL, Value.cells, List.size_toArray, latC_len, Nat.zero_mul]
  rw [if_pos ⟨trivial, by rw [zerosL_length]; simp⟩, setSeg_all (by rw [latC_len, zerosL_length]; simp)]
theorem Write_ok (D : Nat → Prop) (w : World) (g : Nat) (i : Nat) (s : Sec) (S : List Sec) (P : List (Nat × Sec)) (hi : i < S.length) (hP : P.length ≤ 1000000) (H : Own D w w [dsk g S P]) :
    Calls Try.prog 23 #[.pointer (some ⟨g, 0, none⟩), .int .i64 i, .agg (secC s).toArray] w fun e w' => e = .returned (.int .i64 0) ∧ Own D w w' [dsk g S (P ++ [(i, s)])] := by
  refine hc_enter (vs := [.pointer (some ⟨g, 0, none⟩), .int .i64 i, .agg (secC s).toArray]) Try.func23 rfl _ Try.ntmps23 rfl H ?_
  simp only [argSlots, Nat.zero_add]
  refine HC.exs ?_
  rintro ⟨⟨A0, c0⟩, A1, c1⟩
  refine HC.ent (l' := [blk g 100 [.slice A0 S.length c0, .slice A1 P.length c1], row A0 34 64 S.length c0 (S.flatMap secC), row A1 111 65 P.length c1 (P.flatMap latC)]) (fun _ h => h) ?_
  refine hc_seq <| hc_region <| ?_
  refine hl_new (on_boxG (cs := secC s) rfl) rfl rfl rfl (fun b5 => ?_)
  refine hl_v (ov_assign rfl) rfl <| hl_nil <| hx_then_normal <| hc_seq <| hc_seq <| hc_region <| ?_
  refine hl_v (ov_move rfl) rfl <| hl_v (ov_move rfl) rfl <| ?_
  refine hl_c Try.call48 rfl rfl (fun w1 H1 => Own.callp (blk g 100 [.slice A0 S.length c0, .slice A1 P.length c1]) H1 fun D' hold hin H2 => has_spec D' w1 g i A0 A1 _ c0 _ c1 H2) ?_
  refine hl_v (by first | exact ov_notd rfl | exact ov_not rfl) rfl <| ?_
  refine hl_nil <| hx_then_normal <| ?_
  refine hc_cond_F rfl (by simp [hi]) ?_
  refine hc_skip <| hx_then_normal <| hc_seq <| ?_
  refine hc_cutK0 (σ := Option Addr × Nat) [] rfl  (fun q => [blk g 100 [.slice A0 S.length c0, .slice q.1 (P.length + 1) q.2], row A0 34 64 S.length c0 (S.flatMap secC), row q.1 111 65 (P.length + 1) q.2 ((P ++ [(i, s)]).flatMap latC)]) (fun K1 hK1 => ?_) (fun q => ?_)
  · refine HC.ent (Ent.trans (b := [blk b5 34 (secC s), blk g 100 [.slice A0 S.length c0, .slice A1 P.length c1], row A0 34 64 S.length c0 (S.flatMap secC), row A1 111 65 P.length c1 (P.flatMap latC)]) (by first | assumption | exact Ent.refl _ | exact Ent.nil _ | exact Ent.row_any (Ent.refl _) | (repeat (first | exact Ent.refl _ | exact Ent.nil _ | refine Ent.pick ?_))) (Ent.refl _)) ?_
    refine hc_any [blk b5 34 (secC s)] mixed 13 rfl ?_
    refine ha_v 0 rfl (ov_move rfl) rfl <| ?_
    refine ha_v 1 rfl (ov_move rfl) rfl <| ?_
    refine ha_v 2 rfl (ov_nil rfl) rfl <| ?_
    refine ha_v 3 rfl (ov_fieldA rfl) rfl <| ?_
    refine ha_v 5 rfl (ov_move rfl) rfl <| ?_
    refine ha_v 6 rfl (by first | exact ov_loadW rfl (by simp; done) | exact ov_loadGB rfl rfl) rfl <| ?_
    refine ha_v 7 rfl (ov_buildS (res := latC (i, s)) rfl (fill_lat i s)) rfl ?_
    refine ha_two 4 8 (by kernel_rfl) ?_ ?_
    · skip
      refine ho_v rfl (ov_load rfl (CellIs.blk rfl)) rfl ?_
      refine ha_one 8 (by kernel_rfl) <| ?_
      refine ho_n rfl (on_buildSlice (res := latC (i, s)) rfl rfl (fill_one i s)) rfl (fun b19 => ?_)
      refine ha_one 9 (by kernel_rfl) <| ?_
      refine ho_n rfl (on_appendR (A := A1) (news := latC (i, s)) rfl rfl (SrcIs.blk (b := b19)) (by rw [latC_len]) (latC_one _) (by decide) (by omega)) rfl ?_
      rintro ⟨B, cB⟩
      dsimp only
      refine ha_v 10 rfl (ov_nil rfl) rfl <| ?_
      refine ha_v 11 rfl (ov_fieldA rfl) rfl <| ?_
      refine ha_one 12 (by kernel_rfl) <| ?_
      refine ho_w0 rfl (on_storeN rfl rfl rfl rfl rfl) rfl ?_
      refine ha_done (by kernel_rfl) <| ?_
      exact hx_cut hK1 ((B, cB)) (by repeat (first | exact Slots.sub_nil _ | refine Slots.sub_cons rfl ?_)) (by rw [List.flatMap_append, List.flatMap_singleton]; exact (by first | assumption | exact Ent.refl _ | exact Ent.nil _ | exact Ent.row_any (Ent.refl _) | (repeat (first | exact Ent.refl _ | exact Ent.nil _ | refine Ent.pick ?_))))
    skip
    refine ho_n rfl (on_buildSlice (res := latC (i, s)) rfl rfl (fill_one i s)) rfl (fun b19 => ?_)
    refine ha_one 4 (by kernel_rfl) <| ?_
    refine ho_v rfl (ov_load rfl (CellIs.blk rfl)) rfl ?_
    refine ha_one 9 (by kernel_rfl) <| ?_
    refine ho_n rfl (on_appendR (A := A1) (news := latC (i, s)) rfl rfl (SrcIs.blk (b := b19)) (by rw [latC_len]) (latC_one _) (by decide) (by omega)) rfl ?_
    rintro ⟨B, cB⟩
    dsimp only
    refine ha_v 10 rfl (ov_nil rfl) rfl <| ?_
    refine ha_v 11 rfl (ov_fieldA rfl) rfl <| ?_
    refine ha_one 12 (by kernel_rfl) <| ?_
    refine ho_w0 rfl (on_storeN rfl rfl rfl rfl rfl) rfl ?_
    refine ha_done (by kernel_rfl) <| ?_
    exact hx_cut hK1 ((B, cB)) (by repeat (first | exact Slots.sub_nil _ | refine Slots.sub_cons rfl ?_)) (by rw [List.flatMap_append, List.flatMap_singleton]; exact (by first | assumption | exact Ent.refl _ | exact Ent.nil _ | exact Ent.row_any (Ent.refl _) | (repeat (first | exact Ent.refl _ | exact Ent.nil _ | refine Ent.pick ?_))))
  refine hx_then_normal <| hc_seq <| hc_region <| hl_v (ov_assign rfl) rfl <| hl_nil <| hx_then_normal <| ?_
  refine hc_ret <| ?_
  exact results_1 (.inr rfl) rfl rfl fun w' H' => ⟨rfl, H'.ent (by have := dsk_mk (tD := 100) (tL := 111) (g := g) (S := S) (P := P ++ [(i, s)]) (A0 := A0) (c0 := c0) (A1 := q.1) (c1 := q.2) (l := []); rw [List.length_append] at this; exact this)⟩
end Go.Proofs.Ytijaldfiaeafgaa
