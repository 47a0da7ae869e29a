import Derived.Test.YtijaldfiaeafgaaREn1
set_option linter.unusedVariables false
set_option linter.unusedSimpArgs false
namespace Go.Proofs.Ytijaldfiaeafgaa
open Slk
set_option maxHeartbeats 1000000 in
theorem REnc_ok (D : Nat → Prop) (w : World) (k a b : Nat) (v : Value) (xs : List UInt8) (hk : k < 256) (ha : a < 4294967296) (hb : b < 4294967296) (hx : xs.length ≤ 4000) (HA : Old D w (Rep.rep xs [v])) :
    Calls Try.prog 55 #[.agg #[.int .i64 k, .int .u32 a, .int .u32 b, v]] w fun e w' => ∃ q : Option Addr × Nat, e = .returned (.tuple #[.slice q.1 ((15 + xs.length + 62) / 63) q.2, .int .i64 0]) ∧ Own D w w' [row q.1 34 64 ((15 + xs.length + 62) / 63) q.2 ((encS (fullB k a b xs)).flatMap secC)] := by
  obtain ⟨Ax, capx, rfl, hc1, hc2, HS⟩ := HA.openB
  obtain ⟨F, hF⟩ : ∃ F, F = fullB k a b xs := ⟨_, rfl⟩
  have hFl : F.length = 15 + xs.length := by rw [hF]; exact fullB_length _ _ _ _
  have hS : encS F = secsTo F ((15 + xs.length + 62) / 63) := by rw [← hFl]; rfl
  rw [← hF, hS]
  obtain ⟨n, hn⟩ : ∃ n, n = 15 + xs.length := ⟨_, rfl⟩
  refine hc_enter (vs := [.agg #[.int .i64 k, .int .u32 a, .int .u32 b, .slice Ax xs.length capx]]) Try.func55 rfl _ Try.ntmps55 rfl (Own.start D w) ?_
  simp only [argSlots, Nat.zero_add]
  refine hc_seq <| hc_region <| hl_new (on_boxN rfl rfl) rfl rfl rfl fun b1 =>  ?_
  refine hl_v (ov_assign rfl) rfl <| hl_v (ov_assign rfl) rfl <| hl_nil <| hx_then_normal <| hc_seq <| hc_seq <| ?_
  refine hc_region <| hl_v (ov_fieldA rfl) rfl <| hl_v (ov_load rfl (CellIs.blk rfl)) rfl <| hl_v (ov_lss rfl rfl) rfl <| hl_v (ov_move rfl) rfl <| ?_
  refine hl_partF (t := 11) rfl ((by omega)) ?_
  refine hl_on rfl rfl <| hl_v (ov_fieldA rfl) rfl <| hl_on rfl rfl <| hl_v (ov_load rfl (CellIs.blk rfl)) rfl <| hl_on rfl rfl <| hl_v (ov_gtr rfl rfl) rfl <| hl_v (ov_pickF rfl rfl) rfl <| hl_nil <| hx_then_normal <| ?_
  refine hc_cond_F rfl ((by omega)) ?_
  refine hc_skip <| hx_then_normal <| hc_seq <| hc_seq <| hc_region <| hl_v (ov_fieldA rfl) rfl <| ?_
  refine hl_v (ov_load rfl (CellIs.blk rfl)) rfl <| hl_v (by first | exact ov_len rfl | exact ov_lenS rfl) rfl <| ?_
  refine hl_v (ov_gtr rfl rfl) rfl <| hl_nil <| hx_then_normal <| ?_
  refine hc_cond_F rfl ((by omega)) ?_
  refine hc_skip <| hx_then_normal <| hc_seq <| hc_region <| hl_v (by first | exact ov_loadW rfl (by simp; done) | exact ov_loadGB rfl rfl) rfl <| ?_
  refine hl_call (σ := Option Addr × Nat) Try.call67 rfl rfl (fun w1 H1 => Own.callx0 H1 fun D' hold hin H2 => Rbytes_spec D' w1 k a b _ xs hk ha hb hx (hold _ HA)) ?_
  rintro ⟨A, c⟩
  try rw [List.nil_append]
  rw [← hn] at hFl
  rw [← hF, ← hn]
  dsimp only
  refine HL.fact (fun w H => Own.factR A H) ?_
  rintro ⟨hrl, hnc, hcc, hA⟩
  have hA : isA A := hA (by intro h; have := congrArg List.length h; simp [hFl] at this; omega)
  refine hl_v (ov_assign rfl) rfl <| hl_nil <| hx_then_normal <| hc_seq <| hc_region <| hl_v (ov_assign rfl) rfl <| ?_
  refine hl_nil <| hx_then_normal <| hc_seq <| hc_seq <| hc_region <| hl_v (ov_assign rfl) rfl <| ?_
  refine hl_nil <| hx_then_normal <| hc_block <| ?_
  refine hc_loopK2 (σ := Nat × Option Addr × Nat) [4] rfl 6 (fun s => .int .i64 ((63 * s.1 : Nat) : Int)) 5 (fun s => .slice s.2.1 s.1 s.2.2) (fun s => [row s.2.1 34 64 s.1 s.2.2 ((secsTo F s.1).flatMap secC), row A 5 1 n c (F.map u8v)]) (fun s => s.1 ≤ (n + 62) / 63) (fun s => (n + 62) / 63 - s.1) ((0, none, 0)) (Nat.zero_le _) rfl rfl (Ent.trans (Ent.nil_row 34 64) (show Ent _ [row none 34 64 0 0 [], row A 5 1 n c (F.map u8v)] from (by first | assumption | exact Ent.refl _ | exact Ent.nil _ | exact Ent.row_any (Ent.refl _) | (repeat (first | exact Ent.refl _ | exact Ent.nil _ | refine Ent.pick ?_))))) ?_
  rintro ⟨i, qo⟩ hi K1 hK1
  dsimp only at hi ⊢
  refine hc_seq <| hc_seq <| hc_region <| hl_v (ov_move rfl) rfl <| hl_v (ov_move rfl) rfl <| hl_v (by first | exact ov_len rfl | exact ov_lenS rfl) rfl <| ?_
  refine hl_v (ov_lss rfl rfl) rfl <| hl_nil <| hx_then_normal <| ?_
  refine hc_cond rfl (fun h => ?_) (fun h => ?_)
  · have hin : 63 * i < n := by omega
    have hi1 : i + 1 ≤ (n + 62) / 63 := by omega
    obtain ⟨m, hm⟩ : ∃ m, m = min 63 (n - 63 * i) := ⟨_, rfl⟩
    have hm63 : m ≤ 63 := by omega
    have hsn : (secsTo F i).flatMap secC ++ secC (secOf F i) = (secsTo F (i + 1)).flatMap secC := by rw [secsTo_snoc]; simp
    refine hc_skip <| hx_then_normal <| hc_seq <| hc_block <| hc_seq <| hc_region <| ?_
    refine hl_new (on_alloc) rfl rfl rfl fun b7 => 
      hl_nil <| hx_then_normal <| hc_seq <| hc_region <| hl_v (ov_idxPc rfl rfl rfl rfl rfl) rfl <| ?_
    refine hl_u0 (on_storeE (.int .u8 119 :: List.replicate 63 (.int .u8 0)) rfl rfl (by simp) rfl rfl) rfl rfl ?_
    refine hl_nil <| hx_then_normal <| hc_seq <| hc_seq <| hc_region <| hl_v (ov_move rfl) rfl <| ?_
    refine hl_v (ov_eql rfl rfl) rfl <| hl_nil <| hx_then_normal <| ?_
    by_cases hi0 : i = 0
    · have hcp : setSeg (.int .u8 87 :: List.replicate 63 (.int .u8 0)) (0 + 1 * 1) ((piece F i).map u8v) = secC (secOf F i) := by rw [copy_piece, secOf_cells, markK, if_pos hi0]; rfl
      refine hc_cond_T rfl ((by omega)) ?_
      refine hc_region <| hl_v (ov_idxPc rfl rfl rfl rfl rfl) rfl <| ?_
      refine hl_u0 (on_storeE (.int .u8 87 :: List.replicate 63 (.int .u8 0)) rfl rfl (by simp) rfl rfl) rfl rfl ?_
      refine hl_nil <| hx_then_normal <| hc_seq <| ?_
      refine hc_tail 9 mixed (by kernel_rfl) ?_
      refine ht_v (ov_sliceP rfl 1 64 (.inr ⟨_, _, rfl, rfl⟩) (.inl ⟨rfl, rfl⟩) (by decide) (by decide) (by decide)) rfl ?_
      refine ht_v (ov_move rfl) rfl <| ht_v (ov_move rfl) rfl <| ht_v (ov_move rfl) rfl <| ?_
      refine ht_v (ov_add (m := ((63 * i + 63 : Nat) : Int)) rfl rfl ((wrap_i64 (by omega)).trans (by omega))) rfl ?_
      refine ht_v (ov_move rfl) rfl <| ht_v (by first | exact ov_len rfl | exact ov_lenS rfl) rfl <| ?_
      refine ht_v (ov_min (m := ((63 * i + m : Nat) : Int)) rfl rfl (by split <;> omega)) rfl ?_
      refine ht_v (ov_slice rfl (63 * i) (63 * i + m) (.inr ⟨_, _, rfl, rfl⟩) (.inr ⟨_, _, rfl, rfl⟩) (by omega) (by omega)) rfl ?_
      refine ht_nil <| ?_
      refine hl_u (on_copy (news := (piece F i).map u8v) rfl rfl (SrcIs.rowCut (A := A) hA (63 * i) m (by omega) hrl hnc (take_map_u8 F i m (by rw [hFl]; exact hm))) (by rw [List.length_map, piece_length, hFl, ← hm, Nat.mul_one]; omega) (by omega) (by rw [List.length_map, piece_length, hFl, ← hm]; simp; omega) (u8_one _)) rfl rfl rfl ?_
      rw [hcp]
      refine hl_nil <| hx_then_normal <| hc_region <| hl_v (ov_move rfl) rfl <| ?_
      refine hl_v (ov_loadW rfl (secC_len (secOf F i))) rfl ?_
      refine hl_new (on_buildSlice (res := secC (secOf F i)) rfl rfl (fill_sec1 _)) rfl rfl rfl (fun b44 => ?_)
      refine hl_new (on_appendR (A := qo.1) (news := secC (secOf F i)) rfl rfl (SrcIs.blk (b := b44)) (by rw [secC_len]) (secC_one _) (by decide) (by omega)) rfl rfl rfl (fun q2 => ?_)
      rw [hsn]
      refine hl_v (ov_assign rfl) rfl <| hl_nil <| hx_block_normal <| hx_then_normal <| hc_region <| hl_v (ov_move rfl) rfl <| ?_
      refine hl_v (ov_add rfl rfl (by first | exact wrap_i64 (by omega) | rfl)) rfl <| ?_
      refine hl_v (ov_assign rfl) rfl <| hl_nil <| ?_
      refine hx_next hK1 ((i + 1, q2)) (hi1) (by omega) (by repeat (first | exact Slots.sub_nil _ | refine Slots.sub_cons rfl ?_)) (by first | assumption | exact Ent.refl _ | exact Ent.nil _ | (repeat (first | exact Ent.refl _ | exact Ent.nil _ | refine Ent.pick ?_)))
    have hcp : setSeg (.int .u8 119 :: List.replicate 63 (.int .u8 0)) (0 + 1 * 1) ((piece F i).map u8v) = secC (secOf F i) := by rw [copy_piece, secOf_cells, markK, if_neg hi0]; rfl
    refine hc_cond_F rfl ((by omega)) ?_
    refine hc_skip <| hx_then_normal <| hc_seq <| ?_
    refine hc_tail 9 mixed (by kernel_rfl) ?_
    refine ht_v (ov_sliceP rfl 1 64 (.inr ⟨_, _, rfl, rfl⟩) (.inl ⟨rfl, rfl⟩) (by decide) (by decide) (by decide)) rfl ?_
    refine ht_v (ov_move rfl) rfl <| ht_v (ov_move rfl) rfl <| ht_v (ov_move rfl) rfl <| ?_
    refine ht_v (ov_add (m := ((63 * i + 63 : Nat) : Int)) rfl rfl ((wrap_i64 (by omega)).trans (by omega))) rfl ?_
    refine ht_v (ov_move rfl) rfl <| ht_v (by first | exact ov_len rfl | exact ov_lenS rfl) rfl <| ?_
    refine ht_v (ov_min (m := ((63 * i + m : Nat) : Int)) rfl rfl (by split <;> omega)) rfl ?_
    refine ht_v (ov_slice rfl (63 * i) (63 * i + m) (.inr ⟨_, _, rfl, rfl⟩) (.inr ⟨_, _, rfl, rfl⟩) (by omega) (by omega)) rfl ?_
    refine ht_nil <| ?_
    refine hl_u (on_copy (news := (piece F i).map u8v) rfl rfl (SrcIs.rowCut (A := A) hA (63 * i) m (by omega) hrl hnc (take_map_u8 F i m (by rw [hFl]; exact hm))) (by rw [List.length_map, piece_length, hFl, ← hm, Nat.mul_one]; omega) (by omega) (by rw [List.length_map, piece_length, hFl, ← hm]; simp; omega) (u8_one _)) rfl rfl rfl ?_
    rw [hcp]
    refine hl_nil <| hx_then_normal <| hc_region <| hl_v (ov_move rfl) rfl <| ?_
    refine hl_v (ov_loadW rfl (secC_len (secOf F i))) rfl ?_
    refine hl_new (on_buildSlice (res := secC (secOf F i)) rfl rfl (fill_sec1 _)) rfl rfl rfl (fun b44 => ?_)
    refine hl_new (on_appendR (A := qo.1) (news := secC (secOf F i)) rfl rfl (SrcIs.blk (b := b44)) (by rw [secC_len]) (secC_one _) (by decide) (by omega)) rfl rfl rfl (fun q2 => ?_)
    rw [hsn]
    refine hl_v (ov_assign rfl) rfl <| hl_nil <| hx_block_normal <| hx_then_normal <| hc_region <| hl_v (ov_move rfl) rfl <| ?_
    refine hl_v (ov_add rfl rfl (by first | exact wrap_i64 (by omega) | rfl)) rfl <| ?_
    refine hl_v (ov_assign rfl) rfl <| hl_nil <| ?_
    refine hx_next hK1 ((i + 1, q2)) (hi1) (by omega) (by repeat (first | exact Slots.sub_nil _ | refine Slots.sub_cons rfl ?_)) (by first | assumption | exact Ent.refl _ | exact Ent.nil _ | (repeat (first | exact Ent.refl _ | exact Ent.nil _ | refine Ent.pick ?_)))
  obtain rfl : i = (n + 62) / 63 := by omega
  refine hc_exit <| hx_then_exit <| hx_then_exit <| hx_block_out <| hx_then_normal <| hc_seq <| ?_
  refine hc_region <| hl_v (ov_move rfl) rfl <| hl_v (ov_assign rfl) rfl <| hl_v (ov_assign rfl) rfl <| hl_nil <| hx_then_normal <| ?_
  refine hc_ret <| ?_
  exact results_2 (.inr rfl) rfl rfl rfl fun w' H' => ⟨qo, rfl, H'.ent (by first | assumption | exact Ent.refl _ | exact Ent.nil _ | exact Ent.row_any (Ent.refl _) | (repeat (first | exact Ent.refl _ | exact Ent.nil _ | refine Ent.pick ?_)))⟩
end Go.Proofs.Ytijaldfiaeafgaa
