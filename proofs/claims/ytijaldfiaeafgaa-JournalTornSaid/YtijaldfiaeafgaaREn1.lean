import Derived.Test.YtijaldfiaeafgaaEntR
import Derived.Test.YtijaldfiaeafgaaTalR
set_option linter.unusedVariables false
set_option linter.unusedSimpArgs false
namespace Go.Proofs.Ytijaldfiaeafgaa
open Slk
theorem Rfour_spec (D : Nat → Prop) (w : World) (n : Nat) (hn : n < 4294967296) :
    Calls Try.prog 76 #[.int .u32 n] w fun e w' => ∃ b : Nat, e = .returned (.slice (some ⟨b, 0, none⟩) 4 4) ∧ Own D w w' [row (some ⟨b, 0, none⟩) 5 1 4 4 ((fourB n).map u8v)] := by
  rw [fourB_cells]
  refine hc_enter (vs := [.int .u32 n]) Try.func76 rfl _ Try.ntmps76 rfl (Own.start D w) ?_
  simp only [argSlots, Nat.zero_add]
  refine hc_seq <| hc_region <| hl_v (ov_assign rfl) rfl <| hl_nil <| hx_then_normal <| hc_seq <| ?_
  refine hc_region <| hl_v (ov_move rfl) rfl <| ?_
  refine hl_v (ov_shr (m := ((n / 16777216 : Nat) : Int)) rfl rfl (by decide) (shr_nat n 24)) rfl ?_
  refine hl_v (ov_conv (m := ((n / 16777216 % 256 : Nat) : Int)) rfl (wrap8 _)) rfl ?_
  refine hl_v (ov_move rfl) rfl <| ?_
  refine hl_v (ov_shr (m := ((n / 65536 : Nat) : Int)) rfl rfl (by decide) (shr_nat n 16)) rfl ?_
  refine hl_v (ov_conv (m := ((n / 65536 % 256 : Nat) : Int)) rfl (wrap8 _)) rfl ?_
  refine hl_v (ov_move rfl) rfl <| ?_
  refine hl_v (ov_shr (m := ((n / 256 : Nat) : Int)) rfl rfl (by decide) (shr_nat n 8)) rfl ?_
  refine hl_v (ov_conv (m := ((n / 256 % 256 : Nat) : Int)) rfl (wrap8 _)) rfl ?_
  refine hl_v (ov_move rfl) rfl <| ?_
  refine hl_v (ov_conv (m := ((n % 256 : Nat) : Int)) rfl (wrap8 _)) rfl ?_
  refine hl_new (on_buildSliceN rfl rfl rfl) rfl rfl rfl fun b14 => 
    hl_v (ov_assign rfl) rfl <| hl_nil <| hx_then_normal <| hc_ret <| ?_
  exact results_1 (.inr rfl) rfl rfl fun w' H' => ⟨_, rfl, H'.ent (Ent.blk_row 1 4 rfl (by decide))⟩
theorem Rnum_spec (D : Nat → Prop) (w : World) (v : Value) (xs : List UInt8) (hl : xs.length ≤ 4) (HA : Old D w (Rep.rep xs [v])) :
    Calls Try.prog 71 #[v] w fun e w' => e = .returned (.int .u32 (numB xs)) ∧ Own D w w' [] := by
  obtain ⟨A, cap, rfl, hc1, hc2, HS⟩ := HA.openB
  refine hc_enter (vs := [.slice A xs.length cap]) Try.func71 rfl _ Try.ntmps71 rfl (Own.start D w) ?_
  simp only [argSlots, Nat.zero_add]
  refine hc_seq <| hc_region <| hl_v (ov_assign rfl) rfl <| hl_nil <| hx_then_normal <| hc_seq <| ?_
  refine hc_region <| hl_v (ov_assign rfl) rfl <| hl_nil <| hx_then_normal <| hc_seq <| hc_seq <| ?_
  refine hc_region <| hl_v (ov_assign rfl) rfl <| hl_nil <| hx_then_normal <| hc_block <| ?_
  refine hc_loops2 (σ := Nat) [0] rfl 4 (fun k => .int .i64 (k : Int)) 3 (fun k => .int .u32 ((numB (xs.take k) : Nat) : Int)) (fun k => k ≤ xs.length) (fun k => xs.length - k) (0) (Nat.zero_le _) rfl rfl ?_
  rintro k hj K1 hK1
  refine hc_seq <| hc_seq <| hc_region <| hl_v (ov_move rfl) rfl <| hl_v (ov_move rfl) rfl <| hl_v (by first | exact ov_len rfl | exact ov_lenS rfl) rfl <| ?_
  refine hl_v (ov_lss rfl rfl) rfl <| hl_nil <| hx_then_normal <| ?_
  refine hc_cond rfl (fun h => ?_) (fun h => ?_)
  · have hlt : k < xs.length := by omega
    have hA : isA A := HS.isA (by intro h; simp at h; subst h; simp at hlt)
    have hcell : CellIs D w [] (ab A) (ao A + k * 1) (u8v xs[k]) := by
      rw [Nat.mul_one]
      exact (SrcIs.old HS).cell (by simp [hlt])
    have hx := xs[k].toNat_lt
    have hsn := numB_snoc xs k hlt
    have hb := numB_lt xs k hj
    have hb3 : numB (xs.take k) < 16777216 := Nat.lt_of_lt_of_le hb (by have : 256 ^ k ≤ 256 ^ 3 := Nat.pow_le_pow_right (by decide) (by omega); exact this)
    obtain ⟨m, hm⟩ : ∃ m, m = numB (xs.take k) := ⟨_, rfl⟩
    rw [← hm] at hsn hb3
    unfold u8v at hcell
    refine hc_skip <| hx_then_normal <| hc_seq <| hc_block <| hc_region <| hl_v (ov_move rfl) rfl <| ?_
    refine hl_v (ov_shl (m := ((m * 256 : Nat) : Int)) rfl rfl (by decide) (by rw [← hm]; show IntKind.u32.wrap ((m : Int) * 256) = _; rw [show (m : Int) * 256 = ((m * 256 : Nat) : Int) by omega]; exact wrap_u32 (by omega))) rfl ?_
    refine hl_v (ov_move rfl) rfl <| hl_v (ov_move rfl) rfl <| ?_
    refine hl_v (ov_idxS rfl hA rfl k rfl hlt) rfl ?_
    refine hl_v (ov_load rfl hcell) rfl ?_
    refine hl_v (ov_conv rfl (by first | exact wrap_u32 (by omega) | rfl)) rfl <| ?_
    refine hl_v (ov_add (m := ((numB (xs.take (k + 1)) : Nat) : Int)) rfl rfl (by rw [hsn]; exact (wrap_u32 (by omega)).trans (by omega))) rfl ?_
    refine hl_v (ov_assign rfl) rfl <| hl_nil <| hx_block_normal <| hx_then_normal <| hc_region <| hl_v (ov_move rfl) rfl <| ?_
    refine hl_v (ov_add rfl rfl (by first | exact wrap_i64 (by omega) | rfl)) rfl <| ?_
    refine hl_v (ov_assign rfl) rfl <| hl_nil <| ?_
    refine hx_next hK1 (k + 1) (by omega) (by omega) (by repeat (first | exact Slots.sub_nil _ | refine Slots.sub_cons rfl ?_)) (by first | assumption | exact Ent.refl _ | exact Ent.nil _ | (repeat (first | exact Ent.refl _ | exact Ent.nil _ | refine Ent.pick ?_)))
  have : k = xs.length := by omega
  subst this
  refine hc_exit <| hx_then_exit <| hx_then_exit <| hx_block_out <| hx_then_normal <| hc_seq <| ?_
  refine hc_region <| hl_v (ov_move rfl) rfl <| hl_v (ov_assign rfl) rfl <| hl_nil <| hx_then_normal <| hc_ret <| ?_
  exact results_1 (.inr rfl) rfl rfl fun w' H' => ⟨by rw [List.take_length], H'⟩
theorem RNeed_spec (D : Nat → Prop) (w : World) (n : Int) :
    Calls Try.prog 72 #[.int .i64 n] w fun e w' => e = .returned (.int .i64 (needN n)) ∧ Own D w w' [] := by
  refine hc_enter (vs := [.int .i64 n]) Try.func72 rfl _ Try.ntmps72 rfl (Own.start D w) ?_
  simp only [argSlots, Nat.zero_add]
  refine hc_seq <| hc_region <| hl_v (ov_assign rfl) rfl <| hl_nil <| hx_then_normal <| hc_seq <| ?_
  refine hc_seq <| hc_region <| hl_v (ov_move rfl) rfl <| hl_v (ov_lss rfl rfl) rfl <| hl_v (ov_move rfl) rfl <| ?_
  refine hl_part (t := 5) rfl (fun h0 => ?_) (fun h0 => ?_)
  · have : needN n = 0 := by unfold needN; rw [if_pos (.inl h0)]
    rw [this]
    refine hl_off rfl rfl rfl rfl rfl rfl <| hl_off rfl rfl rfl rfl rfl rfl <| hl_v (ov_pickT rfl rfl) rfl <| hl_nil <| hx_then_normal <| hc_cond_true rfl <| ?_
    refine hc_seq <| hc_region <| hl_v (ov_assign rfl) rfl <| hl_nil <| hx_then_normal <| hc_ret <| ?_
    refine hx_then_ret <| ?_
    exact results_1 (.inr rfl) rfl rfl fun w' H' => ⟨rfl, H'⟩
  refine hl_on rfl rfl <| hl_v (ov_move rfl) rfl <| hl_on rfl rfl <| hl_v (ov_gtr rfl rfl) rfl <| hl_v (ov_pickF rfl rfl) rfl <| hl_nil <| hx_then_normal <| ?_
  refine hc_cond rfl (fun h1 => ?_) (fun h1 => ?_)
  · have : needN n = 0 := by unfold needN; rw [if_pos (.inr (by omega))]
    rw [this]
    refine hc_seq <| hc_region <| hl_v (ov_assign rfl) rfl <| hl_nil <| hx_then_normal <| hc_ret <| ?_
    refine hx_then_ret <| ?_
    exact results_1 (.inr rfl) rfl rfl fun w' H' => ⟨rfl, H'⟩
  have : needN n = (n + 77) / 63 := by unfold needN; rw [if_neg (by omega)]
  rw [this]
  refine hc_skip <| hx_then_normal <| hc_seq <| hc_region <| hl_v (ov_move rfl) rfl <| hl_v (ov_add rfl rfl (by first | exact wrap_i64 (by omega) | rfl)) rfl <| ?_
  refine hl_v (ov_add rfl rfl (by first | exact wrap_i64 (by omega) | rfl)) rfl <| ?_
  refine hl_v (ov_quo (m := (n + 77) / 63) rfl rfl (by decide) (by rw [Int.tdiv_eq_ediv_of_nonneg (by omega)]; rw [show n + 15 + 62 = n + 77 by omega]; exact wrap_i64 (by omega))) rfl ?_
  refine hl_v (ov_assign rfl) rfl <| hl_nil <| hx_then_normal <| hc_ret <| ?_
  exact results_1 (.inr rfl) rfl rfl fun w' H' => ⟨rfl, H'⟩
theorem Rbytes_spec (D : Nat → Prop) (w : World) (k a b : Nat) (v : Value) (xs : List UInt8) (hk : k < 256) (ha : a < 4294967296) (hb : b < 4294967296) (hx : xs.length ≤ 4000) (HA : Old D w (Rep.rep xs [v])) :
    Calls Try.prog 67 #[.agg #[.int .i64 k, .int .u32 a, .int .u32 b, v]] w fun e w' => ∃ q : Option Addr × Nat, e = .returned (.slice q.1 (15 + xs.length) q.2) ∧ Own D w w' [row q.1 5 1 (15 + xs.length) q.2 ((fullB k a b xs).map u8v)] := by
  obtain ⟨A, cap, rfl, hc1, hc2, HS⟩ := HA.openB
  have hk8 : [Value.int .u8 (k : Int)] = [UInt8.ofNat k].map u8v := by rw [u8_small k hk]; rfl
  have hl8 : [Value.int .u8 ((xs.length / 256 : Nat) : Int), Value.int .u8 ((xs.length % 256 : Nat) : Int)] = [UInt8.ofNat (xs.length / 256), UInt8.ofNat xs.length].map u8v := by
    rw [u8_small (xs.length / 256) (by omega), ← u8v_ofNat]; rfl
  obtain ⟨F1, hF1e⟩ : ∃ F, F = [UInt8.ofNat k] ++ fourB a := ⟨_, rfl⟩
  obtain ⟨F2, hF2e⟩ : ∃ F, F = F1 ++ fourB b := ⟨_, rfl⟩
  obtain ⟨F3, hF3e⟩ : ∃ F, F = F2 ++ [UInt8.ofNat (xs.length / 256), UInt8.ofNat xs.length] := ⟨_, rfl⟩
  obtain ⟨F4, hF4e⟩ : ∃ F, F = F3 ++ xs := ⟨_, rfl⟩
  have hpre : F4 = preB k a b xs := by rw [hF4e, hF3e, hF2e, hF1e]; simp [preB, preL]
  have hF1 : [Value.int .u8 (k : Int)] ++ (fourB a).map u8v = F1.map u8v := by rw [hF1e, List.map_append, ← hk8]
  have hF2 : F1.map u8v ++ (fourB b).map u8v = F2.map u8v := by rw [hF2e, List.map_append]
  have hF3 : F2.map u8v ++ [Value.int .u8 ((xs.length / 256 : Nat) : Int), Value.int .u8 ((xs.length % 256 : Nat) : Int)] = F3.map u8v := by rw [hF3e, List.map_append, ← hl8]
  have hF4 : F3.map u8v ++ xs.map u8v = F4.map u8v := by rw [hF4e, List.map_append]
  have hF4l : F4.length = 11 + xs.length := by rw [hpre]; exact preB_length k a b xs
  refine hc_enter (vs := [.agg #[.int .i64 k, .int .u32 a, .int .u32 b, .slice A xs.length cap]]) Try.func67 rfl _ Try.ntmps67 rfl (Own.start D w) ?_
  simp only [argSlots, Nat.zero_add]
  refine hc_seq <| hc_region <| hl_new (on_boxN rfl rfl) rfl rfl rfl fun b1 =>  ?_
  refine hl_v (ov_assign rfl) rfl <| hl_nil <| hx_then_normal <| hc_seq <| ?_
  refine hc_cutK1 (σ := Option Addr × Nat) [1] rfl 3 (fun q => .slice q.1 5 q.2) (fun q => [row q.1 5 1 5 q.2 (F1.map u8v), blk b1 118 [.int .i64 k, .int .u32 a, .int .u32 b, .slice A xs.length cap]]) (fun K1 hK1 => ?_) (fun q => ?_)
  · refine hc_any [blk b1 118 [.int .i64 k, .int .u32 a, .int .u32 b, .slice A xs.length cap]] mixed 9 rfl ?_
    refine ha_v 0 rfl (ov_fieldA rfl) rfl <| ?_
    refine ha_v 1 rfl (ov_load rfl (CellIs.blk rfl)) rfl <| ?_
    refine ha_v 4 rfl (ov_fieldA rfl) rfl <| ?_
    refine ha_v 5 rfl (ov_load rfl (CellIs.blk rfl)) rfl <| ?_
    refine ha_v 2 rfl (ov_conv (m := (k : Int)) rfl (wrap_u8 (by omega))) rfl ?_
    refine ha_two 3 6 (by kernel_rfl) ?_ ?_
    · skip
      refine ho_n rfl (on_buildSliceN rfl rfl rfl) rfl fun b7 =>  ?_
      refine ha_one 6 (by kernel_rfl) <| ?_
      refine ho_kx (σ := Nat) rfl Try.call76 rfl (fun w1 H1 => Own.callx0 H1 fun D' hold hin H2 => Rfour_spec D' w1 a ha) ?_
      intro q10
      try rw [List.nil_append]
      refine ha_one 7 (by kernel_rfl) <| ?_
      first | refine ho_ent (Ent.blk_row (b := b7) 1 1 rfl (by decide)) ?_ | refine ho_ent (Ent.trans (Ent.perm (List.Perm.swap _ _ _)) (Ent.blk_row (b := b7) 1 1 rfl (by decide))) ?_
      refine ho_n rfl (on_appendR (A := some ⟨b7, 0, none⟩) (news := (fourB a).map u8v) rfl rfl (SrcIs.rowR (A := some ⟨q10, 0, none⟩) (fun _ => rfl)) (by simp [fourB]) (u8_one _) (by decide) (by decide)) rfl (fun q => ?_)
      rw [hF1]
      refine ha_v 8 rfl (ov_assign rfl) rfl <| ?_
      refine ha_done (by kernel_rfl) <| ?_
      refine hx_cut hK1 (q) (by repeat (first | exact Slots.sub_nil _ | refine Slots.sub_cons rfl ?_)) (by first | assumption | exact Ent.refl _ | exact Ent.nil _ | (repeat (first | exact Ent.refl _ | exact Ent.nil _ | refine Ent.pick ?_)))
    skip
    refine ho_kx (σ := Nat) rfl Try.call76 rfl (fun w1 H1 => Own.callx0 H1 fun D' hold hin H2 => Rfour_spec D' w1 a ha) ?_
    intro q10
    try rw [List.nil_append]
    refine ha_one 3 (by kernel_rfl) <| ?_
    refine ho_n rfl (on_buildSliceN rfl rfl rfl) rfl fun b7 =>  ?_
    refine ha_one 7 (by kernel_rfl) <| ?_
    first | refine ho_ent (Ent.blk_row (b := b7) 1 1 rfl (by decide)) ?_ | refine ho_ent (Ent.trans (Ent.perm (List.Perm.swap _ _ _)) (Ent.blk_row (b := b7) 1 1 rfl (by decide))) ?_
    refine ho_n rfl (on_appendR (A := some ⟨b7, 0, none⟩) (news := (fourB a).map u8v) rfl rfl (SrcIs.rowR (A := some ⟨q10, 0, none⟩) (fun _ => rfl)) (by simp [fourB]) (u8_one _) (by decide) (by decide)) rfl (fun q => ?_)
    rw [hF1]
    refine ha_v 8 rfl (ov_assign rfl) rfl <| ?_
    refine ha_done (by kernel_rfl) <| ?_
    refine hx_cut hK1 (q) (by repeat (first | exact Slots.sub_nil _ | refine Slots.sub_cons rfl ?_)) (by first | assumption | exact Ent.refl _ | exact Ent.nil _ | (repeat (first | exact Ent.refl _ | exact Ent.nil _ | refine Ent.pick ?_)))
  refine hx_then_normal <| hc_seq <| hc_region <| hl_v (ov_move rfl) rfl <| hl_v (ov_fieldA rfl) rfl <| hl_v (ov_load rfl (CellIs.blk rfl)) rfl <| ?_
  refine hl_call (σ := Nat) Try.call76 rfl rfl (fun w1 H1 => Own.callx0 H1 fun D' hold hin H2 => Rfour_spec D' w1 b hb) ?_
  intro q15
  try rw [List.nil_append]
  refine hl_new (on_appendR (A := q.1) (news := (fourB b).map u8v) rfl rfl (SrcIs.rowR (A := some ⟨q15, 0, none⟩) (fun _ => rfl)) (by simp [fourB]) (u8_one _) (by decide) (by decide)) rfl rfl rfl (fun q2 => ?_)
  rw [hF2]
  refine hl_v (ov_assign rfl) rfl <| hl_nil <| hx_then_normal <| hc_seq <| hc_region <| hl_v (ov_move rfl) rfl <| ?_
  refine hl_v (ov_fieldA rfl) rfl <| hl_v (ov_load rfl (CellIs.blk rfl)) rfl <| hl_v (by first | exact ov_len rfl | exact ov_lenS rfl) rfl <| ?_
  refine hl_v (ov_shr (m := ((xs.length / 256 : Nat) : Int)) rfl rfl (by decide) (shr_nat _ 8)) rfl ?_
  refine hl_v (ov_conv (m := ((xs.length / 256 : Nat) : Int)) rfl (wrap_u8 (by omega))) rfl ?_
  refine hl_v (ov_fieldA rfl) rfl <| hl_v (ov_load rfl (CellIs.blk rfl)) rfl <| hl_v (by first | exact ov_len rfl | exact ov_lenS rfl) rfl <| ?_
  refine hl_v (ov_conv (m := ((xs.length % 256 : Nat) : Int)) rfl (wrap8 _)) rfl ?_
  refine hl_new (on_buildSliceN rfl rfl rfl) rfl rfl rfl fun b27 =>  ?_
  refine hl_new (on_appendR (A := q2.1) (news := [Value.int .u8 ((xs.length / 256 : Nat) : Int), Value.int .u8 ((xs.length % 256 : Nat) : Int)]) rfl rfl (SrcIs.blk (b := b27)) rfl (by rw [hl8]; exact u8_one _) (by decide) (by decide)) rfl rfl rfl (fun q3 => ?_)
  rw [hF3]
  refine hl_v (ov_assign rfl) rfl <| hl_nil <| hx_then_normal <| hc_seq <| hc_region <| hl_v (ov_move rfl) rfl <| ?_
  refine hl_v (ov_fieldA rfl) rfl <| hl_v (ov_load rfl (CellIs.blk rfl)) rfl <| ?_
  refine hl_new (on_appendR (A := q3.1) (news := xs.map u8v) rfl rfl (SrcIs.old HS) (by rw [List.length_map, Nat.mul_one]) (u8_one _) (by decide) (by omega)) rfl rfl rfl (fun q4 => ?_)
  rw [hF4]
  refine hl_v (ov_assign rfl) rfl <| hl_nil <| hx_then_normal <| hc_seq <| hc_region <| hl_v (ov_move rfl) rfl <| ?_
  refine hl_v (ov_move rfl) rfl <| hl_new (on_buildSliceN rfl rfl rfl) rfl rfl rfl fun b35 =>  ?_
  refine hl_c Try.call77 rfl rfl (fun w1 H1 => Own.calln H1 fun D' hold hin H2 => RSum_spec D' w1 _ [F4] (hin _ fun h hs ho => rep_lits (b := b35) hs _ ⟨[_], [], rfl, rep_row (A := q4.1) hs F4 (by omega) (repL_bytes.2 rfl), rfl⟩ (by simp))) ?_
  refine hl_call (σ := Nat) Try.call76 rfl rfl (fun w1 H1 => Own.callx0 H1 fun D' hold hin H2 => Rfour_spec D' w1 (Sm [F4]) (Sm_lt _)) ?_
  intro q37
  try rw [List.nil_append]
  refine hl_new (on_appendR (A := q4.1) (news := (fourB (Sm [F4])).map u8v) rfl rfl (SrcIs.rowR (A := some ⟨q37, 0, none⟩) (fun _ => rfl)) (by simp [fourB]) (u8_one _) (by decide) (by omega)) rfl rfl rfl (fun q5 => ?_)
  refine hl_v (ov_assign rfl) rfl <| hl_nil <| hx_then_normal <| hc_ret <| ?_
  have e1 : 5 + 4 + 2 + xs.length + 4 = 15 + xs.length := by omega
  have e2 : F4.map u8v ++ (fourB (Sm [F4])).map u8v = (fullB k a b xs).map u8v := by rw [fullB, ← hpre, List.map_append]
  rw [e1, e2]
  exact results_1 (.inr rfl) rfl rfl fun w' H' => ⟨q5, rfl, H'.ent (by first | assumption | exact Ent.refl _ | exact Ent.nil _ | exact Ent.row_any (Ent.refl _) | (repeat (first | exact Ent.refl _ | exact Ent.nil _ | refine Ent.pick ?_)))⟩
end Go.Proofs.Ytijaldfiaeafgaa
