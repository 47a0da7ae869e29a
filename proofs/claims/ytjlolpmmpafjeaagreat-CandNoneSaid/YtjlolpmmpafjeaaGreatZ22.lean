import Derived.Test.YtjlolpmmpafjeaaGreatZ21
import Derived.Test.YtjlolpmmpafjeaaGreatZ20
set_option linter.unusedVariables false
set_option linter.unusedSimpArgs false
namespace Go.Proofs.YtjlolpmmpafjeaaGreat
open Slk
set_option maxHeartbeats 2000000 in
theorem JOpen_ok (D : Nat → Prop) (w : World) (g : Nat) (S : List Sec) (from_ to_ N : Nat) (T : List Sec) (ep : Nat) (hto : to_ ≤ S.length) (hS : S.length ≤ 100000) (hN : from_ + N = to_) (hN0 : 0 < N) (hT : T = (S.drop from_).take N) (H : Own D w w [dsk g S []]) :
    Calls Tryz.prog 47 #[.pointer (some ⟨g, 0, none⟩), .int .i64 (from_ : Int), .int .i64 (to_ : Int), .int .u32 (ep : Int)] w fun e w' => ∃ jb : Nat, e = .returned (.tuple #[.pointer (some ⟨jb, 0, none⟩), .int .i64 0]) ∧ Own D w w' [jou jb g from_ to_ ep (from_ + (entsF ep N 0 T).2) (entsF ep N 0 T).1, dsk g S []] := by
  have hTl : T.length = N := by rw [hT, List.length_take, List.length_drop]; omega
  refine hc_enter (vs := [.pointer (some ⟨g, 0, none⟩), .int .i64 (from_ : Int), .int .i64 (to_ : Int), .int .u32 (ep : Int)]) Tryz.func47 rfl _ Tryz.ntmps47 rfl H ?_
  simp only [argSlots, Nat.zero_add]
  refine hc_seq <| hc_region <| hl_v (ov_assign rfl) rfl <| hl_v (ov_assign rfl) rfl <| hl_nil <| hx_then_normal <| ?_
  refine hc_seq <| hc_seq <| hc_region <| hl_v (ov_move rfl) rfl <| hl_v (ov_eqlP rfl rfl) rfl <| hl_v (ov_move rfl) rfl <| ?_
  refine hl_on rfl rfl <| hl_v (ov_move rfl) rfl <| hl_on rfl rfl <| hl_v (ov_lss rfl rfl) rfl <| hl_v (ov_pickF rfl rfl) rfl <| hl_v (ov_move rfl) rfl <| ?_
  refine hl_partF (t := 21) rfl ((by omega)) ?_
  refine hl_on rfl rfl <| hl_v (ov_move rfl) rfl <| hl_on rfl rfl <| hl_v (ov_move rfl) rfl <| hl_on rfl rfl <| hl_v (ov_geq rfl rfl) rfl <| hl_v (ov_pickF rfl rfl) rfl <| hl_v (ov_move rfl) rfl <| ?_
  refine hl_partF (t := 26) rfl ((by omega)) ?_
  refine hl_on rfl rfl <| hl_v (ov_move rfl) rfl <| hl_on rfl rfl <| hl_v (ov_move rfl) rfl <| ?_
  refine hl_on rfl rfl <| hl_c Tryz.call44 rfl rfl (fun w1 H1 => Own.callp (dsk g S []) H1 fun D' hold hin H2 => Len_spec D' w1 g S [] H2) ?_
  refine hl_on rfl rfl <| hl_v (ov_gtr rfl rfl) rfl <| hl_v (ov_pickF rfl rfl) rfl <| hl_nil <| hx_then_normal <| ?_
  refine hc_cond_F rfl ((by omega)) ?_
  refine hc_skip <| hx_then_normal <| hc_seq <| hc_region <| hl_v (ov_move rfl) rfl <| hl_v (ov_move rfl) rfl <| ?_
  refine hl_v (ov_move rfl) rfl <| hl_v (ov_buildSN rfl rfl) rfl <| ?_
  refine hl_v (ov_move rfl) rfl <| hl_v (ov_move rfl) rfl <| hl_v (ov_buildSN rfl rfl) rfl <| ?_
  refine hl_new (on_boxN rfl rfl) rfl rfl rfl fun b39 =>  ?_
  refine hl_v (ov_assign rfl) rfl <| hl_nil <| hx_then_normal <| hc_seq <| hc_region <| hl_v (ov_move rfl) rfl <| ?_
  refine hl_v (ov_nil rfl) rfl <| hl_v (ov_fieldA rfl) rfl <| ?_
  refine hl_v (ov_loadGB rfl rfl) rfl ?_
  refine hl_v (ov_move rfl) rfl <| ?_
  refine hl_call (σ := Option Addr × Nat) Tryz.call78 rfl rfl (fun w1 H1 => Own.callpx (dsk g S []) H1 fun D' hold hin H2 => sectors_spec D' w1 g from_ to_ from_ N S T hto hS hN hT H2) ?_
  rintro ⟨A, cap⟩
  dsimp only
  refine HL.fact (fun w H => Own.factR A H) ?_
  rintro ⟨_, hcap, hcap2, _⟩
  refine hl_v (ov_assign rfl) rfl <| hl_nil <| hx_then_normal <| hc_seq <| hc_block <| ?_
  refine hc_loopK1 (σ := Nat × List (List UInt8) × (Option Addr × Nat × List Value) × (Option Addr × Nat)) [3, 10] rfl 11 (fun s => .slice s.2.2.2.1 (N - s.1) s.2.2.2.2) (fun s => [jouB b39 g from_ to_ ep (from_ + s.1) s.2.1.length (s.2.2.1.1, s.2.2.1.2.1), row s.2.2.1.1 108 1 s.2.1.length s.2.2.1.2.1 s.2.2.1.2.2, rowsB 5 s.2.1 s.2.2.1.2.2, row A 61 64 N cap (T.flatMap secC), dsk g S []]) (fun s => s.1 ≤ N ∧ s.2.1.length ≤ s.1 ∧ N - s.1 ≤ s.2.2.2.2 ∧ (∀ h, Rep.rep T [.slice A N cap] h → Rep.rep (T.drop s.1) [.slice s.2.2.2.1 (N - s.1) s.2.2.2.2] h) ∧ entsF ep N 0 T = (s.2.1 ++ (entsF ep (N - s.2.1.length) s.2.1.length (T.drop s.1)).1, s.1 + (entsF ep (N - s.2.1.length) s.2.1.length (T.drop s.1)).2)) (fun s => N - s.1) ((0, [], (none, 0, []), (A, cap))) (⟨Nat.zero_le _, Nat.le_refl _, hcap, fun _ h => h, by simp⟩) rfl (Ent.trans (b := jouB b39 g from_ to_ ep from_ 0 (none, 0) :: [row A 61 64 N cap (T.flatMap secC), dsk g S []]) (by first | assumption | exact Ent.refl _ | exact Ent.nil _ | exact Ent.row_any (Ent.refl _) | (repeat (first | exact Ent.refl _ | exact Ent.nil _ | refine Ent.pick ?_))) (Ent.cons (rowsB_nil.trans (Ent.nil_row 108 1)))) ?_
  rintro ⟨k, LL, ⟨qa, qc, ds⟩, A2, cp2⟩ hj_ K1 hK1
  dsimp only at hj_ ⊢
  obtain ⟨hkN, hLk, hc2, hrep, hent⟩ := hj_
  refine hc_seq <| hc_seq <| hc_region <| hl_v (ov_move rfl) rfl <| hl_v (by first | exact ov_len rfl | exact ov_lenS rfl) rfl <| ?_
  refine hl_v (ov_gtr rfl rfl) rfl <| hl_nil <| hx_then_normal <| ?_
  refine hc_cond rfl (fun hgo => ?_) (fun hgo => ?_)
  · have hk : k < N := by omega
    obtain ⟨f, hf⟩ : ∃ f, N - LL.length = f + 1 := ⟨N - LL.length - 1, by omega⟩
    rw [hf] at hent
    rw [entsF] at hent
    rcases hd : decS (T.drop k) with _ | ⟨x, n⟩
    · have hfin : entsF ep N 0 T = (LL, k) := by rw [hent, hd]; simp
      refine hc_skip <| hx_then_normal <| hc_block <| hc_seq <| hc_region <| hl_v (ov_move rfl) rfl <| ?_
      refine hl_c Tryz.call79 rfl rfl (fun w1 H1 => Own.calln H1 fun D' hold hin H2 => Decode_none D' w1 _ (T.drop k) hd (hin _ fun h hs ho => hrep _ (rep_row (A := A) hs T hTl.symm (repL_secs.2 rfl)))) ?_
      refine hl_v (ov_move rfl) rfl <| hl_v (ov_extract rfl rfl) rfl <| hl_v (ov_extract rfl rfl) rfl <| hl_v (ov_extract rfl rfl) rfl <| hl_new (on_alloc) rfl rfl rfl fun b12 =>  ?_
      refine hl_u0 (on_storeW (vs := [.int .i64 0, .int .u32 0, .int .u32 0, .slice none 0 0]) rfl rfl (by simp) (by simp) (by simp [Value.oneCell'])) rfl rfl ?_
      refine hl_v (ov_assign rfl) rfl <| hl_v (ov_assign rfl) rfl <| hl_nil <| hx_then_normal <| hc_seq <| hc_seq <| ?_
      refine hc_quiet mixed (by kernel_rfl) <| hq_v (ov_move rfl) rfl <| hq_v (ov_neq rfl rfl) rfl <| hq_v (ov_move rfl) rfl <| ?_
      refine hq_partT (t := 57) rfl ((by decide)) ?_
      refine hq_off rfl rfl rfl rfl rfl rfl <| hq_off rfl rfl rfl rfl rfl rfl <| hq_off rfl rfl rfl rfl rfl rfl <| hq_v (ov_pickT rfl rfl) rfl <| hq_v (ov_move rfl) rfl <| hq_off rfl rfl rfl rfl rfl rfl <| ?_
      refine hq_off rfl rfl rfl rfl rfl rfl <| hq_off rfl rfl rfl rfl rfl rfl <| hq_off rfl rfl rfl rfl rfl rfl <| hq_v (ov_pickT rfl rfl) rfl <| hq_v (ov_move rfl) rfl <| hq_off rfl rfl rfl rfl rfl rfl <| ?_
      refine hq_off rfl rfl rfl rfl rfl rfl <| hq_off rfl rfl rfl rfl rfl rfl <| hq_off rfl rfl rfl rfl rfl rfl <| hq_off rfl rfl rfl rfl rfl rfl <| hq_off rfl rfl rfl rfl rfl rfl <| hq_off rfl rfl rfl rfl rfl rfl <| ?_
      refine hq_off rfl rfl rfl rfl rfl rfl <| hq_off rfl rfl rfl rfl rfl rfl <| hq_v (ov_pickT rfl rfl) rfl <| hq_nil <| hx_then_normal <| hc_cond_true rfl <| ?_
      refine hc_exit <| hx_then_exit <| hx_block_on rfl <| hx_then_exit <| hx_block_out <| hx_then_normal <| ?_
      refine hc_seq <| hc_region <| hl_v (ov_move rfl) rfl <| hl_v (ov_assign rfl) rfl <| hl_v (ov_assign rfl) rfl <| hl_nil <| ?_
      refine hx_then_normal <| hc_ret <| ?_
      exact results_2 (.inr rfl) rfl rfl rfl fun w' H' => ⟨b39, rfl, H'.ent (Ent.trans (b := jouB b39 g from_ to_ ep (from_ + k) LL.length (qa, qc) :: row qa 108 1 LL.length qc ds :: rowsB 5 LL ds :: [dsk g S []]) (by first | assumption | exact Ent.refl _ | exact Ent.nil _ | exact Ent.row_any (Ent.refl _) | (repeat (first | exact Ent.refl _ | exact Ent.nil _ | refine Ent.pick ?_))) (by rw [hfin]; exact jou_mk))⟩
    rw [hd] at hent
    dsimp only at hent
    have hnk : 1 ≤ n ∧ n ≤ (T.drop k).length := by
      rcases hTk : T.drop k with _ | ⟨s, r⟩
      · have := congrArg List.length hTk
        rw [List.length_drop, List.length_nil] at this; omega
      · rw [hTk] at hd; exact (decS_head hd).2
    rw [List.length_drop] at hnk
    refine hc_skip <| hx_then_normal <| hc_block <| hc_seq <| hc_region <| hl_v (ov_move rfl) rfl <| ?_
    refine hl_call (σ := Option Addr × Nat) Tryz.call79 rfl rfl (fun w1 H1 => Own.callx0 H1 fun D' hold hin H2 => Decode_some D' w1 _ (T.drop k) x n hd (hin _ fun h hs ho => hrep _ (rep_row (A := A) hs T hTl.symm (repL_secs.2 rfl)))) ?_
    intro qx
    try rw [List.nil_append]
    refine hl_v (ov_move rfl) rfl <| hl_v (ov_extract rfl rfl) rfl <| hl_v (ov_extract rfl rfl) rfl <| hl_v (ov_extract rfl rfl) rfl <| hl_new (on_alloc) rfl rfl rfl fun b12 =>  ?_
    refine hl_u0 (on_storeW (vs := entV x qx) rfl rfl (by simp [entV]) (by simp [entV]) (by simp [entV, Value.oneCell'])) rfl rfl ?_
    refine hl_v (ov_assign rfl) rfl <| hl_v (ov_assign rfl) rfl <| hl_nil <| hx_then_normal <| hc_seq <| hc_seq <| ?_
    refine hc_quiet mixed (by kernel_rfl) <| hq_v (ov_move rfl) rfl <| hq_v (ov_neq rfl rfl) rfl <| hq_v (ov_move rfl) rfl <| ?_
    refine hq_partF (t := 57) rfl ((fun h => h rfl)) ?_
    refine hq_on rfl rfl <| hq_v (ov_fieldA rfl) rfl <| hq_on rfl rfl <| hq_v (ov_load rfl (CellIs.blk rfl)) rfl <| hq_on rfl rfl <| hq_v (ov_neq rfl rfl) rfl <| hq_v (ov_pickF rfl rfl) rfl <| hq_v (ov_move rfl) rfl <| ?_
    refine hq_part (t := 62) rfl (fun c1 => ?_) (fun c1 => ?_)
    · have hfin : entsF ep N 0 T = (LL, k) := by rw [hent, if_neg (by omega)]; simp
      refine hq_off rfl rfl rfl rfl rfl rfl <| hq_off rfl rfl rfl rfl rfl rfl <| hq_off rfl rfl rfl rfl rfl rfl <| hq_off rfl rfl rfl rfl rfl rfl <| hq_v (ov_pickT rfl rfl) rfl <| hq_v (ov_move rfl) rfl <| ?_
      refine hq_off rfl rfl rfl rfl rfl rfl <| hq_off rfl rfl rfl rfl rfl rfl <| hq_off rfl rfl rfl rfl rfl rfl <| hq_off rfl rfl rfl rfl rfl rfl <| hq_off rfl rfl rfl rfl rfl rfl <| hq_off rfl rfl rfl rfl rfl rfl <| ?_
      refine hq_off rfl rfl rfl rfl rfl rfl <| hq_off rfl rfl rfl rfl rfl rfl <| hq_off rfl rfl rfl rfl rfl rfl <| hq_v (ov_pickT rfl rfl) rfl <| hq_nil <| hx_then_normal <| ?_
      refine hc_cond_true rfl <| hc_exit <| hx_then_exit <| hx_block_on rfl <| hx_then_exit <| hx_block_out <| ?_
      refine hx_then_normal <| hc_seq <| hc_region <| hl_v (ov_move rfl) rfl <| hl_v (ov_assign rfl) rfl <| hl_v (ov_assign rfl) rfl <| ?_
      refine hl_nil <| hx_then_normal <| hc_ret <| ?_
      exact results_2 (.inr rfl) rfl rfl rfl fun w' H' => ⟨b39, rfl, H'.ent (Ent.trans (b := jouB b39 g from_ to_ ep (from_ + k) LL.length (qa, qc) :: row qa 108 1 LL.length qc ds :: rowsB 5 LL ds :: [dsk g S []]) (by first | assumption | exact Ent.refl _ | exact Ent.nil _ | exact Ent.row_any (Ent.refl _) | (repeat (first | exact Ent.refl _ | exact Ent.nil _ | refine Ent.pick ?_))) (by rw [hfin]; exact jou_mk))⟩
    refine hq_on rfl rfl <| hq_v (ov_fieldA rfl) rfl <| hq_on rfl rfl <| hq_v (ov_load rfl (CellIs.blk rfl)) rfl <| hq_on rfl rfl <| hq_v (ov_move rfl) rfl <| hq_on rfl rfl <| hq_v (ov_neq rfl rfl) rfl <| hq_v (ov_pickF rfl rfl) rfl <| hq_v (ov_move rfl) rfl <| ?_
    refine hq_part (t := 68) rfl (fun c2 => ?_) (fun c2 => ?_)
    · have hfin : entsF ep N 0 T = (LL, k) := by rw [hent, if_neg (by omega)]; simp
      refine hq_off rfl rfl rfl rfl rfl rfl <| hq_off rfl rfl rfl rfl rfl rfl <| hq_off rfl rfl rfl rfl rfl rfl <| hq_off rfl rfl rfl rfl rfl rfl <| hq_off rfl rfl rfl rfl rfl rfl <| hq_off rfl rfl rfl rfl rfl rfl <| ?_
      refine hq_off rfl rfl rfl rfl rfl rfl <| hq_off rfl rfl rfl rfl rfl rfl <| hq_off rfl rfl rfl rfl rfl rfl <| hq_v (ov_pickT rfl rfl) rfl <| hq_nil <| hx_then_normal <| ?_
      refine hc_cond_true rfl <| hc_exit <| hx_then_exit <| hx_block_on rfl <| hx_then_exit <| hx_block_out <| ?_
      refine hx_then_normal <| hc_seq <| hc_region <| hl_v (ov_move rfl) rfl <| hl_v (ov_assign rfl) rfl <| hl_v (ov_assign rfl) rfl <| ?_
      refine hl_nil <| hx_then_normal <| hc_ret <| ?_
      exact results_2 (.inr rfl) rfl rfl rfl fun w' H' => ⟨b39, rfl, H'.ent (Ent.trans (b := jouB b39 g from_ to_ ep (from_ + k) LL.length (qa, qc) :: row qa 108 1 LL.length qc ds :: rowsB 5 LL ds :: [dsk g S []]) (by first | assumption | exact Ent.refl _ | exact Ent.nil _ | exact Ent.row_any (Ent.refl _) | (repeat (first | exact Ent.refl _ | exact Ent.nil _ | refine Ent.pick ?_))) (by rw [hfin]; exact jou_mk))⟩
    refine hq_on rfl rfl <| hq_v (ov_fieldA rfl) rfl <| hq_on rfl rfl <| hq_v (ov_load rfl (CellIs.blk rfl)) rfl <| hq_on rfl rfl <| hq_v (ov_move rfl) rfl <| hq_on rfl rfl <| hq_v (ov_nil rfl) rfl <| hq_on rfl rfl <| hq_v (ov_fieldA rfl) rfl <| hq_on rfl rfl <| hq_v (ov_load rfl (CellIs.blk rfl)) rfl <| ?_
    refine hq_on rfl rfl <| hq_v (by first | exact ov_len rfl | exact ov_lenS rfl) rfl <| ?_
    refine hq_on rfl rfl <| hq_v (ov_conv (m := ((LL.length : Nat) : Int)) rfl (wrap_u32 (by omega))) rfl ?_
    refine hq_on rfl rfl <| hq_v (ov_neq rfl rfl) rfl <| hq_v (ov_pickF rfl rfl) rfl <| hq_nil <| hx_then_normal <| ?_
    refine hc_cond rfl (fun c3 => ?_) (fun c3 => ?_)
    · have hfin : entsF ep N 0 T = (LL, k) := by rw [hent, if_neg (by omega)]; simp
      refine hc_exit <| hx_then_exit <| hx_block_on rfl <| hx_then_exit <| hx_block_out <| hx_then_normal <| ?_
      refine hc_seq <| hc_region <| hl_v (ov_move rfl) rfl <| hl_v (ov_assign rfl) rfl <| hl_v (ov_assign rfl) rfl <| hl_nil <| ?_
      refine hx_then_normal <| hc_ret <| ?_
      exact results_2 (.inr rfl) rfl rfl rfl fun w' H' => ⟨b39, rfl, H'.ent (Ent.trans (b := jouB b39 g from_ to_ ep (from_ + k) LL.length (qa, qc) :: row qa 108 1 LL.length qc ds :: rowsB 5 LL ds :: [dsk g S []]) (by first | assumption | exact Ent.refl _ | exact Ent.nil _ | exact Ent.row_any (Ent.refl _) | (repeat (first | exact Ent.refl _ | exact Ent.nil _ | refine Ent.pick ?_))) (by rw [hfin]; exact jou_mk))⟩
    rw [if_pos ⟨by omega, by omega, by omega⟩] at hent
    have hLx : (LL ++ [x.2.2.2]).length = LL.length + 1 := by simp
    obtain ⟨A3, hA3⟩ : ∃ A3 : Option Addr, A3 = if cp2 = n then A2 else A2.map (·.add (n * 64)) := ⟨_, rfl⟩
    have hrep2 : ∀ h, Rep.rep T [.slice A N cap] h → Rep.rep (T.drop (k + n)) [.slice A3 (N - (k + n)) (cp2 - n)] h := fun h hh => by
      have := rep_cut (hrep h hh) n (N - k) (by omega) (by rw [List.length_drop]; omega)
      rw [List.drop_drop, List.take_of_length_le (by rw [List.length_drop]; omega), Nat.sub_sub] at this
      rw [hA3]; exact this
    have hent2 : entsF ep N 0 T = ((LL ++ [x.2.2.2]) ++ (entsF ep (N - (LL ++ [x.2.2.2]).length) (LL ++ [x.2.2.2]).length (T.drop (k + n))).1, (k + n) + (entsF ep (N - (LL ++ [x.2.2.2]).length) (LL ++ [x.2.2.2]).length (T.drop (k + n))).2) := by
      rw [hent, hLx, show N - (LL.length + 1) = f by omega, List.drop_drop, List.append_assoc, Nat.add_assoc]; rfl
    refine hc_skip <| hx_then_normal <| hc_seq <| ?_
    refine hc_any [blk b12 172 (entV x qx)] mixed 12 rfl ?_
    refine ha_v 0 rfl (ov_move rfl) rfl <| ?_
    refine ha_v 1 rfl (ov_move rfl) rfl <| ?_
    refine ha_v 2 rfl (ov_nil rfl) rfl <| ?_
    refine ha_v 3 rfl (ov_fieldA rfl) rfl <| ?_
    refine ha_v 5 rfl (ov_fieldA rfl) rfl <| ?_
    refine ha_v 6 rfl (ov_load rfl (CellIs.blk rfl)) rfl <| ?_
    refine ha_two 4 7 (by kernel_rfl) ?_ ?_
    · skip
      refine ho_v rfl (ov_load rfl (CellIs.blk rfl)) rfl ?_
      refine ha_one 7 (by kernel_rfl) <| ?_
      refine ho_n rfl (on_buildSliceN rfl rfl rfl) rfl (fun b86 => ?_)
      refine ha_one 8 (by kernel_rfl) <| ?_
      refine ho_n rfl (on_appendR (A := qa) (news := [.slice qx.1 x.2.2.2.length qx.2]) rfl rfl (SrcIs.blk (b := b86)) rfl (by simp [Value.oneCell']) (by decide) (by omega)) rfl ?_
      rintro ⟨A', cap'⟩
      dsimp only
      refine ha_v 9 rfl (ov_nil rfl) rfl <| ?_
      refine ha_v 10 rfl (ov_fieldA rfl) rfl <| ?_
      refine ha_one 11 (by kernel_rfl) <| ?_
      refine ho_w0 rfl (on_storeN rfl rfl rfl rfl rfl) rfl ?_
      refine ha_done (by kernel_rfl) <| ?_
      refine hx_then_normal <| hc_seq <| hc_region <| hl_v (ov_move rfl) rfl <| hl_v (ov_nil rfl) rfl <| hl_v (ov_fieldA rfl) rfl <| ?_
      refine hl_v (ov_load rfl (CellIs.blk rfl)) rfl <| hl_v (ov_move rfl) rfl <| ?_
      refine hl_v (ov_add (m := ((from_ + (k + n) : Nat) : Int)) rfl rfl ((wrap_i64 (by omega)).trans (by omega))) rfl ?_
      refine hl_v (ov_nil rfl) rfl <| hl_v (ov_fieldA rfl) rfl <| hl_u0 (on_storeN rfl rfl rfl rfl rfl) rfl rfl <| hl_nil <| hx_then_normal <| hc_region <| ?_
      refine hl_v (ov_move rfl) rfl <| hl_v (ov_move rfl) rfl <| ?_
      refine hl_v (ov_sl (.slice A3 (N - (k + n)) (cp2 - n)) rfl n (N - k) (.inr ⟨_, _, rfl, rfl⟩) (.inl ⟨rfl, rfl⟩) (by omega) (by omega) (by rw [hA3, Nat.sub_sub])) rfl ?_
      refine hl_v (ov_assign rfl) rfl <| hl_nil <| hx_block_normal <| ?_
      exact hx_next hK1 ((k + n, LL ++ [x.2.2.2], (A', cap', ds ++ [.slice qx.1 x.2.2.2.length qx.2]), (A3, cp2 - n))) (⟨by show k + n ≤ N; omega, by show (LL ++ [x.2.2.2]).length ≤ k + n; omega, by show N - (k + n) ≤ cp2 - n; omega, hrep2, hent2⟩) (by show N - (k + n) < N - k; omega) (by repeat (first | exact Slots.sub_nil _ | refine Slots.sub_cons rfl ?_)) (Ent.trans (b := rowsB 5 LL ds :: row qx.1 5 1 x.2.2.2.length qx.2 (x.2.2.2.map u8v) :: [jouB b39 g from_ to_ ep (from_ + (k + n)) (LL.length + 1) (A', cap'), row A' 108 1 (LL.length + 1) cap' (ds ++ [.slice qx.1 x.2.2.2.length qx.2]), row A 61 64 N cap (T.flatMap secC), dsk g S []]) (by first | assumption | exact Ent.refl _ | exact Ent.nil _ | exact Ent.row_any (Ent.refl _) | (repeat (first | exact Ent.refl _ | exact Ent.nil _ | refine Ent.pick ?_))) (Ent.trans rowsB_snoc (by dsimp only; rw [hLx]; exact (by first | assumption | exact Ent.refl _ | exact Ent.nil _ | exact Ent.row_any (Ent.refl _) | (repeat (first | exact Ent.refl _ | exact Ent.nil _ | refine Ent.pick ?_))))))
    skip
    refine ho_n rfl (on_buildSliceN rfl rfl rfl) rfl (fun b86 => ?_)
    refine ha_one 4 (by kernel_rfl) <| ?_
    refine ho_v rfl (ov_load rfl (CellIs.blk rfl)) rfl ?_
    refine ha_one 8 (by kernel_rfl) <| ?_
    refine ho_n rfl (on_appendR (A := qa) (news := [.slice qx.1 x.2.2.2.length qx.2]) rfl rfl (SrcIs.blk (b := b86)) rfl (by simp [Value.oneCell']) (by decide) (by omega)) rfl ?_
    rintro ⟨A', cap'⟩
    dsimp only
    refine ha_v 9 rfl (ov_nil rfl) rfl <| ?_
    refine ha_v 10 rfl (ov_fieldA rfl) rfl <| ?_
    refine ha_one 11 (by kernel_rfl) <| ?_
    refine ho_w0 rfl (on_storeN rfl rfl rfl rfl rfl) rfl ?_
    refine ha_done (by kernel_rfl) <| ?_
    refine hx_then_normal <| hc_seq <| hc_region <| hl_v (ov_move rfl) rfl <| hl_v (ov_nil rfl) rfl <| hl_v (ov_fieldA rfl) rfl <| ?_
    refine hl_v (ov_load rfl (CellIs.blk rfl)) rfl <| hl_v (ov_move rfl) rfl <| ?_
    refine hl_v (ov_add (m := ((from_ + (k + n) : Nat) : Int)) rfl rfl ((wrap_i64 (by omega)).trans (by omega))) rfl ?_
    refine hl_v (ov_nil rfl) rfl <| hl_v (ov_fieldA rfl) rfl <| hl_u0 (on_storeN rfl rfl rfl rfl rfl) rfl rfl <| hl_nil <| hx_then_normal <| hc_region <| ?_
    refine hl_v (ov_move rfl) rfl <| hl_v (ov_move rfl) rfl <| ?_
    refine hl_v (ov_sl (.slice A3 (N - (k + n)) (cp2 - n)) rfl n (N - k) (.inr ⟨_, _, rfl, rfl⟩) (.inl ⟨rfl, rfl⟩) (by omega) (by omega) (by rw [hA3, Nat.sub_sub])) rfl ?_
    refine hl_v (ov_assign rfl) rfl <| hl_nil <| hx_block_normal <| ?_
    exact hx_next hK1 ((k + n, LL ++ [x.2.2.2], (A', cap', ds ++ [.slice qx.1 x.2.2.2.length qx.2]), (A3, cp2 - n))) (⟨by show k + n ≤ N; omega, by show (LL ++ [x.2.2.2]).length ≤ k + n; omega, by show N - (k + n) ≤ cp2 - n; omega, hrep2, hent2⟩) (by show N - (k + n) < N - k; omega) (by repeat (first | exact Slots.sub_nil _ | refine Slots.sub_cons rfl ?_)) (Ent.trans (b := rowsB 5 LL ds :: row qx.1 5 1 x.2.2.2.length qx.2 (x.2.2.2.map u8v) :: [jouB b39 g from_ to_ ep (from_ + (k + n)) (LL.length + 1) (A', cap'), row A' 108 1 (LL.length + 1) cap' (ds ++ [.slice qx.1 x.2.2.2.length qx.2]), row A 61 64 N cap (T.flatMap secC), dsk g S []]) (by first | assumption | exact Ent.refl _ | exact Ent.nil _ | exact Ent.row_any (Ent.refl _) | (repeat (first | exact Ent.refl _ | exact Ent.nil _ | refine Ent.pick ?_))) (Ent.trans rowsB_snoc (by dsimp only; rw [hLx]; exact (by first | assumption | exact Ent.refl _ | exact Ent.nil _ | exact Ent.row_any (Ent.refl _) | (repeat (first | exact Ent.refl _ | exact Ent.nil _ | refine Ent.pick ?_))))))
  have hk : k = N := by omega
  have hfin : entsF ep N 0 T = (LL, k) := by
    rw [hent, List.drop_of_length_le (by omega)]
    rw [ents_none (fun s hs => by simp at hs), List.append_nil]; rfl
  refine hc_exit <| hx_then_exit <| hx_then_exit <| hx_block_out <| hx_then_normal <| hc_seq <| ?_
  refine hc_region <| hl_v (ov_move rfl) rfl <| hl_v (ov_assign rfl) rfl <| hl_v (ov_assign rfl) rfl <| hl_nil <| hx_then_normal <| ?_
  refine hc_ret <| ?_
  exact results_2 (.inr rfl) rfl rfl rfl fun w' H' => ⟨b39, rfl, H'.ent (Ent.trans (b := jouB b39 g from_ to_ ep (from_ + k) LL.length (qa, qc) :: row qa 108 1 LL.length qc ds :: rowsB 5 LL ds :: [dsk g S []]) (by first | assumption | exact Ent.refl _ | exact Ent.nil _ | exact Ent.row_any (Ent.refl _) | (repeat (first | exact Ent.refl _ | exact Ent.nil _ | refine Ent.pick ?_))) (by rw [hfin]; exact jou_mk))⟩
end Go.Proofs.YtjlolpmmpafjeaaGreat
set_option linter.unusedVariables false
set_option linter.unusedSimpArgs false
namespace Go.Proofs.YtjlolpmmpafjeaaGreat
open Slk
theorem Config_g (D : Nat → Prop) (w : World) (c : ConfC) (vp vv vs : Value) (hg : goodP c) (H : ConfOld D w c vp vv vs) :
    Calls Tryz.prog 110 #[.agg (cfgV c vp vv vs).toArray] w fun e w' => ∃ q : Option Addr × Nat, e = .returned (.tuple #[.slice q.1 (cfgB c).length q.2, .int .i64 0]) ∧ Own D w w' [row q.1 5 1 (cfgB c).length q.2 ((cfgB c).map u8v)] :=
  (Config_spec D w c vp vv vs H).mono fun e w' hp => by
    rcases hp with ⟨h, _⟩ | ⟨_, h⟩
    · exact absurd hg h
    · exact h
theorem Parse_g (D : Nat → Prop) (w : World) (v : Value) (c : ConfC) (hg : goodP c) (HA : Old D w (Rep.rep (cfgB c) [v])) :
    Calls Tryz.prog 46 #[v] w fun e w' => ∃ q : Three, e = .returned (.tuple #[.agg (cfgA c q).toArray, .int .i64 0]) ∧ Own D w w' (cfgR c q) :=
  (Parse_spec D w v (cfgB c) HA).mono fun e w' ⟨⟨⟨q, d, er⟩, hr⟩, he, H'⟩ => by
    obtain ⟨h1, h2⟩ := parse_of (xs := cfgB c) v hg rfl
    rcases hr with ⟨k, _⟩ | ⟨_, k2, k3⟩
    · exact absurd h1 k
    · have k2 : d = c := k2.trans h2
      have k3 : er = 0 := k3
      subst k2; subst k3
      exact ⟨q, he, H'⟩
theorem List_g (D : Nat → Prop) (w : World) (v : Value) (l : List EditC) (hl : okEds l) (HA : Old D w (Rep.rep (edsB l) [v])) :
    Calls Tryz.prog 80 #[v] w fun e w' => ∃ q : Option Addr × Nat, e = .returned (.tuple #[.slice q.1 l.length q.2, .int .i64 0]) ∧ Own D w w' [row q.1 81 7 l.length q.2 (l.flatMap editV)] :=
  (List_spec D w v (edsB l) HA).mono fun e w' ⟨⟨⟨q, d, er⟩, hr⟩, he, H'⟩ => by
    obtain ⟨h1, h2⟩ := list_of (l := l) v hl
    rcases hr with ⟨k, _⟩ | ⟨_, k2, k3⟩
    · exact absurd h1 k
    · have k2 : d = l := k2.trans h2
      have k3 : er = 0 := k3
      subst k2; subst k3
      exact ⟨q, he, H'⟩
theorem Edits_g (D : Nat → Prop) (w : World) (v : Value) (l : List EditC) (hl : okEds l) (HA : Old D w (Rep.rep l [v])) :
    Calls Tryz.prog 57 #[v] w fun e w' => ∃ q : Option Addr × Nat, e = .returned (.tuple #[.slice q.1 (edsB l).length q.2, .int .i64 0]) ∧ Own D w w' [row q.1 5 1 (edsB l).length q.2 ((edsB l).map u8v)] :=
  (Edits_spec D w v l (by have := hl.1; omega) HA).mono fun e w' hp => by
    rcases hp with ⟨h, _⟩ | ⟨_, ⟨i, hi, hb⟩, _⟩ | ⟨_, _, h⟩
    · exact absurd hl.1 (by omega)
    · exact absurd (hl.2 i hi) hb
    · exact h
theorem Edits_b (D : Nat → Prop) (w : World) (v : Value) (l : List EditC) (h32 : l.length ≤ 32) (hl : ¬ okEds l) (HA : Old D w (Rep.rep l [v])) :
    Calls Tryz.prog 57 #[v] w fun e w' => e = .returned (.tuple #[.slice none 0 0, .int .i64 11]) ∧ Own D w w' [] :=
  (Edits_spec D w v l (by omega) HA).mono fun e w' hp => by
    rcases hp with ⟨h, _⟩ | ⟨_, _, h⟩ | ⟨h1, h2, _⟩
    · omega
    · exact h
    · exact absurd ⟨h1, h2⟩ hl
theorem Edit_is (D : Nat → Prop) (w : World) (c : ConfC) (vp vv vs v1 : Value) (l : List EditC) (d : ConfC) (er : Int) (hr : edF c l = (d, er)) (hll : l.length ≤ 1000000) (HC0 : ConfOld D w c vp vv vs) (HE : Old D w (Rep.rep l [v1])) :
    Calls Tryz.prog 56 #[.agg (cfgV c vp vv vs).toArray, v1] w fun e w' => ∃ q : Three, e = .returned (.tuple #[.agg (cfgA d q).toArray, .int .i64 er]) ∧ Own D w w' (cfgR d q) :=
  (Edit_spec D w c vp vv vs v1 l hll HC0 HE).mono fun e w' ⟨⟨⟨q, d', er'⟩, hR⟩, he, H'⟩ => by
    have h := (edF_of hR).trans hr
    injection h with h1 h2
    subst h1; subst h2
    exact ⟨q, he, H'⟩
theorem First_is (D : Nat → Prop) (w : World) (n : Nat) (h1 : 1 ≤ n) (h2 : n ≤ 8) :
    Calls Tryz.prog 74 #[.int .i64 n] w fun e w' => ∃ q : Three, e = .returned (.tuple #[.agg (cfgA (firstC n) q).toArray, .int .i64 0]) ∧ Own D w w' (cfgR (firstC n) q) :=
  (First_spec D w n h1 h2).mono fun e w' ⟨q, he, H'⟩ => by
    have hl : (firstC n).2.2.2.1.length = n := List.length_replicate
    refine ⟨(q.1, (some ⟨q.2, 0, none⟩, 1), (none, 0)), ?_, ?_⟩
    · rw [he]; simp only [cfgA, hl]; rfl
    · refine H'.ent ?_
      simp only [cfgR, hl]
      exact Ent.cons (Ent.cons ((Ent.nil _).trans (Ent.nil_row 149 3)))
theorem save_spec (D : Nat → Prop) (w : World) (g ep : Nat) (S : List Sec) (c : ConfC) (vp vv vs : Value) (hS : 32 ≤ S.length) (hg : goodP c) (hep : ep < 4294967296) (HC : ConfOld D w c vp vv vs) (H : Own D w w [dsk g S []]) :
    Calls Tryz.prog 69 #[.pointer (some ⟨g, 0, none⟩), .int .u32 (ep : Int), .agg (cfgV c vp vv vs).toArray] w fun e w' => e = .returned (.int .i64 0) ∧ Own D w w' [dsk g (saveS S ep (cfgB c)) []] := by
  have hsm := cfgB_small hg
  refine hc_enter (vs := [.pointer (some ⟨g, 0, none⟩), .int .u32 (ep : Int), .agg (cfgV c vp vv vs).toArray]) Tryz.func69 rfl _ Tryz.ntmps69 rfl H ?_
  simp only [argSlots, Nat.zero_add]
  refine hc_seq <| hc_region <| ?_
  refine hl_new (on_boxG (cs := cfgV c vp vv vs) rfl) rfl rfl rfl (fun b5 => ?_)
  refine hl_v (ov_assign rfl) rfl <| hl_nil <| hx_then_normal <| hc_seq <| hc_region <| ?_
  refine hl_v (ov_loadW rfl rfl) rfl ?_
  refine hl_call (σ := Option Addr × Nat) Tryz.call110 rfl rfl (fun w1 H1 => Own.callx0 H1 fun D' hold hin H2 => Config_g D' w1 c vp vv vs hg (HC.hold hold)) ?_
  intro q
  try rw [List.nil_append]
  refine hl_v (ov_move rfl) rfl <| hl_v (ov_extract rfl rfl) rfl <| hl_v (ov_extract rfl rfl) rfl <| hl_v (ov_assign rfl) rfl <| hl_v (ov_assign rfl) rfl <| hl_nil <| ?_
  refine hx_then_normal <| hc_seq <| hc_seq <| hc_region <| hl_v (ov_move rfl) rfl <| hl_v (ov_neq rfl rfl) rfl <| ?_
  refine hl_nil <| hx_then_normal <| ?_
  refine hc_cond_F rfl ((fun h => h rfl)) ?_
  refine hc_skip <| hx_then_normal <| hc_seq <| hc_region <| hl_v (ov_move rfl) rfl <| hl_v (ov_move rfl) rfl <| ?_
  refine hl_v (ov_move rfl) rfl <| ?_
  refine hl_c Tryz.call111 rfl rfl (fun w1 H1 => Own.callp (dsk g S []) H1 fun D' hold hin H2 => Save_ok D' w1 g S ep _ (cfgB c) hS hep hsm (hin _ fun h hs ho => rep_row (A := q.1) hs (cfgB c) rfl (repL_bytes.2 rfl)) H2) ?_
  refine hl_v (ov_assign rfl) rfl <| hl_nil <| hx_then_normal <| hc_ret <| ?_
  exact results_1 (.inr rfl) rfl rfl fun w' H' => ⟨rfl, H'.ent (by first | assumption | exact Ent.refl _ | exact Ent.nil _ | exact Ent.row_any (Ent.refl _) | (repeat (first | exact Ent.refl _ | exact Ent.nil _ | refine Ent.pick ?_)))⟩
theorem begin_old (D : Nat → Prop) (w : World) (g : Nat) (p : Int) (S : List Sec) (ep : Nat) (xs : List UInt8) (hS : 32 ≤ S.length) (hL : loadE S = (ep, xs, 0)) (H : Own D w w [dsk g S []]) :
    Calls Tryz.prog 45 #[.pointer (some ⟨g, 0, none⟩), .int .i64 p] w fun e w' => ∃ q : Option Addr × Nat, e = .returned (.tuple #[.int .u32 (ep : Int), .slice q.1 xs.length q.2, .int .i64 0]) ∧ Own D w w' [dsk g S [], row q.1 5 1 xs.length q.2 (xs.map u8v)] := by
  refine hc_enter (vs := [.pointer (some ⟨g, 0, none⟩), .int .i64 p]) Tryz.func45 rfl _ Tryz.ntmps45 rfl H ?_
  simp only [argSlots, Nat.zero_add]
  refine hc_seq <| hc_region <| hl_v (ov_assign rfl) rfl <| hl_v (ov_assign rfl) rfl <| hl_v (ov_assign rfl) rfl <| hl_nil <| ?_
  refine hx_then_normal <| hc_seq <| hc_region <| hl_v (ov_move rfl) rfl <| ?_
  refine hl_call (σ := Option Addr × Nat) Tryz.call73 rfl rfl (fun w1 H1 => Own.callpx (dsk g S []) H1 fun D' hold hin H2 => Load_is D' w1 g S ep xs 0 hL hS H2) ?_
  intro q
  refine hl_v (ov_move rfl) rfl <| hl_v (ov_extract rfl rfl) rfl <| hl_v (ov_extract rfl rfl) rfl <| hl_v (ov_extract rfl rfl) rfl <| hl_v (ov_assign rfl) rfl <| hl_v (ov_assign rfl) rfl <| ?_
  refine hl_v (ov_assign rfl) rfl <| hl_nil <| hx_then_normal <| hc_seq <| hc_seq <| hc_region <| ?_
  refine hl_v (ov_move rfl) rfl <| hl_v (ov_neq rfl rfl) rfl <| hl_nil <| hx_then_normal <| ?_
  refine hc_cond_T rfl ((by decide)) ?_
  refine hc_seq <| hc_region <| hl_v (ov_move rfl) rfl <| hl_v (ov_move rfl) rfl <| hl_v (ov_move rfl) rfl <| hl_v (ov_assign rfl) rfl <| ?_
  refine hl_v (ov_assign rfl) rfl <| hl_v (ov_assign rfl) rfl <| hl_nil <| hx_then_normal <| hc_ret <| hx_then_ret <| ?_
  exact results_3 (.inr rfl) rfl rfl rfl rfl fun w' H' => ⟨q, rfl, H'⟩
theorem begin_new (D : Nat → Prop) (w : World) (g p : Nat) (S S1 : List Sec) (hS : 32 ≤ S.length) (hp1 : 1 ≤ p) (hp8 : p ≤ 8) (hL : loadE S = (0, [], 13)) (hS1 : S1 = saveS S 1 (cfgB (firstC p))) (hL1 : loadE S1 = (1, cfgB (firstC p), 0)) (H : Own D w w [dsk g S []]) :
    Calls Tryz.prog 45 #[.pointer (some ⟨g, 0, none⟩), .int .i64 (p : Int)] w fun e w' => ∃ q : Option Addr × Nat, e = .returned (.tuple #[.int .u32 1, .slice q.1 (cfgB (firstC p)).length q.2, .int .i64 0]) ∧ Own D w w' [dsk g S1 [], row q.1 5 1 (cfgB (firstC p)).length q.2 ((cfgB (firstC p)).map u8v)] := by
  have hg := firstC_good p hp1 hp8
  have hl1 : S1.length = S.length := by rw [hS1]; exact save_len hS (cfgB_small hg)
  refine hc_enter (vs := [.pointer (some ⟨g, 0, none⟩), .int .i64 (p : Int)]) Tryz.func45 rfl _ Tryz.ntmps45 rfl H ?_
  simp only [argSlots, Nat.zero_add]
  refine hc_seq <| hc_region <| hl_v (ov_assign rfl) rfl <| hl_v (ov_assign rfl) rfl <| hl_v (ov_assign rfl) rfl <| hl_nil <| ?_
  refine hx_then_normal <| hc_seq <| hc_region <| hl_v (ov_move rfl) rfl <| ?_
  refine hl_call (σ := Option Addr × Nat) Tryz.call73 rfl rfl (fun w1 H1 => Own.callpx (dsk g S []) H1 fun D' hold hin H2 => Load_is D' w1 g S 0 [] 13 hL hS H2) ?_
  intro q0
  refine hl_v (ov_move rfl) rfl <| hl_v (ov_extract rfl rfl) rfl <| hl_v (ov_extract rfl rfl) rfl <| hl_v (ov_extract rfl rfl) rfl <| hl_v (ov_assign rfl) rfl <| hl_v (ov_assign rfl) rfl <| ?_
  refine hl_v (ov_assign rfl) rfl <| hl_nil <| hx_then_normal <| hc_seq <| hc_seq <| hc_region <| ?_
  refine hl_v (ov_move rfl) rfl <| hl_v (ov_neq rfl rfl) rfl <| hl_nil <| hx_then_normal <| ?_
  refine hc_cond_F rfl ((fun h => h rfl)) ?_
  refine hc_skip <| hx_then_normal <| hc_seq <| hc_region <| hl_v (ov_move rfl) rfl <| ?_
  refine hl_call (σ := Three) Tryz.call74 rfl rfl (fun w1 H1 => Own.callx0 H1 fun D' hold hin H2 => First_is D' w1 p hp1 hp8) ?_
  intro qc
  try rw [List.nil_append]
  refine hl_v (ov_move rfl) rfl <| hl_v (ov_extract rfl rfl) rfl <| hl_v (ov_extract rfl rfl) rfl <| hl_new (on_alloc) rfl rfl rfl fun b10 =>  ?_
  refine hl_u0 (on_storeW (vs := cfgA (firstC p) qc) rfl rfl rfl (by simp) (by simp [Value.oneCell'])) rfl rfl ?_
  refine hl_v (ov_assign rfl) rfl <| hl_nil <| hx_then_normal <| hc_seq <| hc_seq <| hc_region <| ?_
  refine hl_v (ov_move rfl) rfl <| hl_v (ov_neq rfl rfl) rfl <| hl_nil <| hx_then_normal <| ?_
  refine hc_cond_F rfl ((fun h => h rfl)) ?_
  refine hc_skip <| hx_then_normal <| hc_seq <| hc_seq <| hc_region <| hl_v (ov_move rfl) rfl <| ?_
  refine hl_v (ov_loadW rfl rfl) rfl ?_
  refine hl_c Tryz.call69 rfl rfl (fun w1 H1 => Own.callp (dsk g S []) H1 fun D' hold hin H2 => (save_spec D' w1 g 1 S (firstC p) _ _ _ hS hg (by decide) (ConfOld.rows (q := qc) (firstC_ok p hp8) hin) H2).mono fun e w' ⟨he, H'⟩ => ⟨he, show Own D' w1 w' [dsk g S1 []] by rw [hS1]; exact H'⟩) ?_
  refine hl_v (ov_assign rfl) rfl <| hl_nil <| hx_then_normal <| hc_seq <| hc_region <| hl_v (ov_move rfl) rfl <| ?_
  refine hl_v (ov_neq rfl rfl) rfl <| hl_nil <| hx_then_normal <| ?_
  refine hc_cond_F rfl ((fun h => h rfl)) ?_
  refine hc_skip <| hx_then_normal <| hc_seq <| hc_region <| hl_v (ov_move rfl) rfl <| ?_
  refine hl_call (σ := Option Addr × Nat) Tryz.call73 rfl rfl (fun w1 H1 => Own.callpx (dsk g S1 []) H1 fun D' hold hin H2 => Load_is D' w1 g S1 1 (cfgB (firstC p)) 0 hL1 (by omega) H2) ?_
  intro q2
  refine hl_v (ov_extract rfl rfl) rfl <| hl_v (ov_extract rfl rfl) rfl <| hl_v (ov_extract rfl rfl) rfl <| hl_v (ov_assign rfl) rfl <| hl_v (ov_assign rfl) rfl <| hl_v (ov_assign rfl) rfl <| ?_
  refine hl_nil <| hx_then_normal <| hc_ret <| ?_
  exact results_3 (.inr rfl) rfl rfl rfl rfl fun w' H' => ⟨q2, rfl, H'.ent (by first | assumption | exact Ent.refl _ | exact Ent.nil _ | exact Ent.row_any (Ent.refl _) | (repeat (first | exact Ent.refl _ | exact Ent.nil _ | refine Ent.pick ?_)))⟩
set_option maxHeartbeats 1000000 in
theorem replay_spec (D : Nat → Prop) (w : World) (c : ConfC) (q : Three) (v : Value) (Ls : List (List EditC)) (d : ConfC) (hok : OkC c) (hr : replF c Ls = some d) (hLs : ∀ l ∈ Ls, okEds l ∧ ∀ x ∈ l, Flat.ok x) (HA : Old D w (Rep.rep (Ls.map edsB) [v])) (H : Own D w w (cfgR c q)) :
    Calls Tryz.prog 48 #[.agg (cfgA c q).toArray, v] w fun e w' => ∃ q' : Three, e = .returned (.tuple #[.agg (cfgA d q').toArray, .int .i64 0]) ∧ Own D w w' (cfgR d q') := by
  obtain ⟨A, cap, rfl, hc1, hc2, hel⟩ := HA.openX (by decide)
  have hml : (Ls.map edsB).length = Ls.length := List.length_map _
  have hst : ∀ i, i ≤ Ls.length → ∃ ci, replF c (Ls.take i) = some ci ∧ replF ci (Ls.drop i) = some d ∧ OkC ci := by
    intro i
    induction i with
    | zero => exact fun _ => ⟨c, rfl, hr, hok⟩
    | succ i ih =>
      intro hi
      obtain ⟨ci, h1, h2, h3⟩ := ih (by omega)
      rw [List.drop_eq_getElem_cons (by omega)] at h2
      have h2 : (if (edF ci Ls[i]).2 = 0 then replF (edF ci Ls[i]).1 (Ls.drop (i + 1)) else none) = some d := h2
      split at h2
      · rename_i h0
        refine ⟨_, ?_, h2, editR_ok (edF_R ci Ls[i]) h3 (hLs _ (List.getElem_mem (by omega))).2⟩
        rw [List.take_succ_eq_append_getElem (by omega)]
        exact replF_snoc _ _ _ _ h1 h0
      · cases h2
  refine hc_enter (vs := [.agg (cfgA c q).toArray, .slice A (Ls.map edsB).length cap]) Tryz.func48 rfl _ Tryz.ntmps48 rfl H ?_
  simp only [argSlots, Nat.zero_add]
  refine hc_seq <| hc_region <| ?_
  refine hl_new (on_boxG (cs := cfgA c q) rfl) rfl rfl rfl (fun b2 => ?_)
  refine hl_new (on_alloc) rfl rfl rfl fun b4 => 
    hl_v (ov_assign rfl) rfl <| hl_nil <| hx_then_normal <| hc_seq <| hc_seq <| ?_
  refine hc_region <| hl_v (ov_move rfl) rfl <| hl_v (by first | exact ov_len rfl | exact ov_lenS rfl) rfl <| ?_
  refine hl_v (ov_move rfl) rfl <| hl_nil <| hx_then_normal <| hc_block <| ?_
  refine hc_loopK1 (σ := Nat × ConfC) [2, 4, 10, 11] rfl 12 (fun s => .int .i64 (s.1 : Int)) (fun s => [cfgO b2 s.2, blk b4 49 [.int .i64 0, .int .i64 0, .int .i64 0, .slice none 0 0, .slice none 0 0, .slice none 0 0]]) (fun s => s.1 ≤ Ls.length ∧ replF s.2 (Ls.drop s.1) = some d ∧ OkC s.2) (fun s => Ls.length - s.1) ((0, c)) (⟨Nat.zero_le _, hr, hok⟩) rfl (Ent.trans (b := cfgQ b2 c q ++ [blk b4 49 [.int .i64 0, .int .i64 0, .int .i64 0, .slice none 0 0, .slice none 0 0, .slice none 0 0]]) (by first | assumption | exact Ent.refl _ | exact Ent.nil _ | exact Ent.row_any (Ent.refl _) | (repeat (first | exact Ent.refl _ | exact Ent.nil _ | refine Ent.pick ?_))) (cfgO_mk q)) ?_
  rintro ⟨i, ci⟩ hj_ K1 hK1
  dsimp only at hj_ ⊢
  obtain ⟨hi, hrc, hoc⟩ := hj_
  refine hc_seq <| hc_region <| hl_v (ov_lss rfl rfl) rfl <| hl_nil <| hx_then_normal <| hc_seq <| ?_
  refine hc_cond rfl (fun h => ?_) (fun h => ?_)
  · have hlt : i < Ls.length := by omega
    obtain ⟨hA, cs, hxo, hcs⟩ := hel i (by omega)
    obtain ⟨B, cb, rfl, hxo⟩ := bytes_open hxo
    have hcell : ∀ l', CellIs D w l' (ab A) (ao A + i * 1) (.slice B (Ls.map edsB)[i].length cb) := fun l' => hcs 0 _ rfl l'
    have hli : (Ls.map edsB)[i] = edsB Ls[i] := by rw [List.getElem_map]
    rw [hli] at hcell hxo
    obtain ⟨hle, hlf⟩ := hLs _ (List.getElem_mem hlt)
    rw [List.drop_eq_getElem_cons hlt] at hrc
    obtain ⟨l, hl⟩ : ∃ l, l = Ls[i] := ⟨_, rfl⟩
    rw [← hl] at hcell hxo hle hlf hrc
    have hrc : (if (edF ci l).2 = 0 then replF (edF ci l).1 (Ls.drop (i + 1)) else none) = some d := hrc
    split at hrc
    · rename_i h0
      obtain ⟨c2, hc2e⟩ : ∃ c2, c2 = (edF ci l).1 := ⟨_, rfl⟩
      have hed : edF ci l = (c2, 0) := Prod.ext hc2e.symm h0
      have hoc2 : OkC c2 := by rw [hc2e]; exact editR_ok (edF_R ci l) hoc hlf
      rw [← hc2e] at hrc
      refine hc_skip <| hx_then_normal <| hc_seq <| hc_block <| hc_seq <| hc_region <| ?_
      refine hl_v (ov_idxS rfl (by assumption) rfl _ rfl (by omega)) rfl <| ?_
      refine hl_v (ov_load rfl (hcell _)) rfl ?_
      refine hl_v (ov_assign rfl) rfl <| hl_nil <| hx_then_normal <| hc_seq <| hc_region <| hl_v (ov_move rfl) rfl <| ?_
      refine hl_call (σ := Option Addr × Nat) Tryz.call80 rfl rfl (fun w1 H1 => Own.callx0 H1 fun D' hold hin H2 => List_g D' w1 _ l hle (hold _ hxo)) ?_
      intro qe
      try rw [List.nil_append]
      refine hl_v (ov_move rfl) rfl <| hl_v (ov_extract rfl rfl) rfl <| hl_v (ov_extract rfl rfl) rfl <| hl_v (ov_assign rfl) rfl <| hl_v (ov_assign rfl) rfl <| hl_nil <| ?_
      refine hx_then_normal <| hc_seq <| hc_seq <| hc_region <| hl_v (ov_move rfl) rfl <| hl_v (ov_neq rfl rfl) rfl <| ?_
      refine hl_nil <| hx_then_normal <| ?_
      refine hc_cond_F rfl ((fun h => h rfl)) ?_
      refine HC.ent (Ent.trans (b := cfgO b2 ci :: [row qe.1 81 7 l.length qe.2 (l.flatMap editV), blk b4 49 [.int .i64 0, .int .i64 0, .int .i64 0, .slice none 0 0, .slice none 0 0, .slice none 0 0]]) (by first | assumption | exact Ent.refl _ | exact Ent.nil _ | exact Ent.row_any (Ent.refl _) | (repeat (first | exact Ent.refl _ | exact Ent.nil _ | refine Ent.pick ?_))) (Ent.refl _)) ?_
      refine HC.exs ?_
      intro q2
      refine HC.ent (l' := cfgQ b2 ci q2 ++ [row qe.1 81 7 l.length qe.2 (l.flatMap editV), blk b4 49 [.int .i64 0, .int .i64 0, .int .i64 0, .slice none 0 0, .slice none 0 0, .slice none 0 0]]) (fun _ h => h) ?_
      refine hc_skip <| hx_then_normal <| hc_seq <| hc_region <| ?_
      refine hl_v (ov_loadW rfl rfl) rfl ?_
      refine hl_v (ov_move rfl) rfl <| ?_
      refine hl_call (σ := Three) Tryz.call56 rfl rfl (fun w1 H1 => Own.callx0 H1 fun D' hold hin H2 => Edit_is D' w1 ci _ _ _ _ l c2 0 hed (by have := hle.1; omega) (ConfOld.rows (q := q2) hoc hin) (hin _ fun h hs ho => rep_row (A := qe.1) hs l rfl (repL_F.2 ⟨rfl, hlf⟩))) ?_
      intro q3
      try rw [List.nil_append]
      refine hl_v (ov_move rfl) rfl <| hl_v (ov_extract rfl rfl) rfl <| hl_v (ov_extract rfl rfl) rfl <| ?_
      refine hl_u0 (on_storeW (vs := cfgA c2 q3) rfl rfl rfl (by simp) (by simp [Value.oneCell'])) rfl rfl ?_
      refine hl_v (ov_assign rfl) rfl <| hl_nil <| hx_then_normal <| hc_seq <| hc_region <| hl_v (ov_move rfl) rfl <| ?_
      refine hl_v (ov_neq rfl rfl) rfl <| hl_nil <| hx_then_normal <| ?_
      refine hc_cond_F rfl ((fun h => h rfl)) ?_
      refine hc_skip <| hx_block_normal <| hx_then_normal <| hc_region <| hl_v (ov_add rfl rfl (by first | exact wrap_i64 (by omega) | rfl)) rfl <| ?_
      refine hl_v (ov_move rfl) rfl <| hl_nil <| ?_
      exact hx_next hK1 ((i + 1, c2)) (⟨hlt, hrc, hoc2⟩) (by show Ls.length - (i + 1) < Ls.length - i; omega) (by repeat (first | exact Slots.sub_nil _ | refine Slots.sub_cons rfl ?_)) (Ent.trans (b := cfgQ b2 c2 q3 ++ [blk b4 49 [.int .i64 0, .int .i64 0, .int .i64 0, .slice none 0 0, .slice none 0 0, .slice none 0 0]]) (by first | assumption | exact Ent.refl _ | exact Ent.nil _ | exact Ent.row_any (Ent.refl _) | (repeat (first | exact Ent.refl _ | exact Ent.nil _ | refine Ent.pick ?_))) (cfgO_mk q3))
    cases hrc
  have hil : i = Ls.length := by omega
  rw [hil, List.drop_length] at hrc
  have hrc : some ci = some d := hrc
  injection hrc with hrc
  subst hrc
  refine HC.exs ?_
  intro q2
  refine HC.ent (l' := cfgQ b2 ci q2 ++ [blk b4 49 [.int .i64 0, .int .i64 0, .int .i64 0, .slice none 0 0, .slice none 0 0, .slice none 0 0]]) (fun _ h => h) ?_
  refine hc_exit <| hx_then_exit <| hx_then_exit <| hx_block_out <| hx_then_normal <| hc_seq <| ?_
  refine hc_region <| ?_
  refine hl_v (ov_loadW rfl rfl) rfl ?_
  refine hl_u0 (on_storeW (vs := cfgA ci q2) rfl rfl rfl (by simp) (by simp [Value.oneCell'])) rfl rfl ?_
  refine hl_v (ov_assign rfl) rfl <| hl_nil <| hx_then_normal <| hc_ret <| ?_
  exact results_ct (.inr rfl) rfl rfl (by simp) rfl fun w' H' => ⟨q2, rfl, H'.ent (by first | assumption | exact Ent.refl _ | exact Ent.nil _ | exact Ent.row_any (Ent.refl _) | (repeat (first | exact Ent.refl _ | exact Ent.nil _ | refine Ent.pick ?_)))⟩
end Go.Proofs.YtjlolpmmpafjeaaGreat
set_option linter.unusedVariables false
set_option linter.unusedSimpArgs false
namespace Go.Proofs.YtjlolpmmpafjeaaGreat
open Slk
theorem JOpen_is (D : Nat → Prop) (w : World) (g : Nat) (S : List Sec) (from_ to_ N : Nat) (T : List Sec) (ep : Nat) (L : List (List UInt8)) (k end_ : Nat) (hE : entsF ep N 0 T = (L, k)) (he : end_ = from_ + k) (hto : to_ ≤ S.length) (hS : S.length ≤ 100000) (hN : from_ + N = to_) (hN0 : 0 < N) (hT : T = (S.drop from_).take N) (H : Own D w w [dsk g S []]) :
    Calls Tryz.prog 47 #[.pointer (some ⟨g, 0, none⟩), .int .i64 (from_ : Int), .int .i64 (to_ : Int), .int .u32 (ep : Int)] w fun e w' => ∃ jb : Nat, e = .returned (.tuple #[.pointer (some ⟨jb, 0, none⟩), .int .i64 0]) ∧ Own D w w' [jou jb g from_ to_ ep end_ L, dsk g S []] := by
  have h := JOpen_ok D w g S from_ to_ N T ep hto hS hN hN0 hT H
  rw [hE] at h
  subst he
  exact h
theorem Append_is (D : Nat → Prop) (w : World) (jb g from_ to_ ep end_ : Nat) (L ps : List (List UInt8)) (v : Value) (S : List Sec) (x : List UInt8) (n end' : Nat) (L' : List (List UInt8)) (S' : List Sec) (hx : x = ps.flatten) (hn : needM x.length = n) (he : end' = end_ + n) (hL' : L' = L ++ [x]) (hS' : S' = putS S end_ (encE (jouE ep L.length x))) (hle : end_ ≤ to_) (hto : to_ ≤ S.length) (hS : S.length ≤ 100000) (hp : x.length ≤ 4000) (hfit : n ≤ to_ - end_) (hep : ep < 4294967296) (hL : L.length ≤ 1000000) (HA : Old D w (Rep.rep ps [v])) (H : Own D w w [jou jb g from_ to_ ep end_ L, dsk g S []]) :
    Calls Tryz.prog 58 #[.pointer (some ⟨jb, 0, none⟩), v] w fun e w' => e = .returned (.int .i64 0) ∧ Own D w w' [jou jb g from_ to_ ep end' L', dsk g S' []] := by
  subst he; subst hL'; subst hS'
  exact Append_ok D w jb g from_ to_ ep end_ L ps v S x hx _ rfl n hn hle hto hS hp hfit hep hL HA H
end Go.Proofs.YtjlolpmmpafjeaaGreat
