import Derived.Test.YtijaldfiaeafgaaJou3
set_option linter.unusedVariables false
set_option linter.unusedSimpArgs false
namespace Go.Proofs.Ytijaldfiaeafgaa
open Slk
theorem JOpen_nil (D : Nat → Prop) (w : World) (from_ to_ : Int) (ep : Nat) : Calls Try.prog 30 #[.pointer none, .int .i64 from_, .int .i64 to_, .int .u32 (ep : Int)] w fun e w' => e = .returned (.tuple #[.pointer none, .int .i64 1]) ∧ Own D w w' [] := by
  refine hc_enter (vs := [.pointer none, .int .i64 from_, .int .i64 to_, .int .u32 (ep : Int)]) Try.func30 rfl _ Try.ntmps30 rfl (Own.start D w) ?_
  simp only [argSlots, Nat.zero_add]
  refine hc_seq <| hc_region <| hl_v (ov_assign rfl) rfl <| hl_v (ov_assign rfl) rfl <| hl_nil <| hx_then_normal <| ?_
  refine hc_seq <| hc_seq <| hc_region <| hl_v (ov_move rfl) rfl <| hl_v (ov_eqlP rfl rfl) rfl <| hl_v (ov_move rfl) rfl <| ?_
  refine hl_off rfl rfl rfl rfl rfl rfl <| hl_off rfl rfl rfl rfl rfl rfl <| hl_v (ov_pickT rfl rfl) rfl <| hl_v (ov_move rfl) rfl <| hl_off rfl rfl rfl rfl rfl rfl <| hl_off rfl rfl rfl rfl rfl rfl <| ?_
  refine hl_off rfl rfl rfl rfl rfl rfl <| hl_v (ov_pickT rfl rfl) rfl <| hl_v (ov_move rfl) rfl <| hl_off rfl rfl rfl rfl rfl rfl <| hl_off rfl rfl rfl rfl rfl rfl <| hl_off rfl rfl rfl rfl rfl rfl <| ?_
  refine hl_off rfl rfl rfl rfl rfl rfl <| hl_v (ov_pickT rfl rfl) rfl <| hl_nil <| hx_then_normal <| hc_cond_true rfl <| hc_seq <| ?_
  refine hc_region <| hl_v (ov_assign rfl) rfl <| hl_v (ov_assign rfl) rfl <| hl_nil <| hx_then_normal <| hc_ret <| ?_
  refine hx_then_ret <| ?_
  exact results_2 (.inr rfl) rfl rfl rfl fun w' H' => ⟨rfl, H'⟩
theorem JOpen_no (D : Nat → Prop) (w : World) (g : Nat) (S : List Sec) (from_ to_ : Int) (ep : Nat) (hbad : from_ < 0 ∨ to_ ≤ from_ ∨ (S.length : Int) < to_) (H : Own D w w [dsk g S []]) : Calls Try.prog 30 #[.pointer (some ⟨g, 0, none⟩), .int .i64 from_, .int .i64 to_, .int .u32 (ep : Int)] w fun e w' => e = .returned (.tuple #[.pointer none, .int .i64 1]) ∧ Own D w w' [dsk g S []] := by
  refine hc_enter (vs := [.pointer (some ⟨g, 0, none⟩), .int .i64 from_, .int .i64 to_, .int .u32 (ep : Int)]) Try.func30 rfl _ Try.ntmps30 rfl H ?_
  simp only [argSlots, Nat.zero_add]
  refine hc_seq <| hc_region <| hl_v (ov_assign rfl) rfl <| hl_v (ov_assign rfl) rfl <| hl_nil <| hx_then_normal <| ?_
  refine hc_seq <| hc_seq <| hc_region <| hl_v (ov_move rfl) rfl <| hl_v (ov_eqlP rfl rfl) rfl <| hl_v (ov_move rfl) rfl <| ?_
  refine hl_on rfl rfl <| hl_v (ov_move rfl) rfl <| hl_on rfl rfl <| hl_v (ov_lss rfl rfl) rfl <| hl_v (ov_pickF rfl rfl) rfl <| hl_v (ov_move rfl) rfl <| ?_
  refine hl_part (t := 21) rfl (fun c1 => ?_) (fun c1 => ?_)
  · refine hl_off rfl rfl rfl rfl rfl rfl <| hl_off rfl rfl rfl rfl rfl rfl <| hl_off rfl rfl rfl rfl rfl rfl <| hl_v (ov_pickT rfl rfl) rfl <| hl_v (ov_move rfl) rfl <| hl_off rfl rfl rfl rfl rfl rfl <| ?_
    refine hl_off rfl rfl rfl rfl rfl rfl <| hl_off rfl rfl rfl rfl rfl rfl <| hl_off rfl rfl rfl rfl rfl rfl <| hl_v (ov_pickT rfl rfl) rfl <| hl_nil <| hx_then_normal <| ?_
    refine hc_cond_true rfl <| hc_seq <| hc_region <| hl_v (ov_assign rfl) rfl <| hl_v (ov_assign rfl) rfl <| hl_nil <| ?_
    refine hx_then_normal <| hc_ret <| hx_then_ret <| ?_
    exact results_2 (.inr rfl) rfl rfl rfl fun w' H' => ⟨rfl, H'⟩
  refine hl_on rfl rfl <| hl_v (ov_move rfl) rfl <| hl_on rfl rfl <| hl_v (ov_move rfl) rfl <| hl_on rfl rfl <| hl_v (ov_geq rfl rfl) rfl <| hl_v (ov_pickF rfl rfl) rfl <| hl_v (ov_move rfl) rfl <| ?_
  refine hl_part (t := 26) rfl (fun c2 => ?_) (fun c2 => ?_)
  · refine hl_off rfl rfl rfl rfl rfl rfl <| hl_off rfl rfl rfl rfl rfl rfl <| hl_off rfl rfl rfl rfl rfl rfl <| hl_off rfl rfl rfl rfl rfl rfl <| hl_v (ov_pickT rfl rfl) rfl <| hl_nil <| ?_
    refine hx_then_normal <| hc_cond_true rfl <| hc_seq <| hc_region <| hl_v (ov_assign rfl) rfl <| hl_v (ov_assign rfl) rfl <| ?_
    refine hl_nil <| hx_then_normal <| hc_ret <| hx_then_ret <| ?_
    exact results_2 (.inr rfl) rfl rfl rfl fun w' H' => ⟨rfl, H'⟩
  refine hl_on rfl rfl <| hl_v (ov_move rfl) rfl <| hl_on rfl rfl <| hl_v (ov_move rfl) rfl <| ?_
  refine hl_on rfl rfl <| hl_c Try.call45 rfl rfl (fun w1 H1 => Own.callp (dsk g S []) H1 fun D' hold hin H2 => Len_spec D' w1 g S [] H2) ?_
  refine hl_on rfl rfl <| hl_v (ov_gtr rfl rfl) rfl <| hl_v (ov_pickF rfl rfl) rfl <| hl_nil <| hx_then_normal <| ?_
  refine hc_cond_T rfl ((by omega)) ?_
  refine hc_seq <| hc_region <| hl_v (ov_assign rfl) rfl <| hl_v (ov_assign rfl) rfl <| hl_nil <| hx_then_normal <| ?_
  refine hc_ret <| hx_then_ret <| ?_
  exact results_2 (.inr rfl) rfl rfl rfl fun w' H' => ⟨rfl, H'⟩
set_option maxHeartbeats 2000000 in
theorem JOpen_ok (D : Nat → Prop) (w : World) (g : Nat) (S : List Sec) (from_ to_ N : Nat) (T : List Sec) (ep : Nat) (hto : to_ ≤ S.length) (hS : S.length ≤ 100000) (hN : from_ + N = to_) (hN0 : 0 < N) (hT : T = (S.drop from_).take N) (H : Own D w w [dsk g S []]) :
    Calls Try.prog 30 #[.pointer (some ⟨g, 0, none⟩), .int .i64 (from_ : Int), .int .i64 (to_ : Int), .int .u32 (ep : Int)] w fun e w' => ∃ jb : Nat, e = .returned (.tuple #[.pointer (some ⟨jb, 0, none⟩), .int .i64 0]) ∧ Own D w w' [jou jb g from_ to_ ep (from_ + (entsF ep N 0 T).2) (entsF ep N 0 T).1, dsk g S []] := by
  have hTl : T.length = N := by rw [hT, List.length_take, List.length_drop]; omega
  refine hc_enter (vs := [.pointer (some ⟨g, 0, none⟩), .int .i64 (from_ : Int), .int .i64 (to_ : Int), .int .u32 (ep : Int)]) Try.func30 rfl _ Try.ntmps30 rfl H ?_
  simp only [argSlots, Nat.zero_add]
  refine hc_seq <| hc_region <| hl_v (ov_assign rfl) rfl <| hl_v (ov_assign rfl) rfl <| hl_nil <| hx_then_normal <| ?_
  refine hc_seq <| hc_seq <| hc_region <| hl_v (ov_move rfl) rfl <| hl_v (ov_eqlP rfl rfl) rfl <| hl_v (ov_move rfl) rfl <| ?_
  refine hl_on rfl rfl <| hl_v (ov_move rfl) rfl <| hl_on rfl rfl <| hl_v (ov_lss rfl rfl) rfl <| hl_v (ov_pickF rfl rfl) rfl <| hl_v (ov_move rfl) rfl <| ?_
  refine hl_partF (t := 21) rfl ((by omega)) ?_
  refine hl_on rfl rfl <| hl_v (ov_move rfl) rfl <| hl_on rfl rfl <| hl_v (ov_move rfl) rfl <| hl_on rfl rfl <| hl_v (ov_geq rfl rfl) rfl <| hl_v (ov_pickF rfl rfl) rfl <| hl_v (ov_move rfl) rfl <| ?_
  refine hl_partF (t := 26) rfl ((by omega)) ?_
  refine hl_on rfl rfl <| hl_v (ov_move rfl) rfl <| hl_on rfl rfl <| hl_v (ov_move rfl) rfl <| ?_
  refine hl_on rfl rfl <| hl_c Try.call45 rfl rfl (fun w1 H1 => Own.callp (dsk g S []) H1 fun D' hold hin H2 => Len_spec D' w1 g S [] H2) ?_
  refine hl_on rfl rfl <| hl_v (ov_gtr rfl rfl) rfl <| hl_v (ov_pickF rfl rfl) rfl <| hl_nil <| hx_then_normal <| ?_
  refine hc_cond_F rfl ((by omega)) ?_
  refine hc_skip <| hx_then_normal <| hc_seq <| hc_region <| hl_v (ov_move rfl) rfl <| hl_v (ov_move rfl) rfl <| ?_
  refine hl_v (ov_move rfl) rfl <| hl_v (ov_buildSN rfl rfl) rfl <| ?_
  refine hl_v (ov_move rfl) rfl <| hl_v (ov_move rfl) rfl <| hl_v (ov_buildSN rfl rfl) rfl <| ?_
  refine hl_new (on_boxN rfl rfl) rfl rfl rfl fun b39 =>  ?_
  refine hl_v (ov_assign rfl) rfl <| hl_nil <| hx_then_normal <| hc_seq <| hc_region <| hl_v (ov_move rfl) rfl <| ?_
  refine hl_v (ov_nil rfl) rfl <| hl_v (ov_fieldA rfl) rfl <| ?_
  refine hl_v (ov_loadGB rfl rfl) rfl ?_
  refine hl_v (ov_move rfl) rfl <| ?_
  refine hl_call (σ := Option Addr × Nat) Try.call56 rfl rfl (fun w1 H1 => Own.callpx (dsk g S []) H1 fun D' hold hin H2 => sectors_spec D' w1 g from_ to_ from_ N S T hto hS hN hT H2) ?_
  rintro ⟨A, cap⟩
  dsimp only
  refine HL.fact (fun w H => Own.factR A H) ?_
  rintro ⟨_, hcap, hcap2, _⟩
  refine hl_v (ov_assign rfl) rfl <| hl_nil <| hx_then_normal <| hc_seq <| hc_block <| ?_
  refine hc_loopK1 (σ := Nat × List (List UInt8) × (Option Addr × Nat × List Value) × (Option Addr × Nat)) [3, 10] rfl 11 (fun s => .slice s.2.2.2.1 (N - s.1) s.2.2.2.2) (fun s => [jouB b39 g from_ to_ ep (from_ + s.1) s.2.1.length (s.2.2.1.1, s.2.2.1.2.1), row s.2.2.1.1 23 1 s.2.1.length s.2.2.1.2.1 s.2.2.1.2.2, rowsB 5 s.2.1 s.2.2.1.2.2, row A 34 64 N cap (T.flatMap secC), dsk g S []]) (fun s => s.1 ≤ N ∧ s.2.1.length ≤ s.1 ∧ N - s.1 ≤ s.2.2.2.2 ∧ (∀ h, Rep.rep T [.slice A N cap] h → Rep.rep (T.drop s.1) [.slice s.2.2.2.1 (N - s.1) s.2.2.2.2] h) ∧ entsF ep N 0 T = (s.2.1 ++ (entsF ep (N - s.2.1.length) s.2.1.length (T.drop s.1)).1, s.1 + (entsF ep (N - s.2.1.length) s.2.1.length (T.drop s.1)).2)) (fun s => N - s.1) ((0, [], (none, 0, []), (A, cap))) (⟨Nat.zero_le _, Nat.le_refl _, hcap, fun _ h => h, by simp⟩) rfl (Ent.trans (b := jouB b39 g from_ to_ ep from_ 0 (none, 0) :: [row A 34 64 N cap (T.flatMap secC), dsk g S []]) (by first | assumption | exact Ent.refl _ | exact Ent.nil _ | exact Ent.row_any (Ent.refl _) | (repeat (first | exact Ent.refl _ | exact Ent.nil _ | refine Ent.pick ?_))) (Ent.cons (rowsB_nil.trans (Ent.nil_row 23 1)))) ?_
  rintro ⟨k, LL, ⟨qa, qc, ds⟩, A2, cp2⟩ hj_ K1 hK1
  dsimp only at hj_ ⊢
  obtain ⟨hkN, hLk, hc2, hrep, hent⟩ := hj_
  refine hc_seq <| hc_seq <| hc_region <| hl_v (ov_move rfl) rfl <| hl_v (by first | exact ov_len rfl | exact ov_lenS rfl) rfl <| ?_
  refine hl_v (ov_gtr rfl rfl) rfl <| hl_nil <| hx_then_normal <| ?_
  refine hc_cond rfl (fun hgo => ?_) (fun hgo => ?_)
  · have hk : k < N := by omega
    obtain ⟨f, hf⟩ : ∃ f, N - LL.length = f + 1 := ⟨N - LL.length - 1, by omega⟩
    rw [hf] at hent
    rw [entsF] at hent
    rcases hd : decS (T.drop k) with _ | ⟨x, n⟩
    · have hfin : entsF ep N 0 T = (LL, k) := by rw [hent, hd]; simp
      refine hc_skip <| hx_then_normal <| hc_block <| hc_seq <| hc_region <| hl_v (ov_move rfl) rfl <| ?_
      refine hl_c Try.call57 rfl rfl (fun w1 H1 => Own.calln H1 fun D' hold hin H2 => Decode_none D' w1 _ (T.drop k) hd (hin _ fun h hs ho => hrep _ (rep_row (A := A) hs T hTl.symm (repL_secs.2 rfl)))) ?_
      refine hl_v (ov_move rfl) rfl <| hl_v (ov_extract rfl rfl) rfl <| hl_v (ov_extract rfl rfl) rfl <| hl_v (ov_extract rfl rfl) rfl <| hl_new (on_alloc) rfl rfl rfl fun b12 =>  ?_
      refine hl_u0 (on_storeW (vs := [.int .i64 0, .int .u32 0, .int .u32 0, .slice none 0 0]) rfl rfl (by simp) (by simp) (by simp [Value.oneCell'])) rfl rfl ?_
      refine hl_v (ov_assign rfl) rfl <| hl_v (ov_assign rfl) rfl <| hl_nil <| hx_then_normal <| hc_seq <| hc_seq <| ?_
      refine hc_quiet mixed (by kernel_rfl) <| hq_v (ov_move rfl) rfl <| hq_v (ov_neq rfl rfl) rfl <| hq_v (ov_move rfl) rfl <| ?_
      refine hq_partT (t := 57) rfl ((by decide)) ?_
      refine hq_off rfl rfl rfl rfl rfl rfl <| hq_off rfl rfl rfl rfl rfl rfl <| hq_off rfl rfl rfl rfl rfl rfl <| hq_v (ov_pickT rfl rfl) rfl <| hq_v (ov_move rfl) rfl <| hq_off rfl rfl rfl rfl rfl rfl <| ?_
      refine hq_off rfl rfl rfl rfl rfl rfl <| hq_off rfl rfl rfl rfl rfl rfl <| hq_off rfl rfl rfl rfl rfl rfl <| hq_v (ov_pickT rfl rfl) rfl <| hq_v (ov_move rfl) rfl <| hq_off rfl rfl rfl rfl rfl rfl <| ?_
      refine hq_off rfl rfl rfl rfl rfl rfl <| hq_off rfl rfl rfl rfl rfl rfl <| hq_off rfl rfl rfl rfl rfl rfl <| hq_off rfl rfl rfl rfl rfl rfl <| hq_off rfl rfl rfl rfl rfl rfl <| hq_off rfl rfl rfl rfl rfl rfl <| ?_
      refine hq_off rfl rfl rfl rfl rfl rfl <| hq_off rfl rfl rfl rfl rfl rfl <| hq_v (ov_pickT rfl rfl) rfl <| hq_nil <| hx_then_normal <| hc_cond_true rfl <| ?_
      refine hc_exit <| hx_then_exit <| hx_block_on rfl <| hx_then_exit <| hx_block_out <| hx_then_normal <| ?_
      refine hc_seq <| hc_region <| hl_v (ov_move rfl) rfl <| hl_v (ov_assign rfl) rfl <| hl_v (ov_assign rfl) rfl <| hl_nil <| ?_
      refine hx_then_normal <| hc_ret <| ?_
      exact results_2 (.inr rfl) rfl rfl rfl fun w' H' => ⟨b39, rfl, H'.ent (Ent.trans (b := jouB b39 g from_ to_ ep (from_ + k) LL.length (qa, qc) :: row qa 23 1 LL.length qc ds :: rowsB 5 LL ds :: [dsk g S []]) (by first | assumption | exact Ent.refl _ | exact Ent.nil _ | exact Ent.row_any (Ent.refl _) | (repeat (first | exact Ent.refl _ | exact Ent.nil _ | refine Ent.pick ?_))) (by rw [hfin]; exact jou_mk))⟩
    rw [hd] at hent
    dsimp only at hent
    have hnk : 1 ≤ n ∧ n ≤ (T.drop k).length := by
      rcases hTk : T.drop k with _ | ⟨s, r⟩
      · have := congrArg List.length hTk
        rw [List.length_drop, List.length_nil] at this; omega
      · rw [hTk] at hd; exact (decS_head hd).2
    rw [List.length_drop] at hnk
    refine hc_skip <| hx_then_normal <| hc_block <| hc_seq <| hc_region <| hl_v (ov_move rfl) rfl <| ?_
    refine hl_call (σ := Option Addr × Nat) Try.call57 rfl rfl (fun w1 H1 => Own.callx0 H1 fun D' hold hin H2 => Decode_some D' w1 _ (T.drop k) x n hd (hin _ fun h hs ho => hrep _ (rep_row (A := A) hs T hTl.symm (repL_secs.2 rfl)))) ?_
    intro qx
    try rw [List.nil_append]
    refine hl_v (ov_move rfl) rfl <| hl_v (ov_extract rfl rfl) rfl <| hl_v (ov_extract rfl rfl) rfl <| hl_v (ov_extract rfl rfl) rfl <| hl_new (on_alloc) rfl rfl rfl fun b12 =>  ?_
    refine hl_u0 (on_storeW (vs := entV x qx) rfl rfl (by simp [entV]) (by simp [entV]) (by simp [entV, Value.oneCell'])) rfl rfl ?_
    refine hl_v (ov_assign rfl) rfl <| hl_v (ov_assign rfl) rfl <| hl_nil <| hx_then_normal <| hc_seq <| hc_seq <| ?_
    refine hc_quiet mixed (by kernel_rfl) <| hq_v (ov_move rfl) rfl <| hq_v (ov_neq rfl rfl) rfl <| hq_v (ov_move rfl) rfl <| ?_
    refine hq_partF (t := 57) rfl ((fun h => h rfl)) ?_
    refine hq_on rfl rfl <| hq_v (ov_fieldA rfl) rfl <| hq_on rfl rfl <| hq_v (ov_load rfl (CellIs.blk rfl)) rfl <| hq_on rfl rfl <| hq_v (ov_neq rfl rfl) rfl <| hq_v (ov_pickF rfl rfl) rfl <| hq_v (ov_move rfl) rfl <| ?_
    refine hq_part (t := 62) rfl (fun c1 => ?_) (fun c1 => ?_)
    · have hfin : entsF ep N 0 T = (LL, k) := by rw [hent, if_neg (by omega)]; simp
      refine hq_off rfl rfl rfl rfl rfl rfl <| hq_off rfl rfl rfl rfl rfl rfl <| hq_off rfl rfl rfl rfl rfl rfl <| hq_off rfl rfl rfl rfl rfl rfl <| hq_v (ov_pickT rfl rfl) rfl <| hq_v (ov_move rfl) rfl <| ?_
      refine hq_off rfl rfl rfl rfl rfl rfl <| hq_off rfl rfl rfl rfl rfl rfl <| hq_off rfl rfl rfl rfl rfl rfl <| hq_off rfl rfl rfl rfl rfl rfl <| hq_off rfl rfl rfl rfl rfl rfl <| hq_off rfl rfl rfl rfl rfl rfl <| ?_
      refine hq_off rfl rfl rfl rfl rfl rfl <| hq_off rfl rfl rfl rfl rfl rfl <| hq_off rfl rfl rfl rfl rfl rfl <| hq_v (ov_pickT rfl rfl) rfl <| hq_nil <| hx_then_normal <| ?_
      refine hc_cond_true rfl <| hc_exit <| hx_then_exit <| hx_block_on rfl <| hx_then_exit <| hx_block_out <| ?_
      refine hx_then_normal <| hc_seq <| hc_region <| hl_v (ov_move rfl) rfl <| hl_v (ov_assign rfl) rfl <| hl_v (ov_assign rfl) rfl <| ?_
      refine hl_nil <| hx_then_normal <| hc_ret <| ?_
      exact results_2 (.inr rfl) rfl rfl rfl fun w' H' => ⟨b39, rfl, H'.ent (Ent.trans (b := jouB b39 g from_ to_ ep (from_ + k) LL.length (qa, qc) :: row qa 23 1 LL.length qc ds :: rowsB 5 LL ds :: [dsk g S []]) (by first | assumption | exact Ent.refl _ | exact Ent.nil _ | exact Ent.row_any (Ent.refl _) | (repeat (first | exact Ent.refl _ | exact Ent.nil _ | refine Ent.pick ?_))) (by rw [hfin]; exact jou_mk))⟩
    refine hq_on rfl rfl <| hq_v (ov_fieldA rfl) rfl <| hq_on rfl rfl <| hq_v (ov_load rfl (CellIs.blk rfl)) rfl <| hq_on rfl rfl <| hq_v (ov_move rfl) rfl <| hq_on rfl rfl <| hq_v (ov_neq rfl rfl) rfl <| hq_v (ov_pickF rfl rfl) rfl <| hq_v (ov_move rfl) rfl <| ?_
    refine hq_part (t := 68) rfl (fun c2 => ?_) (fun c2 => ?_)
    · have hfin : entsF ep N 0 T = (LL, k) := by rw [hent, if_neg (by omega)]; simp
      refine hq_off rfl rfl rfl rfl rfl rfl <| hq_off rfl rfl rfl rfl rfl rfl <| hq_off rfl rfl rfl rfl rfl rfl <| hq_off rfl rfl rfl rfl rfl rfl <| hq_off rfl rfl rfl rfl rfl rfl <| hq_off rfl rfl rfl rfl rfl rfl <| ?_
      refine hq_off rfl rfl rfl rfl rfl rfl <| hq_off rfl rfl rfl rfl rfl rfl <| hq_off rfl rfl rfl rfl rfl rfl <| hq_v (ov_pickT rfl rfl) rfl <| hq_nil <| hx_then_normal <| ?_
      refine hc_cond_true rfl <| hc_exit <| hx_then_exit <| hx_block_on rfl <| hx_then_exit <| hx_block_out <| ?_
      refine hx_then_normal <| hc_seq <| hc_region <| hl_v (ov_move rfl) rfl <| hl_v (ov_assign rfl) rfl <| hl_v (ov_assign rfl) rfl <| ?_
      refine hl_nil <| hx_then_normal <| hc_ret <| ?_
      exact results_2 (.inr rfl) rfl rfl rfl fun w' H' => ⟨b39, rfl, H'.ent (Ent.trans (b := jouB b39 g from_ to_ ep (from_ + k) LL.length (qa, qc) :: row qa 23 1 LL.length qc ds :: rowsB 5 LL ds :: [dsk g S []]) (by first | assumption | exact Ent.refl _ | exact Ent.nil _ | exact Ent.row_any (Ent.refl _) | (repeat (first | exact Ent.refl _ | exact Ent.nil _ | refine Ent.pick ?_))) (by rw [hfin]; exact jou_mk))⟩
    refine hq_on rfl rfl <| hq_v (ov_fieldA rfl) rfl <| hq_on rfl rfl <| hq_v (ov_load rfl (CellIs.blk rfl)) rfl <| hq_on rfl rfl <| hq_v (ov_move rfl) rfl <| hq_on rfl rfl <| hq_v (ov_nil rfl) rfl <| hq_on rfl rfl <| hq_v (ov_fieldA rfl) rfl <| hq_on rfl rfl <| hq_v (ov_load rfl (CellIs.blk rfl)) rfl <| ?_
    refine hq_on rfl rfl <| hq_v (by first | exact ov_len rfl | exact ov_lenS rfl) rfl <| ?_
    refine hq_on rfl rfl <| hq_v (ov_conv (m := ((LL.length : Nat) : Int)) rfl (wrap_u32 (by omega))) rfl ?_
    refine hq_on rfl rfl <| hq_v (ov_neq rfl rfl) rfl <| hq_v (ov_pickF rfl rfl) rfl <| hq_nil <| hx_then_normal <| ?_
    refine hc_cond rfl (fun c3 => ?_) (fun c3 => ?_)
    · have hfin : entsF ep N 0 T = (LL, k) := by rw [hent, if_neg (by omega)]; simp
      refine hc_exit <| hx_then_exit <| hx_block_on rfl <| hx_then_exit <| hx_block_out <| hx_then_normal <| ?_
      refine hc_seq <| hc_region <| hl_v (ov_move rfl) rfl <| hl_v (ov_assign rfl) rfl <| hl_v (ov_assign rfl) rfl <| hl_nil <| ?_
      refine hx_then_normal <| hc_ret <| ?_
      exact results_2 (.inr rfl) rfl rfl rfl fun w' H' => ⟨b39, rfl, H'.ent (Ent.trans (b := jouB b39 g from_ to_ ep (from_ + k) LL.length (qa, qc) :: row qa 23 1 LL.length qc ds :: rowsB 5 LL ds :: [dsk g S []]) (by first | assumption | exact Ent.refl _ | exact Ent.nil _ | exact Ent.row_any (Ent.refl _) | (repeat (first | exact Ent.refl _ | exact Ent.nil _ | refine Ent.pick ?_))) (by rw [hfin]; exact jou_mk))⟩
    rw [if_pos ⟨by omega, by omega, by omega⟩] at hent
    have hLx : (LL ++ [x.2.2.2]).length = LL.length + 1 := by simp
    obtain ⟨A3, hA3⟩ : ∃ A3 : Option Addr, A3 = if cp2 = n then A2 else A2.map (·.add (n * 64)) := ⟨_, rfl⟩
    have hrep2 : ∀ h, Rep.rep T [.slice A N cap] h → Rep.rep (T.drop (k + n)) [.slice A3 (N - (k + n)) (cp2 - n)] h := fun h hh => by
      have := rep_cut (hrep h hh) n (N - k) (by omega) (by rw [List.length_drop]; omega)
      rw [List.drop_drop, List.take_of_length_le (by rw [List.length_drop]; omega), Nat.sub_sub] at this
      rw [hA3]; exact this
    have hent2 : entsF ep N 0 T = ((LL ++ [x.2.2.2]) ++ (entsF ep (N - (LL ++ [x.2.2.2]).length) (LL ++ [x.2.2.2]).length (T.drop (k + n))).1, (k + n) + (entsF ep (N - (LL ++ [x.2.2.2]).length) (LL ++ [x.2.2.2]).length (T.drop (k + n))).2) := by
      rw [hent, hLx, show N - (LL.length + 1) = f by omega, List.drop_drop, List.append_assoc, Nat.add_assoc]; rfl
    refine hc_skip <| hx_then_normal <| hc_seq <| ?_
    refine hc_any [blk b12 104 (entV x qx)] mixed 12 rfl ?_
    refine ha_v 0 rfl (ov_move rfl) rfl <| ?_
    refine ha_v 1 rfl (ov_move rfl) rfl <| ?_
    refine ha_v 2 rfl (ov_nil rfl) rfl <| ?_
    refine ha_v 3 rfl (ov_fieldA rfl) rfl <| ?_
    refine ha_v 5 rfl (ov_fieldA rfl) rfl <| ?_
    refine ha_v 6 rfl (ov_load rfl (CellIs.blk rfl)) rfl <| ?_
    refine ha_two 4 7 (by kernel_rfl) ?_ ?_
    · skip
      refine ho_v rfl (ov_load rfl (CellIs.blk rfl)) rfl ?_
      refine ha_one 7 (by kernel_rfl) <| ?_
      refine ho_n rfl (on_buildSliceN rfl rfl rfl) rfl (fun b86 => ?_)
      refine ha_one 8 (by kernel_rfl) <| ?_
      refine ho_n rfl (on_appendR (A := qa) (news := [.slice qx.1 x.2.2.2.length qx.2]) rfl rfl (SrcIs.blk (b := b86)) rfl (by simp [Value.oneCell']) (by decide) (by omega)) rfl ?_
      rintro ⟨A', cap'⟩
      dsimp only
      refine ha_v 9 rfl (ov_nil rfl) rfl <| ?_
      refine ha_v 10 rfl (ov_fieldA rfl) rfl <| ?_
      refine ha_one 11 (by kernel_rfl) <| ?_
      refine ho_w0 rfl (on_storeN rfl rfl rfl rfl rfl) rfl ?_
      refine ha_done (by kernel_rfl) <| ?_
      refine hx_then_normal <| hc_seq <| hc_region <| hl_v (ov_move rfl) rfl <| hl_v (ov_nil rfl) rfl <| hl_v (ov_fieldA rfl) rfl <| ?_
      refine hl_v (ov_load rfl (CellIs.blk rfl)) rfl <| hl_v (ov_move rfl) rfl <| ?_
      refine hl_v (ov_add (m := ((from_ + (k + n) : Nat) : Int)) rfl rfl ((wrap_i64 (by omega)).trans (by omega))) rfl ?_
      refine hl_v (ov_nil rfl) rfl <| hl_v (ov_fieldA rfl) rfl <| hl_u0 (on_storeN rfl rfl rfl rfl rfl) rfl rfl <| hl_nil <| hx_then_normal <| hc_region <| ?_
      refine hl_v (ov_move rfl) rfl <| hl_v (ov_move rfl) rfl <| ?_
      refine hl_v (ov_sl (.slice A3 (N - (k + n)) (cp2 - n)) rfl n (N - k) (.inr ⟨_, _, rfl, rfl⟩) (.inl ⟨rfl, rfl⟩) (by omega) (by omega) (by rw [hA3, Nat.sub_sub])) rfl ?_
      refine hl_v (ov_assign rfl) rfl <| hl_nil <| hx_block_normal <| ?_
      exact hx_next hK1 ((k + n, LL ++ [x.2.2.2], (A', cap', ds ++ [.slice qx.1 x.2.2.2.length qx.2]), (A3, cp2 - n))) (⟨by show k + n ≤ N; omega, by show (LL ++ [x.2.2.2]).length ≤ k + n; omega, by show N - (k + n) ≤ cp2 - n; omega, hrep2, hent2⟩) (by show N - (k + n) < N - k; omega) (by repeat (first | exact Slots.sub_nil _ | refine Slots.sub_cons rfl ?_)) (Ent.trans (b := rowsB 5 LL ds :: row qx.1 5 1 x.2.2.2.length qx.2 (x.2.2.2.map u8v) :: [jouB b39 g from_ to_ ep (from_ + (k + n)) (LL.length + 1) (A', cap'), row A' 23 1 (LL.length + 1) cap' (ds ++ [.slice qx.1 x.2.2.2.length qx.2]), row A 34 64 N cap (T.flatMap secC), dsk g S []]) (by first | assumption | exact Ent.refl _ | exact Ent.nil _ | exact Ent.row_any (Ent.refl _) | (repeat (first | exact Ent.refl _ | exact Ent.nil _ | refine Ent.pick ?_))) (Ent.trans rowsB_snoc (by dsimp only; rw [hLx]; exact (by first | assumption | exact Ent.refl _ | exact Ent.nil _ | exact Ent.row_any (Ent.refl _) | (repeat (first | exact Ent.refl _ | exact Ent.nil _ | refine Ent.pick ?_))))))
    skip
    refine ho_n rfl (on_buildSliceN rfl rfl rfl) rfl (fun b86 => ?_)
    refine ha_one 4 (by kernel_rfl) <| ?_
    refine ho_v rfl (ov_load rfl (CellIs.blk rfl)) rfl ?_
    refine ha_one 8 (by kernel_rfl) <| ?_
    refine ho_n rfl (on_appendR (A := qa) (news := [.slice qx.1 x.2.2.2.length qx.2]) rfl rfl (SrcIs.blk (b := b86)) rfl (by simp [Value.oneCell']) (by decide) (by omega)) rfl ?_
    rintro ⟨A', cap'⟩
    dsimp only
    refine ha_v 9 rfl (ov_nil rfl) rfl <| ?_
    refine ha_v 10 rfl (ov_fieldA rfl) rfl <| ?_
    refine ha_one 11 (by kernel_rfl) <| ?_
    refine ho_w0 rfl (on_storeN rfl rfl rfl rfl rfl) rfl ?_
    refine ha_done (by kernel_rfl) <| ?_
    refine hx_then_normal <| hc_seq <| hc_region <| hl_v (ov_move rfl) rfl <| hl_v (ov_nil rfl) rfl <| hl_v (ov_fieldA rfl) rfl <| ?_
    refine hl_v (ov_load rfl (CellIs.blk rfl)) rfl <| hl_v (ov_move rfl) rfl <| ?_
    refine hl_v (ov_add (m := ((from_ + (k + n) : Nat) : Int)) rfl rfl ((wrap_i64 (by omega)).trans (by omega))) rfl ?_
    refine hl_v (ov_nil rfl) rfl <| hl_v (ov_fieldA rfl) rfl <| hl_u0 (on_storeN rfl rfl rfl rfl rfl) rfl rfl <| hl_nil <| hx_then_normal <| hc_region <| ?_
    refine hl_v (ov_move rfl) rfl <| hl_v (ov_move rfl) rfl <| ?_
    refine hl_v (ov_sl (.slice A3 (N - (k + n)) (cp2 - n)) rfl n (N - k) (.inr ⟨_, _, rfl, rfl⟩) (.inl ⟨rfl, rfl⟩) (by omega) (by omega) (by rw [hA3, Nat.sub_sub])) rfl ?_
    refine hl_v (ov_assign rfl) rfl <| hl_nil <| hx_block_normal <| ?_
    exact hx_next hK1 ((k + n, LL ++ [x.2.2.2], (A', cap', ds ++ [.slice qx.1 x.2.2.2.length qx.2]), (A3, cp2 - n))) (⟨by show k + n ≤ N; omega, by show (LL ++ [x.2.2.2]).length ≤ k + n; omega, by show N - (k + n) ≤ cp2 - n; omega, hrep2, hent2⟩) (by show N - (k + n) < N - k; omega) (by repeat (first | exact Slots.sub_nil _ | refine Slots.sub_cons rfl ?_)) (Ent.trans (b := rowsB 5 LL ds :: row qx.1 5 1 x.2.2.2.length qx.2 (x.2.2.2.map u8v) :: [jouB b39 g from_ to_ ep (from_ + (k + n)) (LL.length + 1) (A', cap'), row A' 23 1 (LL.length + 1) cap' (ds ++ [.slice qx.1 x.2.2.2.length qx.2]), row A 34 64 N cap (T.flatMap secC), dsk g S []]) (by first | assumption | exact Ent.refl _ | exact Ent.nil _ | exact Ent.row_any (Ent.refl _) | (repeat (first | exact Ent.refl _ | exact Ent.nil _ | refine Ent.pick ?_))) (Ent.trans rowsB_snoc (by dsimp only; rw [hLx]; exact (by first | assumption | exact Ent.refl _ | exact Ent.nil _ | exact Ent.row_any (Ent.refl _) | (repeat (first | exact Ent.refl _ | exact Ent.nil _ | refine Ent.pick ?_))))))
  have hk : k = N := by omega
  have hfin : entsF ep N 0 T = (LL, k) := by
    rw [hent, List.drop_of_length_le (by omega)]
    rw [ents_none (fun s hs => by simp at hs), List.append_nil]; rfl
  refine hc_exit <| hx_then_exit <| hx_then_exit <| hx_block_out <| hx_then_normal <| hc_seq <| ?_
  refine hc_region <| hl_v (ov_move rfl) rfl <| hl_v (ov_assign rfl) rfl <| hl_v (ov_assign rfl) rfl <| hl_nil <| hx_then_normal <| ?_
  refine hc_ret <| ?_
  exact results_2 (.inr rfl) rfl rfl rfl fun w' H' => ⟨b39, rfl, H'.ent (Ent.trans (b := jouB b39 g from_ to_ ep (from_ + k) LL.length (qa, qc) :: row qa 23 1 LL.length qc ds :: rowsB 5 LL ds :: [dsk g S []]) (by first | assumption | exact Ent.refl _ | exact Ent.nil _ | exact Ent.row_any (Ent.refl _) | (repeat (first | exact Ent.refl _ | exact Ent.nil _ | refine Ent.pick ?_))) (by rw [hfin]; exact jou_mk))⟩
end Go.Proofs.Ytijaldfiaeafgaa
