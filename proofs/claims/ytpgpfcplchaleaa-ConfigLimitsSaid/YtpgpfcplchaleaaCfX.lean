import Derived.Test.YtpgpfcplchaleaaCfW
set_option linter.unusedVariables false
set_option linter.unusedSimpArgs false
namespace Go.Proofs.Ytpgpfcplchaleaa
open Slk
set_option maxHeartbeats 4000000 in
theorem ConfigLimits_walk (W : World) (v1 v2 : Value) (nn pp : UInt8) (h1 : Old none' W (Rep.rep nn [v1])) (h2 : Old none' W (Rep.rep pp [v2])) :
    Calls Try.prog 13 #[v1, v2] W fun e w' => e = .returned (.bool true) ∧ Own none' W w' [] := by
  obtain ⟨hh1, _, e1⟩ := h1
  have e1 : [v1] = [Value.int .u8 nn.toNat] := e1
  obtain rfl : v1 = .int .u8 nn.toNat := by simpa using e1
  obtain ⟨hh2, _, e2⟩ := h2
  have e2 : [v2] = [Value.int .u8 pp.toNat] := e2
  obtain rfl : v2 = .int .u8 pp.toNat := by simpa using e2
  have hpp := pp.toNat_lt
  have hnn := nn.toNat_lt
  obtain ⟨N, hNe⟩ : ∃ N, N = nn.toNat := ⟨_, rfl⟩
  rw [← hNe] at hnn ⊢
  obtain ⟨M, hM⟩ : ∃ M, M = pp.toNat := ⟨_, rfl⟩
  rw [← hM] at hpp ⊢
  obtain ⟨k, hk⟩ : ∃ k, k = 1 + M % 8 := ⟨_, rfl⟩
  obtain ⟨m, hm⟩ : ∃ m, m = N % 40 := ⟨_, rfl⟩
  have hk1 : 1 ≤ k := by omega
  have hk8 : k ≤ 8 := by omega
  have hm40 : m < 40 := by omega
  have hgk := firstC_good k hk1 hk8
  have hokk := firstC_ok k hk8
  obtain ⟨c, hc⟩ : ∃ c, c = firstC k := ⟨_, rfl⟩
  have fA := lA_f ⟨k, by omega⟩ hk1
  have fB := lB_f ⟨k, by omega⟩ hk1
  have fC := lC_f ⟨k, by omega⟩ hk1
  have fD := lD_f ⟨k, by omega⟩ hk1
  dsimp only at fA fB fC fD
  have hlim := fun r h => lims_edit (m := m) hk1 hk8 (r := r) h
  rw [← hc] at hgk hokk fA fB fC fD hlim
  refine hc_enter (vs := [.int .u8 (N : Int), .int .u8 (M : Int)]) Try.func13 rfl _ Try.ntmps13 rfl (Own.start none' W) ?_
  simp only [argSlots, Nat.zero_add]
  refine hc_seq <| hc_region <| hl_v (ov_assign rfl) rfl <| hl_nil <| hx_then_normal <| hc_seq <| ?_
  refine hc_region <| hl_v (ov_move rfl) rfl <| hl_v (ov_conv rfl (by first | exact wrap_i64 (by omega) | rfl)) rfl <| ?_
  refine hl_v (ov_remE (m := M % 8) (b := 8) rfl rfl (by omega) rfl) rfl ?_
  refine hl_v (ov_add (m := (k : Int)) rfl rfl ((wrap_i64 (by omega)).trans (by omega))) rfl ?_
  refine hl_v (ov_assign rfl) rfl <| hl_nil <| hx_then_normal <| hc_seq <| hc_region <| hl_v (ov_move rfl) rfl <| ?_
  refine hl_call (σ := FirstT (k : Int)) Try.call29 rfl rfl (fun w1 H1 => Own.callx0 H1 fun D' hold hin H2 => First_res D' w1 (k : Int)) ?_
  intro f1
  try rw [List.nil_append]
  refine hl_v (ov_move rfl) rfl <| hl_v (ov_extract rfl rfl) rfl <| hl_v (ov_extract rfl rfl) rfl <| hl_new (on_alloc) rfl rfl rfl fun b6 =>  ?_
  refine hl_u0 (on_storeW (vs := cfgA f1.1.2.1 f1.1.1) rfl rfl rfl (by simp) (by simp [Value.oneCell'])) rfl rfl ?_
  have hd1 := f1.good ⟨by omega, by omega⟩
  have hd1 : f1.1.2.1 = c ∧ f1.1.2.2 = 0 := ⟨hd1.1.trans (by rw [Int.toNat_natCast, hc]), hd1.2⟩
  obtain ⟨⟨q1, c1, e1⟩, hs1⟩ := f1
  have hd1 : c1 = c ∧ e1 = 0 := hd1
  dsimp only
  obtain ⟨rfl, rfl⟩ := hd1
  refine hl_v (ov_assign rfl) rfl <| hl_nil <| hx_then_normal <| hc_seq <| hc_seq <| hc_region <| ?_
  refine hl_v (ov_move rfl) rfl <| hl_v (ov_neq rfl rfl) rfl <| hl_nil <| hx_then_normal <| ?_
  refine hc_cond_F rfl ((fun h => h rfl)) ?_
  refine hc_skip <| hx_then_normal <| hc_seq <| hc_region <| hl_v (ov_assign rfl) rfl <| hl_nil <| ?_
  refine hx_then_normal <| hc_seq <| hc_region <| hl_v (ov_move rfl) rfl <| hl_v (ov_conv rfl (by first | exact wrap_i64 (by omega) | rfl)) rfl <| ?_
  refine hl_v (ov_remE (m := m) (b := 40) rfl rfl (by omega) hm) rfl ?_
  refine hl_v (ov_assign rfl) rfl <| hl_nil <| hx_then_normal <| hc_seq <| hc_seq <| hc_region <| ?_
  refine hl_v (ov_assign rfl) rfl <| hl_nil <| hx_then_normal <| hc_block <| ?_
  refine hc_loopK2 (σ := Nat × Option Addr × Nat) [5, 6, 9] rfl 10 (fun s => .int .i64 (s.1 : Int)) 8 (fun s => .slice s.2.1 s.1 s.2.2) (fun s => [row s.2.1 64 7 s.1 s.2.2 ((lims s.1).flatMap editV), blk b6 26 (cfgA c1 q1)] ++ cfgR c1 q1) (fun s => s.1 ≤ m) (fun s => m - s.1) ((0, none, 0)) (Nat.zero_le _) rfl rfl (Ent.trans (Ent.nil_row 64 7) (by first | assumption | exact Ent.refl _ | exact Ent.nil _ | exact Ent.row_any (Ent.refl _) | (repeat (first | exact Ent.refl _ | exact Ent.nil _ | refine Ent.pick ?_)))) ?_
  rintro ⟨i, qA⟩ hi K1 hK1
  dsimp only at hi ⊢
  refine hc_seq <| hc_seq <| hc_region <| hl_v (ov_move rfl) rfl <| hl_v (ov_move rfl) rfl <| hl_v (ov_lss rfl rfl) rfl <| ?_
  refine hl_nil <| hx_then_normal <| ?_
  refine hc_cond rfl (fun h => ?_) (fun h => ?_)
  · have hlt : i < m := by omega
    refine hc_skip <| hx_then_normal <| hc_seq <| hc_block <| hc_region <| hl_v (ov_move rfl) rfl <| ?_
    refine hl_v (ov_move rfl) rfl <| ?_
    refine hl_v (ov_add (m := 2 + (i : Int)) rfl rfl (wrap_i64 (by omega))) rfl ?_
    refine hl_v (ov_buildSN rfl rfl) rfl <| ?_
    refine hl_new (on_buildSlice (res := editV (limE i)) rfl rfl (by kernel_rfl)) rfl rfl rfl (fun b45 => ?_)
    refine hl_new (on_appendR (A := qA.1) (news := editV (limE i)) rfl rfl (SrcIs.blk (b := b45)) rfl (editV_one _) (by decide) (by omega)) rfl rfl rfl (fun qB => ?_)
    rw [show (lims i).flatMap editV ++ editV (limE i) = (lims (i + 1)).flatMap editV by rw [lims_succ, List.flatMap_append, List.flatMap_singleton]]
    refine hl_v (ov_assign rfl) rfl <| hl_nil <| hx_block_normal <| hx_then_normal <| hc_region <| hl_v (ov_move rfl) rfl <| ?_
    refine hl_v (ov_add rfl rfl (by first | exact wrap_i64 (by omega) | rfl)) rfl <| ?_
    refine hl_v (ov_assign rfl) rfl <| hl_nil <| ?_
    refine hx_next hK1 ((i + 1, qB)) (hlt) (by omega) (by repeat (first | exact Slots.sub_nil _ | refine Slots.sub_cons rfl ?_)) (by first | assumption | exact Ent.refl _ | exact Ent.nil _ | (repeat (first | exact Ent.refl _ | exact Ent.nil _ | refine Ent.pick ?_)))
  obtain rfl : i = m := by omega
  have hrow : ∀ {D D' : Nat → Prop} {w0 w1 : World} {l : List HProp}, True := trivial
  refine hc_exit <| hx_then_exit <| hx_then_exit <| hx_block_out <| hx_then_normal <| hc_seq <| ?_
  refine hc_region <| hl_v (by first | exact ov_loadW rfl (by simp; done) | exact ov_loadGB rfl rfl) rfl <| ?_
  refine hl_v (ov_move rfl) rfl <| ?_
  refine hl_call (σ := EditT c1 (lims i)) Try.call36 rfl rfl (fun w1 H1 => Own.callx0 H1 fun D' hold hin H2 => Edit_spec D' w1 c1 _ _ _ _ (lims i) (by rw [lims_len]; omega) (ConfOld.rows (q := q1) hokk hin) (hin _ fun h hs ho => rep_row (A := qA.1) hs (lims i) (lims_len i).symm (repL_F.2 ⟨rfl, lims_ok (by omega)⟩))) ?_
  intro r2
  try rw [List.nil_append]
  refine hl_v (ov_move rfl) rfl <| hl_v (ov_extract rfl rfl) rfl <| hl_v (ov_extract rfl rfl) rfl <| hl_new (on_alloc) rfl rfl rfl fun b11 =>  ?_
  refine hl_u0 (on_storeW (vs := cfgA r2.1.2.1 r2.1.1) rfl rfl rfl (by simp) (by simp [Value.oneCell'])) rfl rfl ?_
  obtain ⟨we, hwe⟩ : ∃ we : Int, we = (if 32 < i then 3 else if 15 < i then 14 else 0) := ⟨_, rfl⟩
  obtain ⟨he2, hl2⟩ := hlim _ r2.2
  rw [← hwe] at he2
  obtain ⟨⟨q2, c2, e2⟩, hs2⟩ := r2
  dsimp only at he2 hl2 ⊢
  refine hl_v (ov_assign rfl) rfl <| hl_nil <| hx_then_normal <| hc_seq <| hc_region <| hl_v (ov_assign rfl) rfl <| ?_
  refine hl_nil <| hx_then_normal <| hc_seq <| ?_
  refine hc_cuts1 (σ := Unit) [5, 6, 9, 11, 12] rfl 13 (fun _u => .int .i64 (if 15 < i then 14 else 0)) (fun K2 hK2 => ?_) (fun _u => ?_)
  · refine hc_seq <| hc_region <| hl_v (ov_move rfl) rfl <| hl_v (ov_gtr rfl rfl) rfl <| hl_nil <| hx_then_normal <| ?_
    refine hc_cond rfl (fun w1 => ?_) (fun w1 => ?_)
    · rw [if_pos (show 15 < i by omega)] at hK2
      refine hc_region <| hl_v (ov_assign rfl) rfl <| hl_nil <| ?_
      refine hx_cut hK2 (()) (by repeat (first | exact Slots.sub_nil _ | refine Slots.sub_cons rfl ?_)) (by first | assumption | exact Ent.refl _ | exact Ent.nil _ | (repeat (first | exact Ent.refl _ | exact Ent.nil _ | refine Ent.pick ?_)))
    rw [if_neg (show ¬ 15 < i by omega)] at hK2
    refine hc_skip <| ?_
    refine hx_cut hK2 (()) (by repeat (first | exact Slots.sub_nil _ | refine Slots.sub_cons rfl ?_)) (by first | assumption | exact Ent.refl _ | exact Ent.nil _ | (repeat (first | exact Ent.refl _ | exact Ent.nil _ | refine Ent.pick ?_)))
  refine hx_then_normal <| hc_seq <| ?_
  refine hc_cuts1 (σ := Unit) [5, 6, 9, 11, 12] rfl 13 (fun _u => .int .i64 we) (fun K3 hK3 => ?_) (fun _u => ?_)
  · refine hc_seq <| hc_region <| hl_v (ov_move rfl) rfl <| hl_v (ov_gtr rfl rfl) rfl <| hl_nil <| hx_then_normal <| ?_
    refine hc_cond rfl (fun w2 => ?_) (fun w2 => ?_)
    · rw [if_pos (show 32 < i by omega)] at hwe
      rw [hwe] at hK3
      refine hc_region <| hl_v (ov_assign rfl) rfl <| hl_nil <| ?_
      refine hx_cut hK3 (()) (by repeat (first | exact Slots.sub_nil _ | refine Slots.sub_cons rfl ?_)) (by first | assumption | exact Ent.refl _ | exact Ent.nil _ | (repeat (first | exact Ent.refl _ | exact Ent.nil _ | refine Ent.pick ?_)))
    rw [if_neg (show ¬ 32 < i by omega)] at hwe
    rw [hwe] at hK3
    refine hc_skip <| ?_
    refine hx_cut hK3 (()) (by repeat (first | exact Slots.sub_nil _ | refine Slots.sub_cons rfl ?_)) (by first | assumption | exact Ent.refl _ | exact Ent.nil _ | (repeat (first | exact Ent.refl _ | exact Ent.nil _ | refine Ent.pick ?_)))
  refine hx_then_normal <| hc_seq <| ?_
  refine hc_cuts0 (σ := Unit) [5, 6] rfl  (fun K4 hK4 => ?_) (fun _u => ?_)
  · refine hc_seq <| hc_region <| hl_v (ov_move rfl) rfl <| hl_v (ov_move rfl) rfl <| hl_v (ov_neq rfl rfl) rfl <| hl_v (ov_move rfl) rfl <| ?_
    refine hl_partF (t := 60) rfl ((fun h => h he2)) ?_
    refine hl_on rfl rfl <| hl_v (ov_move rfl) rfl <| hl_on rfl rfl <| hl_v (ov_eql rfl rfl) rfl <| hl_on rfl rfl <| hl_v (ov_move rfl) rfl <| ?_
    refine hl_part (t := 63) rfl (fun w3 => ?_) (fun w3 => ?_)
    · have hl := hl2 w3
      refine hl_on rfl rfl <| hl_v (ov_fieldA rfl) rfl <| hl_on rfl rfl <| hl_v (ov_load rfl (CellIs.blk rfl)) rfl <| hl_on rfl rfl <| hl_v (by first | exact ov_len rfl | exact ov_lenS rfl) rfl <| ?_
      refine hl_on rfl rfl <| hl_v (ov_move rfl) rfl <| hl_on rfl rfl <| hl_v (ov_add rfl rfl (by first | exact wrap_i64 (by omega) | rfl)) rfl <| ?_
      refine hl_on rfl rfl <| hl_v (ov_neq rfl rfl) rfl <| hl_on rfl rfl <| hl_v (ov_pickT rfl rfl) rfl <| hl_v (ov_pickF rfl rfl) rfl <| hl_nil <| hx_then_normal <| ?_
      refine hc_cond_F rfl ((fun h => h (by rw [hl]; omega))) ?_
      refine hc_skip <| ?_
      refine hx_cut hK4 (()) (by repeat (first | exact Slots.sub_nil _ | refine Slots.sub_cons rfl ?_)) (by first | assumption | exact Ent.refl _ | exact Ent.nil _ | (repeat (first | exact Ent.refl _ | exact Ent.nil _ | refine Ent.pick ?_)))
    refine hl_off rfl rfl rfl rfl rfl rfl <| hl_off rfl rfl rfl rfl rfl rfl <| hl_off rfl rfl rfl rfl rfl rfl <| hl_off rfl rfl rfl rfl rfl rfl <| hl_off rfl rfl rfl rfl rfl rfl <| hl_off rfl rfl rfl rfl rfl rfl <| ?_
    refine hl_on rfl rfl <| hl_v (ov_pickF rfl rfl) rfl <| hl_v (ov_pickF rfl rfl) rfl <| hl_nil <| hx_then_normal <| hc_cond_false rfl <| hc_skip <| ?_
    refine hx_cut hK4 (()) (by repeat (first | exact Slots.sub_nil _ | refine Slots.sub_cons rfl ?_)) (by first | assumption | exact Ent.refl _ | exact Ent.nil _ | (repeat (first | exact Ent.refl _ | exact Ent.nil _ | refine Ent.pick ?_)))
  refine hx_then_normal <| hc_seq <| hc_region <| hl_v (by first | exact ov_loadW rfl (by simp; done) | exact ov_loadGB rfl rfl) rfl <| ?_
  refine hl_v (ov_buildSN rfl rfl) rfl <| ?_
  refine hl_new (on_buildSlice (res := lA.flatMap editV) rfl rfl (by kernel_rfl)) rfl rfl rfl (fun b75 => ?_)
  refine hl_call (σ := EditT c1 lA) Try.call36 rfl rfl (fun w1 H1 => Own.callx0 H1 fun D' hold hin H2 => Edit_spec D' w1 c1 _ _ _ _ lA (by decide) (ConfOld.rows (q := q1) hokk hin) (hin _ fun h hs ho => rep_lits (b := b75) hs lA (repL_F.2 ⟨rfl, lA_ok⟩) (by decide))) ?_
  intro rA
  try rw [List.nil_append]
  refine hl_v (ov_move rfl) rfl <| hl_v (ov_extract rfl rfl) rfl <| hl_v (ov_extract rfl rfl) rfl <| hl_new (on_alloc) rfl rfl rfl fun b14 =>  ?_
  refine hl_u0 (on_storeW (vs := cfgA rA.1.2.1 rA.1.1) rfl rfl rfl (by simp) (by simp [Value.oneCell'])) rfl rfl ?_
  have eA := rA.2.no hgk (by decide) (Prod.ext rfl fA.1) fA.2
  obtain ⟨⟨qA1, cA, eA1⟩, hsA⟩ := rA
  have eA : (cA, eA1) = (zeroC, 14) := eA
  obtain rfl : eA1 = 14 := congrArg Prod.snd eA
  clear eA
  dsimp only
  refine hl_v (ov_assign rfl) rfl <| hl_nil <| hx_then_normal <| hc_seq <| hc_region <| hl_v (by first | exact ov_loadW rfl (by simp; done) | exact ov_loadGB rfl rfl) rfl <| ?_
  refine hl_v (ov_buildSN rfl rfl) rfl <| ?_
  refine hl_new (on_buildSlice (res := lB.flatMap editV) rfl rfl (by kernel_rfl)) rfl rfl rfl (fun b82 => ?_)
  refine hl_call (σ := EditT c1 lB) Try.call36 rfl rfl (fun w1 H1 => Own.callx0 H1 fun D' hold hin H2 => Edit_spec D' w1 c1 _ _ _ _ lB (by decide) (ConfOld.rows (q := q1) hokk hin) (hin _ fun h hs ho => rep_lits (b := b82) hs lB (repL_F.2 ⟨rfl, lB_ok⟩) (by decide))) ?_
  intro rB
  try rw [List.nil_append]
  refine hl_v (ov_move rfl) rfl <| hl_v (ov_extract rfl rfl) rfl <| hl_v (ov_extract rfl rfl) rfl <| hl_new (on_alloc) rfl rfl rfl fun b16 =>  ?_
  refine hl_u0 (on_storeW (vs := cfgA rB.1.2.1 rB.1.1) rfl rfl rfl (by simp) (by simp [Value.oneCell'])) rfl rfl ?_
  have eB := rB.2.err (d := (foldC c1 lB).1) (e := 13) hgk (by decide) (Prod.ext rfl fB) (by decide)
  obtain ⟨⟨qB1, cB, eB1⟩, hsB⟩ := rB
  have eB : (cB, eB1) = (zeroC, 13) := eB
  obtain rfl : eB1 = 13 := congrArg Prod.snd eB
  clear eB
  dsimp only
  refine hl_v (ov_assign rfl) rfl <| hl_nil <| hx_then_normal <| hc_seq <| hc_region <| hl_v (by first | exact ov_loadW rfl (by simp; done) | exact ov_loadGB rfl rfl) rfl <| ?_
  refine hl_v (ov_move rfl) rfl <| hl_v (ov_buildSN rfl rfl) rfl <| ?_
  refine hl_new (on_buildSlice (res := (lC (k : Int)).flatMap editV) rfl rfl (by kernel_rfl)) rfl rfl rfl (fun b90 => ?_)
  refine hl_call (σ := EditT c1 (lC k)) Try.call36 rfl rfl (fun w1 H1 => Own.callx0 H1 fun D' hold hin H2 => Edit_spec D' w1 c1 _ _ _ _ (lC k) (by show 1 ≤ 1000000; decide) (ConfOld.rows (q := q1) hokk hin) (hin _ fun h hs ho => rep_lits (b := b90) hs (lC k) (repL_F.2 ⟨rfl, lC_ok (by omega)⟩) (by show 1 ≤ 9223372036854775807; decide))) ?_
  intro rC
  try rw [List.nil_append]
  refine hl_v (ov_move rfl) rfl <| hl_v (ov_extract rfl rfl) rfl <| hl_v (ov_extract rfl rfl) rfl <| hl_new (on_alloc) rfl rfl rfl fun b18 =>  ?_
  refine hl_u0 (on_storeW (vs := cfgA rC.1.2.1 rC.1.1) rfl rfl rfl (by simp) (by simp [Value.oneCell'])) rfl rfl ?_
  have eC := rC.2.err (d := (foldC c1 (lC k)).1) (e := 1) hgk (by show 1 ≤ 32; decide) (Prod.ext rfl fC) (by decide)
  obtain ⟨⟨qC1, cC, eC1⟩, hsC⟩ := rC
  have eC : (cC, eC1) = (zeroC, 1) := eC
  obtain rfl : eC1 = 1 := congrArg Prod.snd eC
  clear eC
  dsimp only
  refine hl_v (ov_assign rfl) rfl <| hl_nil <| hx_then_normal <| hc_seq <| hc_region <| hl_v (by first | exact ov_loadW rfl (by simp; done) | exact ov_loadGB rfl rfl) rfl <| ?_
  refine hl_v (ov_buildSN rfl rfl) rfl <| ?_
  refine hl_new (on_buildSlice (res := lD.flatMap editV) rfl rfl (by kernel_rfl)) rfl rfl rfl (fun b97 => ?_)
  refine hl_call (σ := EditT c1 lD) Try.call36 rfl rfl (fun w1 H1 => Own.callx0 H1 fun D' hold hin H2 => Edit_spec D' w1 c1 _ _ _ _ lD (by decide) (ConfOld.rows (q := q1) hokk hin) (hin _ fun h hs ho => rep_lits (b := b97) hs lD (repL_F.2 ⟨rfl, lD_ok⟩) (by decide))) ?_
  intro rD
  try rw [List.nil_append]
  refine hl_v (ov_move rfl) rfl <| hl_v (ov_extract rfl rfl) rfl <| hl_v (ov_extract rfl rfl) rfl <| hl_new (on_alloc) rfl rfl rfl fun b20 =>  ?_
  refine hl_u0 (on_storeW (vs := cfgA rD.1.2.1 rD.1.1) rfl rfl rfl (by simp) (by simp [Value.oneCell'])) rfl rfl ?_
  have eD := rD.2.no hgk (by decide) (Prod.ext rfl fD.1) fD.2
  obtain ⟨⟨qD1, cD, eD1⟩, hsD⟩ := rD
  have eD : (cD, eD1) = (zeroC, 14) := eD
  obtain rfl : eD1 = 14 := congrArg Prod.snd eD
  clear eD
  dsimp only
  refine hl_v (ov_assign rfl) rfl <| hl_nil <| hx_then_normal <| hc_seq <| hc_region <| hl_v (ov_move rfl) rfl <| ?_
  refine hl_v (ov_eql rfl rfl) rfl <| hl_v (ov_move rfl) rfl <| ?_
  refine hl_partT (t := 103) rfl (rfl) ?_
  refine hl_on rfl rfl <| hl_v (ov_move rfl) rfl <| hl_on rfl rfl <| hl_v (ov_eql rfl rfl) rfl <| hl_v (ov_pickT rfl rfl) rfl <| hl_v (ov_move rfl) rfl <| ?_
  refine hl_partT (t := 107) rfl (rfl) ?_
  refine hl_on rfl rfl <| hl_v (ov_move rfl) rfl <| hl_on rfl rfl <| hl_v (ov_eql rfl rfl) rfl <| hl_v (ov_pickT rfl rfl) rfl <| hl_v (ov_move rfl) rfl <| ?_
  refine hl_partT (t := 111) rfl (rfl) ?_
  refine hl_on rfl rfl <| hl_v (ov_move rfl) rfl <| hl_on rfl rfl <| hl_v (ov_eql rfl rfl) rfl <| hl_v (ov_pickT rfl rfl) rfl <| hl_v (ov_move rfl) rfl <| ?_
  refine hl_partT (t := 115) rfl (rfl) ?_
  refine hl_on rfl rfl <| hl_c Try.call28 rfl rfl (fun w1 H1 => Own.calln H1 fun D' hold hin H2 => wakes5_spec D' w1) ?_
  refine hl_v (ov_pickT rfl rfl) rfl <| hl_v (ov_assign rfl) rfl <| hl_nil <| hx_then_normal <| hc_ret <| ?_
  exact results_1 (.inr rfl) rfl rfl fun w' H' => ⟨rfl, H'.ent (Ent.nil _)⟩
end Go.Proofs.Ytpgpfcplchaleaa
