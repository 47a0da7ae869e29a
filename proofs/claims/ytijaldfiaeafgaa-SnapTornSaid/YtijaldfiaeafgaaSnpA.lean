import Derived.Test.YtijaldfiaeafgaaSnp9
set_option linter.unusedVariables false
set_option linter.unusedSimpArgs false
namespace Go.Proofs.Ytijaldfiaeafgaa
open Slk
def spoil (v : UInt8) : Sec := (zeroSec.set 0 v (by decide)).set 5 v (by decide)
theorem secC_spoil (v : UInt8) : ((List.replicate 64 (Value.int .u8 0)).set (0 + Int.toNat 0 * 1) (.int .u8 (v.toNat : Int))).set (0 + Int.toNat 5 * 1) (.int .u8 (v.toNat : Int)) = secC (spoil v) := by
  unfold secC spoil
  rw [Vector.toList_set, Vector.toList_set, List.map_set, List.map_set]
  have : zeroSec.toList.map u8v = List.replicate 64 (.int .u8 0) := secC_zero
  rw [this]; rfl
/-- A write that may be none. -/
def wrO (S : List Sec) (i : Int) (s : Sec) : List (Nat × Sec) := if 0 ≤ i ∧ i < S.length then [(i.toNat, s)] else []
theorem wrO_ok (S : List Sec) (i : Int) (s : Sec) : ∀ p ∈ wrO S i s, p.1 < S.length := fun p hp => by
  unfold wrO at hp
  split at hp
  · rename_i h
    obtain rfl := List.mem_singleton.1 hp
    have := h.1; have := h.2
    show i.toNat < S.length
    omega
  · cases hp
def spS (S : List Sec) (i : Int) (s : Sec) : List Sec := settleL (fun _ => true) 0 S (wrO S i s)
theorem spS_len (S : List Sec) (i : Int) (s : Sec) : (spS S i s).length = S.length := settleL_len _ _ _ _
theorem Write_o (D : Nat → Prop) (w : World) (g : Nat) (i : Int) (s : Sec) (S : List Sec) (H : Own D w w [dsk g S []]) :
    Calls Try.prog 23 #[.pointer (some ⟨g, 0, none⟩), .int .i64 i, .agg (secC s).toArray] w fun e w' => ∃ r : Int, e = .returned (.int .i64 r) ∧ Own D w w' [dsk g S (wrO S i s)] := by
  unfold wrO
  by_cases h : 0 ≤ i ∧ i < S.length
  · rw [if_pos h]
    obtain ⟨j, rfl⟩ : ∃ j : Nat, i = j := ⟨i.toNat, by have := h.1; omega⟩
    exact (Write_ok D w g j s S [] (by have := h.2; omega) (by decide) H).mono fun e w' ⟨he, H'⟩ => ⟨_, he, H'⟩
  rw [if_neg h]
  exact (Write_no D w g i s S [] h H).mono fun e w' ⟨he, H'⟩ => ⟨_, he, H'⟩
theorem RWrite_o (D : Nat → Prop) (w : World) (g : Nat) (i : Int) (s : Sec) (S : List Sec) (H : Own D w w [rdsk g S []]) :
    Calls Try.prog 25 #[.pointer (some ⟨g, 0, none⟩), .int .i64 i, .agg (secC s).toArray] w fun e w' => ∃ r : Int, e = .returned (.int .i64 r) ∧ Own D w w' [rdsk g S (wrO S i s)] := by
  unfold wrO
  by_cases h : 0 ≤ i ∧ i < S.length
  · rw [if_pos h]
    obtain ⟨j, rfl⟩ : ∃ j : Nat, i = j := ⟨i.toNat, by have := h.1; omega⟩
    exact (RWrite_ok D w g j s S [] (by have := h.2; omega) (by decide) H).mono fun e w' ⟨he, H'⟩ => ⟨_, he, H'⟩
  rw [if_neg h]
  exact (RWrite_no D w g i s S [] h H).mono fun e w' ⟨he, H'⟩ => ⟨_, he, H'⟩
abbrev sstepC (x : SStep) (B : Option Addr) (capB : Nat) : List Value := [.int .i64 x.1, .int .i64 x.2.1, .int .u32 x.2.2.1.toNat, .slice B x.2.2.2.1.length capB, .int .u8 x.2.2.2.2.toNat]
set_option maxHeartbeats 4000000 in
theorem SnapPlays_walk (W : World) (v0 v1 : Value) (n : Int) (l : List SStep) (h0 : Old none' W (Rep.rep n [v0])) (h1 : Old none' W (Rep.rep l [v1])) :
    Calls Try.prog 6 #[v0, v1] W fun e w' => e = .returned (.bool true) ∧ Own none' W w' [] := by
  obtain ⟨e0, hn⟩ := h0.pure
  simp only [List.cons.injEq, and_true] at e0
  subst e0
  obtain ⟨A, cap, rfl, hc1, hc2, hel⟩ := h1.openX (by decide)
  refine hc_enter (vs := [.int .i64 n, .slice A l.length cap]) Try.func6 rfl _ Try.ntmps6 rfl (Own.start none' W) ?_
  simp only [argSlots, Nat.zero_add]
  refine hc_seq <| hc_region <| hl_v (ov_assign rfl) rfl <| hl_nil <| hx_then_normal <| hc_seq <| ?_
  refine hc_seq <| hc_region <| hl_v (ov_move rfl) rfl <| ?_
  refine hl_call (σ := { b : Bool // b = true → fairS l }) Try.call19 rfl rfl (fun w1 H1 => Own.callx0 H1 fun D' hold hin H2 => fair7_spec D' w1 _ l (hold _ h1)) ?_
  rintro ⟨bv, hbv⟩
  try rw [List.nil_append]
  cases bv
  · refine hl_v (by first | exact ov_notd rfl | exact ov_not rfl) rfl <| ?_
    refine hl_v (ov_move rfl) rfl <| ?_
    refine hl_off rfl rfl rfl rfl rfl rfl <| hl_off rfl rfl rfl rfl rfl rfl <| hl_v (ov_pickT rfl rfl) rfl <| hl_nil <| hx_then_normal <| hc_cond_true rfl <| ?_
    refine hc_seq <| hc_region <| ?_
    refine hl_c Try.call13 rfl rfl (fun w1 H1 => Own.calln H1 fun D' hold hin H2 => wakes7_spec D' w1) ?_
    refine hl_v (ov_assign rfl) rfl <| hl_nil <| hx_then_normal <| hc_ret <| hx_then_ret <| ?_
    exact results_1 (.inr rfl) rfl rfl fun w' H' => ⟨rfl, H'.ent (Ent.nil _)⟩
  refine hl_v (by first | exact ov_notd rfl | exact ov_not rfl) rfl <| ?_
  refine hl_v (ov_move rfl) rfl <| ?_
  have hfair := hbv rfl
  have hl60 := hfair.1
  refine hl_on rfl rfl <| hl_v (ov_move rfl) rfl <| hl_on rfl rfl <| hl_v (ov_gtr rfl rfl) rfl <| hl_v (ov_pickF rfl rfl) rfl <| hl_nil <| hx_then_normal <| ?_
  refine hc_cond rfl (fun big => ?_) (fun big => ?_)
  · refine hc_seq <| hc_region <| ?_
    refine hl_c Try.call13 rfl rfl (fun w1 H1 => Own.calln H1 fun D' hold hin H2 => wakes7_spec D' w1) ?_
    refine hl_v (ov_assign rfl) rfl <| hl_nil <| hx_then_normal <| hc_ret <| hx_then_ret <| ?_
    exact results_1 (.inr rfl) rfl rfl fun w' H' => ⟨rfl, H'.ent (Ent.nil _)⟩
  obtain ⟨S0, hS0⟩ : ∃ S, S = if 1 ≤ n ∧ n ≤ 4096 then List.replicate n.toNat zeroSec else [] := ⟨_, rfl⟩
  have hS100 : S0.length ≤ 100 := by
    rw [hS0]; split
    · rw [List.length_replicate]; omega
    · exact Nat.zero_le _
  refine hc_skip <| hx_then_normal <| hc_seq <| ?_
  refine hc_cutK1 (σ := Option Nat) [0, 1] rfl 5 (fun o => pO o) (fun o => [pureP (o = none ↔ ¬ (1 ≤ n ∧ n ≤ 4096)), dO o S0]) (fun K1 hK1 => ?_) (fun o => ?_)
  · by_cases hr : 1 ≤ n ∧ n ≤ 4096
    · rw [if_pos hr] at hS0
      obtain ⟨m, rfl⟩ : ∃ m : Nat, n = m := ⟨n.toNat, by omega⟩
      have hS0 : S0 = List.replicate m zeroSec := hS0
      refine hc_region <| hl_v (ov_move rfl) rfl <| ?_
      refine hl_call (σ := Nat) Try.call14 rfl rfl (fun w1 H1 => Own.callx0 H1 fun D' hold hin H2 => (New_ok D' w1 m (by omega) (by omega)).mono fun e w' ⟨g, he, H'⟩ => ⟨g, he, show Own D' w1 w' [dsk g S0 []] by rw [hS0]; exact H'⟩) ?_
      intro g
      try rw [List.nil_append]
      refine hl_v (ov_move rfl) rfl <| hl_v (ov_extract rfl rfl) rfl <| hl_v (ov_extract rfl rfl) rfl <| hl_v (ov_assign rfl) rfl <| hl_v (ov_assign rfl) rfl <| hl_nil <| ?_
      exact hx_cut hK1 (some g) (by repeat (first | exact Slots.sub_nil _ | refine Slots.sub_cons rfl ?_)) (Ent.pure_cons ⟨fun h => (by cases h), fun h => absurd hr h⟩ (Ent.refl _))
    refine hc_region <| hl_v (ov_move rfl) rfl <| ?_
    refine hl_c Try.call14 rfl rfl (fun w1 H1 => Own.calln H1 fun D' hold hin H2 => New_no D' w1 n (by omega)) ?_
    refine hl_v (ov_move rfl) rfl <| hl_v (ov_extract rfl rfl) rfl <| hl_v (ov_extract rfl rfl) rfl <| hl_v (ov_assign rfl) rfl <| hl_v (ov_assign rfl) rfl <| hl_nil <| ?_
    exact hx_cut hK1 (none) (by repeat (first | exact Slots.sub_nil _ | refine Slots.sub_cons rfl ?_)) (Ent.pure_cons ⟨fun _ => hr, fun _ => rfl⟩ (Ent.pure_cons trivial (Ent.refl _)))
  refine HX.pure fun ho => ?_
  refine hx_then_normal <| hc_seq <| ?_
  refine hc_cutK1 (σ := Option Nat) [1, 5] rfl 7 (fun u => pO u) (fun u => [pureP (u = none ↔ ¬ (1 ≤ n ∧ n ≤ 4096)), rdO u S0, dO o S0]) (fun K2 hK2 => ?_) (fun u => ?_)
  · by_cases hr : 1 ≤ n ∧ n ≤ 4096
    · rw [if_pos hr] at hS0
      obtain ⟨m, rfl⟩ : ∃ m : Nat, n = m := ⟨n.toNat, by omega⟩
      have hS0 : S0 = List.replicate m zeroSec := hS0
      refine hc_region <| hl_v (ov_move rfl) rfl <| ?_
      refine hl_call (σ := Nat) Try.call20 rfl rfl (fun w1 H1 => Own.callx0 H1 fun D' hold hin H2 => (RNew_ok D' w1 m (by omega) (by omega)).mono fun e w' ⟨g, he, H'⟩ => ⟨g, he, show Own D' w1 w' [rdsk g S0 []] by rw [hS0]; exact H'⟩) ?_
      intro g
      try rw [List.nil_append]
      refine hl_v (ov_move rfl) rfl <| hl_v (ov_extract rfl rfl) rfl <| hl_v (ov_extract rfl rfl) rfl <| hl_v (ov_assign rfl) rfl <| hl_v (ov_assign rfl) rfl <| hl_nil <| ?_
      exact hx_cut hK2 (some g) (by repeat (first | exact Slots.sub_nil _ | refine Slots.sub_cons rfl ?_)) (Ent.pure_cons ⟨fun h => (by cases h), fun h => absurd hr h⟩ (Ent.refl _))
    refine hc_region <| hl_v (ov_move rfl) rfl <| ?_
    refine hl_c Try.call20 rfl rfl (fun w1 H1 => Own.calln H1 fun D' hold hin H2 => RNew_no D' w1 n (by omega)) ?_
    refine hl_v (ov_move rfl) rfl <| hl_v (ov_extract rfl rfl) rfl <| hl_v (ov_extract rfl rfl) rfl <| hl_v (ov_assign rfl) rfl <| hl_v (ov_assign rfl) rfl <| hl_nil <| ?_
    exact hx_cut hK2 (none) (by repeat (first | exact Slots.sub_nil _ | refine Slots.sub_cons rfl ?_)) (Ent.pure_cons ⟨fun _ => hr, fun _ => rfl⟩ (Ent.pure_cons trivial (Ent.refl _)))
  refine HX.pure fun hu => ?_
  have hou : o = none ↔ u = none := ho.trans hu.symm
  have hod0 : okO o S0 := fun h => by rw [hS0, if_neg (ho.1 h)]
  have hoq0 : okO u S0 := fun h => by rw [hS0, if_neg (hu.1 h)]
  refine hx_then_normal <| hc_seq <| hc_seq <| hc_region <| hl_v (ov_assign rfl) rfl <| hl_nil <| ?_
  refine hx_then_normal <| hc_block <| ?_
  refine hc_loopK1 (σ := Nat × List Sec) [1, 5, 7] rfl 9 (fun s => .int .i64 (s.1 : Int)) (fun s => [dO o s.2, rdO u s.2]) (fun s => s.1 ≤ l.length ∧ okO o s.2 ∧ okO u s.2 ∧ s.2.length ≤ 100) (fun s => l.length - s.1) ((0, S0)) (⟨Nat.zero_le _, hod0, hoq0, hS100⟩) rfl (by first | assumption | exact Ent.refl _ | exact Ent.nil _ | (repeat (first | exact Ent.refl _ | exact Ent.nil _ | refine Ent.pick ?_))) ?_
  rintro ⟨i, S⟩ hj_ K3 hK3
  dsimp only at hj_ ⊢
  obtain ⟨hi, hod, hoq, hSl⟩ := hj_
  refine hc_seq <| hc_seq <| hc_region <| hl_v (ov_move rfl) rfl <| hl_v (ov_move rfl) rfl <| hl_v (by first | exact ov_len rfl | exact ov_lenS rfl) rfl <| ?_
  refine hl_v (ov_lss rfl rfl) rfl <| hl_nil <| hx_then_normal <| ?_
  refine hc_cond rfl (fun hlt => ?_) (fun hlt => ?_)
  · have hlt : i < l.length := by omega
    obtain ⟨hA, cs, hx, hcs⟩ := hel i hlt
    obtain ⟨B, capB, rfl, hx1, hx2, hk⟩ := sstep_open hx
    rw [show Rep.sz SStep = 5 from rfl] at hcs
    have hk15 := hfair.2 _ (List.getElem_mem hlt)
    generalize l[i] = x at *
    have hep := x.2.2.1.toNat_lt
    refine hc_skip <| hx_then_normal <| hc_seq <| hc_block <| hc_seq <| hc_region <| ?_
    refine hl_v (ov_move rfl) rfl <| hl_v (ov_move rfl) rfl <| ?_
    refine hl_v (ov_idxS rfl hA rfl i rfl hlt) rfl ?_
    refine hl_v (ov_loadG (cs := sstepC x B capB) rfl rfl (fun w H m v hv => hcs m v hv _ w H)) rfl ?_
    refine hl_new (on_alloc) rfl rfl rfl fun b10 => 
      hl_u0 (on_storeGN rfl rfl rfl rfl rfl rfl) rfl rfl <| hl_nil <| hx_then_normal <| hc_seq <| hc_region <| ?_
    refine hl_v (ov_fieldA rfl) rfl <| hl_v (ov_load rfl (CellIs.blk rfl)) rfl <| hl_nil <| hx_then_normal <| ?_
    refine hc_cutK0 (σ := List Sec) [1, 5, 7, 9] rfl  (fun s => [pureP (s.length = S.length), dO o s, rdO u s]) (fun K4 hK4 => ?_) (fun s => ?_)
    · refine hc_block <| hc_seq <| hc_region <| hl_v (ov_eql rfl rfl) rfl <| hl_v (ov_assign rfl) rfl <| hl_nil <| ?_
      refine hx_then_normal <| ?_
      refine hc_cond rfl (fun k0 => ?_) (fun k0 => ?_)
      · obtain ⟨_, _, e9, _, _, HB⟩ := hk.openB
        simp only [Value.slice.injEq] at e9
        obtain ⟨rfl, _, rfl⟩ := e9
        refine hc_seq <| ?_
        refine hc_any [blk b10 47 (sstepC x B capB)] mixed 15 rfl ?_
        refine ha_v 0 rfl (ov_move rfl) rfl <| ?_
        refine ha_v 1 rfl (ov_fieldA rfl) rfl <| ?_
        refine ha_v 2 rfl (ov_load rfl (CellIs.blk rfl)) rfl <| ?_
        refine ha_v 4 rfl (ov_fieldA rfl) rfl <| ?_
        refine ha_v 5 rfl (ov_load rfl (CellIs.blk rfl)) rfl <| ?_
        refine ha_v 8 rfl (ov_move rfl) rfl <| ?_
        refine ha_v 9 rfl (ov_fieldA rfl) rfl <| ?_
        refine ha_v 10 rfl (ov_load rfl (CellIs.blk rfl)) rfl <| ?_
        refine ha_v 11 rfl (ov_fieldA rfl) rfl <| ?_
        refine ha_v 12 rfl (ov_load rfl (CellIs.blk rfl)) rfl <| ?_
        refine ha_one 3 (by kernel_rfl) <| ?_
        refine ho_n rfl (on_buildSliceN rfl rfl rfl) rfl (fun b54 => ?_)
        refine ha_ent (Ent.blk_row (b := b54) 1 0 rfl (by decide)) ?_
        refine ha_one 6 (by kernel_rfl) <| ?_
        refine ho_n rfl (on_appendR (A := some ⟨b54, 0, none⟩) (news := x.2.2.2.1.map u8v) rfl rfl (SrcIs.old HB) (by simp) (u8_one _) (by decide) (by omega)) rfl (fun qc => ?_)
        simp only [Nat.zero_add, List.nil_append]
        refine ha_one 7 (by kernel_rfl) <| ?_
        refine ho_k rfl Try.call16 rfl (fun w1 H1 => Own.callp (dO o S) H1 fun D' hold hin H2 => Save_any D' w1 o S x.2.2.1.toNat _ x.2.2.2.1 hod hep (by omega) (hin _ fun h hs ho => rep_row (A := qc.1) hs x.2.2.2.1 rfl (repL_bytes.2 rfl)) H2) ?_
        refine ha_one 13 (by kernel_rfl) <| ?_
        refine ho_k rfl Try.call21 rfl (fun w1 H1 => Own.callp (rdO u S) H1 fun D' hold hin H2 => RSave_any D' w1 u S x.2.2.1.toNat _ x.2.2.2.1 hoq (by omega) hep (by omega) (hold _ hk) H2) ?_
        refine ha_v 14 rfl (ov_neq rfl rfl) rfl <| ?_
        refine ha_done (by kernel_rfl) <| hx_then_normal <| ?_
        refine hc_cond_F rfl ((fun h => h rfl)) ?_
        refine hc_skip <| hx_block_normal <| ?_
        exact hx_cut hK4 ((saveR S x.2.2.1.toNat x.2.2.2.1).2) (by repeat (first | exact Slots.sub_nil _ | refine Slots.sub_cons rfl ?_)) (Ent.pure_cons (saveR_len _ _ _) (by first | assumption | exact Ent.refl _ | exact Ent.nil _ | exact Ent.row_any (Ent.refl _) | (repeat (first | exact Ent.refl _ | exact Ent.nil _ | refine Ent.pick ?_))))
      refine hc_seq <| hc_region <| hl_v (ov_eql rfl rfl) rfl <| hl_v (ov_assign rfl) rfl <| hl_nil <| hx_then_normal <| ?_
      refine hc_cond rfl (fun k1 => ?_) (fun k1 => ?_)
      · obtain ⟨a, xs, er, hL⟩ : ∃ a xs er, loadR S = (a, xs, er) := ⟨_, _, _, rfl⟩
        refine hc_seq <| hc_region <| hl_v (ov_move rfl) rfl <| ?_
        refine hl_call (σ := Option Addr × Nat) Try.call15 rfl rfl (fun w1 H1 => Own.callpx (dO o S) H1 fun D' hold hin H2 => Load_any D' w1 o S a xs er hL hod H2) ?_
        intro q1
        refine hl_v (ov_move rfl) rfl <| hl_v (ov_extract rfl rfl) rfl <| hl_v (ov_extract rfl rfl) rfl <| hl_v (ov_extract rfl rfl) rfl <| hl_v (ov_assign rfl) rfl <| hl_v (ov_assign rfl) rfl <| ?_
        refine hl_v (ov_assign rfl) rfl <| hl_nil <| hx_then_normal <| hc_seq <| hc_region <| hl_v (ov_move rfl) rfl <| ?_
        refine hl_call (σ := (Option Addr × Nat) × Nat) Try.call22 rfl rfl (fun w1 H1 => Own.callpx (rdO u S) H1 fun D' hold hin H2 => RLoad_any D' w1 u S a xs er hL hoq H2) ?_
        intro q2
        refine hl_new (on_alloc) rfl rfl rfl fun b14 =>  ?_
        refine hl_u0 (on_storeW (vs := [.int .u32 (a : Int), .slice q2.1.1 xs.length q2.1.2, .int .i64 (q2.2 : Int), .int .i64 er]) rfl rfl (by simp) (by simp) (by simp [Value.oneCell'])) rfl rfl ?_
        refine hl_nil <| hx_then_normal <| hc_seq <| hc_region <| hl_v (ov_move rfl) rfl <| hl_v (ov_fieldA rfl) rfl <| ?_
        refine hl_v (ov_load rfl (CellIs.blk rfl)) rfl <| hl_v (ov_neq rfl rfl) rfl <| hl_v (ov_move rfl) rfl <| ?_
        refine hl_partF (t := 80) rfl ((fun h => h rfl)) ?_
        refine hl_on rfl rfl <| hl_v (ov_move rfl) rfl <| hl_on rfl rfl <| hl_v (ov_fieldA rfl) rfl <| hl_on rfl rfl <| hl_v (ov_load rfl (CellIs.blk rfl)) rfl <| ?_
        refine hl_on rfl rfl <| hl_c Try.call18 rfl rfl (fun w1 H1 => Own.calln H1 fun D' hold hin H2 => Bytes_spec D' w1 _ _ xs xs (hin _ fun h hs ho => rep_row (A := q1.1) hs xs rfl (repL_bytes.2 rfl)) (hin _ fun h hs ho => rep_row (A := q2.1.1) hs xs rfl (repL_bytes.2 rfl))) ?_
        rw [decide_eq_true (rfl : xs = xs)]
        refine hl_on rfl rfl <| hl_v (by first | exact ov_notd rfl | exact ov_not rfl) rfl <| ?_
        refine hl_v (ov_pickF rfl rfl) rfl <| hl_v (ov_move rfl) rfl <| ?_
        refine hl_on rfl rfl <| hl_v (ov_move rfl) rfl <| hl_on rfl rfl <| hl_v (ov_fieldA rfl) rfl <| hl_on rfl rfl <| hl_v (ov_load rfl (CellIs.blk rfl)) rfl <| hl_on rfl rfl <| hl_v (ov_neq rfl rfl) rfl <| hl_v (ov_pickF rfl rfl) rfl <| hl_nil <| ?_
        refine hx_then_normal <| ?_
        refine hc_cond_F rfl ((fun h => h rfl)) ?_
        refine hc_skip <| hx_block_normal <| ?_
        exact hx_cut hK4 (S) (by repeat (first | exact Slots.sub_nil _ | refine Slots.sub_cons rfl ?_)) (Ent.pure_cons rfl (by first | assumption | exact Ent.refl _ | exact Ent.nil _ | exact Ent.row_any (Ent.refl _) | (repeat (first | exact Ent.refl _ | exact Ent.nil _ | refine Ent.pick ?_))))
      refine hc_seq <| hc_region <| hl_v (ov_eql rfl rfl) rfl <| hl_v (ov_assign rfl) rfl <| hl_nil <| hx_then_normal <| ?_
      refine hc_cond rfl (fun k2 => ?_) (fun k2 => ?_)
      · refine hc_seq <| hc_region <| hl_new (on_alloc) rfl rfl rfl fun b15 =>
          hl_nil <| hx_then_normal <| hc_seq <| ?_
        refine hc_any [blk b10 47 (sstepC x B capB)] mixed 8 rfl ?_
        refine ha_v 0 rfl (ov_fieldA rfl) rfl <| ?_
        refine ha_v 1 rfl (ov_load rfl (CellIs.blk rfl)) rfl <| ?_
        refine ha_v 2 rfl (ov_fieldA rfl) rfl <| ?_
        refine ha_v 3 rfl (ov_load rfl (CellIs.blk rfl)) rfl <| ?_
        refine ha_v 4 rfl (ov_idxPc rfl rfl rfl rfl rfl) rfl <| ?_
        refine ha_one 5 (by kernel_rfl) <| ho_w0 rfl (on_storeN rfl rfl rfl rfl rfl) rfl <| ?_
        refine ha_v 6 rfl (ov_idxPc rfl rfl rfl rfl rfl) rfl <| ?_
        refine ha_one 7 (by kernel_rfl) <| ?_
        refine ho_w0 rfl (on_storeE (secC (spoil x.2.2.2.2)) rfl rfl (by simp) rfl (by rw [← secC_spoil]; rfl)) rfl ?_
        refine ha_done (by kernel_rfl) <| hx_then_normal <| hc_seq <| hc_region <| hl_v (ov_move rfl) rfl <| hl_v (ov_neqP rfl rfl) rfl <| ?_
        refine hl_nil <| hx_then_normal <| ?_
        rcases o with _ | g
        · obtain rfl := hou.1 rfl
          refine hc_cond_false rfl ?_
          refine hc_skip <| hx_block_normal <| ?_
          exact hx_cut hK4 (S) (by repeat (first | exact Slots.sub_nil _ | refine Slots.sub_cons rfl ?_)) (Ent.pure_cons rfl (Ent.pure_cons trivial (Ent.pure_cons trivial (Ent.nil _))))
        obtain ⟨q, rfl⟩ : ∃ q, u = some q := by
          rcases u with _ | q
          · cases hou.2 rfl
          · exact ⟨q, rfl⟩
        refine hc_cond_true rfl ?_
        dsimp only [Option.map_some, dO, rdO]
        refine hc_seq <| hc_region <| hl_v (ov_move rfl) rfl <| hl_v (ov_fieldA rfl) rfl <| hl_v (ov_load rfl (CellIs.blk rfl)) rfl <| ?_
        refine hl_v (ov_loadW rfl (secC_len _)) rfl ?_
        refine hl_call (σ := Int) Try.call23 rfl rfl (fun w1 H1 => Own.callpx (dsk g S []) H1 fun D' hold hin H2 => Write_o D' w1 g x.2.1 (spoil x.2.2.2.2) S H2) ?_
        intro r1
        refine hl_nil <| hx_then_normal <| hc_seq <| hc_region <| hl_v (ov_move rfl) rfl <| ?_
        refine hl_c Try.call24 rfl rfl (fun w1 H1 => Own.callp (dsk g S (wrO S x.2.1 (spoil x.2.2.2.2))) H1 fun D' hold hin H2 => Flush_spec D' w1 g S _ (wrO_ok _ _ _) H2) ?_
        refine hl_nil <| hx_then_normal <| hc_seq <| hc_region <| hl_v (ov_move rfl) rfl <| hl_v (ov_fieldA rfl) rfl <| ?_
        refine hl_v (ov_load rfl (CellIs.blk rfl)) rfl <| ?_
        refine hl_v (ov_loadW rfl (secC_len _)) rfl ?_
        refine hl_call (σ := Int) Try.call25 rfl rfl (fun w1 H1 => Own.callpx (rdsk q S []) H1 fun D' hold hin H2 => RWrite_o D' w1 q x.2.1 (spoil x.2.2.2.2) S H2) ?_
        intro r2
        refine hl_nil <| hx_then_normal <| hc_region <| hl_v (ov_move rfl) rfl <| ?_
        refine hl_c Try.call26 rfl rfl (fun w1 H1 => Own.callp (rdsk q S (wrO S x.2.1 (spoil x.2.2.2.2))) H1 fun D' hold hin H2 => RFlush_spec D' w1 q S _ (wrO_ok _ _ _) H2) ?_
        refine hl_nil <| hx_block_normal <| ?_
        exact hx_cut hK4 (spS S x.2.1 (spoil x.2.2.2.2)) (by repeat (first | exact Slots.sub_nil _ | refine Slots.sub_cons rfl ?_)) (Ent.pure_cons (spS_len _ _ _) (show Ent _ [dsk g (settleL (fun _ => true) 0 S (wrO S x.2.1 (spoil x.2.2.2.2))) [], rdsk q (settleL (fun _ => true) 0 S (wrO S x.2.1 (spoil x.2.2.2.2))) []] from (by first | assumption | exact Ent.refl _ | exact Ent.nil _ | exact Ent.row_any (Ent.refl _) | (repeat (first | exact Ent.refl _ | exact Ent.nil _ | refine Ent.pick ?_)))))
      refine hc_seq <| hc_region <| hl_v (ov_eql rfl rfl) rfl <| hl_v (ov_assign rfl) rfl <| hl_nil <| hx_then_normal <| ?_
      refine hc_cond rfl (fun k3 => ?_) (fun k3 => ?_)
      · refine hc_region <| hl_v (ov_move rfl) rfl <| ?_
        refine hl_c Try.call27 rfl rfl (fun w1 H1 => Own.callp (dO o S) H1 fun D' hold hin H2 => Crash_any D' w1 o S H2) ?_
        refine hl_nil <| hx_block_normal <| ?_
        exact hx_cut hK4 (S) (by repeat (first | exact Slots.sub_nil _ | refine Slots.sub_cons rfl ?_)) (Ent.pure_cons rfl (by first | assumption | exact Ent.refl _ | exact Ent.nil _ | exact Ent.row_any (Ent.refl _) | (repeat (first | exact Ent.refl _ | exact Ent.nil _ | refine Ent.pick ?_))))
      refine hc_skip <| hx_block_normal <| ?_
      exact hx_cut hK4 (S) (by repeat (first | exact Slots.sub_nil _ | refine Slots.sub_cons rfl ?_)) (Ent.pure_cons rfl (by first | assumption | exact Ent.refl _ | exact Ent.nil _ | exact Ent.row_any (Ent.refl _) | (repeat (first | exact Ent.refl _ | exact Ent.nil _ | refine Ent.pick ?_))))
    refine HX.pure fun hsl => ?_
    refine hx_block_normal <| hx_then_normal <| hc_region <| hl_v (ov_move rfl) rfl <| hl_v (ov_add rfl rfl (by first | exact wrap_i64 (by omega) | rfl)) rfl <| ?_
    refine hl_v (ov_assign rfl) rfl <| hl_nil <| ?_
    refine hx_next hK3 ((i + 1, s)) (⟨hlt, okO_len hod hsl, okO_len hoq hsl, by show s.length ≤ 100; omega⟩) (by omega) (by repeat (first | exact Slots.sub_nil _ | refine Slots.sub_cons rfl ?_)) (by first | assumption | exact Ent.refl _ | exact Ent.nil _ | (repeat (first | exact Ent.refl _ | exact Ent.nil _ | refine Ent.pick ?_)))
  rcases o with _ | g
  · obtain rfl := hou.1 rfl
    refine HC.ent (l' := []) (Ent.nil _) ?_
    refine hc_exit <| hx_then_exit <| hx_then_exit <| hx_block_out <| hx_then_normal <| hc_seq <| ?_
    refine hc_seq <| hc_region <| hl_v (ov_assign rfl) rfl <| hl_nil <| hx_then_normal <| hc_block <| ?_
    refine hc_loops1 (σ := Nat) [5, 7] rfl 16 (fun s => .int .i64 0) (fun s => s = 0) (fun s => 0) (0) (rfl) rfl ?_
    rintro s hj K5 hK5
    refine hc_seq <| hc_seq <| hc_region <| hl_v (ov_move rfl) rfl <| hl_v (ov_neqP rfl rfl) rfl <| hl_v (ov_move rfl) rfl <| ?_
    refine hl_off rfl rfl rfl rfl rfl rfl <| hl_off rfl rfl rfl rfl rfl rfl <| hl_off rfl rfl rfl rfl rfl rfl <| hl_off rfl rfl rfl rfl rfl rfl <| hl_off rfl rfl rfl rfl rfl rfl <| hl_off rfl rfl rfl rfl rfl rfl <| ?_
    refine hl_off rfl rfl rfl rfl rfl rfl <| hl_v (ov_pickF rfl rfl) rfl <| hl_nil <| hx_then_normal <| hc_cond_false rfl <| hc_exit <| ?_
    refine hx_then_exit <| hx_then_exit <| hx_block_out <| hx_then_normal <| hc_seq <| hc_region <| ?_
    refine hl_c Try.call13 rfl rfl (fun w1 H1 => Own.calln H1 fun D' hold hin H2 => wakes7_spec D' w1) ?_
    refine hl_v (ov_assign rfl) rfl <| hl_nil <| hx_then_normal <| hc_ret <| ?_
    exact results_1 (.inr rfl) rfl rfl fun w' H' => ⟨rfl, H'.ent (Ent.nil _)⟩
  obtain ⟨q, rfl⟩ : ∃ q, u = some q := by
    rcases u with _ | q
    · cases hou.2 rfl
    · exact ⟨q, rfl⟩
  dsimp only [Option.map_some, dO, rdO]
  refine hc_exit <| hx_then_exit <| hx_then_exit <| hx_block_out <| hx_then_normal <| hc_seq <| ?_
  refine hc_seq <| hc_region <| hl_v (ov_assign rfl) rfl <| hl_nil <| hx_then_normal <| hc_block <| ?_
  refine hc_loops1 (σ := Nat) [5, 7] rfl 16 (fun j => .int .i64 (j : Int)) (fun j => j ≤ S.length) (fun j => S.length - j) (0) (Nat.zero_le _) rfl ?_
  rintro j hj K6 hK6
  refine HC.ent (Ent.pick (A := rdsk q S []) (Ent.refl _)) ?_
  refine HC.exs ?_
  rintro ⟨⟨A0, c0⟩, A1, c1⟩
  refine HC.ent (l' := [dsk g S [], blk q 59 [.slice A0 S.length c0, .slice A1 0 c1], row A0 34 64 S.length c0 (S.flatMap secC), row A1 116 65 0 c1 []]) (show Ent [blk q 59 [.slice A0 S.length c0, .slice A1 0 c1], row A0 34 64 S.length c0 (S.flatMap secC), row A1 116 65 0 c1 [], dsk g S []] _ from (by first | assumption | exact Ent.refl _ | exact Ent.nil _ | exact Ent.row_any (Ent.refl _) | (repeat (first | exact Ent.refl _ | exact Ent.nil _ | refine Ent.pick ?_)))) ?_
  refine HC.fact (fun w H => dsk_facts (A := A0) H) (fun hf0 => ?_)
  refine hc_seq <| hc_seq <| hc_region <| hl_v (ov_move rfl) rfl <| hl_v (ov_neqP rfl rfl) rfl <| hl_v (ov_move rfl) rfl <| ?_
  refine hl_on rfl rfl <| hl_v (ov_move rfl) rfl <| hl_on rfl rfl <| hl_v (ov_move rfl) rfl <| hl_on rfl rfl <| hl_v (ov_nil rfl) rfl <| hl_on rfl rfl <| hl_v (ov_fieldA rfl) rfl <| hl_on rfl rfl <| hl_v (ov_load rfl (CellIs.blk rfl)) rfl <| hl_on rfl rfl <| hl_v (by first | exact ov_len rfl | exact ov_lenS rfl) rfl <| ?_
  refine hl_on rfl rfl <| hl_v (ov_lss rfl rfl) rfl <| hl_v (ov_pickT rfl rfl) rfl <| hl_nil <| hx_then_normal <| ?_
  refine hc_cond rfl (fun hj1 => ?_) (fun hj1 => ?_)
  · have hj1 : j < S.length := by omega
    have hA0 : isA A0 := hf0.2 (flat_ne secC_len (by decide) (by omega))
    refine hc_skip <| hx_then_normal <| hc_seq <| hc_block <| hc_seq <| hc_region <| ?_
    refine hl_v (ov_move rfl) rfl <| hl_v (ov_move rfl) rfl <| ?_
    refine hl_c Try.call17 rfl rfl (fun w1 H1 => Own.callp (dsk g S []) H1 fun D' hold hin H2 => (Read_ok D' w1 g j S [] hj1 H2).mono fun e w' ⟨he, H'⟩ => ⟨show e = Ending.returned (.tuple #[.agg (secC S[j]).toArray, .int .i64 0]) by rw [he]; rfl, H'⟩) ?_
    refine hl_v (ov_move rfl) rfl <| hl_v (ov_extract rfl rfl) rfl <| hl_v (ov_extract rfl rfl) rfl <| hl_new (on_alloc) rfl rfl rfl fun b17 =>  ?_
    refine hl_u0 (on_storeW (vs := secC S[j]) rfl rfl (by simp [secC_len]) (by simp [secC_len]) (secC_one _)) rfl rfl ?_
    refine hl_v (ov_assign rfl) rfl <| hl_nil <| hx_then_normal <| hc_seq <| hc_quiet mixed (by kernel_rfl) <| hq_v (ov_move rfl) rfl <| ?_
    refine hq_v (ov_neq rfl rfl) rfl <| hq_v (ov_move rfl) rfl <| ?_
    refine hq_partF (t := 142) rfl ((fun h => h rfl)) ?_
    refine hq_on rfl rfl <| hq_v (ov_loadW rfl (secC_len S[j])) rfl ?_
    refine hq_on rfl rfl <| hq_v (ov_move rfl) rfl <| hq_on rfl rfl <| hq_v (ov_nil rfl) rfl <| hq_on rfl rfl <| hq_v (ov_fieldA rfl) rfl <| hq_on rfl rfl <| hq_v (ov_load rfl (CellIs.blk rfl)) rfl <| hq_on rfl rfl <| hq_v (ov_move rfl) rfl <| ?_
    refine hq_on rfl rfl <| hq_v (ov_idxS rfl hA0 rfl j rfl hj1) rfl ?_
    refine hq_on rfl rfl <| hq_v (ov_loadG (cs := secC S[j]) rfl (secC_len _) (CellsAre.flat (f := secC) (A := A0) secC_len hA0 (i := j) hj1)) rfl ?_
    refine hq_on rfl rfl <| hq_v (ov_neqSec (s := S[j]) (t := S[j]) rfl rfl) rfl ?_
    refine hq_v (ov_pickF rfl rfl) rfl <| hq_nil <| hx_then_normal <| ?_
    refine hc_cond_F rfl ((fun h => h rfl)) ?_
    refine hc_skip <| hx_block_normal <| hx_then_normal <| hc_region <| hl_v (ov_move rfl) rfl <| hl_v (ov_add rfl rfl (by first | exact wrap_i64 (by omega) | rfl)) rfl <| ?_
    refine hl_v (ov_assign rfl) rfl <| hl_nil <| ?_
    exact hx_next hK6 (j + 1) (hj1) (by omega) (by repeat (first | exact Slots.sub_nil _ | refine Slots.sub_cons rfl ?_)) (Ent.trans (b := [dsk g S [], blk q 59 [.slice A0 S.length c0, .slice A1 0 c1], row A0 34 64 S.length c0 (S.flatMap secC), row A1 116 65 0 c1 []]) (by first | assumption | exact Ent.refl _ | exact Ent.nil _ | exact Ent.row_any (Ent.refl _) | (repeat (first | exact Ent.refl _ | exact Ent.nil _ | refine Ent.pick ?_))) (Ent.cons (dsk_mk (P := []))))
  refine HC.ent (l' := []) (Ent.nil _) ?_
  refine hc_exit <| hx_then_exit <| hx_then_exit <| hx_block_out <| hx_then_normal <| hc_seq <| ?_
  refine hc_region <| ?_
  refine hl_c Try.call13 rfl rfl (fun w1 H1 => Own.calln H1 fun D' hold hin H2 => wakes7_spec D' w1) ?_
  refine hl_v (ov_assign rfl) rfl <| hl_nil <| hx_then_normal <| hc_ret <| ?_
  exact results_1 (.inr rfl) rfl rfl fun w' H' => ⟨rfl, H'.ent (Ent.nil _)⟩
end Go.Proofs.Ytijaldfiaeafgaa
