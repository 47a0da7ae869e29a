import Derived.Test.YtpgpfcplchaleaaCfY
set_option linter.unusedVariables false
set_option linter.unusedSimpArgs false
namespace Go.Proofs.Ytpgpfcplchaleaa
open Slk
theorem map_take_succ {α β : Type} (f : α → β) (l : List α) (i : Nat) (h : i < l.length) : (l.take (i + 1)).map f = (l.take i).map f ++ [f l[i]] := by
  rw [List.take_succ_eq_append_getElem h, List.map_append]; rfl
set_option maxHeartbeats 4000000 in
theorem ConfigSorts_walk (W : World) (v1 v2 : Value) (ids macs : List UInt16) (h1 : Old none' W (Rep.rep ids [v1])) (h2 : Old none' W (Rep.rep macs [v2])) :
    Calls Try.prog 12 #[v1, v2] W fun e w' => e = .returned (.bool true) ∧ Own none' W w' [] := by
  obtain ⟨Ai, ci, rfl, hi1, hi2, HSi, _⟩ := h1.openF
  obtain ⟨Am, cm, rfl, hm1, hm2, HSm, _⟩ := h2.openF
  have HSi : OldS none' W Ai (ids.flatMap u16V) := HSi
  have HSm : OldS none' W Am (macs.flatMap u16V) := HSm
  refine hc_enter (vs := [.slice Ai ids.length ci, .slice Am macs.length cm]) Try.func12 rfl _ Try.ntmps12 rfl (Own.start none' W) ?_
  simp only [argSlots, Nat.zero_add]
  refine hc_seq <| hc_region <| hl_v (ov_assign rfl) rfl <| hl_nil <| hx_then_normal <| hc_seq <| ?_
  refine hc_seq <| hc_region <| hl_v (ov_move rfl) rfl <| hl_v (by first | exact ov_len rfl | exact ov_lenS rfl) rfl <| ?_
  refine hl_v (ov_gtr rfl rfl) rfl <| hl_v (ov_move rfl) rfl <| ?_
  refine hl_part (t := 21) rfl (fun a1 => ?_) (fun a1 => ?_)
  · refine hl_off rfl rfl rfl rfl rfl rfl <| hl_off rfl rfl rfl rfl rfl rfl <| hl_off rfl rfl rfl rfl rfl rfl <| hl_v (ov_pickT rfl rfl) rfl <| hl_nil <| hx_then_normal <| ?_
    refine hc_cond_true rfl <| hc_seq <| hc_region <| ?_
    refine hl_c Try.call28 rfl rfl (fun w1 H1 => Own.calln H1 fun D' hold hin H2 => wakes5_spec D' w1) ?_
    refine hl_v (ov_assign rfl) rfl <| hl_nil <| hx_then_normal <| hc_ret <| hx_then_ret <| ?_
    exact results_1 (.inr rfl) rfl rfl fun w' H' => ⟨rfl, H'.ent (Ent.nil _)⟩
  refine hl_on rfl rfl <| hl_v (ov_move rfl) rfl <| hl_on rfl rfl <| hl_v (by first | exact ov_len rfl | exact ov_lenS rfl) rfl <| ?_
  refine hl_on rfl rfl <| hl_v (ov_gtr rfl rfl) rfl <| hl_v (ov_pickF rfl rfl) rfl <| hl_nil <| hx_then_normal <| ?_
  refine hc_cond rfl (fun a2 => ?_) (fun a2 => ?_)
  · refine hc_seq <| hc_region <| ?_
    refine hl_c Try.call28 rfl rfl (fun w1 H1 => Own.calln H1 fun D' hold hin H2 => wakes5_spec D' w1) ?_
    refine hl_v (ov_assign rfl) rfl <| hl_nil <| hx_then_normal <| hc_ret <| hx_then_ret <| ?_
    exact results_1 (.inr rfl) rfl rfl fun w' H' => ⟨rfl, H'.ent (Ent.nil _)⟩
  have hl1 : ids.length ≤ 12 := by omega
  have hl2 : macs.length ≤ 10 := by omega
  obtain ⟨d, hI, hg, hf, hb⟩ := srt_both ids macs hl1 hl2
  have hP := srtL_P ids macs
  have hok2 := firstC_ok 2 (by decide)
  have hg2 := firstC_good 2 (by decide) (by decide)
  refine hc_skip <| hx_then_normal <| hc_seq <| hc_region <| ?_
  refine hl_call (σ := FirstT 2) Try.call29 rfl rfl (fun w1 H1 => Own.callx0 H1 fun D' hold hin H2 => First_res D' w1 2) ?_
  intro f1
  try rw [List.nil_append]
  refine hl_v (ov_move rfl) rfl <| hl_v (ov_extract rfl rfl) rfl <| hl_v (ov_extract rfl rfl) rfl <| hl_new (on_alloc) rfl rfl rfl fun b5 =>  ?_
  refine hl_u0 (on_storeW (vs := cfgA f1.1.2.1 f1.1.1) rfl rfl rfl (by simp) (by simp [Value.oneCell'])) rfl rfl ?_
  have hd1 := f1.good ⟨by decide, by decide⟩
  obtain ⟨⟨q0', c1, e1⟩, hs1⟩ := f1
  obtain ⟨c0, hc0⟩ : ∃ c, c = firstC 2 := ⟨_, rfl⟩
  have hd1 : c1 = c0 ∧ e1 = 0 := ⟨hd1.1.trans hc0.symm, hd1.2⟩
  rw [← hc0] at hf hb hok2 hg2
  dsimp only
  obtain ⟨rfl, rfl⟩ := hd1
  refine hl_v (ov_assign rfl) rfl <| hl_nil <| hx_then_normal <| hc_seq <| hc_seq <| hc_region <| ?_
  refine hl_v (ov_move rfl) rfl <| hl_v (ov_neq rfl rfl) rfl <| hl_nil <| hx_then_normal <| ?_
  refine hc_cond_F rfl ((fun h => h rfl)) ?_
  refine hc_skip <| hx_then_normal <| hc_seq <| hc_region <| hl_v (ov_assign rfl) rfl <| hl_v (ov_assign rfl) rfl <| ?_
  refine hl_nil <| hx_then_normal <| hc_seq <| hc_seq <| hc_region <| hl_v (ov_assign rfl) rfl <| ?_
  refine hl_nil <| hx_then_normal <| hc_block <| ?_
  refine hc_loopK2 (σ := Nat × Option Addr × Nat) [0, 1, 5, 8] rfl 9 (fun s => .int .i64 (s.1 : Int)) 7 (fun s => .slice s.2.1 s.1 s.2.2) (fun s => [row s.2.1 64 7 s.1 s.2.2 (((ids.take s.1).map (fun x => eVl (idV x))).flatMap editV), blk b5 26 (cfgA c1 q0')] ++ cfgR c1 q0') (fun s => s.1 ≤ ids.length) (fun s => ids.length - s.1) ((0, none, 0)) (Nat.zero_le _) rfl rfl (Ent.trans (Ent.nil_row 64 7) (by first | assumption | exact Ent.refl _ | exact Ent.nil _ | exact Ent.row_any (Ent.refl _) | (repeat (first | exact Ent.refl _ | exact Ent.nil _ | refine Ent.pick ?_)))) ?_
  rintro ⟨i, qA⟩ hi K1 hK1
  dsimp only at hi ⊢
  refine hc_seq <| hc_seq <| hc_region <| hl_v (ov_move rfl) rfl <| hl_v (ov_move rfl) rfl <| hl_v (by first | exact ov_len rfl | exact ov_lenS rfl) rfl <| ?_
  refine hl_v (ov_lss rfl rfl) rfl <| hl_nil <| hx_then_normal <| ?_
  refine hc_cond rfl (fun g1 => ?_) (fun g1 => ?_)
  · have hlt : i < ids.length := by omega
    obtain ⟨hA, _⟩ := OldS.cells_flat (D := none') (w0 := W) (f := u16V) (sz := 1) (fun _ => rfl) (by decide) HSi hlt []
    have hcell := fun l' => (OldS.cells_flat (D := none') (w0 := W) (f := u16V) (sz := 1) (fun _ => rfl) (by decide) HSi hlt l').2
    have hst := map_take_succ (fun x => eVl (idV x)) ids i hlt
    generalize ids[i] = x at *
    have hx := x.toNat_lt
    obtain ⟨v, hv⟩ : ∃ v : Int, v = idV x := ⟨_, rfl⟩
    rw [← hv] at hst
    refine hc_skip <| hx_then_normal <| hc_seq <| hc_block <| hc_region <| hl_v (ov_move rfl) rfl <| ?_
    refine hl_v (ov_move rfl) rfl <| hl_v (ov_move rfl) rfl <| ?_
    refine hl_v (ov_idxS rfl hA rfl i rfl hlt) rfl ?_
    refine hl_v (ov_load rfl ((hcell _).cell (i := 0) rfl)) rfl ?_
    refine hl_v (ov_conv rfl (by first | exact wrap_i64 (by omega) | rfl)) rfl <| ?_
    refine hl_v (ov_remE (m := x.toNat % 4000) (b := 4000) rfl rfl (by omega) rfl) rfl ?_
    refine hl_v (ov_add (m := v) rfl rfl (by rw [hv]; exact wrap_i64 (by omega))) rfl ?_
    refine hl_v (ov_buildSN rfl rfl) rfl <| ?_
    refine hl_new (on_buildSlice (res := editV (eVl v)) rfl rfl (by kernel_rfl)) rfl rfl rfl (fun b48 => ?_)
    refine hl_new (on_appendR (A := qA.1) (news := editV (eVl v)) rfl rfl (SrcIs.blk (b := b48)) rfl (editV_one _) (by decide) (by omega)) rfl rfl rfl (fun qB => ?_)
    rw [show ((ids.take i).map (fun x => eVl (idV x))).flatMap editV ++ editV (eVl v) = ((ids.take (i + 1)).map (fun x => eVl (idV x))).flatMap editV by rw [hst, List.flatMap_append, List.flatMap_singleton]]
    refine hl_v (ov_assign rfl) rfl <| hl_nil <| hx_block_normal <| hx_then_normal <| hc_region <| hl_v (ov_move rfl) rfl <| ?_
    refine hl_v (ov_add rfl rfl (by first | exact wrap_i64 (by omega) | rfl)) rfl <| ?_
    refine hl_v (ov_assign rfl) rfl <| hl_nil <| ?_
    refine hx_next hK1 ((i + 1, qB)) (hlt) (by omega) (by repeat (first | exact Slots.sub_nil _ | refine Slots.sub_cons rfl ?_)) (by first | assumption | exact Ent.refl _ | exact Ent.nil _ | (repeat (first | exact Ent.refl _ | exact Ent.nil _ | refine Ent.pick ?_)))
  obtain rfl : i = ids.length := by omega
  rw [List.take_length]
  refine hc_exit <| hx_then_exit <| hx_then_exit <| hx_block_out <| hx_then_normal <| hc_seq <| ?_
  refine hc_seq <| hc_region <| hl_v (ov_assign rfl) rfl <| hl_nil <| hx_then_normal <| hc_block <| ?_
  refine hc_loopK2 (σ := Nat × Option Addr × Nat) [1, 5, 8] rfl 10 (fun s => .int .i64 (s.1 : Int)) 7 (fun s => .slice s.2.1 (ids.length + s.1) s.2.2) (fun s => [row s.2.1 64 7 (ids.length + s.1) s.2.2 ((srtL ids (macs.take s.1)).flatMap editV), blk b5 26 (cfgA c1 q0')] ++ cfgR c1 q0') (fun s => s.1 ≤ macs.length) (fun s => macs.length - s.1) ((0, qA)) (Nat.zero_le _) rfl rfl (by simp only [srtL, List.take_zero, List.map_nil, List.append_nil, Nat.add_zero]; exact (by first | assumption | exact Ent.refl _ | exact Ent.nil _ | exact Ent.row_any (Ent.refl _) | (repeat (first | exact Ent.refl _ | exact Ent.nil _ | refine Ent.pick ?_)))) ?_
  rintro ⟨i, qC⟩ hi K2 hK2
  dsimp only at hi ⊢
  refine hc_seq <| hc_seq <| hc_region <| hl_v (ov_move rfl) rfl <| hl_v (ov_move rfl) rfl <| hl_v (by first | exact ov_len rfl | exact ov_lenS rfl) rfl <| ?_
  refine hl_v (ov_lss rfl rfl) rfl <| hl_nil <| hx_then_normal <| ?_
  refine hc_cond rfl (fun g2 => ?_) (fun g2 => ?_)
  · have hlt : i < macs.length := by omega
    obtain ⟨hA, _⟩ := OldS.cells_flat (D := none') (w0 := W) (f := u16V) (sz := 1) (fun _ => rfl) (by decide) HSm hlt []
    have hcell := fun l' => (OldS.cells_flat (D := none') (w0 := W) (f := u16V) (sz := 1) (fun _ => rfl) (by decide) HSm hlt l').2
    have hst := map_take_succ (fun x => eSt (macS x)) macs i hlt
    generalize macs[i] = x at *
    have hx := x.toNat_lt
    have hmn := macS_nat x
    obtain ⟨m, hm⟩ : ∃ m, m = macS x := ⟨_, rfl⟩
    rw [← hm] at hst hmn
    refine hc_skip <| hx_then_normal <| hc_seq <| hc_block <| hc_region <| hl_v (ov_move rfl) rfl <| ?_
    refine hl_v (ov_move rfl) rfl <| hl_v (ov_move rfl) rfl <| ?_
    refine hl_v (ov_idxS rfl hA rfl i rfl hlt) rfl ?_
    refine hl_v (ov_load rfl ((hcell _).cell (i := 0) rfl)) rfl ?_
    refine hl_v (ov_conv (m := (x.toNat : Int)) rfl (wrap_u64 (by omega))) rfl ?_
    refine hl_v (ov_add (m := (m.toNat : Int)) rfl rfl ((wrap_u64 (by omega)).trans (by omega))) rfl ?_
    refine hl_v (ov_buildSN rfl rfl) rfl <| ?_
    refine hl_new (on_buildSlice (res := editV (eSt m)) rfl rfl (by kernel_rfl)) rfl rfl rfl (fun b64 => ?_)
    refine hl_new (on_appendR (A := qC.1) (news := editV (eSt m)) rfl rfl (SrcIs.blk (b := b64)) rfl (editV_one _) (by decide) (by omega)) rfl rfl rfl (fun qB => ?_)
    rw [show (srtL ids (macs.take i)).flatMap editV ++ editV (eSt m) = (srtL ids (macs.take (i + 1))).flatMap editV by unfold srtL; rw [hst, ← List.append_assoc, List.flatMap_append (xs := _ ++ _), List.flatMap_singleton]]
    refine hl_v (ov_assign rfl) rfl <| hl_nil <| hx_block_normal <| hx_then_normal <| hc_region <| hl_v (ov_move rfl) rfl <| ?_
    refine hl_v (ov_add rfl rfl (by first | exact wrap_i64 (by omega) | rfl)) rfl <| ?_
    refine hl_v (ov_assign rfl) rfl <| hl_nil <| ?_
    refine hx_next hK2 ((i + 1, qB)) (hlt) (by omega) (by repeat (first | exact Slots.sub_nil _ | refine Slots.sub_cons rfl ?_)) (by first | assumption | exact Ent.refl _ | exact Ent.nil _ | (repeat (first | exact Ent.refl _ | exact Ent.nil _ | refine Ent.pick ?_)))
  obtain rfl : i = macs.length := by omega
  rw [List.take_length]
  have hLl := srtL_len ids macs
  rw [← hLl]
  obtain ⟨L, hL⟩ : ∃ L, L = srtL ids macs := ⟨_, rfl⟩
  rw [← hL] at hf hb hP hLl ⊢
  have hLok := srtP_ok hP
  have hL22 : L.length ≤ 22 := by omega
  refine hc_exit <| hx_then_exit <| hx_then_exit <| hx_block_out <| hx_then_normal <| hc_seq <| ?_
  refine hc_seq <| hc_region <| hl_v (ov_assign rfl) rfl <| hl_nil <| hx_then_normal <| hc_block <| ?_
  refine hc_loopK2 (σ := Nat × Option Addr × Nat) [5, 7] rfl 11 (fun s => .int .i64 (s.1 : Int)) 8 (fun s => .slice s.2.1 s.1 s.2.2) (fun s => [row s.2.1 64 7 s.1 s.2.2 ((L.reverse.take s.1).flatMap editV), row qC.1 64 7 L.length qC.2 (L.flatMap editV), blk b5 26 (cfgA c1 q0')] ++ cfgR c1 q0') (fun s => s.1 ≤ L.length) (fun s => L.length - s.1) ((0, none, 0)) (Nat.zero_le _) rfl rfl (Ent.trans (Ent.nil_row 64 7) (by first | assumption | exact Ent.refl _ | exact Ent.nil _ | exact Ent.row_any (Ent.refl _) | (repeat (first | exact Ent.refl _ | exact Ent.nil _ | refine Ent.pick ?_)))) ?_
  rintro ⟨i, qD⟩ hi K3 hK3
  dsimp only at hi ⊢
  refine hc_seq <| hc_seq <| hc_region <| hl_v (ov_move rfl) rfl <| hl_v (ov_move rfl) rfl <| hl_v (by first | exact ov_len rfl | exact ov_lenS rfl) rfl <| ?_
  refine hl_v (ov_lss rfl rfl) rfl <| hl_nil <| hx_then_normal <| ?_
  refine hc_cond rfl (fun g3 => ?_) (fun g3 => ?_)
  · have hlt : i < L.length := by omega
    refine HC.fact (fun w H => Own.factR qC.1 H) ?_
    rintro ⟨hpl, _, _, hA⟩
    have hA : isA qC.1 := hA (by intro h; have := congrArg List.length h; rw [hpl] at this; simp only [List.length_nil] at this; omega)
    obtain ⟨j, hj⟩ : ∃ j, j = L.length - 1 - i := ⟨_, rfl⟩
    have hjl : j < L.length := by omega
    have hrl : i < L.reverse.length := by rw [List.length_reverse]; exact hlt
    have hst := List.take_succ_eq_append_getElem hrl
    rw [List.getElem_reverse, show L[L.length - 1 - i]'(by omega) = L[j] by simp only [hj]] at hst
    have hcell := fun l' r' (hh : PickR l' qC.1 64 7 L.length qC.2 (L.flatMap editV) r') => CellsAre.flat (D := none') (w0 := W) (f := editV) (sz := 7) (fun _ => rfl) (A := qC.1) (h := hh) hA hjl
    obtain ⟨x, hx⟩ : ∃ x, x = L[j] := ⟨_, rfl⟩
    rw [← hx] at hst
    refine hc_skip <| hx_then_normal <| hc_seq <| hc_block <| hc_region <| hl_v (ov_move rfl) rfl <| ?_
    refine hl_v (ov_move rfl) rfl <| hl_v (ov_move rfl) rfl <| hl_v (by first | exact ov_len rfl | exact ov_lenS rfl) rfl <| ?_
    refine hl_v (ov_sub rfl rfl (by first | exact wrap_i64 (by omega) | rfl)) rfl <| ?_
    refine hl_v (ov_move rfl) rfl <| hl_v (ov_sub rfl rfl (by first | exact wrap_i64 (by omega) | rfl)) rfl <| ?_
    refine hl_v (ov_idxS rfl hA rfl j (by omega) hjl) rfl ?_
    refine hl_v (ov_loadG (cs := editV x) rfl rfl (by rw [hx]; exact CellsAre.flat (f := editV) (sz := 7) (fun _ => rfl) (A := qC.1) hA hjl)) rfl ?_
    refine hl_new (on_buildSlice (res := editV x) rfl rfl (by kernel_rfl)) rfl rfl rfl (fun b81 => ?_)
    refine hl_new (on_appendR (A := qD.1) (news := editV x) rfl rfl (SrcIs.blk (b := b81)) rfl (editV_one _) (by decide) (by omega)) rfl rfl rfl (fun qB => ?_)
    rw [show (L.reverse.take i).flatMap editV ++ editV x = (L.reverse.take (i + 1)).flatMap editV by rw [hst, List.flatMap_append, List.flatMap_singleton]]
    refine hl_v (ov_assign rfl) rfl <| hl_nil <| hx_block_normal <| hx_then_normal <| hc_region <| hl_v (ov_move rfl) rfl <| ?_
    refine hl_v (ov_add rfl rfl (by first | exact wrap_i64 (by omega) | rfl)) rfl <| ?_
    refine hl_v (ov_assign rfl) rfl <| hl_nil <| ?_
    refine hx_next hK3 ((i + 1, qB)) (hlt) (by omega) (by repeat (first | exact Slots.sub_nil _ | refine Slots.sub_cons rfl ?_)) (by first | assumption | exact Ent.refl _ | exact Ent.nil _ | (repeat (first | exact Ent.refl _ | exact Ent.nil _ | refine Ent.pick ?_)))
  obtain rfl : i = L.length := by omega
  rw [List.take_of_length_le (by rw [List.length_reverse]; exact Nat.le_refl _)]
  refine hc_exit <| hx_then_exit <| hx_then_exit <| hx_block_out <| hx_then_normal <| hc_seq <| ?_
  refine hc_region <| hl_v (by first | exact ov_loadW rfl (by simp; done) | exact ov_loadGB rfl rfl) rfl <| ?_
  refine hl_v (ov_move rfl) rfl <| ?_
  refine hl_call (σ := EditT c1 L) Try.call36 rfl rfl (fun w1 H1 => Own.callx0 H1 fun D' hold hin H2 => Edit_spec D' w1 c1 _ _ _ _ L (by omega) (ConfOld.rows (q := q0') hok2 hin) (hin _ fun h hs ho => rep_row (A := qC.1) hs L rfl (repL_F.2 ⟨rfl, hLok⟩))) ?_
  intro r2
  try rw [List.nil_append]
  refine hl_v (ov_move rfl) rfl <| hl_v (ov_extract rfl rfl) rfl <| hl_v (ov_extract rfl rfl) rfl <| hl_new (on_alloc) rfl rfl rfl fun b12 =>  ?_
  refine hl_u0 (on_storeW (vs := cfgA r2.1.2.1 r2.1.1) rfl rfl rfl (by simp) (by simp [Value.oneCell'])) rfl rfl ?_
  have okd := editR_ok r2.2 hok2 hLok
  have hf2 := r2.2.ok hg2 (by omega) hf hg
  obtain ⟨⟨q2, c2, e2⟩, hs2⟩ := r2
  have hf2 : (c2, e2) = (d, 0) := hf2
  simp only [Prod.mk.injEq] at hf2
  have okd : OkC c2 := okd
  dsimp only
  obtain ⟨rfl, rfl⟩ := hf2
  refine hl_v (ov_assign rfl) rfl <| hl_nil <| hx_then_normal <| hc_seq <| hc_region <| hl_v (by first | exact ov_loadW rfl (by simp; done) | exact ov_loadGB rfl rfl) rfl <| ?_
  refine hl_v (ov_move rfl) rfl <| ?_
  refine hl_call (σ := EditT c1 L.reverse) Try.call36 rfl rfl (fun w1 H1 => Own.callx0 H1 fun D' hold hin H2 => Edit_spec D' w1 c1 _ _ _ _ L.reverse (by rw [List.length_reverse]; omega) (ConfOld.rows (q := q0') hok2 hin) (hin _ fun h hs ho => rep_row (A := qD.1) hs L.reverse List.length_reverse.symm (repL_F.2 ⟨rfl, fun x hx => hLok x (List.mem_reverse.1 hx)⟩))) ?_
  intro r3
  try rw [List.nil_append]
  refine hl_v (ov_move rfl) rfl <| hl_v (ov_extract rfl rfl) rfl <| hl_v (ov_extract rfl rfl) rfl <| hl_new (on_alloc) rfl rfl rfl fun b14 =>  ?_
  refine hl_u0 (on_storeW (vs := cfgA r3.1.2.1 r3.1.1) rfl rfl rfl (by simp) (by simp [Value.oneCell'])) rfl rfl ?_
  have hf3 := r3.2.ok hg2 (by rw [List.length_reverse]; omega) hb hg
  obtain ⟨⟨q3, c3, e3⟩, hs3⟩ := r3
  have hf3 : (c3, e3) = (c2, 0) := hf3
  simp only [Prod.mk.injEq] at hf3
  dsimp only
  obtain ⟨rfl, rfl⟩ := hf3
  refine hl_v (ov_assign rfl) rfl <| hl_nil <| hx_then_normal <| hc_seq <| hc_seq <| hc_region <| ?_
  refine hl_v (ov_move rfl) rfl <| hl_v (ov_neq rfl rfl) rfl <| hl_v (ov_move rfl) rfl <| ?_
  refine hl_partF (t := 97) rfl ((fun h => h rfl)) ?_
  refine hl_on rfl rfl <| hl_v (ov_move rfl) rfl <| hl_on rfl rfl <| hl_v (ov_neq rfl rfl) rfl <| hl_v (ov_pickF rfl rfl) rfl <| hl_v (ov_move rfl) rfl <| ?_
  refine hl_partF (t := 101) rfl ((fun h => h rfl)) ?_
  refine hl_on rfl rfl <| hl_v (by first | exact ov_loadW rfl (by simp; done) | exact ov_loadGB rfl rfl) rfl <| ?_
  refine hl_on rfl rfl <| hl_v (by first | exact ov_loadW rfl (by simp; done) | exact ov_loadGB rfl rfl) rfl <| ?_
  refine hl_on rfl rfl <| hl_call (σ := BIff (c3 = c3)) Try.call34 rfl rfl (fun w1 H1 => Own.callx0 H1 fun D' hold hin H2 => Same_spec D' w1 c3 c3 _ _ _ _ _ _ (ConfOld.rows (q := q2) okd hin) (ConfOld.rows (q := q3) okd hin)) ?_
  intro s4
  try rw [List.nil_append]
  have hs4 : s4.1 = true := s4.2.2 rfl
  rw [hs4]
  refine hl_on rfl rfl <| hl_v (by first | exact ov_notd rfl | exact ov_not rfl) rfl <| ?_
  refine hl_v (ov_pickF rfl rfl) rfl <| hl_nil <| hx_then_normal <| ?_
  refine hc_cond_false rfl ?_
  have hV1 : 1 ≤ c3.2.2.2.2.1.length := hg.2.1.1
  have hav := hI.av
  have hbs := hI.bs
  have hss := hI.ss
  obtain ⟨V, hV⟩ : ∃ V, V = c3.2.2.2.2.1 := ⟨_, rfl⟩
  obtain ⟨S, hS⟩ : ∃ S, S = c3.2.2.2.2.2 := ⟨_, rfl⟩
  rw [← hV] at hav hV1
  rw [← hS] at hbs hss
  have hVl : c3.2.2.2.2.1.length = V.length := by rw [hV]
  have hSl : c3.2.2.2.2.2.length = S.length := by rw [hS]
  have hVl16 : V.length ≤ 16 := by have := hg.2.1.2.1; omega
  have hSl16 : S.length ≤ 16 := by have := hg.2.2.2.1; omega
  have hVr : ∀ (j : Nat) (hj : j < V.length), (c3.2.2.2.2.1.flatMap vlanV)[j * 3 + 0]? = some (.int .i64 V[j].1) := fun j hj => by
    rw [← hV, flat_at (f := vlanV) (sz := 3) (fun _ => rfl) _ j 0 hj (by decide)]; rfl
  have hSr : ∀ (j : Nat) (hj : j < S.length), (c3.2.2.2.2.2.flatMap statV)[j * 3 + 0]? = some (.int .u64 S[j].1.toNat) := fun j hj => by
    rw [← hS, flat_at (f := statV) (sz := 3) (fun _ => rfl) _ j 0 hj (by decide)]; rfl
  refine hc_skip <| hx_then_normal <| hc_seq <| hc_seq <| hc_region <| hl_v (ov_assign rfl) rfl <| ?_
  refine hl_nil <| hx_then_normal <| hc_block <| ?_
  refine hc_loops1 (σ := Nat) [12] rfl 16 (fun s => .int .i64 (s : Int)) (fun s => 1 ≤ s ∧ s ≤ V.length) (fun s => V.length - s) (1) (⟨Nat.le_refl _, hV1⟩) rfl ?_
  rintro s ⟨hi3, hi4⟩ K4 hK4
  refine hc_seq <| hc_seq <| hc_region <| hl_v (ov_move rfl) rfl <| hl_v (ov_fieldA rfl) rfl <| hl_v (ov_load rfl (CellIs.blk rfl)) rfl <| ?_
  refine hl_v (by first | exact ov_len rfl | exact ov_lenS rfl) rfl <| ?_
  refine hl_v (ov_lss rfl rfl) rfl <| hl_nil <| hx_then_normal <| ?_
  refine hc_cond rfl (fun g4 => ?_) (fun g4 => ?_)
  · have hlt : s < V.length := by omega
    refine HC.fact (fun w H => Own.factR q2.2.1.1 H) ?_
    rintro ⟨hpl, _, _, hA⟩
    have hA : isA q2.2.1.1 := hA (by intro h; have := congrArg List.length h; rw [hpl] at this; simp only [List.length_nil] at this; omega)
    have hup := of_decide_eq_true (hav.get (s - 1) s (by omega) hlt (by omega))
    refine hc_skip <| hx_then_normal <| hc_seq <| hc_block <| hc_seq <| hc_quiet mixed (by kernel_rfl) <| ?_
    refine hq_v (ov_fieldA rfl) rfl <| hq_v (ov_load rfl (CellIs.blk rfl)) rfl <| hq_v (ov_move rfl) rfl <| hq_v (ov_sub rfl rfl (by first | exact wrap_i64 (by omega) | rfl)) rfl <| ?_
    refine hq_v (ov_idxS rfl hA rfl (s - 1) (by omega) (by omega)) rfl ?_
    refine hq_v (ov_fieldA rfl) rfl <| ?_
    refine hq_v (ov_load rfl (CellIs.row (A := q2.2.1.1) hA (i := (s - 1) * 3 + 0) (hVr (s - 1) (by omega)))) rfl ?_
    refine hq_v (ov_fieldA rfl) rfl <| hq_v (ov_load rfl (CellIs.blk rfl)) rfl <| hq_v (ov_move rfl) rfl <| ?_
    refine hq_v (ov_idxS rfl hA rfl s rfl (by omega)) rfl ?_
    refine hq_v (ov_fieldA rfl) rfl <| ?_
    refine hq_v (ov_load rfl (CellIs.row (A := q2.2.1.1) hA (i := s * 3 + 0) (hVr s hlt))) rfl ?_
    refine hq_v (ov_geq rfl rfl) rfl <| hq_nil <| hx_then_normal <| ?_
    refine hc_cond_F rfl ((by omega)) ?_
    refine hc_skip <| hx_block_normal <| hx_then_normal <| hc_region <| hl_v (ov_move rfl) rfl <| hl_v (ov_add rfl rfl (by first | exact wrap_i64 (by omega) | rfl)) rfl <| ?_
    refine hl_v (ov_assign rfl) rfl <| hl_nil <| ?_
    refine hx_next hK4 (s + 1) (⟨by omega, hlt⟩) (by omega) (by repeat (first | exact Slots.sub_nil _ | refine Slots.sub_cons rfl ?_)) (by first | assumption | exact Ent.refl _ | exact Ent.nil _ | (repeat (first | exact Ent.refl _ | exact Ent.nil _ | refine Ent.pick ?_)))
  refine hc_exit <| hx_then_exit <| hx_then_exit <| hx_block_out <| hx_then_normal <| hc_seq <| ?_
  refine hc_seq <| hc_region <| hl_v (ov_assign rfl) rfl <| hl_nil <| hx_then_normal <| hc_block <| ?_
  by_cases hS0 : 1 ≤ S.length
  · refine hc_loops1 (σ := Nat) [12] rfl 17 (fun s => .int .i64 (s : Int)) (fun s => 1 ≤ s ∧ s ≤ S.length) (fun s => S.length - s) (1) (⟨Nat.le_refl _, hS0⟩) rfl ?_
    rintro s ⟨hi5, hi6⟩ K5 hK5
    refine hc_seq <| hc_seq <| hc_region <| hl_v (ov_move rfl) rfl <| hl_v (ov_fieldA rfl) rfl <| hl_v (ov_load rfl (CellIs.blk rfl)) rfl <| ?_
    refine hl_v (by first | exact ov_len rfl | exact ov_lenS rfl) rfl <| ?_
    refine hl_v (ov_lss rfl rfl) rfl <| hl_nil <| hx_then_normal <| ?_
    refine hc_cond rfl (fun g5 => ?_) (fun g5 => ?_)
    · have hlt : s < S.length := by omega
      refine HC.fact (fun w H => Own.factR q2.2.2.1 H) ?_
      rintro ⟨hpl, _, _, hA⟩
      have hA : isA q2.2.2.1 := hA (by intro h; have := congrArg List.length h; rw [hpl] at this; simp only [List.length_nil] at this; omega)
      have hup := of_decide_eq_true (hbs.get (s - 1) s (by omega) hlt (by omega))
      have k1 : S[s - 1].2.1 = 1 := by rw [(hss _ (List.getElem_mem (show s - 1 < S.length by omega))).2]
      have k2 : S[s].2.1 = 1 := by rw [(hss _ (List.getElem_mem hlt)).2]
      rw [k1, k2] at hup
      refine hc_skip <| hx_then_normal <| hc_seq <| hc_block <| hc_seq <| hc_quiet mixed (by kernel_rfl) <| ?_
      refine hq_v (ov_fieldA rfl) rfl <| hq_v (ov_load rfl (CellIs.blk rfl)) rfl <| hq_v (ov_move rfl) rfl <| hq_v (ov_sub rfl rfl (by first | exact wrap_i64 (by omega) | rfl)) rfl <| ?_
      refine hq_v (ov_idxS rfl hA rfl (s - 1) (by omega) (by omega)) rfl ?_
      refine hq_v (ov_fieldA rfl) rfl <| ?_
      refine hq_v (ov_load rfl (CellIs.row (A := q2.2.2.1) hA (i := (s - 1) * 3 + 0) (hSr (s - 1) (by omega)))) rfl ?_
      refine hq_v (ov_fieldA rfl) rfl <| hq_v (ov_load rfl (CellIs.blk rfl)) rfl <| hq_v (ov_move rfl) rfl <| ?_
      refine hq_v (ov_idxS rfl hA rfl s rfl (by omega)) rfl ?_
      refine hq_v (ov_fieldA rfl) rfl <| ?_
      refine hq_v (ov_load rfl (CellIs.row (A := q2.2.2.1) hA (i := s * 3 + 0) (hSr s hlt))) rfl ?_
      refine hq_v (ov_geq rfl rfl) rfl <| hq_nil <| hx_then_normal <| ?_
      refine hc_cond_F rfl ((by omega)) ?_
      refine hc_skip <| hx_block_normal <| hx_then_normal <| hc_region <| hl_v (ov_move rfl) rfl <| hl_v (ov_add rfl rfl (by first | exact wrap_i64 (by omega) | rfl)) rfl <| ?_
      refine hl_v (ov_assign rfl) rfl <| hl_nil <| ?_
      refine hx_next hK5 (s + 1) (⟨by omega, hlt⟩) (by omega) (by repeat (first | exact Slots.sub_nil _ | refine Slots.sub_cons rfl ?_)) (by first | assumption | exact Ent.refl _ | exact Ent.nil _ | (repeat (first | exact Ent.refl _ | exact Ent.nil _ | refine Ent.pick ?_)))
    refine hc_exit <| hx_then_exit <| hx_then_exit <| hx_block_out <| hx_then_normal <| hc_seq <| ?_
    refine hc_region <| ?_
    refine hl_c Try.call28 rfl rfl (fun w1 H1 => Own.calln H1 fun D' hold hin H2 => wakes5_spec D' w1) ?_
    refine hl_v (ov_assign rfl) rfl <| hl_nil <| hx_then_normal <| hc_ret <| ?_
    exact results_1 (.inr rfl) rfl rfl fun w' H' => ⟨rfl, H'.ent (Ent.nil _)⟩
  refine hc_loops1 (σ := Nat) [12] rfl 17 (fun s => .int .i64 (s : Int)) (fun s => s = 1) (fun s => 0) (1) (rfl) rfl ?_
  rintro s hi5 K6 hK6
  refine hc_seq <| hc_seq <| hc_region <| hl_v (ov_move rfl) rfl <| hl_v (ov_fieldA rfl) rfl <| hl_v (ov_load rfl (CellIs.blk rfl)) rfl <| ?_
  refine hl_v (by first | exact ov_len rfl | exact ov_lenS rfl) rfl <| ?_
  refine hl_v (ov_lss rfl rfl) rfl <| hl_nil <| hx_then_normal <| ?_
  refine hc_cond rfl (fun g5 => ?_) (fun g5 => ?_)
  · exfalso; omega
  refine hc_exit <| hx_then_exit <| hx_then_exit <| hx_block_out <| hx_then_normal <| hc_seq <| ?_
  refine hc_region <| ?_
  refine hl_c Try.call28 rfl rfl (fun w1 H1 => Own.calln H1 fun D' hold hin H2 => wakes5_spec D' w1) ?_
  refine hl_v (ov_assign rfl) rfl <| hl_nil <| hx_then_normal <| hc_ret <| ?_
  exact results_1 (.inr rfl) rfl rfl fun w' H' => ⟨rfl, H'.ent (Ent.nil _)⟩
end Go.Proofs.Ytpgpfcplchaleaa
