import Derived.Test.YtijaldfiaeafgaaSnpB
set_option linter.unusedVariables false
set_option linter.unusedSimpArgs false
namespace Go.Proofs.Ytijaldfiaeafgaa
open Slk
abbrev CutT := List UInt8 × Bool × List Bool
instance : ReadsAs Try.prog 63 CutT := ReadsAs.structG 0 (by kernel_rfl) rfl (ReadsG.cons 0 (ReadsG.cons 1 (ReadsG.last 2 (by decide))))
theorem cut_open {D : Nat → Prop} {w0 : World} {x : CutT} {cs : List Value} (k : Old D w0 (Rep.rep x cs)) : ∃ A cap B capB, cs = [.slice A x.1.length cap, .bool x.2.1, .slice B x.2.2.length capB] ∧ Old D w0 (Rep.rep x.1 [.slice A x.1.length cap]) ∧ Old D w0 (Rep.rep x.2.2 [.slice B x.2.2.length capB]) := by
  obtain ⟨h, hh, c1, c2, rfl, r1, c3, c4, rfl, r2, r3⟩ := k
  have r2 : c3 = [.bool x.2.1] := r2
  subst r2
  obtain ⟨A, cap, rfl, q1⟩ := r1
  obtain ⟨B, capB, rfl, q2⟩ := r3
  exact ⟨A, cap, B, capB, rfl, ⟨h, hh, A, cap, rfl, q1⟩, ⟨h, hh, B, capB, rfl, q2⟩⟩
set_option maxHeartbeats 4000000 in
theorem SnapTorn_walk (W : World) (v0 : Value) (c1 : List Value) (ahead : List (List UInt8)) (x : CutT) (h0 : Old none' W (Rep.rep ahead [v0])) (h1 : Old none' W (Rep.rep x c1)) :
    Calls Try.prog 7 #[v0, .agg c1.toArray] W fun e w' => e = .returned (.bool true) ∧ Own none' W w' [] := by
  obtain ⟨A, cap, rfl, hc1, hc2, hel⟩ := h0.openX (by decide)
  obtain ⟨B, capB, K, capK, rfl, hb, hk⟩ := cut_open h1
  obtain ⟨b, half, keep⟩ := x
  dsimp only at hb hk h1 ⊢
  obtain ⟨_, _, ks, e9, _, _, HSk, hskl, honek, hrepk, hkel⟩ := hk.openES rfl
  simp only [Value.slice.injEq] at e9
  obtain ⟨rfl, _, rfl⟩ := e9
  obtain ⟨S0, hS0⟩ : ∃ S, S = List.replicate 32 zeroSec := ⟨_, rfl⟩
  have hT0 : TJ S0 0 := by rw [hS0]; exact TJ.zero
  refine hc_enter (vs := [.slice A ahead.length cap, .agg #[.slice B b.length capB, .bool half, .slice K keep.length capK]]) Try.func7 rfl _ Try.ntmps7 rfl (Own.start none' W) ?_
  simp only [argSlots, Nat.zero_add]
  refine hc_seq <| hc_region <| hl_new (on_boxN rfl rfl) rfl rfl rfl fun b3 =>  ?_
  refine hl_v (ov_assign rfl) rfl <| hl_nil <| hx_then_normal <| hc_seq <| hc_quiet mixed (by kernel_rfl) <| hq_v (ov_fieldA rfl) rfl <| ?_
  refine hq_v (ov_load rfl (CellIs.blk rfl)) rfl <| hq_v (ov_fieldA rfl) rfl <| hq_v (ov_load rfl (CellIs.blk rfl)) rfl <| hq_v (ov_fieldA rfl) rfl <| hq_v (ov_load rfl (CellIs.blk rfl)) rfl <| hq_v (ov_assign rfl) rfl <| ?_
  refine hq_v (ov_assign rfl) rfl <| hq_v (ov_assign rfl) rfl <| hq_nil <| hx_then_normal <| hc_seq <| hc_seq <| ?_
  refine hc_region <| hl_v (ov_move rfl) rfl <| hl_v (by first | exact ov_len rfl | exact ov_lenS rfl) rfl <| ?_
  refine hl_v (ov_gtr rfl rfl) rfl <| hl_v (ov_move rfl) rfl <| ?_
  refine hl_part (t := 30) rfl (fun a1 => ?_) (fun a1 => ?_)
  · refine hl_off rfl rfl rfl rfl rfl rfl <| hl_off rfl rfl rfl rfl rfl rfl <| hl_off rfl rfl rfl rfl rfl rfl <| hl_v (ov_pickT rfl rfl) rfl <| hl_v (ov_move rfl) rfl <| hl_off rfl rfl rfl rfl rfl rfl <| ?_
    refine hl_off rfl rfl rfl rfl rfl rfl <| hl_off rfl rfl rfl rfl rfl rfl <| hl_v (ov_pickT rfl rfl) rfl <| hl_nil <| hx_then_normal <| hc_cond_true rfl <| ?_
    refine hc_seq <| hc_region <| ?_
    refine hl_c Try.call13 rfl rfl (fun w1 H1 => Own.calln H1 fun D' hold hin H2 => wakes7_spec D' w1) ?_
    refine hl_v (ov_assign rfl) rfl <| hl_nil <| hx_then_normal <| hc_ret <| hx_then_ret <| ?_
    exact results_1 (.inr rfl) rfl rfl fun w' H' => ⟨rfl, H'.ent (Ent.nil _)⟩
  refine hl_on rfl rfl <| hl_v (ov_move rfl) rfl <| hl_on rfl rfl <| hl_v (by first | exact ov_len rfl | exact ov_lenS rfl) rfl <| ?_
  refine hl_on rfl rfl <| hl_v (ov_gtr rfl rfl) rfl <| hl_v (ov_pickF rfl rfl) rfl <| hl_v (ov_move rfl) rfl <| ?_
  refine hl_part (t := 35) rfl (fun a2 => ?_) (fun a2 => ?_)
  · refine hl_off rfl rfl rfl rfl rfl rfl <| hl_off rfl rfl rfl rfl rfl rfl <| hl_off rfl rfl rfl rfl rfl rfl <| hl_v (ov_pickT rfl rfl) rfl <| hl_nil <| hx_then_normal <| ?_
    refine hc_cond_true rfl <| hc_seq <| hc_region <| ?_
    refine hl_c Try.call13 rfl rfl (fun w1 H1 => Own.calln H1 fun D' hold hin H2 => wakes7_spec D' w1) ?_
    refine hl_v (ov_assign rfl) rfl <| hl_nil <| hx_then_normal <| hc_ret <| hx_then_ret <| ?_
    exact results_1 (.inr rfl) rfl rfl fun w' H' => ⟨rfl, H'.ent (Ent.nil _)⟩
  refine hl_on rfl rfl <| hl_v (ov_move rfl) rfl <| hl_on rfl rfl <| hl_v (by first | exact ov_len rfl | exact ov_lenS rfl) rfl <| ?_
  refine hl_on rfl rfl <| hl_v (ov_gtr rfl rfl) rfl <| hl_v (ov_pickF rfl rfl) rfl <| hl_nil <| hx_then_normal <| ?_
  refine hc_cond rfl (fun a3 => ?_) (fun a3 => ?_)
  · refine hc_seq <| hc_region <| ?_
    refine hl_c Try.call13 rfl rfl (fun w1 H1 => Own.calln H1 fun D' hold hin H2 => wakes7_spec D' w1) ?_
    refine hl_v (ov_assign rfl) rfl <| hl_nil <| hx_then_normal <| hc_ret <| hx_then_ret <| ?_
    exact results_1 (.inr rfl) rfl rfl fun w' H' => ⟨rfl, H'.ent (Ent.nil _)⟩
  refine hc_skip <| hx_then_normal <| hc_seq <| hc_region <| ?_
  refine hl_call (σ := Nat) Try.call14 rfl rfl (fun w1 H1 => Own.callx0 H1 fun D' hold hin H2 => (New_ok D' w1 32 (by decide) (by decide)).mono fun e w' ⟨g, he, H'⟩ => ⟨g, he, show Own D' w1 w' [dsk g S0 []] by rw [hS0]; exact H'⟩) ?_
  intro g
  try rw [List.nil_append]
  refine hl_v (ov_move rfl) rfl <| hl_v (ov_extract rfl rfl) rfl <| hl_v (ov_extract rfl rfl) rfl <| hl_v (ov_assign rfl) rfl <| hl_v (ov_assign rfl) rfl <| hl_nil <| ?_
  refine hx_then_normal <| hc_seq <| hc_region <| ?_
  refine hl_call (σ := Nat) Try.call20 rfl rfl (fun w1 H1 => Own.callx0 H1 fun D' hold hin H2 => (RNew_ok D' w1 32 (by decide) (by decide)).mono fun e w' ⟨g, he, H'⟩ => ⟨g, he, show Own D' w1 w' [rdsk g S0 []] by rw [hS0]; exact H'⟩) ?_
  intro q
  try rw [List.nil_append]
  refine hl_v (ov_move rfl) rfl <| hl_v (ov_extract rfl rfl) rfl <| hl_v (ov_extract rfl rfl) rfl <| hl_v (ov_assign rfl) rfl <| hl_v (ov_assign rfl) rfl <| hl_nil <| ?_
  refine hx_then_normal <| hc_seq <| hc_seq <| hc_region <| hl_v (ov_move rfl) rfl <| hl_v (ov_neq rfl rfl) rfl <| ?_
  refine hl_v (ov_move rfl) rfl <| ?_
  refine hl_partF (t := 51) rfl ((fun h => h rfl)) ?_
  refine hl_on rfl rfl <| hl_v (ov_move rfl) rfl <| hl_on rfl rfl <| hl_v (ov_eqlP rfl rfl) rfl <| hl_v (ov_pickF rfl rfl) rfl <| hl_nil <| hx_then_normal <| ?_
  refine hc_cond_false rfl ?_
  refine hc_skip <| hx_then_normal <| hc_seq <| hc_seq <| hc_region <| hl_v (ov_assign rfl) rfl <| ?_
  refine hl_nil <| hx_then_normal <| hc_block <| ?_
  refine hc_loopK1 (σ := Nat × List Sec) [0, 5, 6, 7, 8, 10] rfl 12 (fun s => .int .i64 (s.1 : Int)) (fun s => [dsk g s.2 [], rdsk q s.2 []]) (fun s => TJ s.2 s.1 ∧ s.1 ≤ ahead.length) (fun s => ahead.length - s.1) ((0, S0)) (⟨hT0, Nat.zero_le _⟩) rfl (by first | assumption | exact Ent.refl _ | exact Ent.nil _ | (repeat (first | exact Ent.refl _ | exact Ent.nil _ | refine Ent.pick ?_))) ?_
  rintro ⟨i, S⟩ hj_ K1 hK1
  dsimp only at hj_ ⊢
  obtain ⟨hT, hi⟩ := hj_
  have hSl := hT.ti.len
  refine hc_seq <| hc_seq <| hc_region <| hl_v (ov_move rfl) rfl <| hl_v (ov_move rfl) rfl <| hl_v (by first | exact ov_len rfl | exact ov_lenS rfl) rfl <| ?_
  refine hl_v (ov_lss rfl rfl) rfl <| hl_nil <| hx_then_normal <| ?_
  refine hc_cond rfl (fun h => ?_) (fun h => ?_)
  · have hlt : i < ahead.length := by omega
    obtain ⟨hA, cs, hxo, hcs⟩ := hel i hlt
    obtain ⟨X, cx, rfl, hxo⟩ := bytes_open hxo
    have hcell : ∀ l', CellIs none' W l' (ab A) (ao A + i * 1) (.slice X ahead[i].length cx) := fun l' => hcs 0 _ rfl l'
    obtain ⟨y, hy⟩ : ∃ y, y = ahead[i] := ⟨_, rfl⟩
    rw [← hy] at hcell hxo
    refine hc_skip <| hx_then_normal <| hc_seq <| hc_block <| hc_seq <| hc_seq <| ?_
    refine hc_region <| hl_v (ov_move rfl) rfl <| hl_v (ov_move rfl) rfl <| ?_
    refine hl_v (ov_idxS rfl hA rfl i rfl hlt) rfl ?_
    refine hl_v (ov_load rfl (hcell _)) rfl ?_
    refine hl_v (by first | exact ov_len rfl | exact ov_lenS rfl) rfl <| ?_
    refine hl_v (ov_gtr rfl rfl) rfl <| hl_nil <| hx_then_normal <| ?_
    refine hc_cond rfl (fun a4 => ?_) (fun a4 => ?_)
    · refine hc_seq <| hc_region <| ?_
      refine hl_c Try.call13 rfl rfl (fun w1 H1 => Own.calln H1 fun D' hold hin H2 => wakes7_spec D' w1) ?_
      refine hl_v (ov_assign rfl) rfl <| hl_nil <| hx_then_normal <| hc_ret <| hx_then_ret <| hx_block_ret <| ?_
      refine hx_then_ret <| hx_then_ret <| hx_block_ret <| hx_then_ret <| ?_
      exact results_1 (.inr rfl) rfl rfl fun w' H' => ⟨rfl, H'.ent (Ent.nil _)⟩
    have hy9 : y.length ≤ 993 := by omega
    obtain ⟨hT2, _⟩ := hT.next (xs := y) (by omega) hy9
    obtain ⟨S', hS'⟩ : ∃ S', S' = saveS S (i + 1) y := ⟨_, rfl⟩
    rw [← hS'] at hT2
    refine hc_skip <| hx_then_normal <| hc_seq <| hc_seq <| hc_region <| hl_v (ov_move rfl) rfl <| ?_
    refine hl_v (ov_move rfl) rfl <| ?_
    refine hl_v (ov_add (m := ((i + 1 : Nat) : Int)) rfl rfl ((wrap_i64 (by omega)).trans (by omega))) rfl ?_
    refine hl_v (ov_conv (m := ((i + 1 : Nat) : Int)) rfl (wrap_u32 (by omega))) rfl ?_
    refine hl_v (ov_move rfl) rfl <| hl_v (ov_move rfl) rfl <| ?_
    refine hl_v (ov_idxS rfl hA rfl i rfl hlt) rfl ?_
    refine hl_v (ov_load rfl (hcell _)) rfl ?_
    refine hl_c Try.call16 rfl rfl (fun w1 H1 => Own.callp (dsk g S []) H1 fun D' hold hin H2 => (Save_ok D' w1 g S (i + 1) _ y (by omega) (by omega) hy9 (hold _ hxo) H2).mono fun e w' ⟨he, H'⟩ => ⟨he, show Own D' w1 w' [dsk g S' []] by rw [hS']; exact H'⟩) ?_
    refine hl_v (ov_neq rfl rfl) rfl <| hl_nil <| hx_then_normal <| ?_
    refine hc_cond_F rfl ((fun h => h rfl)) ?_
    refine hc_skip <| hx_then_normal <| hc_region <| hl_v (ov_move rfl) rfl <| hl_v (ov_move rfl) rfl <| ?_
    refine hl_v (ov_add (m := ((i + 1 : Nat) : Int)) rfl rfl ((wrap_i64 (by omega)).trans (by omega))) rfl ?_
    refine hl_v (ov_conv (m := ((i + 1 : Nat) : Int)) rfl (wrap_u32 (by omega))) rfl ?_
    refine hl_v (ov_move rfl) rfl <| hl_v (ov_move rfl) rfl <| ?_
    refine hl_v (ov_idxS rfl hA rfl i rfl hlt) rfl ?_
    refine hl_v (ov_load rfl (hcell _)) rfl ?_
    refine hl_c Try.call21 rfl rfl (fun w1 H1 => Own.callp (rdsk q S []) H1 fun D' hold hin H2 => (RSave_ok D' w1 q S (i + 1) _ y (by omega) (by omega) (by omega) hy9 (hold _ hxo) H2).mono fun e w' ⟨he, H'⟩ => ⟨he, show Own D' w1 w' [rdsk q S' []] by rw [hS']; exact H'⟩) ?_
    refine hl_nil <| hx_block_normal <| hx_then_normal <| hc_region <| hl_v (ov_move rfl) rfl <| hl_v (ov_add rfl rfl (by first | exact wrap_i64 (by omega) | rfl)) rfl <| ?_
    refine hl_v (ov_assign rfl) rfl <| hl_nil <| ?_
    refine hx_next hK1 ((i + 1, S')) (⟨hT2, hlt⟩) (by omega) (by repeat (first | exact Slots.sub_nil _ | refine Slots.sub_cons rfl ?_)) (by first | assumption | exact Ent.refl _ | exact Ent.nil _ | (repeat (first | exact Ent.refl _ | exact Ent.nil _ | refine Ent.pick ?_)))
  have hin : i = ahead.length := by omega
  have hb8 : b.length ≤ 993 := by omega
  have hm := Nat.mod_lt i (show 0 < 2 by decide)
  obtain ⟨la, lx, le, hLd⟩ : ∃ a xs er, loadE S = (a, xs, er) := ⟨_, _, _, rfl⟩
  obtain ⟨L, hL⟩ : ∃ L, L = encE (snE (i + 1) b) := ⟨_, rfl⟩
  obtain ⟨n, hn⟩ : ∃ n, n = L.length := ⟨_, rfl⟩
  have hel16 := encE_sn (a := i + 1) hb8
  rw [← hL, ← hn] at hel16
  obtain ⟨at_, hate⟩ : ∃ x, x = 16 * (i % 2) := ⟨_, rfl⟩
  have hat : atS S = at_ := by rw [hT.ti.at_, hate]
  obtain ⟨x0, r, hLr⟩ : ∃ x r, L = x :: r := by
    cases L with
    | nil => simp at hn; omega
    | cons x r => exact ⟨x, r, rfl⟩
  have hrl : r.length = n - 1 := by rw [hn, hLr, List.length_cons]; omega
  have hl0 : 0 < L.length := by omega
  have hL0 : L[0] = x0 := by simp only [hLr, List.getElem_cons_zero]
  rw [← hin]
  refine hc_exit <| hx_then_exit <| hx_then_exit <| hx_block_out <| hx_then_normal <| hc_seq <| ?_
  refine hc_region <| hl_v (ov_move rfl) rfl <| ?_
  refine hl_call (σ := Option Addr × Nat) Try.call15 rfl rfl (fun w1 H1 => Own.callpx (dsk g S []) H1 fun D' hold hin H2 => Load_is D' w1 g S la lx le hLd (by omega) H2) ?_
  intro q1
  refine hl_v (ov_move rfl) rfl <| hl_v (ov_extract rfl rfl) rfl <| hl_v (ov_extract rfl rfl) rfl <| hl_v (ov_extract rfl rfl) rfl <| hl_v (ov_assign rfl) rfl <| hl_v (ov_assign rfl) rfl <| ?_
  refine hl_v (ov_assign rfl) rfl <| hl_nil <| hx_then_normal <| hc_seq <| hc_region <| hl_v (ov_move rfl) rfl <| ?_
  refine hl_v (ov_move rfl) rfl <| hl_v (by first | exact ov_len rfl | exact ov_lenS rfl) rfl <| ?_
  refine hl_v (ov_add (m := ((i + 1 : Nat) : Int)) rfl rfl ((wrap_i64 (by omega)).trans (by omega))) rfl ?_
  refine hl_v (ov_conv (m := ((i + 1 : Nat) : Int)) rfl (wrap_u32 (by omega))) rfl ?_
  refine hl_v (ov_move rfl) rfl <| ?_
  refine hl_call (σ := Option Addr × Nat) Try.call28 rfl rfl (fun w1 H1 => Own.callpx (rdsk q S []) H1 fun D' hold hin H2 => (RPlan_ok D' w1 q S (i + 1) _ b L n hL hn (by omega) (by omega) hb8 (hold _ hb) H2)) ?_
  intro qe
  rw [hat]
  refine HL.fact (fun w H => Own.factR qe.1 H) ?_
  rintro ⟨_, _, _, hAe'⟩
  have hAe : isA qe.1 := hAe' (by intro h; have := congrArg List.length h; rw [flat_len secC_len] at this; simp only [List.length_nil] at this; omega)
  refine hl_new (on_alloc) rfl rfl rfl fun b16 =>  ?_
  refine hl_u0 (on_storeW (vs := wrsC n at_ qe) rfl rfl (by simp) (by simp) (by simp [Value.oneCell'])) rfl rfl ?_
  refine hl_nil <| hx_then_normal <| hc_seq <| hc_seq <| hc_region <| hl_v (ov_fieldA rfl) rfl <| ?_
  refine hl_v (ov_load rfl (CellIs.blk rfl)) rfl <| hl_v (ov_neq rfl rfl) rfl <| hl_nil <| hx_then_normal <| ?_
  refine hc_cond_F rfl ((fun h => h rfl)) ?_
  refine hc_skip <| hx_then_normal <| hc_seq <| hc_seq <| hc_region <| hl_v (ov_assign rfl) rfl <| ?_
  refine hl_nil <| hx_then_normal <| hc_block <| ?_
  refine hc_loopK1 (σ := Nat) [0, 5, 6, 7, 8, 13, 14, 15, 16] rfl 17 (fun j => .int .i64 ((j + 1 : Nat) : Int)) (fun j => [dsk g S (PW (at_ + 1) r j), row qe.1 34 64 n qe.2 (L.flatMap secC), blk b16 65 (wrsC n at_ qe), row q1.1 5 1 lx.length q1.2 (lx.map u8v)]) (fun j => j ≤ r.length) (fun j => r.length - j) (0) (Nat.zero_le _) rfl (Ent.trans (b := [dsk g S [], row qe.1 34 64 n qe.2 (L.flatMap secC), blk b16 65 (wrsC n at_ qe), row q1.1 5 1 lx.length q1.2 (lx.map u8v)]) (by first | assumption | exact Ent.refl _ | exact Ent.nil _ | exact Ent.row_any (Ent.refl _) | (repeat (first | exact Ent.refl _ | exact Ent.nil _ | refine Ent.pick ?_))) (Ent.refl _)) ?_
  rintro j hj K2 hK2
  try dsimp only [List.getElem_toArray, List.getElem_cons_zero, List.getElem_cons_succ]
  refine hc_seq <| hc_seq <| hc_region <| hl_v (ov_move rfl) rfl <| hl_v (ov_fieldA rfl) rfl <| hl_v (ov_load rfl (CellIs.blk rfl)) rfl <| ?_
  refine hl_v (by first | exact ov_len rfl | exact ov_lenS rfl) rfl <| ?_
  refine hl_v (ov_lss rfl rfl) rfl <| hl_nil <| hx_then_normal <| ?_
  refine hc_cond rfl (fun hjl => ?_) (fun hjl => ?_)
  · have hjr : j < r.length := by omega
    have hjL : j + 1 < L.length := by omega
    have hLj : L[j + 1] = r[j] := by simp only [hLr, List.getElem_cons_succ]
    refine hc_skip <| hx_then_normal <| hc_seq <| hc_block <| ?_
    refine hc_tail 10 mixed (by kernel_rfl) ?_
    refine ht_v (ov_move rfl) rfl <| ht_v (ov_fieldA rfl) rfl <| ht_v (ov_load rfl (CellIs.blk rfl)) rfl <| ht_v (ov_move rfl) rfl <| ?_
    refine ht_v (ov_add (m := ((at_ + 1 + j : Nat) : Int)) rfl rfl ((wrap_i64 (by omega)).trans (by omega))) rfl ?_
    refine ht_v (ov_fieldA rfl) rfl <| ht_v (ov_load rfl (CellIs.blk rfl)) rfl <| ht_v (ov_move rfl) rfl <| ?_
    refine ht_v (ov_idxS rfl hAe rfl (j + 1) rfl (by omega)) rfl ?_
    refine ht_v (ov_loadG (cs := secC r[j]) rfl (secC_len _) (by rw [← hLj]; exact CellsAre.flat (f := secC) (A := qe.1) secC_len hAe (i := j + 1) hjL)) rfl ?_
    refine ht_nil <| ?_
    refine hl_c Try.call23 rfl rfl (fun w1 H1 => Own.callp (dsk g S (PW (at_ + 1) r j)) H1 fun D' hold hin H2 => Write_ok D' w1 g (at_ + 1 + j) r[j] S (PW (at_ + 1) r j) (by omega) (by have := PW_len (at_ := at_ + 1) (l := r) (i := j); omega) H2) ?_
    rw [← PW_succ hjr]
    refine hl_nil <| hx_block_normal <| hx_then_normal <| hc_region <| hl_v (ov_move rfl) rfl <| ?_
    refine hl_v (ov_add (m := ((j + 1 + 1 : Nat) : Int)) rfl rfl ((wrap_i64 (by omega)).trans (by omega))) rfl ?_
    refine hl_v (ov_assign rfl) rfl <| hl_nil <| ?_
    refine hx_next hK2 (j + 1) (hjr) (by omega) (by repeat (first | exact Slots.sub_nil _ | refine Slots.sub_cons rfl ?_)) (by first | assumption | exact Ent.refl _ | exact Ent.nil _ | (repeat (first | exact Ent.refl _ | exact Ent.nil _ | refine Ent.pick ?_)))
  have hje : j = r.length := by omega
  rw [hje]
  cases half
  · refine hc_exit <| hx_then_exit <| hx_then_exit <| hx_block_out <| hx_then_normal <| hc_seq <| ?_
    refine hc_seq <| hc_region <| hl_v (ov_move rfl) rfl <| hl_nil <| hx_then_normal <| ?_
    refine hc_cond_false rfl ?_
    obtain ⟨T, hTe⟩ : ∃ T, T = S := ⟨_, rfl⟩
    obtain ⟨P, hPe⟩ : ∃ P, P = PW (at_ + 1) r r.length := ⟨_, rfl⟩
    have hTl : T.length = 32 := by rw [hTe]; exact hSl
    have hTP : ∀ p ∈ P, p.1 < T.length := by rw [hPe]; exact PW_lt (by omega)
    have hsame : loadE (settleL (fun k => keep.getD k false) 0 T P) = loadE S := by rw [hTe, hPe, hate]; exact torn_none hT (by omega) _
    rw [← hTe, ← hPe]
    rw [← hTe] at hsame hLd
    refine hc_skip <| hx_then_normal <| hc_seq <| hc_region <| hl_v (ov_move rfl) rfl <| ?_
    refine hl_new (on_buildSliceN rfl rfl rfl) rfl rfl rfl (fun b134 => ?_)
    refine HL.ent (Ent.blk_row (b := b134) 1 0 rfl (by decide)) ?_
    refine hl_v (ov_move rfl) rfl <| ?_
    refine hl_new (on_appendR (A := some ⟨b134, 0, none⟩) (news := ks) rfl rfl (SrcIs.old HSk) (by omega) honek (by decide) (by omega)) rfl rfl rfl ?_
    rintro ⟨C, capC⟩
    dsimp only
    simp only [Nat.zero_add, List.nil_append]
    refine hl_c Try.call27 rfl rfl (fun w1 H1 => Own.callp (dsk g T P) H1 fun D' hold hin H2 => Crash_spec D' w1 g T P _ keep hTP (hin _ fun h hs' ho => rep_row (A := C) hs' keep rfl (repL_of_old ho hrepk)) H2) ?_
    have hcl : (settleL (fun k => keep.getD k false) 0 T P).length = 32 := by rw [settleL_len]; exact hTl
    refine hl_nil <| hx_then_normal <| hc_seq <| hc_region <| hl_v (ov_move rfl) rfl <| ?_
    refine hl_call (σ := Option Addr × Nat) Try.call15 rfl rfl (fun w1 H1 => Own.callpx (dsk g (settleL (fun k => keep.getD k false) 0 T P) []) H1 fun D' hold hin H2 => Load_is D' w1 g _ la lx le (hsame.trans hLd) (by omega) H2) ?_
    intro q2
    refine hl_v (ov_move rfl) rfl <| hl_v (ov_extract rfl rfl) rfl <| hl_v (ov_extract rfl rfl) rfl <| hl_v (ov_extract rfl rfl) rfl <| hl_v (ov_assign rfl) rfl <| hl_v (ov_assign rfl) rfl <| ?_
    refine hl_v (ov_assign rfl) rfl <| hl_nil <| hx_then_normal <| hc_seq <| hc_seq <| hc_region <| ?_
    refine hl_v (ov_move rfl) rfl <| hl_v (ov_move rfl) rfl <| ?_
    refine hl_off rfl rfl rfl rfl rfl rfl <| hl_off rfl rfl rfl rfl rfl rfl <| hl_off rfl rfl rfl rfl rfl rfl <| hl_v (ov_pickF rfl rfl) rfl <| hl_v (ov_move rfl) rfl <| hl_off rfl rfl rfl rfl rfl rfl <| ?_
    refine hl_off rfl rfl rfl rfl rfl rfl <| hl_off rfl rfl rfl rfl rfl rfl <| hl_v (ov_pickF rfl rfl) rfl <| hl_nil <| hx_then_normal <| hc_cond_false rfl <| ?_
    refine hc_skip <| hx_then_normal <| hc_seq <| hc_region <| hl_v (ov_move rfl) rfl <| hl_v (ov_move rfl) rfl <| ?_
    refine hl_v (ov_eql rfl rfl) rfl <| hl_v (ov_move rfl) rfl <| ?_
    refine hl_partT (t := 176) rfl (rfl) ?_
    refine hl_on rfl rfl <| hl_v (ov_move rfl) rfl <| hl_on rfl rfl <| hl_v (ov_move rfl) rfl <| hl_on rfl rfl <| hl_v (ov_eql rfl rfl) rfl <| hl_v (ov_pickT rfl rfl) rfl <| hl_v (ov_move rfl) rfl <| ?_
    refine hl_partT (t := 181) rfl (rfl) ?_
    refine hl_on rfl rfl <| hl_v (ov_move rfl) rfl <| hl_on rfl rfl <| hl_v (ov_move rfl) rfl <| ?_
    refine hl_on rfl rfl <| hl_c Try.call18 rfl rfl (fun w1 H1 => Own.calln H1 fun D' hold hin H2 => Bytes_spec D' w1 _ _ lx lx (hin _ fun h hs ho => rep_row (A := q2.1) hs lx rfl (repL_bytes.2 rfl)) (hin _ fun h hs ho => rep_row (A := q1.1) hs lx rfl (repL_bytes.2 rfl))) ?_
    rw [decide_eq_true (rfl : lx = lx)]
    refine hl_v (ov_pickT rfl rfl) rfl <| hl_v (ov_move rfl) rfl <| ?_
    refine hl_on rfl rfl <| hl_c Try.call13 rfl rfl (fun w1 H1 => Own.calln H1 fun D' hold hin H2 => wakes7_spec D' w1) ?_
    refine hl_v (ov_pickT rfl rfl) rfl <| hl_v (ov_assign rfl) rfl <| hl_nil <| hx_then_normal <| hc_ret <| ?_
    exact results_1 (.inr rfl) rfl rfl fun w' H' => ⟨rfl, H'.ent (Ent.nil _)⟩
  refine hc_exit <| hx_then_exit <| hx_then_exit <| hx_block_out <| hx_then_normal <| hc_seq <| ?_
  refine hc_seq <| hc_region <| hl_v (ov_move rfl) rfl <| hl_nil <| hx_then_normal <| ?_
  refine hc_cond_true rfl ?_
  have hpl2 : (putS S (at_ + 1) r).length = S.length := putS_len (by omega)
  refine hc_seq <| hc_region <| hl_v (ov_move rfl) rfl <| ?_
  refine hl_c Try.call24 rfl rfl (fun w1 H1 => Own.callp (dsk g S (PW (at_ + 1) r r.length)) H1 fun D' hold hin H2 => (Flush_spec D' w1 g S (PW (at_ + 1) r r.length) (PW_lt (by omega)) H2)) ?_
  rw [PW_done (by omega)]
  refine hl_nil <| hx_then_normal <| ?_
  refine hc_tail 7 mixed (by kernel_rfl) ?_
  refine ht_v (ov_move rfl) rfl <| ht_v (ov_fieldA rfl) rfl <| ht_v (ov_load rfl (CellIs.blk rfl)) rfl <| ht_v (ov_fieldA rfl) rfl <| ht_v (ov_load rfl (CellIs.blk rfl)) rfl <| ?_
  refine ht_v (ov_idxSc rfl hAe rfl rfl (by omega)) rfl ?_
  refine ht_v (ov_loadG (cs := secC x0) rfl (secC_len _) (by rw [← hL0]; exact CellsAre.flat (f := secC) (A := qe.1) secC_len hAe (i := 0) hl0)) rfl ?_
  refine ht_nil <| ?_
  refine hl_c Try.call23 rfl rfl (fun w1 H1 => Own.callp (dsk g (putS S (at_ + 1) r) []) H1 fun D' hold hin H2 => Write_ok D' w1 g at_ x0 (putS S (at_ + 1) r) [] (by omega) (by decide) H2) ?_
  obtain ⟨T, hTe⟩ : ∃ T, T = putS S (at_ + 1) r := ⟨_, rfl⟩
  obtain ⟨P, hPe⟩ : ∃ P : List (Nat × Sec), P = [] ++ [(at_, x0)] := ⟨_, rfl⟩
  have hTl : T.length = 32 := by rw [hTe, hpl2]; exact hSl
  have hTP : ∀ p ∈ P, p.1 < T.length := by rw [hPe]; intro p hp; obtain rfl := List.mem_singleton.1 hp; show at_ < _; omega
  rw [← hTe, ← hPe]
  rcases hkk : keep with _ | ⟨k0, kr⟩
  · rw [← hkk]
    have hsame : loadE (settleL (fun k => keep.getD k false) 0 T P) = loadE S := by
      rw [hkk, hTe, hPe, hate]; exact torn_half hT (by omega)
    refine hl_nil <| hx_then_normal <| hc_seq <| hc_region <| hl_v (ov_move rfl) rfl <| ?_
    refine hl_new (on_buildSliceN rfl rfl rfl) rfl rfl rfl (fun b134 => ?_)
    refine HL.ent (Ent.blk_row (b := b134) 1 0 rfl (by decide)) ?_
    refine hl_v (ov_move rfl) rfl <| ?_
    refine hl_new (on_appendR (A := some ⟨b134, 0, none⟩) (news := ks) rfl rfl (SrcIs.old HSk) (by omega) honek (by decide) (by omega)) rfl rfl rfl ?_
    rintro ⟨C, capC⟩
    dsimp only
    simp only [Nat.zero_add, List.nil_append]
    refine hl_c Try.call27 rfl rfl (fun w1 H1 => Own.callp (dsk g T P) H1 fun D' hold hin H2 => Crash_spec D' w1 g T P _ keep hTP (hin _ fun h hs' ho => rep_row (A := C) hs' keep rfl (repL_of_old ho hrepk)) H2) ?_
    have hcl : (settleL (fun k => keep.getD k false) 0 T P).length = 32 := by rw [settleL_len]; exact hTl
    refine hl_nil <| hx_then_normal <| hc_seq <| hc_region <| hl_v (ov_move rfl) rfl <| ?_
    refine hl_call (σ := Option Addr × Nat) Try.call15 rfl rfl (fun w1 H1 => Own.callpx (dsk g (settleL (fun k => keep.getD k false) 0 T P) []) H1 fun D' hold hin H2 => Load_is D' w1 g _ la lx le (hsame.trans hLd) (by omega) H2) ?_
    intro q2
    refine hl_v (ov_move rfl) rfl <| hl_v (ov_extract rfl rfl) rfl <| hl_v (ov_extract rfl rfl) rfl <| hl_v (ov_extract rfl rfl) rfl <| hl_v (ov_assign rfl) rfl <| hl_v (ov_assign rfl) rfl <| ?_
    refine hl_v (ov_assign rfl) rfl <| hl_nil <| hx_then_normal <| hc_seq <| hc_seq <| hc_region <| ?_
    refine hl_v (ov_move rfl) rfl <| hl_v (ov_move rfl) rfl <| ?_
    refine hl_on rfl rfl <| hl_v (ov_move rfl) rfl <| hl_on rfl rfl <| hl_v (by first | exact ov_len rfl | exact ov_lenS rfl) rfl <| ?_
    refine hl_on rfl rfl <| hl_v (ov_gtr rfl rfl) rfl <| hl_v (ov_pickT rfl rfl) rfl <| hl_v (ov_move rfl) rfl <| ?_
    refine hl_partF (t := 150) rfl ((by rw [hkk]; decide)) ?_
    refine hl_off rfl rfl rfl rfl rfl rfl <| hl_off rfl rfl rfl rfl rfl rfl <| hl_off rfl rfl rfl rfl rfl rfl <| hl_v (ov_pickF rfl rfl) rfl <| hl_nil <| hx_then_normal <| ?_
    refine hc_cond_false rfl <| hc_skip <| hx_then_normal <| hc_seq <| hc_region <| hl_v (ov_move rfl) rfl <| ?_
    refine hl_v (ov_move rfl) rfl <| hl_v (ov_eql rfl rfl) rfl <| hl_v (ov_move rfl) rfl <| ?_
    refine hl_partT (t := 176) rfl (rfl) ?_
    refine hl_on rfl rfl <| hl_v (ov_move rfl) rfl <| hl_on rfl rfl <| hl_v (ov_move rfl) rfl <| hl_on rfl rfl <| hl_v (ov_eql rfl rfl) rfl <| hl_v (ov_pickT rfl rfl) rfl <| hl_v (ov_move rfl) rfl <| ?_
    refine hl_partT (t := 181) rfl (rfl) ?_
    refine hl_on rfl rfl <| hl_v (ov_move rfl) rfl <| hl_on rfl rfl <| hl_v (ov_move rfl) rfl <| ?_
    refine hl_on rfl rfl <| hl_c Try.call18 rfl rfl (fun w1 H1 => Own.calln H1 fun D' hold hin H2 => Bytes_spec D' w1 _ _ lx lx (hin _ fun h hs ho => rep_row (A := q2.1) hs lx rfl (repL_bytes.2 rfl)) (hin _ fun h hs ho => rep_row (A := q1.1) hs lx rfl (repL_bytes.2 rfl))) ?_
    rw [decide_eq_true (rfl : lx = lx)]
    refine hl_v (ov_pickT rfl rfl) rfl <| hl_v (ov_move rfl) rfl <| ?_
    refine hl_on rfl rfl <| hl_c Try.call13 rfl rfl (fun w1 H1 => Own.calln H1 fun D' hold hin H2 => wakes7_spec D' w1) ?_
    refine hl_v (ov_pickT rfl rfl) rfl <| hl_v (ov_assign rfl) rfl <| hl_nil <| hx_then_normal <| hc_ret <| ?_
    exact results_1 (.inr rfl) rfl rfl fun w' H' => ⟨rfl, H'.ent (Ent.nil _)⟩
  rw [← hkk]
  have hkl : 0 < keep.length := by rw [hkk]; simp
  obtain ⟨hAK, u, hu, hcl0⟩ := hkel 0 hkl
  have hu := hu.pure
  simp only [List.cons.injEq, and_true] at hu
  subst hu
  have hk0 : keep[0] = k0 := by simp only [hkk, List.getElem_cons_zero]
  rw [hk0] at hcl0
  cases k0
  · have hsame : loadE (settleL (fun k => keep.getD k false) 0 T P) = loadE S := by
      rw [hkk, hTe, hPe, hate]; exact torn_half hT (by omega)
    refine hl_nil <| hx_then_normal <| hc_seq <| hc_region <| hl_v (ov_move rfl) rfl <| ?_
    refine hl_new (on_buildSliceN rfl rfl rfl) rfl rfl rfl (fun b134 => ?_)
    refine HL.ent (Ent.blk_row (b := b134) 1 0 rfl (by decide)) ?_
    refine hl_v (ov_move rfl) rfl <| ?_
    refine hl_new (on_appendR (A := some ⟨b134, 0, none⟩) (news := ks) rfl rfl (SrcIs.old HSk) (by omega) honek (by decide) (by omega)) rfl rfl rfl ?_
    rintro ⟨C, capC⟩
    dsimp only
    simp only [Nat.zero_add, List.nil_append]
    refine hl_c Try.call27 rfl rfl (fun w1 H1 => Own.callp (dsk g T P) H1 fun D' hold hin H2 => Crash_spec D' w1 g T P _ keep hTP (hin _ fun h hs' ho => rep_row (A := C) hs' keep rfl (repL_of_old ho hrepk)) H2) ?_
    have hcl : (settleL (fun k => keep.getD k false) 0 T P).length = 32 := by rw [settleL_len]; exact hTl
    refine hl_nil <| hx_then_normal <| hc_seq <| hc_region <| hl_v (ov_move rfl) rfl <| ?_
    refine hl_call (σ := Option Addr × Nat) Try.call15 rfl rfl (fun w1 H1 => Own.callpx (dsk g (settleL (fun k => keep.getD k false) 0 T P) []) H1 fun D' hold hin H2 => Load_is D' w1 g _ la lx le (hsame.trans hLd) (by omega) H2) ?_
    intro q2
    refine hl_v (ov_move rfl) rfl <| hl_v (ov_extract rfl rfl) rfl <| hl_v (ov_extract rfl rfl) rfl <| hl_v (ov_extract rfl rfl) rfl <| hl_v (ov_assign rfl) rfl <| hl_v (ov_assign rfl) rfl <| ?_
    refine hl_v (ov_assign rfl) rfl <| hl_nil <| hx_then_normal <| hc_seq <| hc_seq <| hc_region <| ?_
    refine hl_v (ov_move rfl) rfl <| hl_v (ov_move rfl) rfl <| ?_
    refine hl_on rfl rfl <| hl_v (ov_move rfl) rfl <| hl_on rfl rfl <| hl_v (by first | exact ov_len rfl | exact ov_lenS rfl) rfl <| ?_
    refine hl_on rfl rfl <| hl_v (ov_gtr rfl rfl) rfl <| hl_v (ov_pickT rfl rfl) rfl <| hl_v (ov_move rfl) rfl <| ?_
    refine hl_partT (t := 150) rfl ((by omega)) ?_
    refine hl_on rfl rfl <| hl_v (ov_move rfl) rfl <| ?_
    refine hl_on rfl rfl <| hl_v (ov_idxSc rfl hAK rfl rfl (by omega)) rfl ?_
    refine hl_on rfl rfl <| hl_v (ov_load rfl (hcl0 _)) rfl ?_
    refine hl_v (ov_pickT rfl rfl) rfl <| hl_nil <| hx_then_normal <| ?_
    refine hc_cond_false rfl ?_
    refine hc_skip <| hx_then_normal <| hc_seq <| hc_region <| hl_v (ov_move rfl) rfl <| hl_v (ov_move rfl) rfl <| ?_
    refine hl_v (ov_eql rfl rfl) rfl <| hl_v (ov_move rfl) rfl <| ?_
    refine hl_partT (t := 176) rfl (rfl) ?_
    refine hl_on rfl rfl <| hl_v (ov_move rfl) rfl <| hl_on rfl rfl <| hl_v (ov_move rfl) rfl <| hl_on rfl rfl <| hl_v (ov_eql rfl rfl) rfl <| hl_v (ov_pickT rfl rfl) rfl <| hl_v (ov_move rfl) rfl <| ?_
    refine hl_partT (t := 181) rfl (rfl) ?_
    refine hl_on rfl rfl <| hl_v (ov_move rfl) rfl <| hl_on rfl rfl <| hl_v (ov_move rfl) rfl <| ?_
    refine hl_on rfl rfl <| hl_c Try.call18 rfl rfl (fun w1 H1 => Own.calln H1 fun D' hold hin H2 => Bytes_spec D' w1 _ _ lx lx (hin _ fun h hs ho => rep_row (A := q2.1) hs lx rfl (repL_bytes.2 rfl)) (hin _ fun h hs ho => rep_row (A := q1.1) hs lx rfl (repL_bytes.2 rfl))) ?_
    rw [decide_eq_true (rfl : lx = lx)]
    refine hl_v (ov_pickT rfl rfl) rfl <| hl_v (ov_move rfl) rfl <| ?_
    refine hl_on rfl rfl <| hl_c Try.call13 rfl rfl (fun w1 H1 => Own.calln H1 fun D' hold hin H2 => wakes7_spec D' w1) ?_
    refine hl_v (ov_pickT rfl rfl) rfl <| hl_v (ov_assign rfl) rfl <| hl_nil <| hx_then_normal <| hc_ret <| ?_
    exact results_1 (.inr rfl) rfl rfl fun w' H' => ⟨rfl, H'.ent (Ent.nil _)⟩
  have hnew : loadE (settleL (fun k => keep.getD k false) 0 T P) = (i + 1, b, 0) := by
    have := (hT.next (xs := b) (by omega) hb8).2
    rw [← this]
    have e1 : saveS S (i + 1) b = putS S at_ L := by unfold saveS; rw [hL, hat]
    rw [e1, hkk, hTe, hPe, hLr, ← put_first (by rw [← hLr]; omega)]; rfl
  refine hl_nil <| hx_then_normal <| hc_seq <| hc_region <| hl_v (ov_move rfl) rfl <| ?_
  refine hl_new (on_buildSliceN rfl rfl rfl) rfl rfl rfl (fun b134 => ?_)
  refine HL.ent (Ent.blk_row (b := b134) 1 0 rfl (by decide)) ?_
  refine hl_v (ov_move rfl) rfl <| ?_
  refine hl_new (on_appendR (A := some ⟨b134, 0, none⟩) (news := ks) rfl rfl (SrcIs.old HSk) (by omega) honek (by decide) (by omega)) rfl rfl rfl ?_
  rintro ⟨C, capC⟩
  dsimp only
  simp only [Nat.zero_add, List.nil_append]
  refine hl_c Try.call27 rfl rfl (fun w1 H1 => Own.callp (dsk g T P) H1 fun D' hold hin H2 => Crash_spec D' w1 g T P _ keep hTP (hin _ fun h hs' ho => rep_row (A := C) hs' keep rfl (repL_of_old ho hrepk)) H2) ?_
  have hcl : (settleL (fun k => keep.getD k false) 0 T P).length = 32 := by rw [settleL_len]; exact hTl
  refine hl_nil <| hx_then_normal <| hc_seq <| hc_region <| hl_v (ov_move rfl) rfl <| ?_
  refine hl_call (σ := Option Addr × Nat) Try.call15 rfl rfl (fun w1 H1 => Own.callpx (dsk g (settleL (fun k => keep.getD k false) 0 T P) []) H1 fun D' hold hin H2 => Load_is D' w1 g _ (i + 1) b 0 hnew (by omega) H2) ?_
  intro q2
  refine hl_v (ov_move rfl) rfl <| hl_v (ov_extract rfl rfl) rfl <| hl_v (ov_extract rfl rfl) rfl <| hl_v (ov_extract rfl rfl) rfl <| hl_v (ov_assign rfl) rfl <| hl_v (ov_assign rfl) rfl <| ?_
  refine hl_v (ov_assign rfl) rfl <| hl_nil <| hx_then_normal <| hc_seq <| hc_seq <| hc_region <| ?_
  refine hl_v (ov_move rfl) rfl <| hl_v (ov_move rfl) rfl <| ?_
  refine hl_on rfl rfl <| hl_v (ov_move rfl) rfl <| hl_on rfl rfl <| hl_v (by first | exact ov_len rfl | exact ov_lenS rfl) rfl <| ?_
  refine hl_on rfl rfl <| hl_v (ov_gtr rfl rfl) rfl <| hl_v (ov_pickT rfl rfl) rfl <| hl_v (ov_move rfl) rfl <| ?_
  refine hl_partT (t := 150) rfl ((by omega)) ?_
  refine hl_on rfl rfl <| hl_v (ov_move rfl) rfl <| ?_
  refine hl_on rfl rfl <| hl_v (ov_idxSc rfl hAK rfl rfl (by omega)) rfl ?_
  refine hl_on rfl rfl <| hl_v (ov_load rfl (hcl0 _)) rfl ?_
  refine hl_v (ov_pickT rfl rfl) rfl <| hl_nil <| hx_then_normal <| ?_
  refine hc_cond_true rfl ?_
  refine hc_seq <| hc_region <| hl_v (ov_move rfl) rfl <| hl_v (ov_eql rfl rfl) rfl <| hl_v (ov_move rfl) rfl <| ?_
  refine hl_partT (t := 157) rfl (rfl) ?_
  refine hl_on rfl rfl <| hl_v (ov_move rfl) rfl <| hl_on rfl rfl <| hl_v (ov_move rfl) rfl <| hl_on rfl rfl <| hl_v (by first | exact ov_len rfl | exact ov_lenS rfl) rfl <| ?_
  refine hl_on rfl rfl <| hl_v (ov_add (m := ((i + 1 : Nat) : Int)) rfl rfl ((wrap_i64 (by omega)).trans (by omega))) rfl ?_
  refine hl_on rfl rfl <| hl_v (ov_conv (m := ((i + 1 : Nat) : Int)) rfl (wrap_u32 (by omega))) rfl ?_
  refine hl_on rfl rfl <| hl_v (ov_eql rfl rfl) rfl <| hl_v (ov_pickT rfl rfl) rfl <| hl_v (ov_move rfl) rfl <| ?_
  refine hl_partT (t := 165) rfl (rfl) ?_
  refine hl_on rfl rfl <| hl_v (ov_move rfl) rfl <| hl_on rfl rfl <| hl_v (ov_move rfl) rfl <| ?_
  refine hl_on rfl rfl <| hl_c Try.call18 rfl rfl (fun w1 H1 => Own.calln H1 fun D' hold hin H2 => Bytes_spec D' w1 _ _ b b (hin _ fun h hs ho => rep_row (A := q2.1) hs b rfl (repL_bytes.2 rfl)) (hold _ hb)) ?_
  rw [decide_eq_true (rfl : b = b)]
  refine hl_v (ov_pickT rfl rfl) rfl <| hl_v (ov_move rfl) rfl <| ?_
  refine hl_on rfl rfl <| hl_c Try.call13 rfl rfl (fun w1 H1 => Own.calln H1 fun D' hold hin H2 => wakes7_spec D' w1) ?_
  refine hl_v (ov_pickT rfl rfl) rfl <| hl_v (ov_assign rfl) rfl <| hl_nil <| hx_then_normal <| hc_ret <| hx_then_ret <| ?_
  exact results_1 (.inr rfl) rfl rfl fun w' H' => ⟨rfl, H'.ent (Ent.nil _)⟩
end Go.Proofs.Ytijaldfiaeafgaa
