import Derived.Test.YtdjpocnijfhcgaaWir8
import Derived.Test.YtdjpocnijfhcgaaSlkQ
set_option linter.unusedVariables false
set_option linter.unusedSimpArgs false
namespace Go.Proofs.Ytdjpocnijfhcgaa
open Slk
theorem rowsB_one {D : Nat → Prop} {w0 w : World} {l r : List HProp} {t : TypeId} {xs : List (List UInt8)} {cs : List Value} [h : Pick l (rowsB t xs cs) r] (H : Own D w0 w l) : ∀ v ∈ cs, v.oneCell' = true := by
  obtain ⟨x, _, hs⟩ := H.own
  exact repL_one (stars_rowsB (t := t) (xs := xs) hs)
theorem RTake_nil (D : Nat → Prop) (w : World) (g k : Nat) (hk : k < 2) (lo : List (List UInt8)) (H : Own D w w [rwir k g [] lo]) :
    Calls Try.prog 27 #[.pointer (some ⟨g, 0, none⟩), .int .i64 k] w fun e w' => e = .returned (.tuple #[.slice none 0 0, .bool false]) ∧ Own D w w' [rwir k g [] lo] := by
  refine hc_enter (vs := [.pointer (some ⟨g, 0, none⟩), .int .i64 k]) Try.func27 rfl _ Try.ntmps27 rfl H ?_
  simp only [argSlots, Nat.zero_add]
  refine HC.exs ?_
  rintro ⟨⟨A0, cap0, cs0⟩, A1, cap1, cs1⟩
  refine HC.ent (l' := [blk g 55 (pr k (.slice A0 0 cap0) (.slice A1 lo.length cap1)), row A0 26 1 0 cap0 cs0, rowsB 5 [] cs0, row A1 26 1 lo.length cap1 cs1, rowsB 5 lo cs1]) (fun _ h => h) ?_
  refine hc_seq <|
    hc_region <|
    hl_val (ov_assign rfl) rfl rfl rfl <|
    hl_val (ov_assign rfl) rfl rfl rfl <|
    hl_nil <|
    hx_then_normal <| ?_
  refine hc_seq <|
    hc_seq <|
    hc_region <|
    hl_val (ov_move rfl) rfl rfl rfl <|
    hl_val (ov_lss rfl rfl) rfl rfl rfl <|
    hl_val (ov_move rfl) rfl rfl rfl <| ?_
  refine hl_partF (t := 9) rfl (by omega) ?_
  refine hl_on rfl rfl <| hl_val (ov_move rfl) rfl rfl rfl <|
    hl_on rfl rfl <| hl_val (ov_gtr rfl rfl) rfl rfl rfl <|
    hl_val (ov_pickF rfl rfl) rfl rfl rfl <|
    hl_val (ov_move rfl) rfl rfl rfl <| ?_
  refine hl_partF (t := 13) rfl (by omega) ?_
  refine hl_on rfl rfl <| hl_val (ov_move rfl) rfl rfl rfl <|
    hl_on rfl rfl <| hl_val (ov_move rfl) rfl rfl rfl <|
    hl_on rfl rfl <| hl_val (ov_nil rfl) rfl rfl rfl <|
    hl_on rfl rfl <| hl_val (ov_fieldA rfl) rfl rfl rfl <|
    hl_on rfl rfl <| hl_val (ov_idxP rfl rfl _ rfl (by omega)) rfl rfl rfl <| ?_
  refine hl_on rfl rfl <| hl_val (ov_load rfl (CellIs.blk (v := .slice A0 0 cap0) (by simp only [Nat.zero_add, Nat.mul_one]; exact pr_get hk _ _))) rfl rfl rfl ?_
  refine hl_on rfl rfl <| hl_val (by first | exact ov_len rfl | exact ov_lenS rfl) rfl rfl rfl <| ?_
  refine hl_on rfl rfl <| hl_val (ov_eql rfl rfl) rfl rfl rfl <|
    hl_val (ov_pickF rfl rfl) rfl rfl rfl <|
    hl_nil <|
    hx_then_normal <| ?_
  refine hc_cond_T rfl (rfl) ?_
  refine hc_seq <|
    hc_region <|
    hl_val (ov_assign rfl) rfl rfl rfl <|
    hl_val (ov_assign rfl) rfl rfl rfl <|
    hl_nil <|
    hx_then_normal <| ?_
  refine hc_ret <|
    hx_then_ret <| ?_
  exact results_2 (.inr rfl) rfl rfl rfl fun w' H' => ⟨rfl, H'.ent (Ent.exS (L := rwirL k g [] lo) (l := []) ((A0, cap0, cs0), A1, cap1, cs1))⟩
theorem RTake_cons (D : Nat → Prop) (w : World) (g k : Nat) (hk : k < 2) (x : List UInt8) (r lo : List (List UInt8)) (hr : r.length ≤ 100) (H : Own D w w [rwir k g (x :: r) lo]) :
    Calls Try.prog 27 #[.pointer (some ⟨g, 0, none⟩), .int .i64 k] w fun e w' => ∃ c, e = .returned (.tuple #[c, .bool true]) ∧ Own D w w' [rowB 5 x c, rwir k g r lo] := by
  refine hc_enter (vs := [.pointer (some ⟨g, 0, none⟩), .int .i64 k]) Try.func27 rfl _ Try.ntmps27 rfl H ?_
  simp only [argSlots, Nat.zero_add]
  refine HC.exs ?_
  rintro ⟨⟨A0, cap0, cs0⟩, A1, cap1, cs1⟩
  refine HC.ent (l' := [blk g 55 (pr k (.slice A0 (r.length + 1) cap0) (.slice A1 lo.length cap1)), row A0 26 1 (r.length + 1) cap0 cs0, rowsB 5 (x :: r) cs0, row A1 26 1 lo.length cap1 cs1, rowsB 5 lo cs1]) (fun _ h => h) ?_
  refine HC.fact (fun w H => Own.factR A0 H) (fun hf => ?_)
  obtain ⟨hcl0, hcap, hcap2, hA⟩ := hf
  match cs0, hcl0 with
  | [], h => simp at h
  | c :: cr, hcl0 =>
  have hA : isA A0 := hA (by simp)
  have hcr : cr.length = r.length := by simpa using hcl0
  refine HC.fact (fun w H => rowsB_one (t := 5) (xs := x :: r) (cs := c :: cr) H) (fun hone0 => ?_)
  have hone : ∀ v ∈ cr, v.oneCell' = true := fun v hv => hone0 v (List.mem_cons_of_mem _ hv)
  refine hc_seq <|
    hc_region <|
    hl_val (ov_assign rfl) rfl rfl rfl <|
    hl_val (ov_assign rfl) rfl rfl rfl <|
    hl_nil <|
    hx_then_normal <| ?_
  refine hc_seq <|
    hc_seq <|
    hc_region <|
    hl_val (ov_move rfl) rfl rfl rfl <|
    hl_val (ov_lss rfl rfl) rfl rfl rfl <|
    hl_val (ov_move rfl) rfl rfl rfl <| ?_
  refine hl_partF (t := 9) rfl (by omega) ?_
  refine hl_on rfl rfl <| hl_val (ov_move rfl) rfl rfl rfl <|
    hl_on rfl rfl <| hl_val (ov_gtr rfl rfl) rfl rfl rfl <|
    hl_val (ov_pickF rfl rfl) rfl rfl rfl <|
    hl_val (ov_move rfl) rfl rfl rfl <| ?_
  refine hl_partF (t := 13) rfl (by omega) ?_
  refine hl_on rfl rfl <| hl_val (ov_move rfl) rfl rfl rfl <|
    hl_on rfl rfl <| hl_val (ov_move rfl) rfl rfl rfl <|
    hl_on rfl rfl <| hl_val (ov_nil rfl) rfl rfl rfl <|
    hl_on rfl rfl <| hl_val (ov_fieldA rfl) rfl rfl rfl <|
    hl_on rfl rfl <| hl_val (ov_idxP rfl rfl _ rfl (by omega)) rfl rfl rfl <| ?_
  refine hl_on rfl rfl <| hl_val (ov_load rfl (CellIs.blk (v := .slice A0 (r.length + 1) cap0) (by simp only [Nat.zero_add, Nat.mul_one]; exact pr_get hk _ _))) rfl rfl rfl ?_
  refine hl_on rfl rfl <| hl_val (by first | exact ov_len rfl | exact ov_lenS rfl) rfl rfl rfl <| ?_
  refine hl_on rfl rfl <| hl_val (ov_eql rfl rfl) rfl rfl rfl <|
    hl_val (ov_pickF rfl rfl) rfl rfl rfl <|
    hl_nil <|
    hx_then_normal <| ?_
  refine hc_cond_F rfl (by omega) ?_
  refine hc_skip <|
    hx_then_normal <|
    hc_seq <|
    hc_region <|
    hl_val (ov_move rfl) rfl rfl rfl <|
    hl_val (ov_move rfl) rfl rfl rfl <| ?_
  refine hl_val (ov_nil rfl) rfl rfl rfl <|
    hl_val (ov_fieldA rfl) rfl rfl rfl <|
    hl_val (ov_idxP rfl rfl _ rfl (by omega)) rfl rfl rfl <| ?_
  refine hl_val (ov_load rfl (CellIs.blk (v := .slice A0 (r.length + 1) cap0) (by simp only [Nat.zero_add, Nat.mul_one]; exact pr_get hk _ _))) rfl rfl rfl ?_
  refine hl_val (ov_idxSc rfl (by assumption) rfl rfl (by omega)) rfl rfl rfl <| ?_
  refine hl_val (ov_load rfl (CellIs.row (i := 0) (v := c) hA rfl)) rfl rfl rfl ?_
  refine hl_val (ov_assign rfl) rfl rfl rfl <|
    hl_nil <|
    hx_then_normal <|
    hc_seq <| ?_
  refine hc_cutK0 (σ := Option Addr × Nat) [6] rfl  (fun q => [blk g 55 (pr k (.slice q.1 r.length q.2) (.slice A1 lo.length cap1)), row q.1 26 1 r.length q.2 cr, row A0 26 1 (r.length + 1) cap0 (c :: cr), rowsB 5 (x :: r) (c :: cr), row A1 26 1 lo.length cap1 cs1, rowsB 5 lo cs1]) (fun K1 hK1 => ?_) (fun q => ?_)
  · refine hc_any [] mixed 15 rfl ?_
    refine ha_take 0 rfl (ov_move rfl) rfl rfl rfl (by kernel_rfl) (by kernel_rfl) (by kernel_rfl) (by first | assumption | exact Ent.refl _ | exact Ent.nil _ | (repeat (first | exact Ent.refl _ | exact Ent.nil _ | refine Ent.pick ?_))) <| ?_
    refine ha_take 1 rfl (ov_move rfl) rfl rfl rfl (by kernel_rfl) (by kernel_rfl) (by kernel_rfl) (by first | assumption | exact Ent.refl _ | exact Ent.nil _ | (repeat (first | exact Ent.refl _ | exact Ent.nil _ | refine Ent.pick ?_))) <| ?_
    refine ha_take 3 rfl (ov_move rfl) rfl rfl rfl (by kernel_rfl) (by kernel_rfl) (by kernel_rfl) (by first | assumption | exact Ent.refl _ | exact Ent.nil _ | (repeat (first | exact Ent.refl _ | exact Ent.nil _ | refine Ent.pick ?_))) <| ?_
    refine ha_take 4 rfl (ov_move rfl) rfl rfl rfl (by kernel_rfl) (by kernel_rfl) (by kernel_rfl) (by first | assumption | exact Ent.refl _ | exact Ent.nil _ | (repeat (first | exact Ent.refl _ | exact Ent.nil _ | refine Ent.pick ?_))) <| ?_
    refine ha_take 5 rfl (ov_nil rfl) rfl rfl rfl (by kernel_rfl) (by kernel_rfl) (by kernel_rfl) (by first | assumption | exact Ent.refl _ | exact Ent.nil _ | (repeat (first | exact Ent.refl _ | exact Ent.nil _ | refine Ent.pick ?_))) <| ?_
    refine ha_take 6 rfl (ov_fieldA rfl) rfl rfl rfl (by kernel_rfl) (by kernel_rfl) (by kernel_rfl) (by first | assumption | exact Ent.refl _ | exact Ent.nil _ | (repeat (first | exact Ent.refl _ | exact Ent.nil _ | refine Ent.pick ?_))) <| ?_
    refine ha_take 7 rfl (ov_idxP rfl rfl _ rfl (by omega)) rfl rfl rfl (by kernel_rfl) (by kernel_rfl) (by kernel_rfl) (by first | assumption | exact Ent.refl _ | exact Ent.nil _ | (repeat (first | exact Ent.refl _ | exact Ent.nil _ | refine Ent.pick ?_))) <| ?_
    refine ha_take 11 rfl (ov_nil rfl) rfl rfl rfl (by kernel_rfl) (by kernel_rfl) (by kernel_rfl) (by first | assumption | exact Ent.refl _ | exact Ent.nil _ | (repeat (first | exact Ent.refl _ | exact Ent.nil _ | refine Ent.pick ?_))) <| ?_
    refine ha_take 12 rfl (ov_fieldA rfl) rfl rfl rfl (by kernel_rfl) (by kernel_rfl) (by kernel_rfl) (by first | assumption | exact Ent.refl _ | exact Ent.nil _ | (repeat (first | exact Ent.refl _ | exact Ent.nil _ | refine Ent.pick ?_))) <| ?_
    refine ha_two 2 8 (by kernel_rfl) ?_ ?_
    · refine ho_new rfl (on_buildSliceN rfl rfl rfl) rfl rfl rfl (fun _ => (by first | assumption | exact Ent.refl _ | exact Ent.nil _ | (repeat (first | exact Ent.refl _ | exact Ent.nil _ | refine Ent.pick ?_)))) (fun b => ?_)
      refine ha_ent (Ent.blk_row 1 0 rfl (by decide)) ?_
      refine ha_one 8 (by kernel_rfl) <| ?_
      refine ho_val rfl (ov_load rfl (CellIs.blk (v := .slice A0 (r.length + 1) cap0) (by simp only [Nat.zero_add, Nat.mul_one]; exact pr_get hk _ _))) rfl rfl rfl (by first | assumption | exact Ent.refl _ | exact Ent.nil _ | (repeat (first | exact Ent.refl _ | exact Ent.nil _ | refine Ent.pick ?_))) ?_
      refine ha_take 9 rfl (ov_slice rfl 1 _ (.inr ⟨_, _, rfl, rfl⟩) (.inl ⟨rfl, rfl⟩) (by omega) (by omega)) rfl rfl rfl (by kernel_rfl) (by kernel_rfl) (by kernel_rfl) (by first | assumption | exact Ent.refl _ | exact Ent.nil _ | (repeat (first | exact Ent.refl _ | exact Ent.nil _ | refine Ent.pick ?_))) <| ?_
      refine ha_one 10 (by kernel_rfl) <| ?_
      refine ho_new rfl (on_appendR (news := cr) rfl rfl (SrcIs.rowCut hA 1 r.length (by omega) (by simp; omega) (by omega) (by simp [← hcr])) (by simp [hcr]) (fun v hv => hone v hv) (by decide) (by omega)) rfl rfl rfl (fun _ => (by first | assumption | exact Ent.refl _ | exact Ent.nil _ | (repeat (first | exact Ent.refl _ | exact Ent.nil _ | refine Ent.pick ?_)))) ?_
      rintro ⟨B, capB⟩
      dsimp only
      simp only [Nat.zero_add, List.nil_append]
      refine ha_take 13 rfl (ov_idxP rfl rfl _ rfl (by omega)) rfl rfl rfl (by kernel_rfl) (by kernel_rfl) (by kernel_rfl) (by first | assumption | exact Ent.refl _ | exact Ent.nil _ | (repeat (first | exact Ent.refl _ | exact Ent.nil _ | refine Ent.pick ?_))) <| ?_
      refine ha_one 14 (by kernel_rfl) <| ?_
      refine ho_u0 rfl (on_store rfl rfl (by rw [pr_len]; omega) rfl) rfl rfl (by first | assumption | exact Ent.refl _ | exact Ent.nil _ | (repeat (first | exact Ent.refl _ | exact Ent.nil _ | refine Ent.pick ?_))) ?_
      simp only [Nat.zero_add, Nat.mul_one, pr_set hk]
      refine ha_done (by kernel_rfl) <| ?_
      refine hx_cut hK1 ((B, capB)) (by repeat (first | exact Slots.sub_nil _ | refine Slots.sub_cons rfl ?_)) (by first | assumption | exact Ent.refl _ | exact Ent.nil _ | (repeat (first | exact Ent.refl _ | exact Ent.nil _ | refine Ent.pick ?_)))
    · refine ho_val rfl (ov_load rfl (CellIs.blk (v := .slice A0 (r.length + 1) cap0) (by simp only [Nat.zero_add, Nat.mul_one]; exact pr_get hk _ _))) rfl rfl rfl (by first | assumption | exact Ent.refl _ | exact Ent.nil _ | (repeat (first | exact Ent.refl _ | exact Ent.nil _ | refine Ent.pick ?_))) ?_
      refine ha_take 9 rfl (ov_slice rfl 1 _ (.inr ⟨_, _, rfl, rfl⟩) (.inl ⟨rfl, rfl⟩) (by omega) (by omega)) rfl rfl rfl (by kernel_rfl) (by kernel_rfl) (by kernel_rfl) (by first | assumption | exact Ent.refl _ | exact Ent.nil _ | (repeat (first | exact Ent.refl _ | exact Ent.nil _ | refine Ent.pick ?_))) <| ?_
      refine ha_one 2 (by kernel_rfl) <| ?_
      refine ho_new rfl (on_buildSliceN rfl rfl rfl) rfl rfl rfl (fun _ => (by first | assumption | exact Ent.refl _ | exact Ent.nil _ | (repeat (first | exact Ent.refl _ | exact Ent.nil _ | refine Ent.pick ?_)))) (fun b => ?_)
      refine ha_ent (Ent.blk_row 1 0 rfl (by decide)) ?_
      refine ha_one 10 (by kernel_rfl) <| ?_
      refine ho_new rfl (on_appendR (news := cr) rfl rfl (SrcIs.rowCut hA 1 r.length (by omega) (by simp; omega) (by omega) (by simp [← hcr])) (by simp [hcr]) (fun v hv => hone v hv) (by decide) (by omega)) rfl rfl rfl (fun _ => (by first | assumption | exact Ent.refl _ | exact Ent.nil _ | (repeat (first | exact Ent.refl _ | exact Ent.nil _ | refine Ent.pick ?_)))) ?_
      rintro ⟨B, capB⟩
      dsimp only
      simp only [Nat.zero_add, List.nil_append]
      refine ha_take 13 rfl (ov_idxP rfl rfl _ rfl (by omega)) rfl rfl rfl (by kernel_rfl) (by kernel_rfl) (by kernel_rfl) (by first | assumption | exact Ent.refl _ | exact Ent.nil _ | (repeat (first | exact Ent.refl _ | exact Ent.nil _ | refine Ent.pick ?_))) <| ?_
      refine ha_one 14 (by kernel_rfl) <| ?_
      refine ho_u0 rfl (on_store rfl rfl (by rw [pr_len]; omega) rfl) rfl rfl (by first | assumption | exact Ent.refl _ | exact Ent.nil _ | (repeat (first | exact Ent.refl _ | exact Ent.nil _ | refine Ent.pick ?_))) ?_
      simp only [Nat.zero_add, Nat.mul_one, pr_set hk]
      refine ha_done (by kernel_rfl) <| ?_
      refine hx_cut hK1 ((B, capB)) (by repeat (first | exact Slots.sub_nil _ | refine Slots.sub_cons rfl ?_)) (by first | assumption | exact Ent.refl _ | exact Ent.nil _ | (repeat (first | exact Ent.refl _ | exact Ent.nil _ | refine Ent.pick ?_)))
  · obtain ⟨B, capB⟩ := q
    dsimp only
    refine hx_then_normal <|
      hc_seq <|
      hc_region <|
      hl_val (ov_move rfl) rfl rfl rfl <|
      hl_val (ov_assign rfl) rfl rfl rfl <|
      hl_val (ov_assign rfl) rfl rfl rfl <| ?_
    refine hl_nil <|
      hx_then_normal <|
      hc_ret <| ?_
    refine HX.ent (l' := [blk g 55 (pr k (.slice B r.length capB) (.slice A1 lo.length cap1)), row B 26 1 r.length capB cr, rowB 5 x c, rowsB 5 r cr, row A1 26 1 lo.length cap1 cs1, rowsB 5 lo cs1]) (Ent.cons (Ent.cons (Ent.drop rowsB_split))) ?_
    refine results_2 (.inr rfl) rfl rfl rfl fun w' H' => ⟨c, rfl, H'.ent ?_⟩
    refine Ent.trans (Ent.perm (l' := rowB 5 x c :: rwirL k g r lo ((B, capB, cr), A1, cap1, cs1)) ?_) (Ent.cons (Ent.exS (L := rwirL k g r lo) (l := []) _))
    exact ((List.Perm.cons _ (List.Perm.swap _ _ _)).trans (List.Perm.swap _ _ _))
end Go.Proofs.Ytdjpocnijfhcgaa
