import Derived.Test.YtijaldfiaeafgaaRSec1
set_option linter.unusedVariables false
set_option linter.unusedSimpArgs false
namespace Go.Proofs.Ytijaldfiaeafgaa
open Slk
theorem RRead_no (D : Nat → Prop) (w : World) (g : Nat) (i : Int) (S : List Sec) (P : List (Nat × Sec)) (hi : ¬ (0 ≤ i ∧ i < S.length)) (H : Own D w w [rdsk g S P]) :
    Calls Try.prog 62 #[.pointer (some ⟨g, 0, none⟩), .int .i64 i] w fun e w' => e = .returned (.tuple #[.agg (secC zeroSec).toArray, .int .i64 1]) ∧ Own D w w' [rdsk g S P] := by
  refine hc_enter (vs := [.pointer (some ⟨g, 0, none⟩), .int .i64 i]) Try.func62 rfl _ Try.ntmps62 rfl H ?_
  simp only [argSlots, Nat.zero_add]
  refine HC.exs ?_
  rintro ⟨⟨A0, c0⟩, A1, c1⟩
  refine HC.ent (l' := [blk g 59 [.slice A0 S.length c0, .slice A1 P.length c1], row A0 34 64 S.length c0 (S.flatMap secC), row A1 116 65 P.length c1 (P.flatMap latC)]) (fun _ h => h) ?_
  refine hc_seq <| hc_region <| hl_new (on_alloc) rfl rfl rfl fun b4 =>
    hl_v (ov_assign rfl) rfl <| hl_nil <| hx_then_normal <| ?_
  refine hc_seq <| hc_seq <| hc_region <| hl_v (ov_move rfl) rfl <| hl_v (ov_move rfl) rfl <| ?_
  refine hl_c Try.call53 rfl rfl (fun w1 H1 => Own.callp (blk g 59 [.slice A0 S.length c0, .slice A1 P.length c1]) H1 fun D' hold hin H2 => Rhas_spec D' w1 g i A0 A1 _ c0 _ c1 H2) ?_
  refine hl_v (by first | exact ov_notd rfl | exact ov_not rfl) rfl <| ?_
  refine hl_nil <| hx_then_normal <| ?_
  refine hc_cond_T rfl (fun h => hi h) ?_
  refine hc_seq <| hc_region <| hl_v (ov_buildAN rfl rfl) rfl <| ?_
  refine hl_u0 (on_storeW (vs := secC zeroSec) rfl (by rw [secC_zero]; rfl) (by simp) (by simp) (secC_one _)) rfl rfl ?_
  refine hl_v (ov_assign rfl) rfl <| hl_nil <| hx_then_normal <| hc_ret <| hx_then_ret <| ?_
  exact results_ct (.inr rfl) rfl rfl (by simp) rfl fun w' H' => ⟨rfl, H'.ent (Ent.trans (by first | assumption | exact Ent.refl _ | exact Ent.nil _ | exact Ent.row_any (Ent.refl _) | (repeat (first | exact Ent.refl _ | exact Ent.nil _ | refine Ent.pick ?_))) (dsk_mk (A0 := A0) (c0 := c0) (A1 := A1) (c1 := c1)))⟩
theorem RRead_ok (D : Nat → Prop) (w : World) (g : Nat) (i : Nat) (S : List Sec) (P : List (Nat × Sec)) (hi : i < S.length) (H : Own D w w [rdsk g S P]) :
    Calls Try.prog 62 #[.pointer (some ⟨g, 0, none⟩), .int .i64 i] w fun e w' => e = .returned (.tuple #[.agg (secC (lastW i P S[i])).toArray, .int .i64 0]) ∧ Own D w w' [rdsk g S P] := by
  refine hc_enter (vs := [.pointer (some ⟨g, 0, none⟩), .int .i64 i]) Try.func62 rfl _ Try.ntmps62 rfl H ?_
  simp only [argSlots, Nat.zero_add]
  refine HC.exs ?_
  rintro ⟨⟨A0, c0⟩, A1, c1⟩
  refine HC.ent (l' := [blk g 59 [.slice A0 S.length c0, .slice A1 P.length c1], row A0 34 64 S.length c0 (S.flatMap secC), row A1 116 65 P.length c1 (P.flatMap latC)]) (fun _ h => h) ?_
  refine HC.fact (fun w H => dsk_facts (A := A0) H) (fun hf0 => ?_)
  refine HC.fact (fun w H => dsk_facts (A := A1) H) (fun hf1 => ?_)
  have hA0 : isA A0 := hf0.2 (flat_ne secC_len (by decide) (by omega))
  refine hc_seq <| hc_region <| hl_new (on_alloc) rfl rfl rfl fun b4 =>
    hl_v (ov_assign rfl) rfl <| hl_nil <| hx_then_normal <| ?_
  refine hc_seq <| hc_seq <| hc_region <| hl_v (ov_move rfl) rfl <| hl_v (ov_move rfl) rfl <| ?_
  refine hl_c Try.call53 rfl rfl (fun w1 H1 => Own.callp (blk g 59 [.slice A0 S.length c0, .slice A1 P.length c1]) H1 fun D' hold hin H2 => Rhas_spec D' w1 g i A0 A1 _ c0 _ c1 H2) ?_
  refine hl_v (by first | exact ov_notd rfl | exact ov_not rfl) rfl <| ?_
  refine hl_nil <| hx_then_normal <| ?_
  refine hc_cond_F rfl (by simp [hi]) ?_
  refine hc_skip <| hx_then_normal <| hc_seq <| hc_region <| hl_v (ov_move rfl) rfl <| hl_v (ov_nil rfl) rfl <| ?_
  refine hl_v (ov_fieldA rfl) rfl <| hl_v (ov_load rfl (CellIs.blk rfl)) rfl <| hl_v (ov_move rfl) rfl <| hl_v (ov_idxS rfl (by assumption) rfl _ rfl (by omega)) rfl <| ?_
  refine hl_v (ov_loadG (cs := secC S[i]) rfl (secC_len _) (CellsAre.flat secC_len hA0 hi)) rfl ?_
  refine hl_new (on_alloc) rfl rfl rfl fun b6 =>  ?_
  refine hl_u0 (on_storeW rfl rfl (by simp) (by simp) (secC_one _)) rfl rfl ?_
  refine hl_nil <| hx_then_normal <| hc_seq <| hc_seq <| hc_region <| hl_v (ov_assign rfl) rfl <| ?_
  refine hl_nil <| hx_then_normal <| hc_block <| ?_
  refine hc_loopK1 (σ := Nat) [0, 1, 4, 6] rfl 7 (fun j => .int .i64 j) (fun j => [blk b6 34 (secC (lastW i (P.take j) S[i])), blk b4 34 (List.replicate 64 (.int .u8 0)), blk g 59 [.slice A0 S.length c0, .slice A1 P.length c1], row A0 34 64 S.length c0 (S.flatMap secC), row A1 116 65 P.length c1 (P.flatMap latC)]) (fun j => j ≤ P.length) (fun j => P.length - j) (0) (Nat.zero_le _) rfl ((show Ent _ (blk b6 34 (secC S[i]) :: _) from (by first | assumption | exact Ent.refl _ | exact Ent.nil _ | exact Ent.row_any (Ent.refl _) | (repeat (first | exact Ent.refl _ | exact Ent.nil _ | refine Ent.pick ?_))))) ?_
  rintro j hj K1 hK1
  refine hc_seq <| hc_seq <| hc_region <| hl_v (ov_move rfl) rfl <| hl_v (ov_move rfl) rfl <| hl_v (ov_nil rfl) rfl <| ?_
  refine hl_v (ov_fieldA rfl) rfl <| hl_v (ov_load rfl (CellIs.blk rfl)) rfl <| hl_v (by first | exact ov_len rfl | exact ov_lenS rfl) rfl <| ?_
  refine hl_v (ov_lss rfl rfl) rfl <| hl_nil <| hx_then_normal <| ?_
  refine hc_cond rfl (fun hlt => ?_) (fun hlt => ?_)
  · have hlt : j < P.length := by omega
    have hA1 : isA A1 := hf1.2 (flat_ne latC_len (by decide) (by omega))
    have hsn := List.take_succ_eq_append_getElem hlt
    have hcl : ∀ l r, [PickR l A1 116 65 P.length c1 (P.flatMap latC) r] → CellIs D w l (ab A1) (ao A1 + j * 65 + 0) (.int .i64 (P[j].1 : Int)) := fun l r _ => (CellsAre.flat latC_len hA1 hlt).cell (i := 0) rfl
    refine hc_skip <| hx_then_normal <| hc_seq <| hc_block <| hc_seq <| hc_region <| ?_
    refine hl_v (ov_move rfl) rfl <| hl_v (ov_nil rfl) rfl <| hl_v (ov_fieldA rfl) rfl <| hl_v (ov_load rfl (CellIs.blk rfl)) rfl <| hl_v (ov_move rfl) rfl <| hl_v (ov_idxS rfl (by assumption) rfl _ rfl (by omega)) rfl <| ?_
    refine hl_v (ov_fieldA rfl) rfl <| ?_
    refine hl_v (ov_load rfl (hcl _ _)) rfl ?_
    refine hl_v (ov_move rfl) rfl <| hl_v (ov_eql rfl rfl) rfl <| hl_nil <| hx_then_normal <| ?_
    refine hc_cutK0 (σ := Unit) [0, 1, 4, 6, 7] rfl  (fun _u => [blk b6 34 (secC (lastW i (P.take (j + 1)) S[i])), blk b4 34 (List.replicate 64 (.int .u8 0)), blk g 59 [.slice A0 S.length c0, .slice A1 P.length c1], row A0 34 64 S.length c0 (S.flatMap secC), row A1 116 65 P.length c1 (P.flatMap latC)]) (fun K2 hK2 => ?_) (fun _u => ?_)
    · rw [hsn, lastW_snoc] at hK2
      refine hc_cond rfl (fun he => ?_) (fun he => ?_)
      · rw [if_pos (by omega)] at hK2
        refine hc_region <| hl_v (ov_move rfl) rfl <| hl_v (ov_nil rfl) rfl <| hl_v (ov_fieldA rfl) rfl <| hl_v (ov_load rfl (CellIs.blk rfl)) rfl <| hl_v (ov_move rfl) rfl <| ?_
        refine hl_v (ov_idxS rfl (by assumption) rfl _ rfl (by omega)) rfl <| hl_v (ov_fieldA rfl) rfl <| ?_
        refine hl_v (ov_loadG (cs := secC P[j].2) rfl (secC_len _) (CellsAre.sub (CellsAre.flat latC_len hA1 hlt) (fun k v h => by rw [Nat.add_comm]; exact h))) rfl ?_
        refine hl_u0 (on_storeW rfl rfl (by simp) (by simp) (secC_one _)) rfl rfl ?_
        refine hl_nil <| ?_
        refine hx_cut hK2 (()) (by repeat (first | exact Slots.sub_nil _ | refine Slots.sub_cons rfl ?_)) (by first | assumption | exact Ent.refl _ | exact Ent.nil _ | (repeat (first | exact Ent.refl _ | exact Ent.nil _ | refine Ent.pick ?_)))
      rw [if_neg (by omega)] at hK2
      refine hc_skip <| ?_
      refine hx_cut hK2 (()) (by repeat (first | exact Slots.sub_nil _ | refine Slots.sub_cons rfl ?_)) (by first | assumption | exact Ent.refl _ | exact Ent.nil _ | (repeat (first | exact Ent.refl _ | exact Ent.nil _ | refine Ent.pick ?_)))
    refine hx_block_normal <| hx_then_normal <| hc_region <| hl_v (ov_move rfl) rfl <| hl_v (ov_add rfl rfl (by first | exact wrap_i64 (by omega) | rfl)) rfl <| ?_
    refine hl_v (ov_assign rfl) rfl <| hl_nil <| ?_
    refine hx_next hK1 (j + 1) (hlt) (by omega) (by repeat (first | exact Slots.sub_nil _ | refine Slots.sub_cons rfl ?_)) (by first | assumption | exact Ent.refl _ | exact Ent.nil _ | (repeat (first | exact Ent.refl _ | exact Ent.nil _ | refine Ent.pick ?_)))
  have : j = P.length := by omega
  subst this
  rw [List.take_length]
  refine hc_exit <| hx_then_exit <| hx_then_exit <| hx_block_out <| hx_then_normal <| hc_seq <| ?_
  refine hc_region <| hl_v (by first | exact ov_loadW rfl (by simp; done) | exact ov_loadGB rfl rfl) rfl <| ?_
  refine hl_u0 (on_storeW rfl rfl (by simp) (by simp) (secC_one _)) rfl rfl ?_
  refine hl_v (ov_assign rfl) rfl <| hl_nil <| hx_then_normal <| hc_ret <| ?_
  exact results_ct (.inr rfl) rfl rfl (by simp) rfl fun w' H' => ⟨rfl, H'.ent (Ent.trans (by first | assumption | exact Ent.refl _ | exact Ent.nil _ | exact Ent.row_any (Ent.refl _) | (repeat (first | exact Ent.refl _ | exact Ent.nil _ | refine Ent.pick ?_))) (dsk_mk (A0 := A0) (c0 := c0) (A1 := A1) (c1 := c1)))⟩
theorem RFlush_spec (D : Nat → Prop) (w : World) (g : Nat) (S : List Sec) (P : List (Nat × Sec)) (hP : ∀ p ∈ P, p.1 < S.length) (H : Own D w w [rdsk g S P]) :
    Calls Try.prog 26 #[.pointer (some ⟨g, 0, none⟩)] w fun e w' => e = .returned (.tuple #[]) ∧ Own D w w' [rdsk g (settleL (fun _ => true) 0 S P) []] := by
  refine hc_enter (vs := [.pointer (some ⟨g, 0, none⟩)]) Try.func26 rfl _ Try.ntmps26 rfl H ?_
  simp only [argSlots, Nat.zero_add]
  refine HC.exs ?_
  rintro ⟨⟨A0, c0⟩, A1, c1⟩
  refine HC.ent (l' := [blk g 59 [.slice A0 S.length c0, .slice A1 P.length c1], row A0 34 64 S.length c0 (S.flatMap secC), row A1 116 65 P.length c1 (P.flatMap latC)]) (fun _ h => h) ?_
  refine HC.fact (fun w H => dsk_facts (A := A0) H) (fun hf0 => ?_)
  refine HC.fact (fun w H => dsk_facts (A := A1) H) (fun hf1 => ?_)
  refine hc_seq <| hc_seq <| hc_region <| hl_v (ov_assign rfl) rfl <| hl_nil <| hx_then_normal <| ?_
  refine hc_block <| ?_
  refine hc_loopK1 (σ := Nat) [0] rfl 2 (fun j => .int .i64 j) (fun j => [blk g 59 [.slice A0 S.length c0, .slice A1 P.length c1], row A0 34 64 S.length c0 ((settleL (fun _ => true) 0 S (P.take j)).flatMap secC), row A1 116 65 P.length c1 (P.flatMap latC)]) (fun j => j ≤ P.length) (fun j => P.length - j) (0) (Nat.zero_le _) rfl (Ent.refl _) ?_
  rintro j hj K1 hK1
  refine hc_seq <| hc_seq <| hc_region <| hl_v (ov_move rfl) rfl <| hl_v (ov_move rfl) rfl <| hl_v (ov_nil rfl) rfl <| ?_
  refine hl_v (ov_fieldA rfl) rfl <| hl_v (ov_load rfl (CellIs.blk rfl)) rfl <| hl_v (by first | exact ov_len rfl | exact ov_lenS rfl) rfl <| ?_
  refine hl_v (ov_lss rfl rfl) rfl <| hl_nil <| hx_then_normal <| ?_
  refine hc_cond rfl (fun hlt => ?_) (fun hlt => ?_)
  · have hlt : j < P.length := by omega
    have hA1 : isA A1 := hf1.2 (flat_ne latC_len (by decide) (by omega))
    have hsn := List.take_succ_eq_append_getElem hlt
    have hpj := hP _ (List.getElem_mem hlt)
    have hA0 : isA A0 := hf0.2 (flat_ne secC_len (by decide) (by omega))
    have hsl := settleL_len (fun _ => true) (P.take j) 0 S
    have hcl : ∀ l r, [PickR l A1 116 65 P.length c1 (P.flatMap latC) r] → CellIs D w l (ab A1) (ao A1 + j * 65 + 0) (.int .i64 (P[j].1 : Int)) := fun l r _ => (CellsAre.flat latC_len hA1 hlt).cell (i := 0) rfl
    have hst := settleL_snoc (fun _ => true) (P.take j) 0 S P[j]
    rw [if_pos rfl, ← hsn] at hst
    refine hc_skip <| hx_then_normal <| hc_seq <| hc_block <| ?_
    refine hc_any [blk g 59 [.slice A0 S.length c0, .slice A1 P.length c1], row A1 116 65 P.length c1 (P.flatMap latC)] mixed 22 rfl ?_
    refine ha_v 0 rfl (ov_move rfl) rfl <| ?_
    refine ha_v 1 rfl (ov_nil rfl) rfl <| ?_
    refine ha_v 2 rfl (ov_fieldA rfl) rfl <| ?_
    refine ha_v 3 rfl (ov_load rfl (CellIs.blk rfl)) rfl <| ?_
    refine ha_v 4 rfl (ov_move rfl) rfl <| ?_
    refine ha_v 5 rfl (ov_nil rfl) rfl <| ?_
    refine ha_v 6 rfl (ov_fieldA rfl) rfl <| ?_
    refine ha_v 7 rfl (ov_load rfl (CellIs.blk rfl)) rfl <| ?_
    refine ha_v 8 rfl (ov_move rfl) rfl <| ?_
    refine ha_v 9 rfl (ov_idxS rfl (by assumption) rfl _ rfl (by omega)) rfl <| ?_
    refine ha_v 10 rfl (ov_fieldA rfl) rfl <| ?_
    refine ha_v 12 rfl (ov_move rfl) rfl <| ?_
    refine ha_v 13 rfl (ov_nil rfl) rfl <| ?_
    refine ha_v 14 rfl (ov_fieldA rfl) rfl <| ?_
    refine ha_v 15 rfl (ov_load rfl (CellIs.blk rfl)) rfl <| ?_
    refine ha_v 16 rfl (ov_move rfl) rfl <| ?_
    refine ha_v 17 rfl (ov_idxS rfl (by assumption) rfl _ rfl (by omega)) rfl <| ?_
    refine ha_v 18 rfl (ov_fieldA rfl) rfl <| ?_
    refine ha_v 11 rfl (ov_load rfl (hcl _ _)) rfl ?_
    refine ha_one 19 (by kernel_rfl) <| ?_
    refine ho_v rfl (ov_loadG (cs := secC P[j].2) rfl (secC_len _) (CellsAre.sub (CellsAre.flat latC_len hA1 hlt) (fun k v h => by rw [Nat.add_comm]; exact h))) rfl ?_
    refine ha_v 20 rfl (ov_idxS rfl (by assumption) rfl _ rfl (by omega)) rfl <| ?_
    refine ha_one 21 (by kernel_rfl) <| ?_
    refine ho_w0 rfl (on_storeRG (A := A0) (vs := secC P[j].2) rfl rfl (secC_len _) (by rw [flat_len secC_len]; omega) (by rw [flat_len secC_len, secC_len, ← Nat.succ_mul]; exact Nat.mul_le_mul_right _ (by omega)) (secC_one _)) rfl ?_
    rw [flat_set secC_len _ P[j].1 P[j].2 (by omega)]
    refine ha_done (by kernel_rfl) <| hx_block_normal <| hx_then_normal <| hc_region <| hl_v (ov_move rfl) rfl <| hl_v (ov_add rfl rfl (by first | exact wrap_i64 (by omega) | rfl)) rfl <| ?_
    refine hl_v (ov_assign rfl) rfl <| hl_nil <| ?_
    exact hx_next hK1 (j + 1) (hlt) (by omega) (by repeat (first | exact Slots.sub_nil _ | refine Slots.sub_cons rfl ?_)) (by rw [hst]; exact (by first | assumption | exact Ent.refl _ | exact Ent.nil _ | exact Ent.row_any (Ent.refl _) | (repeat (first | exact Ent.refl _ | exact Ent.nil _ | refine Ent.pick ?_))))
  have : j = P.length := by omega
  subst this
  rw [List.take_length]
  have hsl := settleL_len (fun _ => true) P 0 S
  refine hc_exit <| hx_then_exit <| hx_then_exit <| hx_block_out <| hx_then_normal <| hc_region <| ?_
  refine hl_v (ov_move rfl) rfl <| hl_v (ov_nil rfl) rfl <| hl_v (ov_fieldA rfl) rfl <| hl_u0 (on_storeN rfl rfl rfl rfl rfl) rfl rfl <| hl_nil <| ?_
  refine results_0 (.inl rfl) rfl fun w' H' => ⟨rfl, H'.ent ?_⟩
  have hd := dsk_mk (tD := 59) (tL := 116) (g := g) (S := settleL (fun _ => true) 0 S P) (P := []) (A0 := A0) (c0 := c0) (A1 := none) (c1 := 0) (l := [])
  rw [hsl] at hd
  exact Ent.trans (Ent.cons (Ent.cons ((Ent.nil _).trans (Ent.nil_row _ _)))) hd
end Go.Proofs.Ytijaldfiaeafgaa
