import Derived.Test.YtijaldfiaeafgaaRSec2
set_option linter.unusedVariables false
set_option linter.unusedSimpArgs false
namespace Go.Proofs.Ytijaldfiaeafgaa
open Slk
/-- A reference's crash goes no further than what is told; what is not told is not kept. -/
theorem settleL_past (kept : Nat → Bool) (n : Nat) (h : ∀ k, n ≤ k → kept k = false) : ∀ (P : List (Nat × Sec)) (k : Nat) (S : List Sec), n ≤ k → settleL kept k S P = S
  | [], _, _, _ => rfl
  | p :: r, k, S, hk => by
    simp only [settleL, h k hk]
    exact settleL_past kept n h r (k + 1) S (by omega)
theorem settleL_append (kept : Nat → Bool) : ∀ (P Q : List (Nat × Sec)) (k : Nat) (S : List Sec), settleL kept k S (P ++ Q) = settleL kept (k + P.length) (settleL kept k S P) Q
  | [], Q, k, S => rfl
  | p :: r, Q, k, S => by
    simp only [List.cons_append, settleL, List.length_cons]
    rw [settleL_append kept r Q (k + 1), show k + 1 + r.length = k + (r.length + 1) by omega]
theorem RCrash_spec (D : Nat → Prop) (w : World) (g : Nat) (S : List Sec) (P : List (Nat × Sec)) (v : Value) (keep : List Bool) (hP : ∀ p ∈ P, p.1 < S.length) (hv : Old D w (Rep.rep keep [v])) (H : Own D w w [rdsk g S P]) :
    Calls Try.prog 41 #[.pointer (some ⟨g, 0, none⟩), v] w fun e w' => e = .returned (.tuple #[]) ∧ Own D w w' [rdsk g (settleL (fun k => keep.getD k false) 0 S P) []] := by
  obtain ⟨A, cap, rfl, hc1, hc2, hel⟩ := hv.openE rfl
  refine hc_enter (vs := [.pointer (some ⟨g, 0, none⟩), .slice A keep.length cap]) Try.func41 rfl _ Try.ntmps41 rfl H ?_
  simp only [argSlots, Nat.zero_add]
  refine HC.exs ?_
  rintro ⟨⟨A0, c0⟩, A1, c1⟩
  refine HC.ent (l' := [blk g 59 [.slice A0 S.length c0, .slice A1 P.length c1], row A0 34 64 S.length c0 (S.flatMap secC), row A1 116 65 P.length c1 (P.flatMap latC)]) (fun _ h => h) ?_
  refine HC.fact (fun w H => dsk_facts (A := A0) H) (fun hf0 => ?_)
  refine HC.fact (fun w H => dsk_facts (A := A1) H) (fun hf1 => ?_)
  obtain ⟨kept, hkd⟩ : ∃ kept : Nat → Bool, kept = fun k => keep.getD k false := ⟨_, rfl⟩
  rw [← hkd]
  refine hc_seq <| hc_seq <| hc_region <| hl_v (ov_assign rfl) rfl <| hl_nil <| hx_then_normal <| ?_
  refine hc_block <| ?_
  refine hc_loopK1 (σ := Nat) [0, 1] rfl 4 (fun j => .int .i64 j) (fun j => [blk g 59 [.slice A0 S.length c0, .slice A1 P.length c1], row A0 34 64 S.length c0 ((settleL kept 0 S (P.take j)).flatMap secC), row A1 116 65 P.length c1 (P.flatMap latC)]) (fun j => j ≤ P.length) (fun j => P.length - j) (0) (Nat.zero_le _) rfl (Ent.refl _) ?_
  rintro j hj K1 hK1
  refine hc_seq <| hc_seq <| hc_region <| hl_v (ov_move rfl) rfl <| hl_v (ov_move rfl) rfl <| hl_v (ov_nil rfl) rfl <| ?_
  refine hl_v (ov_fieldA rfl) rfl <| hl_v (ov_load rfl (CellIs.blk rfl)) rfl <| hl_v (by first | exact ov_len rfl | exact ov_lenS rfl) rfl <| ?_
  refine hl_v (ov_lss rfl rfl) rfl <| hl_v (ov_move rfl) rfl <| ?_
  have hfin : P.length ≤ j ∨ keep.length ≤ j → settleL kept 0 S P = settleL kept 0 S (P.take j) := fun h => by
    rcases h with h | h
    · rw [List.take_of_length_le h]
    · have e := settleL_append kept (P.take j) (P.drop j) 0 S
      rw [List.take_append_drop] at e
      rw [e]
      exact settleL_past kept keep.length (fun k hk => by rw [hkd]; simp [List.getD_eq_getElem?_getD, List.getElem?_eq_none hk]) _ _ _ (by rw [List.length_take]; omega)
  have hsl := settleL_len kept (P.take j) 0 S
  refine hl_part (t := 12) rfl (fun hlt => ?_) (fun hlt => ?_)
  · have hlt : j < P.length := by omega
    refine hl_on rfl rfl <| hl_v (ov_move rfl) rfl <| hl_on rfl rfl <| hl_v (ov_move rfl) rfl <| hl_on rfl rfl <| hl_v (by first | exact ov_len rfl | exact ov_lenS rfl) rfl <| ?_
    refine hl_on rfl rfl <| hl_v (ov_lss rfl rfl) rfl <| hl_v (ov_pickT rfl rfl) rfl <| hl_nil <| hx_then_normal <| ?_
    refine hc_cond rfl (fun hlt2 => ?_) (fun hlt2 => ?_)
    · have hlt2 : j < keep.length := by omega
      obtain ⟨hA, u, hu, hclk⟩ := hel j hlt2
      have hu := hu.pure
      simp only [List.cons.injEq, and_true] at hu
      subst hu
      have hA1 : isA A1 := hf1.2 (flat_ne latC_len (by decide) (by omega))
      have hsn := List.take_succ_eq_append_getElem hlt
      have hpj := hP _ (List.getElem_mem hlt)
      have hA0 : isA A0 := hf0.2 (flat_ne secC_len (by decide) (by omega))
      have hcl : ∀ l r, [PickR l A1 116 65 P.length c1 (P.flatMap latC) r] → CellIs D w l (ab A1) (ao A1 + j * 65 + 0) (.int .i64 (P[j].1 : Int)) := fun l r _ => (CellsAre.flat latC_len hA1 hlt).cell (i := 0) rfl
      have hst := settleL_snoc kept (P.take j) 0 S P[j]
      have hkj : kept (0 + (P.take j).length) = keep[j] := by rw [hkd, List.length_take, Nat.zero_add, Nat.min_eq_left (by omega)]; simp [List.getD_eq_getElem?_getD, List.getElem?_eq_getElem hlt2]
      rw [← hsn, hkj] at hst
      refine hc_skip <| hx_then_normal <| hc_seq <| hc_block <| hc_seq <| hc_region <| ?_
      refine hl_v (ov_move rfl) rfl <| hl_v (ov_move rfl) rfl <| hl_v (ov_idxS rfl (by assumption) rfl _ rfl (by omega)) rfl <| ?_
      refine hl_v (ov_load rfl (hclk _)) rfl ?_
      refine hl_nil <| hx_then_normal <| ?_
      refine hc_cutK0 (σ := Unit) [0, 1, 4] rfl  (fun _u => [blk g 59 [.slice A0 S.length c0, .slice A1 P.length c1], row A0 34 64 S.length c0 ((settleL kept 0 S (P.take (j + 1))).flatMap secC), row A1 116 65 P.length c1 (P.flatMap latC)]) (fun K2 hK2 => ?_) (fun _u => ?_)
      · refine hc_cond_bool rfl (fun hk => ?_) (fun hk => ?_)
        · rw [if_pos hk] at hst
          refine hc_any [blk g 59 [.slice A0 S.length c0, .slice A1 P.length c1], row A1 116 65 P.length c1 (P.flatMap latC)] mixed 22 rfl ?_
          refine ha_v 0 rfl (ov_move rfl) rfl <| ?_
          refine ha_v 1 rfl (ov_nil rfl) rfl <| ?_
          refine ha_v 2 rfl (ov_fieldA rfl) rfl <| ?_
          refine ha_v 3 rfl (ov_load rfl (CellIs.blk rfl)) rfl <| ?_
          refine ha_v 4 rfl (ov_move rfl) rfl <| ?_
          refine ha_v 5 rfl (ov_nil rfl) rfl <| ?_
          refine ha_v 6 rfl (ov_fieldA rfl) rfl <| ?_
          refine ha_v 7 rfl (ov_load rfl (CellIs.blk rfl)) rfl <| ?_
          refine ha_v 8 rfl (ov_move rfl) rfl <| ?_
          refine ha_v 9 rfl (ov_idxS rfl (by assumption) rfl _ rfl (by omega)) rfl <| ?_
          refine ha_v 10 rfl (ov_fieldA rfl) rfl <| ?_
          refine ha_v 12 rfl (ov_move rfl) rfl <| ?_
          refine ha_v 13 rfl (ov_nil rfl) rfl <| ?_
          refine ha_v 14 rfl (ov_fieldA rfl) rfl <| ?_
          refine ha_v 15 rfl (ov_load rfl (CellIs.blk rfl)) rfl <| ?_
          refine ha_v 16 rfl (ov_move rfl) rfl <| ?_
          refine ha_v 17 rfl (ov_idxS rfl (by assumption) rfl _ rfl (by omega)) rfl <| ?_
          refine ha_v 18 rfl (ov_fieldA rfl) rfl <| ?_
          refine ha_v 11 rfl (ov_load rfl (hcl _ _)) rfl ?_
          refine ha_one 19 (by kernel_rfl) <| ?_
          refine ho_v rfl (ov_loadG (cs := secC P[j].2) rfl (secC_len _) (CellsAre.sub (CellsAre.flat latC_len hA1 hlt) (fun k v h => by rw [Nat.add_comm]; exact h))) rfl ?_
          refine ha_v 20 rfl (ov_idxS rfl (by assumption) rfl _ rfl (by omega)) rfl <| ?_
          refine ha_one 21 (by kernel_rfl) <| ?_
          refine ho_w0 rfl (on_storeRG (A := A0) (vs := secC P[j].2) rfl rfl (secC_len _) (by rw [flat_len secC_len]; omega) (by rw [flat_len secC_len, secC_len, ← Nat.succ_mul]; exact Nat.mul_le_mul_right _ (by omega)) (secC_one _)) rfl ?_
          rw [flat_set secC_len _ P[j].1 P[j].2 (by omega)]
          refine ha_done (by kernel_rfl) <| ?_
          exact hx_cut hK2 (()) (by repeat (first | exact Slots.sub_nil _ | refine Slots.sub_cons rfl ?_)) (by rw [hst]; exact (by first | assumption | exact Ent.refl _ | exact Ent.nil _ | exact Ent.row_any (Ent.refl _) | (repeat (first | exact Ent.refl _ | exact Ent.nil _ | refine Ent.pick ?_))))
        rw [if_neg (by simp [hk])] at hst
        refine hc_skip <| ?_
        exact hx_cut hK2 (()) (by repeat (first | exact Slots.sub_nil _ | refine Slots.sub_cons rfl ?_)) (by rw [hst]; exact (by first | assumption | exact Ent.refl _ | exact Ent.nil _ | exact Ent.row_any (Ent.refl _) | (repeat (first | exact Ent.refl _ | exact Ent.nil _ | refine Ent.pick ?_))))
      refine hx_block_normal <| hx_then_normal <| hc_region <| hl_v (ov_move rfl) rfl <| hl_v (ov_add rfl rfl (by first | exact wrap_i64 (by omega) | rfl)) rfl <| ?_
      refine hl_v (ov_assign rfl) rfl <| hl_nil <| ?_
      refine hx_next hK1 (j + 1) (hlt) (by omega) (by repeat (first | exact Slots.sub_nil _ | refine Slots.sub_cons rfl ?_)) (by first | assumption | exact Ent.refl _ | exact Ent.nil _ | (repeat (first | exact Ent.refl _ | exact Ent.nil _ | refine Ent.pick ?_)))
    have e := hfin (.inr (by omega))
    refine hc_exit <| hx_then_exit <| hx_then_exit <| hx_block_out <| hx_then_normal <| hc_region <| ?_
    refine hl_v (ov_move rfl) rfl <| hl_v (ov_nil rfl) rfl <| hl_v (ov_fieldA rfl) rfl <| hl_u0 (on_storeN rfl rfl rfl rfl rfl) rfl rfl <| hl_nil <| ?_
    refine results_0 (.inl rfl) rfl fun w' H' => ⟨rfl, H'.ent ?_⟩
    have hd := dsk_mk (tD := 59) (tL := 116) (g := g) (S := settleL kept 0 S P) (P := []) (A0 := A0) (c0 := c0) (A1 := none) (c1 := 0) (l := [])
    rw [e, hsl] at hd
    rw [e]
    exact Ent.trans (Ent.cons (Ent.cons ((Ent.nil _).trans (Ent.nil_row _ _)))) hd
  have e := hfin (.inl (by omega))
  refine hl_off rfl rfl rfl rfl rfl rfl <| hl_off rfl rfl rfl rfl rfl rfl <| hl_off rfl rfl rfl rfl rfl rfl <| hl_off rfl rfl rfl rfl rfl rfl <| hl_v (ov_pickF rfl rfl) rfl <| hl_nil <| ?_
  refine hx_then_normal <| hc_cond_false rfl <| hc_exit <| hx_then_exit <| hx_then_exit <| hx_block_out <| ?_
  refine hx_then_normal <| hc_region <| hl_v (ov_move rfl) rfl <| hl_v (ov_nil rfl) rfl <| hl_v (ov_fieldA rfl) rfl <| hl_u0 (on_storeN rfl rfl rfl rfl rfl) rfl rfl <| ?_
  refine hl_nil <| ?_
  refine results_0 (.inl rfl) rfl fun w' H' => ⟨rfl, H'.ent ?_⟩
  have hd := dsk_mk (tD := 59) (tL := 116) (g := g) (S := settleL kept 0 S P) (P := []) (A0 := A0) (c0 := c0) (A1 := none) (c1 := 0) (l := [])
  rw [e, hsl] at hd
  rw [e]
  exact Ent.trans (Ent.cons (Ent.cons ((Ent.nil _).trans (Ent.nil_row _ _)))) hd
end Go.Proofs.Ytijaldfiaeafgaa
