import Derived.Test.YtpgpfcplchaleaaCodD
set_option linter.unusedVariables false
set_option linter.unusedSimpArgs false
namespace Go.Proofs.Ytpgpfcplchaleaa
open Slk
theorem num_spec (D : Nat → Prop) (w : World) (g t k : Nat) (s : RS) (hk : k ≤ 6) (H : Own D w w [blk g t [s.v, .bool s.bad]]) (HA : Old D w (Rep.rep s.rem [s.v])) :
    Calls Try.prog 47 #[.pointer (some ⟨g, 0, none⟩), .int .i64 k] w fun e w' => e = .returned (.int .u64 (getN s k)) ∧ Own D w w' [blk g t [(getS s k).v, .bool (getS s k).bad]] := by
  obtain ⟨A, cap, hv, hc1, hc2, HS⟩ := HA.openB
  obtain ⟨xs, v, bad⟩ := s
  dsimp only at *
  subst hv
  unfold getN getS
  dsimp only
  refine hc_enter (vs := [.pointer (some ⟨g, 0, none⟩), .int .i64 k]) Try.func47 rfl _ Try.ntmps47 rfl H ?_
  simp only [argSlots, Nat.zero_add]
  refine hc_seq <|
    hc_region <|
    hl_val (ov_assign rfl) rfl rfl rfl <|
    hl_nil <|
    hx_then_normal <|
    hc_seq <| ?_
  refine hc_seq <|
    hc_region <|
    hl_val (ov_move rfl) rfl rfl rfl <|
    hl_val (ov_nil rfl) rfl rfl rfl <|
    hl_val (ov_fieldA rfl) rfl rfl rfl <|
    hl_val (ov_load rfl (CellIs.blk rfl)) rfl rfl rfl <| ?_
  refine hl_val (by first | exact ov_len rfl | exact ov_lenS rfl) rfl rfl rfl <| ?_
  refine hl_val (ov_move rfl) rfl rfl rfl <|
    hl_val (ov_lss rfl rfl) rfl rfl rfl <|
    hl_nil <|
    hx_then_normal <| ?_
  refine hc_cond rfl (fun h => ?_) (fun h => ?_)
  · have hlt : xs.length < k := by omega
    rw [if_pos hlt, if_pos hlt]
    refine hc_seq <|
      hc_region <|
      hl_val (ov_move rfl) rfl rfl rfl <|
      hl_val (ov_move rfl) rfl rfl rfl <|
      hl_val (ov_nil rfl) rfl rfl rfl <|
      hl_val (ov_fieldA rfl) rfl rfl rfl <| ?_
    refine hl_u0 (on_storeN rfl rfl rfl rfl rfl) rfl rfl <|
      hl_val (ov_nil rfl) rfl rfl rfl <|
      hl_val (ov_fieldA rfl) rfl rfl rfl <|
      hl_u0 (on_storeN rfl rfl rfl rfl rfl) rfl rfl <|
      hl_nil <|
      hx_then_normal <| ?_
    refine hc_seq <|
      hc_region <|
      hl_val (ov_assign rfl) rfl rfl rfl <|
      hl_nil <|
      hx_then_normal <|
      hc_ret <| ?_
    refine hx_then_ret <| ?_
    exact results_1 (.inr rfl) rfl rfl fun w' H' => ⟨rfl, H'⟩
  · have hge : ¬ xs.length < k := by omega
    rw [if_neg hge, if_neg hge]
    refine hc_skip <|
      hx_then_normal <|
      hc_seq <|
      hc_region <|
      hl_val (ov_assign rfl) rfl rfl rfl <|
      hl_nil <| ?_
    refine hx_then_normal <|
      hc_seq <|
      hc_seq <|
      hc_region <|
      hl_val (ov_assign rfl) rfl rfl rfl <|
      hl_nil <| ?_
    refine hx_then_normal <|
      hc_block <| ?_
    refine hc_loops2 (σ := Nat) [0, 1] rfl 6 (fun i => .int .i64 (i : Int)) 5 (fun i => .int .u64 ((numB (xs.take i) : Nat) : Int)) (fun i => i ≤ k) (fun i => k - i) (0) (Nat.zero_le _) rfl rfl ?_
    rintro i hj K1 hK1
    refine hc_seq <|
      hc_seq <|
      hc_region <|
      hl_val (ov_move rfl) rfl rfl rfl <|
      hl_val (ov_move rfl) rfl rfl rfl <|
      hl_val (ov_lss rfl rfl) rfl rfl rfl <| ?_
    refine hl_nil <|
      hx_then_normal <| ?_
    refine hc_cond rfl (fun h2 => ?_) (fun h2 => ?_)
    · have hlt : i < xs.length := by omega
      have hA : isA A := HS.isA (by intro h; simp at h; subst h; simp at hlt)
      have hcell : CellIs D w [blk g t [.slice A xs.length cap, .bool bad]] (ab A) (ao A + i * 1) (u8v xs[i]) := by
        rw [Nat.mul_one]
        exact (SrcIs.old HS).cell (by simp [hlt])
      have hx := xs[i].toNat_lt
      have hsn := numB_snoc xs i hlt
      have hb := numB_lt xs i (by omega)
      have hb3 : numB (xs.take i) < 72057594037927936 := Nat.lt_of_lt_of_le hb (by have : 256 ^ i ≤ 256 ^ 7 := Nat.pow_le_pow_right (by decide) (by omega); exact this)
      obtain ⟨m, hm⟩ : ∃ m, m = numB (xs.take i) := ⟨_, rfl⟩
      rw [← hm] at hsn hb3
      unfold u8v at hcell
      refine hc_skip <|
        hx_then_normal <|
        hc_seq <|
        hc_block <|
        hc_region <|
        hl_val (ov_move rfl) rfl rfl rfl <| ?_
      refine hl_val (ov_shl (m := ((m * 256 : Nat) : Int)) rfl rfl (by decide) (by rw [← hm]; show IntKind.u64.wrap ((m : Int) * 256) = _; rw [show (m : Int) * 256 = ((m * 256 : Nat) : Int) by omega]; exact wrap_u64 (by omega))) rfl rfl rfl ?_
      refine hl_val (ov_move rfl) rfl rfl rfl <|
        hl_val (ov_nil rfl) rfl rfl rfl <|
        hl_val (ov_fieldA rfl) rfl rfl rfl <|
        hl_val (ov_load rfl (CellIs.blk rfl)) rfl rfl rfl <|
        hl_val (ov_move rfl) rfl rfl rfl <|
        hl_val (ov_idxS rfl (by assumption) rfl _ rfl (by omega)) rfl rfl rfl <| ?_
      refine hl_val (by first | exact ov_load rfl (by assumption) | exact ov_load rfl (hcl _) | exact ov_load rfl (hcl2 _) | exact ov_load rfl (hcl3 _) | exact ov_load rfl (CellIs.blk rfl)) rfl rfl rfl <| ?_
      refine hl_val (ov_conv rfl (by first | exact wrap_u64 (by omega) | rfl)) rfl rfl rfl <| ?_
      refine hl_val (ov_add (m := ((numB (xs.take (i + 1)) : Nat) : Int)) rfl rfl (by rw [hsn, wrap_u64 (by omega)]; omega)) rfl rfl rfl ?_
      refine hl_val (ov_assign rfl) rfl rfl rfl <|
        hl_nil <|
        hx_block_normal <|
        hx_then_normal <|
        hc_region <|
        hl_val (ov_move rfl) rfl rfl rfl <| ?_
      refine hl_val (ov_add rfl rfl (by first | exact wrap_i64 (by omega) | rfl)) rfl rfl rfl <| ?_
      refine hl_val (ov_assign rfl) rfl rfl rfl <|
        hl_nil <| ?_
      refine hx_next hK1 (i + 1) (by omega) (by omega) (by repeat (first | exact Slots.sub_nil _ | refine Slots.sub_cons rfl ?_)) (by first | assumption | exact Ent.refl _ | exact Ent.nil _ | (repeat (first | exact Ent.refl _ | exact Ent.nil _ | refine Ent.pick ?_)))
    · have hik : i = k := by omega
      subst hik
      refine hc_exit <|
        hx_then_exit <|
        hx_then_exit <|
        hx_block_out <|
        hx_then_normal <|
        hc_seq <| ?_
      refine hc_region <|
        hl_val (ov_move rfl) rfl rfl rfl <|
        hl_val (ov_move rfl) rfl rfl rfl <|
        hl_val (ov_nil rfl) rfl rfl rfl <|
        hl_val (ov_fieldA rfl) rfl rfl rfl <|
        hl_val (ov_load rfl (CellIs.blk rfl)) rfl rfl rfl <| ?_
      refine hl_val (ov_move rfl) rfl rfl rfl <|
        hl_val (ov_slice rfl _ _ (.inr ⟨_, _, rfl, rfl⟩) (.inl ⟨rfl, rfl⟩) (by omega) (by omega)) rfl rfl rfl <|
        hl_val (ov_nil rfl) rfl rfl rfl <|
        hl_val (ov_fieldA rfl) rfl rfl rfl <| ?_
      refine hl_u0 (on_storeE [cutV (.slice A xs.length cap) i, .bool bad] rfl rfl (by simp) rfl rfl) rfl rfl ?_
      refine hl_nil <|
        hx_then_normal <|
        hc_seq <|
        hc_region <|
        hl_val (ov_move rfl) rfl rfl rfl <|
        hl_val (ov_assign rfl) rfl rfl rfl <| ?_
      refine hl_nil <|
        hx_then_normal <|
        hc_ret <| ?_
      exact results_1 (.inr rfl) rfl rfl fun w' H' => ⟨rfl, H'⟩
end Go.Proofs.Ytpgpfcplchaleaa
