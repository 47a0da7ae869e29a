import Derived.Test.YtijaldfiaeafgaaEnt2
set_option linter.unusedVariables false
set_option linter.unusedSimpArgs false
namespace Go.Proofs.Ytijaldfiaeafgaa
open Slk
/-- The bytes of an entry: without its sum; with it. -/
def preL (k : Nat) (a b : Nat) (xs : List UInt8) : List (List UInt8) := [[UInt8.ofNat k], fourB a, fourB b, [UInt8.ofNat (xs.length / 256), UInt8.ofNat xs.length], xs]
abbrev preB (k a b : Nat) (xs : List UInt8) : List UInt8 := (preL k a b xs).flatten
def fullB (k a b : Nat) (xs : List UInt8) : List UInt8 := preB k a b xs ++ fourB (Sm [preB k a b xs])
theorem preB_length (k a b : Nat) (xs : List UInt8) : (preB k a b xs).length = 11 + xs.length := by
  simp [preB, preL, fourB]; omega
theorem fullB_length (k a b : Nat) (xs : List UInt8) : (fullB k a b xs).length = 15 + xs.length := by
  rw [fullB, List.length_append, preB_length, fourB_length]; omega
theorem u8_small (m : Nat) (h : m < 256) : Value.int .u8 (m : Int) = u8v (UInt8.ofNat m) := by
  rw [u8v_ofNat, Nat.mod_eq_of_lt h]
theorem bytes_spec (D : Nat → Prop) (w : World) (k a b : Nat) (v : Value) (xs : List UInt8) (hk : k < 256) (ha : a < 4294967296) (hb : b < 4294967296) (hx : xs.length ≤ 4000) (HA : Old D w (Rep.rep xs [v])) :
    Calls Try.prog 66 #[.agg #[.int .i64 k, .int .u32 a, .int .u32 b, v]] w fun e w' => ∃ q : Option Addr × Nat, e = .returned (.slice q.1 (15 + xs.length) q.2) ∧ Own D w w' [row q.1 5 1 (15 + xs.length) q.2 ((fullB k a b xs).map u8v)] := by
  obtain ⟨A, cap, rfl, hc1, hc2, HS⟩ := HA.openB
  have hk8 : [Value.int .u8 (k : Int)] = [UInt8.ofNat k].map u8v := by rw [u8_small k hk]; rfl
  have hl8 : [Value.int .u8 ((xs.length / 256 : Nat) : Int), Value.int .u8 ((xs.length % 256 : Nat) : Int)] = [UInt8.ofNat (xs.length / 256), UInt8.ofNat xs.length].map u8v := by
    rw [u8_small (xs.length / 256) (by omega), ← u8v_ofNat]; rfl
  refine hc_enter (vs := [.agg #[.int .i64 k, .int .u32 a, .int .u32 b, .slice A xs.length cap]]) Try.func66 rfl _ Try.ntmps66 rfl (Own.start D w) ?_
  simp only [argSlots, Nat.zero_add]
  refine hc_seq <| hc_region <| hl_new (on_boxN rfl rfl) rfl rfl rfl fun b1 =>  ?_
  refine hl_v (ov_assign rfl) rfl <| hl_nil <| hx_then_normal <| hc_seq <| ?_
  refine hc_cutK1 (σ := Option Addr × Nat) [] rfl 3 (fun q => .slice q.1 (preB k a b xs).length q.2) (fun q => [row q.1 5 1 (preB k a b xs).length q.2 ((preB k a b xs).map u8v)]) (fun K1 hK1 => ?_) (fun q => ?_)
  · refine hc_any [blk b1 142 [.int .i64 k, .int .u32 a, .int .u32 b, .slice A xs.length cap]] mixed 28 rfl ?_
    refine ha_v 0 rfl (ov_fieldA rfl) rfl <| ?_
    refine ha_v 1 rfl (ov_fieldA rfl) rfl <| ?_
    refine ha_v 2 rfl (ov_load rfl (CellIs.blk rfl)) rfl <| ?_
    refine ha_v 3 rfl (ov_conv rfl (by first | exact wrap_u8 (by omega) | rfl)) rfl <| ?_
    refine ha_v 5 rfl (ov_fieldA rfl) rfl <| ?_
    refine ha_v 6 rfl (ov_fieldA rfl) rfl <| ?_
    refine ha_v 7 rfl (ov_load rfl (CellIs.blk rfl)) rfl <| ?_
    refine ha_v 9 rfl (ov_fieldA rfl) rfl <| ?_
    refine ha_v 10 rfl (ov_fieldA rfl) rfl <| ?_
    refine ha_v 11 rfl (ov_load rfl (CellIs.blk rfl)) rfl <| ?_
    refine ha_v 13 rfl (ov_fieldA rfl) rfl <| ?_
    refine ha_v 14 rfl (ov_load rfl (CellIs.blk rfl)) rfl <| ?_
    refine ha_v 15 rfl (by first | exact ov_len rfl | exact ov_lenS rfl) rfl <| ?_
    refine ha_v 16 rfl (ov_shr (m := ((xs.length / 256 : Nat) : Int)) rfl rfl (by decide) (shr_nat _ 8)) rfl ?_
    refine ha_v 17 rfl (ov_conv rfl (by first | exact wrap_u8 (by omega) | rfl)) rfl <| ?_
    refine ha_v 18 rfl (ov_fieldA rfl) rfl <| ?_
    refine ha_v 19 rfl (ov_load rfl (CellIs.blk rfl)) rfl <| ?_
    refine ha_v 20 rfl (by first | exact ov_len rfl | exact ov_lenS rfl) rfl <| ?_
    refine ha_v 23 rfl (ov_fieldA rfl) rfl <| ?_
    refine ha_v 24 rfl (ov_load rfl (CellIs.blk rfl)) rfl <| ?_
    refine ha_v 21 rfl (ov_conv (m := ((xs.length % 256 : Nat) : Int)) rfl (wrap8 _)) rfl ?_
    refine ha_three 4 8 22 (by kernel_rfl) ?_ ?_ ?_
    · skip
      refine ho_n rfl (on_buildSliceN rfl rfl rfl) rfl (fun b8 => ?_)
      refine ha_two 8 22 (by kernel_rfl) ?_ ?_
      · skip
        refine ho_kx (σ := Nat) rfl Try.call74 rfl (fun w1 H1 => Own.callx0 H1 fun D' hold hin H2 => four_spec D' w1 a ha) ?_
        intro q12
        try rw [List.nil_append]
        refine ha_two 12 22 (by kernel_rfl) ?_ ?_
        · skip
          refine ho_kx (σ := Nat) rfl Try.call74 rfl (fun w1 H1 => Own.callx0 H1 fun D' hold hin H2 => four_spec D' w1 b hb) ?_
          intro q16
          try rw [List.nil_append]
          refine ha_one 22 (by kernel_rfl) <| ?_
          refine ho_n rfl (on_buildSliceN rfl rfl rfl) rfl (fun b26 => ?_)
          refine ha_one 25 (by kernel_rfl) <| ?_
          refine ho_n rfl (on_buildSliceN rfl rfl rfl) rfl (fun b29 => ?_)
          refine ha_one 26 (by kernel_rfl) <| ?_
          refine ho_kx (σ := Option Addr × Nat) rfl Try.call58 rfl (fun w1 H1 => Own.callx0 H1 fun D' hold hin H2 => Concat_spec D' w1 _ (preL k a b xs) (by rw [show (preL k a b xs).flatten.length = 11 + xs.length from preB_length k a b xs]; omega) (hin _ fun h hs ho => rep_lits (b := b29) hs (preL k a b xs) ⟨[_], [_, _, _, _], rfl, rep_bytes (b := b8) hs [UInt8.ofNat k] hk8 (by simp), [_], [_, _, _], rfl, rep_row (A := some ⟨q12, 0, none⟩) hs (fourB a) rfl (repL_bytes.2 rfl), [_], [_, _], rfl, rep_row (A := some ⟨q16, 0, none⟩) hs (fourB b) rfl (repL_bytes.2 rfl), [_], [_], rfl, rep_bytes (b := b26) hs [UInt8.ofNat (xs.length / 256), UInt8.ofNat xs.length] hl8 (by simp), [_], [], rfl, rep_old ho HA, rfl⟩ (by simp [preL]))) ?_
          intro q30
          try rw [List.nil_append]
          refine ha_v 27 rfl (ov_assign rfl) rfl <| ?_
          refine ha_done (by kernel_rfl) <| ?_
          refine hx_cut hK1 (q30) (by repeat (first | exact Slots.sub_nil _ | refine Slots.sub_cons rfl ?_)) (by first | assumption | exact Ent.refl _ | exact Ent.nil _ | (repeat (first | exact Ent.refl _ | exact Ent.nil _ | refine Ent.pick ?_)))
        skip
        refine ho_n rfl (on_buildSliceN rfl rfl rfl) rfl (fun b26 => ?_)
        refine ha_one 12 (by kernel_rfl) <| ?_
        refine ho_kx (σ := Nat) rfl Try.call74 rfl (fun w1 H1 => Own.callx0 H1 fun D' hold hin H2 => four_spec D' w1 b hb) ?_
        intro q16
        try rw [List.nil_append]
        refine ha_one 25 (by kernel_rfl) <| ?_
        refine ho_n rfl (on_buildSliceN rfl rfl rfl) rfl (fun b29 => ?_)
        refine ha_one 26 (by kernel_rfl) <| ?_
        refine ho_kx (σ := Option Addr × Nat) rfl Try.call58 rfl (fun w1 H1 => Own.callx0 H1 fun D' hold hin H2 => Concat_spec D' w1 _ (preL k a b xs) (by rw [show (preL k a b xs).flatten.length = 11 + xs.length from preB_length k a b xs]; omega) (hin _ fun h hs ho => rep_lits (b := b29) hs (preL k a b xs) ⟨[_], [_, _, _, _], rfl, rep_bytes (b := b8) hs [UInt8.ofNat k] hk8 (by simp), [_], [_, _, _], rfl, rep_row (A := some ⟨q12, 0, none⟩) hs (fourB a) rfl (repL_bytes.2 rfl), [_], [_, _], rfl, rep_row (A := some ⟨q16, 0, none⟩) hs (fourB b) rfl (repL_bytes.2 rfl), [_], [_], rfl, rep_bytes (b := b26) hs [UInt8.ofNat (xs.length / 256), UInt8.ofNat xs.length] hl8 (by simp), [_], [], rfl, rep_old ho HA, rfl⟩ (by simp [preL]))) ?_
        intro q30
        try rw [List.nil_append]
        refine ha_v 27 rfl (ov_assign rfl) rfl <| ?_
        refine ha_done (by kernel_rfl) <| ?_
        refine hx_cut hK1 (q30) (by repeat (first | exact Slots.sub_nil _ | refine Slots.sub_cons rfl ?_)) (by first | assumption | exact Ent.refl _ | exact Ent.nil _ | (repeat (first | exact Ent.refl _ | exact Ent.nil _ | refine Ent.pick ?_)))
      skip
      refine ho_n rfl (on_buildSliceN rfl rfl rfl) rfl (fun b26 => ?_)
      refine ha_one 8 (by kernel_rfl) <| ?_
      refine ho_kx (σ := Nat) rfl Try.call74 rfl (fun w1 H1 => Own.callx0 H1 fun D' hold hin H2 => four_spec D' w1 a ha) ?_
      intro q12
      try rw [List.nil_append]
      refine ha_one 12 (by kernel_rfl) <| ?_
      refine ho_kx (σ := Nat) rfl Try.call74 rfl (fun w1 H1 => Own.callx0 H1 fun D' hold hin H2 => four_spec D' w1 b hb) ?_
      intro q16
      try rw [List.nil_append]
      refine ha_one 25 (by kernel_rfl) <| ?_
      refine ho_n rfl (on_buildSliceN rfl rfl rfl) rfl (fun b29 => ?_)
      refine ha_one 26 (by kernel_rfl) <| ?_
      refine ho_kx (σ := Option Addr × Nat) rfl Try.call58 rfl (fun w1 H1 => Own.callx0 H1 fun D' hold hin H2 => Concat_spec D' w1 _ (preL k a b xs) (by rw [show (preL k a b xs).flatten.length = 11 + xs.length from preB_length k a b xs]; omega) (hin _ fun h hs ho => rep_lits (b := b29) hs (preL k a b xs) ⟨[_], [_, _, _, _], rfl, rep_bytes (b := b8) hs [UInt8.ofNat k] hk8 (by simp), [_], [_, _, _], rfl, rep_row (A := some ⟨q12, 0, none⟩) hs (fourB a) rfl (repL_bytes.2 rfl), [_], [_, _], rfl, rep_row (A := some ⟨q16, 0, none⟩) hs (fourB b) rfl (repL_bytes.2 rfl), [_], [_], rfl, rep_bytes (b := b26) hs [UInt8.ofNat (xs.length / 256), UInt8.ofNat xs.length] hl8 (by simp), [_], [], rfl, rep_old ho HA, rfl⟩ (by simp [preL]))) ?_
      intro q30
      try rw [List.nil_append]
      refine ha_v 27 rfl (ov_assign rfl) rfl <| ?_
      refine ha_done (by kernel_rfl) <| ?_
      refine hx_cut hK1 (q30) (by repeat (first | exact Slots.sub_nil _ | refine Slots.sub_cons rfl ?_)) (by first | assumption | exact Ent.refl _ | exact Ent.nil _ | (repeat (first | exact Ent.refl _ | exact Ent.nil _ | refine Ent.pick ?_)))
    · skip
      refine ho_kx (σ := Nat) rfl Try.call74 rfl (fun w1 H1 => Own.callx0 H1 fun D' hold hin H2 => four_spec D' w1 a ha) ?_
      intro q12
      try rw [List.nil_append]
      refine ha_three 4 12 22 (by kernel_rfl) ?_ ?_ ?_
      · skip
        refine ho_n rfl (on_buildSliceN rfl rfl rfl) rfl (fun b8 => ?_)
        refine ha_two 12 22 (by kernel_rfl) ?_ ?_
        · skip
          refine ho_kx (σ := Nat) rfl Try.call74 rfl (fun w1 H1 => Own.callx0 H1 fun D' hold hin H2 => four_spec D' w1 b hb) ?_
          intro q16
          try rw [List.nil_append]
          refine ha_one 22 (by kernel_rfl) <| ?_
          refine ho_n rfl (on_buildSliceN rfl rfl rfl) rfl (fun b26 => ?_)
          refine ha_one 25 (by kernel_rfl) <| ?_
          refine ho_n rfl (on_buildSliceN rfl rfl rfl) rfl (fun b29 => ?_)
          refine ha_one 26 (by kernel_rfl) <| ?_
          refine ho_kx (σ := Option Addr × Nat) rfl Try.call58 rfl (fun w1 H1 => Own.callx0 H1 fun D' hold hin H2 => Concat_spec D' w1 _ (preL k a b xs) (by rw [show (preL k a b xs).flatten.length = 11 + xs.length from preB_length k a b xs]; omega) (hin _ fun h hs ho => rep_lits (b := b29) hs (preL k a b xs) ⟨[_], [_, _, _, _], rfl, rep_bytes (b := b8) hs [UInt8.ofNat k] hk8 (by simp), [_], [_, _, _], rfl, rep_row (A := some ⟨q12, 0, none⟩) hs (fourB a) rfl (repL_bytes.2 rfl), [_], [_, _], rfl, rep_row (A := some ⟨q16, 0, none⟩) hs (fourB b) rfl (repL_bytes.2 rfl), [_], [_], rfl, rep_bytes (b := b26) hs [UInt8.ofNat (xs.length / 256), UInt8.ofNat xs.length] hl8 (by simp), [_], [], rfl, rep_old ho HA, rfl⟩ (by simp [preL]))) ?_
          intro q30
          try rw [List.nil_append]
          refine ha_v 27 rfl (ov_assign rfl) rfl <| ?_
          refine ha_done (by kernel_rfl) <| ?_
          refine hx_cut hK1 (q30) (by repeat (first | exact Slots.sub_nil _ | refine Slots.sub_cons rfl ?_)) (by first | assumption | exact Ent.refl _ | exact Ent.nil _ | (repeat (first | exact Ent.refl _ | exact Ent.nil _ | refine Ent.pick ?_)))
        skip
        refine ho_n rfl (on_buildSliceN rfl rfl rfl) rfl (fun b26 => ?_)
        refine ha_one 12 (by kernel_rfl) <| ?_
        refine ho_kx (σ := Nat) rfl Try.call74 rfl (fun w1 H1 => Own.callx0 H1 fun D' hold hin H2 => four_spec D' w1 b hb) ?_
        intro q16
        try rw [List.nil_append]
        refine ha_one 25 (by kernel_rfl) <| ?_
        refine ho_n rfl (on_buildSliceN rfl rfl rfl) rfl (fun b29 => ?_)
        refine ha_one 26 (by kernel_rfl) <| ?_
        refine ho_kx (σ := Option Addr × Nat) rfl Try.call58 rfl (fun w1 H1 => Own.callx0 H1 fun D' hold hin H2 => Concat_spec D' w1 _ (preL k a b xs) (by rw [show (preL k a b xs).flatten.length = 11 + xs.length from preB_length k a b xs]; omega) (hin _ fun h hs ho => rep_lits (b := b29) hs (preL k a b xs) ⟨[_], [_, _, _, _], rfl, rep_bytes (b := b8) hs [UInt8.ofNat k] hk8 (by simp), [_], [_, _, _], rfl, rep_row (A := some ⟨q12, 0, none⟩) hs (fourB a) rfl (repL_bytes.2 rfl), [_], [_, _], rfl, rep_row (A := some ⟨q16, 0, none⟩) hs (fourB b) rfl (repL_bytes.2 rfl), [_], [_], rfl, rep_bytes (b := b26) hs [UInt8.ofNat (xs.length / 256), UInt8.ofNat xs.length] hl8 (by simp), [_], [], rfl, rep_old ho HA, rfl⟩ (by simp [preL]))) ?_
        intro q30
        try rw [List.nil_append]
        refine ha_v 27 rfl (ov_assign rfl) rfl <| ?_
        refine ha_done (by kernel_rfl) <| ?_
        refine hx_cut hK1 (q30) (by repeat (first | exact Slots.sub_nil _ | refine Slots.sub_cons rfl ?_)) (by first | assumption | exact Ent.refl _ | exact Ent.nil _ | (repeat (first | exact Ent.refl _ | exact Ent.nil _ | refine Ent.pick ?_)))
      · skip
        refine ho_kx (σ := Nat) rfl Try.call74 rfl (fun w1 H1 => Own.callx0 H1 fun D' hold hin H2 => four_spec D' w1 b hb) ?_
        intro q16
        try rw [List.nil_append]
        refine ha_two 4 22 (by kernel_rfl) ?_ ?_
        · skip
          refine ho_n rfl (on_buildSliceN rfl rfl rfl) rfl (fun b8 => ?_)
          refine ha_one 22 (by kernel_rfl) <| ?_
          refine ho_n rfl (on_buildSliceN rfl rfl rfl) rfl (fun b26 => ?_)
          refine ha_one 25 (by kernel_rfl) <| ?_
          refine ho_n rfl (on_buildSliceN rfl rfl rfl) rfl (fun b29 => ?_)
          refine ha_one 26 (by kernel_rfl) <| ?_
          refine ho_kx (σ := Option Addr × Nat) rfl Try.call58 rfl (fun w1 H1 => Own.callx0 H1 fun D' hold hin H2 => Concat_spec D' w1 _ (preL k a b xs) (by rw [show (preL k a b xs).flatten.length = 11 + xs.length from preB_length k a b xs]; omega) (hin _ fun h hs ho => rep_lits (b := b29) hs (preL k a b xs) ⟨[_], [_, _, _, _], rfl, rep_bytes (b := b8) hs [UInt8.ofNat k] hk8 (by simp), [_], [_, _, _], rfl, rep_row (A := some ⟨q12, 0, none⟩) hs (fourB a) rfl (repL_bytes.2 rfl), [_], [_, _], rfl, rep_row (A := some ⟨q16, 0, none⟩) hs (fourB b) rfl (repL_bytes.2 rfl), [_], [_], rfl, rep_bytes (b := b26) hs [UInt8.ofNat (xs.length / 256), UInt8.ofNat xs.length] hl8 (by simp), [_], [], rfl, rep_old ho HA, rfl⟩ (by simp [preL]))) ?_
          intro q30
          try rw [List.nil_append]
          refine ha_v 27 rfl (ov_assign rfl) rfl <| ?_
          refine ha_done (by kernel_rfl) <| ?_
          refine hx_cut hK1 (q30) (by repeat (first | exact Slots.sub_nil _ | refine Slots.sub_cons rfl ?_)) (by first | assumption | exact Ent.refl _ | exact Ent.nil _ | (repeat (first | exact Ent.refl _ | exact Ent.nil _ | refine Ent.pick ?_)))
        skip
        refine ho_n rfl (on_buildSliceN rfl rfl rfl) rfl (fun b26 => ?_)
        refine ha_one 4 (by kernel_rfl) <| ?_
        refine ho_n rfl (on_buildSliceN rfl rfl rfl) rfl (fun b8 => ?_)
        refine ha_one 25 (by kernel_rfl) <| ?_
        refine ho_n rfl (on_buildSliceN rfl rfl rfl) rfl (fun b29 => ?_)
        refine ha_one 26 (by kernel_rfl) <| ?_
        refine ho_kx (σ := Option Addr × Nat) rfl Try.call58 rfl (fun w1 H1 => Own.callx0 H1 fun D' hold hin H2 => Concat_spec D' w1 _ (preL k a b xs) (by rw [show (preL k a b xs).flatten.length = 11 + xs.length from preB_length k a b xs]; omega) (hin _ fun h hs ho => rep_lits (b := b29) hs (preL k a b xs) ⟨[_], [_, _, _, _], rfl, rep_bytes (b := b8) hs [UInt8.ofNat k] hk8 (by simp), [_], [_, _, _], rfl, rep_row (A := some ⟨q12, 0, none⟩) hs (fourB a) rfl (repL_bytes.2 rfl), [_], [_, _], rfl, rep_row (A := some ⟨q16, 0, none⟩) hs (fourB b) rfl (repL_bytes.2 rfl), [_], [_], rfl, rep_bytes (b := b26) hs [UInt8.ofNat (xs.length / 256), UInt8.ofNat xs.length] hl8 (by simp), [_], [], rfl, rep_old ho HA, rfl⟩ (by simp [preL]))) ?_
        intro q30
        try rw [List.nil_append]
        refine ha_v 27 rfl (ov_assign rfl) rfl <| ?_
        refine ha_done (by kernel_rfl) <| ?_
        refine hx_cut hK1 (q30) (by repeat (first | exact Slots.sub_nil _ | refine Slots.sub_cons rfl ?_)) (by first | assumption | exact Ent.refl _ | exact Ent.nil _ | (repeat (first | exact Ent.refl _ | exact Ent.nil _ | refine Ent.pick ?_)))
      skip
      refine ho_n rfl (on_buildSliceN rfl rfl rfl) rfl (fun b26 => ?_)
      refine ha_two 4 12 (by kernel_rfl) ?_ ?_
      · skip
        refine ho_n rfl (on_buildSliceN rfl rfl rfl) rfl (fun b8 => ?_)
        refine ha_one 12 (by kernel_rfl) <| ?_
        refine ho_kx (σ := Nat) rfl Try.call74 rfl (fun w1 H1 => Own.callx0 H1 fun D' hold hin H2 => four_spec D' w1 b hb) ?_
        intro q16
        try rw [List.nil_append]
        refine ha_one 25 (by kernel_rfl) <| ?_
        refine ho_n rfl (on_buildSliceN rfl rfl rfl) rfl (fun b29 => ?_)
        refine ha_one 26 (by kernel_rfl) <| ?_
        refine ho_kx (σ := Option Addr × Nat) rfl Try.call58 rfl (fun w1 H1 => Own.callx0 H1 fun D' hold hin H2 => Concat_spec D' w1 _ (preL k a b xs) (by rw [show (preL k a b xs).flatten.length = 11 + xs.length from preB_length k a b xs]; omega) (hin _ fun h hs ho => rep_lits (b := b29) hs (preL k a b xs) ⟨[_], [_, _, _, _], rfl, rep_bytes (b := b8) hs [UInt8.ofNat k] hk8 (by simp), [_], [_, _, _], rfl, rep_row (A := some ⟨q12, 0, none⟩) hs (fourB a) rfl (repL_bytes.2 rfl), [_], [_, _], rfl, rep_row (A := some ⟨q16, 0, none⟩) hs (fourB b) rfl (repL_bytes.2 rfl), [_], [_], rfl, rep_bytes (b := b26) hs [UInt8.ofNat (xs.length / 256), UInt8.ofNat xs.length] hl8 (by simp), [_], [], rfl, rep_old ho HA, rfl⟩ (by simp [preL]))) ?_
        intro q30
        try rw [List.nil_append]
        refine ha_v 27 rfl (ov_assign rfl) rfl <| ?_
        refine ha_done (by kernel_rfl) <| ?_
        refine hx_cut hK1 (q30) (by repeat (first | exact Slots.sub_nil _ | refine Slots.sub_cons rfl ?_)) (by first | assumption | exact Ent.refl _ | exact Ent.nil _ | (repeat (first | exact Ent.refl _ | exact Ent.nil _ | refine Ent.pick ?_)))
      skip
      refine ho_kx (σ := Nat) rfl Try.call74 rfl (fun w1 H1 => Own.callx0 H1 fun D' hold hin H2 => four_spec D' w1 b hb) ?_
      intro q16
      try rw [List.nil_append]
      refine ha_one 4 (by kernel_rfl) <| ?_
      refine ho_n rfl (on_buildSliceN rfl rfl rfl) rfl (fun b8 => ?_)
      refine ha_one 25 (by kernel_rfl) <| ?_
      refine ho_n rfl (on_buildSliceN rfl rfl rfl) rfl (fun b29 => ?_)
      refine ha_one 26 (by kernel_rfl) <| ?_
      refine ho_kx (σ := Option Addr × Nat) rfl Try.call58 rfl (fun w1 H1 => Own.callx0 H1 fun D' hold hin H2 => Concat_spec D' w1 _ (preL k a b xs) (by rw [show (preL k a b xs).flatten.length = 11 + xs.length from preB_length k a b xs]; omega) (hin _ fun h hs ho => rep_lits (b := b29) hs (preL k a b xs) ⟨[_], [_, _, _, _], rfl, rep_bytes (b := b8) hs [UInt8.ofNat k] hk8 (by simp), [_], [_, _, _], rfl, rep_row (A := some ⟨q12, 0, none⟩) hs (fourB a) rfl (repL_bytes.2 rfl), [_], [_, _], rfl, rep_row (A := some ⟨q16, 0, none⟩) hs (fourB b) rfl (repL_bytes.2 rfl), [_], [_], rfl, rep_bytes (b := b26) hs [UInt8.ofNat (xs.length / 256), UInt8.ofNat xs.length] hl8 (by simp), [_], [], rfl, rep_old ho HA, rfl⟩ (by simp [preL]))) ?_
      intro q30
      try rw [List.nil_append]
      refine ha_v 27 rfl (ov_assign rfl) rfl <| ?_
      refine ha_done (by kernel_rfl) <| ?_
      refine hx_cut hK1 (q30) (by repeat (first | exact Slots.sub_nil _ | refine Slots.sub_cons rfl ?_)) (by first | assumption | exact Ent.refl _ | exact Ent.nil _ | (repeat (first | exact Ent.refl _ | exact Ent.nil _ | refine Ent.pick ?_)))
    skip
    refine ho_n rfl (on_buildSliceN rfl rfl rfl) rfl (fun b26 => ?_)
    refine ha_two 4 8 (by kernel_rfl) ?_ ?_
    · skip
      refine ho_n rfl (on_buildSliceN rfl rfl rfl) rfl (fun b8 => ?_)
      refine ha_one 8 (by kernel_rfl) <| ?_
      refine ho_kx (σ := Nat) rfl Try.call74 rfl (fun w1 H1 => Own.callx0 H1 fun D' hold hin H2 => four_spec D' w1 a ha) ?_
      intro q12
      try rw [List.nil_append]
      refine ha_one 12 (by kernel_rfl) <| ?_
      refine ho_kx (σ := Nat) rfl Try.call74 rfl (fun w1 H1 => Own.callx0 H1 fun D' hold hin H2 => four_spec D' w1 b hb) ?_
      intro q16
      try rw [List.nil_append]
      refine ha_one 25 (by kernel_rfl) <| ?_
      refine ho_n rfl (on_buildSliceN rfl rfl rfl) rfl (fun b29 => ?_)
      refine ha_one 26 (by kernel_rfl) <| ?_
      refine ho_kx (σ := Option Addr × Nat) rfl Try.call58 rfl (fun w1 H1 => Own.callx0 H1 fun D' hold hin H2 => Concat_spec D' w1 _ (preL k a b xs) (by rw [show (preL k a b xs).flatten.length = 11 + xs.length from preB_length k a b xs]; omega) (hin _ fun h hs ho => rep_lits (b := b29) hs (preL k a b xs) ⟨[_], [_, _, _, _], rfl, rep_bytes (b := b8) hs [UInt8.ofNat k] hk8 (by simp), [_], [_, _, _], rfl, rep_row (A := some ⟨q12, 0, none⟩) hs (fourB a) rfl (repL_bytes.2 rfl), [_], [_, _], rfl, rep_row (A := some ⟨q16, 0, none⟩) hs (fourB b) rfl (repL_bytes.2 rfl), [_], [_], rfl, rep_bytes (b := b26) hs [UInt8.ofNat (xs.length / 256), UInt8.ofNat xs.length] hl8 (by simp), [_], [], rfl, rep_old ho HA, rfl⟩ (by simp [preL]))) ?_
      intro q30
      try rw [List.nil_append]
      refine ha_v 27 rfl (ov_assign rfl) rfl <| ?_
      refine ha_done (by kernel_rfl) <| ?_
      refine hx_cut hK1 (q30) (by repeat (first | exact Slots.sub_nil _ | refine Slots.sub_cons rfl ?_)) (by first | assumption | exact Ent.refl _ | exact Ent.nil _ | (repeat (first | exact Ent.refl _ | exact Ent.nil _ | refine Ent.pick ?_)))
    skip
    refine ho_kx (σ := Nat) rfl Try.call74 rfl (fun w1 H1 => Own.callx0 H1 fun D' hold hin H2 => four_spec D' w1 a ha) ?_
    intro q12
    try rw [List.nil_append]
    refine ha_two 4 12 (by kernel_rfl) ?_ ?_
    · skip
      refine ho_n rfl (on_buildSliceN rfl rfl rfl) rfl (fun b8 => ?_)
      refine ha_one 12 (by kernel_rfl) <| ?_
      refine ho_kx (σ := Nat) rfl Try.call74 rfl (fun w1 H1 => Own.callx0 H1 fun D' hold hin H2 => four_spec D' w1 b hb) ?_
      intro q16
      try rw [List.nil_append]
      refine ha_one 25 (by kernel_rfl) <| ?_
      refine ho_n rfl (on_buildSliceN rfl rfl rfl) rfl (fun b29 => ?_)
      refine ha_one 26 (by kernel_rfl) <| ?_
      refine ho_kx (σ := Option Addr × Nat) rfl Try.call58 rfl (fun w1 H1 => Own.callx0 H1 fun D' hold hin H2 => Concat_spec D' w1 _ (preL k a b xs) (by rw [show (preL k a b xs).flatten.length = 11 + xs.length from preB_length k a b xs]; omega) (hin _ fun h hs ho => rep_lits (b := b29) hs (preL k a b xs) ⟨[_], [_, _, _, _], rfl, rep_bytes (b := b8) hs [UInt8.ofNat k] hk8 (by simp), [_], [_, _, _], rfl, rep_row (A := some ⟨q12, 0, none⟩) hs (fourB a) rfl (repL_bytes.2 rfl), [_], [_, _], rfl, rep_row (A := some ⟨q16, 0, none⟩) hs (fourB b) rfl (repL_bytes.2 rfl), [_], [_], rfl, rep_bytes (b := b26) hs [UInt8.ofNat (xs.length / 256), UInt8.ofNat xs.length] hl8 (by simp), [_], [], rfl, rep_old ho HA, rfl⟩ (by simp [preL]))) ?_
      intro q30
      try rw [List.nil_append]
      refine ha_v 27 rfl (ov_assign rfl) rfl <| ?_
      refine ha_done (by kernel_rfl) <| ?_
      refine hx_cut hK1 (q30) (by repeat (first | exact Slots.sub_nil _ | refine Slots.sub_cons rfl ?_)) (by first | assumption | exact Ent.refl _ | exact Ent.nil _ | (repeat (first | exact Ent.refl _ | exact Ent.nil _ | refine Ent.pick ?_)))
    skip
    refine ho_kx (σ := Nat) rfl Try.call74 rfl (fun w1 H1 => Own.callx0 H1 fun D' hold hin H2 => four_spec D' w1 b hb) ?_
    intro q16
    try rw [List.nil_append]
    refine ha_one 4 (by kernel_rfl) <| ?_
    refine ho_n rfl (on_buildSliceN rfl rfl rfl) rfl (fun b8 => ?_)
    refine ha_one 25 (by kernel_rfl) <| ?_
    refine ho_n rfl (on_buildSliceN rfl rfl rfl) rfl (fun b29 => ?_)
    refine ha_one 26 (by kernel_rfl) <| ?_
    refine ho_kx (σ := Option Addr × Nat) rfl Try.call58 rfl (fun w1 H1 => Own.callx0 H1 fun D' hold hin H2 => Concat_spec D' w1 _ (preL k a b xs) (by rw [show (preL k a b xs).flatten.length = 11 + xs.length from preB_length k a b xs]; omega) (hin _ fun h hs ho => rep_lits (b := b29) hs (preL k a b xs) ⟨[_], [_, _, _, _], rfl, rep_bytes (b := b8) hs [UInt8.ofNat k] hk8 (by simp), [_], [_, _, _], rfl, rep_row (A := some ⟨q12, 0, none⟩) hs (fourB a) rfl (repL_bytes.2 rfl), [_], [_, _], rfl, rep_row (A := some ⟨q16, 0, none⟩) hs (fourB b) rfl (repL_bytes.2 rfl), [_], [_], rfl, rep_bytes (b := b26) hs [UInt8.ofNat (xs.length / 256), UInt8.ofNat xs.length] hl8 (by simp), [_], [], rfl, rep_old ho HA, rfl⟩ (by simp [preL]))) ?_
    intro q30
    try rw [List.nil_append]
    refine ha_v 27 rfl (ov_assign rfl) rfl <| ?_
    refine ha_done (by kernel_rfl) <| ?_
    refine hx_cut hK1 (q30) (by repeat (first | exact Slots.sub_nil _ | refine Slots.sub_cons rfl ?_)) (by first | assumption | exact Ent.refl _ | exact Ent.nil _ | (repeat (first | exact Ent.refl _ | exact Ent.nil _ | refine Ent.pick ?_)))
  refine hx_then_normal <| hc_seq <| hc_region <| hl_v (ov_move rfl) rfl <| hl_v (ov_move rfl) rfl <| hl_new (on_buildSliceN rfl rfl rfl) rfl rfl rfl fun b33 =>  ?_
  refine hl_c Try.call75 rfl rfl (fun w1 H1 => Own.calln H1 fun D' hold hin H2 => Sum_spec D' w1 _ [preB k a b xs] (hin _ fun h hs ho => rep_lits (b := b33) hs _ ⟨[_], [], rfl, rep_row (A := q.1) hs (preB k a b xs) rfl (repL_bytes.2 rfl), rfl⟩ (by simp))) ?_
  refine hl_call (σ := Nat) Try.call74 rfl rfl (fun w1 H1 => Own.callx0 H1 fun D' hold hin H2 => four_spec D' w1 (Sm [preB k a b xs]) (Sm_lt _)) ?_
  intro q34
  try rw [List.nil_append]
  refine hl_new (on_appendR (news := (fourB (Sm [preB k a b xs])).map u8v) rfl rfl (SrcIs.rowR (A := some ⟨q34, 0, none⟩) (fun _ => rfl)) (by simp [fourB]) (u8_one _) (by decide) (by rw [preB_length]; omega)) rfl rfl rfl (fun q35 => ?_)
  refine hl_v (ov_assign rfl) rfl <| hl_nil <| hx_then_normal <| hc_ret <| ?_
  have e1 : (preB k a b xs).length + 4 = 15 + xs.length := by rw [preB_length]; omega
  have e2 : (preB k a b xs).map u8v ++ (fourB (Sm [preB k a b xs])).map u8v = (fullB k a b xs).map u8v := by rw [fullB, List.map_append]
  rw [e1, e2]
  exact results_1 (.inr rfl) rfl rfl fun w' H' => ⟨q35, rfl, H'.ent (by first | assumption | exact Ent.refl _ | exact Ent.nil _ | exact Ent.row_any (Ent.refl _) | (repeat (first | exact Ent.refl _ | exact Ent.nil _ | refine Ent.pick ?_)))⟩
end Go.Proofs.Ytijaldfiaeafgaa
