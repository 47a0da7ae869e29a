import Derived.Test.YtjlolpmmpafjeaaGreatZ15
import Derived.Test.YtjlolpmmpafjeaaGreatZ02
set_option linter.unusedVariables false
set_option linter.unusedSimpArgs false
namespace Go.Proofs.YtjlolpmmpafjeaaGreat
open Slk
def preL (k : Nat) (a b : Nat) (xs : List UInt8) : List (List UInt8) := [[UInt8.ofNat k], fourB a, fourB b, [UInt8.ofNat (xs.length / 256), UInt8.ofNat xs.length], xs]
abbrev preB (k a b : Nat) (xs : List UInt8) : List UInt8 := (preL k a b xs).flatten
def fullB (k a b : Nat) (xs : List UInt8) : List UInt8 := preB k a b xs ++ fourB (Sm [preB k a b xs])
theorem preB_length (k a b : Nat) (xs : List UInt8) : (preB k a b xs).length = 11 + xs.length := by
  simp [preB, preL, fourB]; omega
theorem fullB_length (k a b : Nat) (xs : List UInt8) : (fullB k a b xs).length = 15 + xs.length := by
  rw [fullB, List.length_append, preB_length, fourB_length]; omega
theorem u8_small (m : Nat) (h : m < 256) : Value.int .u8 (m : Int) = u8v (UInt8.ofNat m) := by
  rw [u8v_ofNatE, Nat.mod_eq_of_lt h]
theorem bytes_spec (D : Nat → Prop) (w : World) (k a b : Nat) (v : Value) (xs : List UInt8) (hk : k < 256) (ha : a < 4294967296) (hb : b < 4294967296) (hx : xs.length ≤ 4000) (HA : Old D w (Rep.rep xs [v])) :
    Calls Tryz.prog 140 #[.agg #[.int .i64 k, .int .u32 a, .int .u32 b, v]] w fun e w' => ∃ q : Option Addr × Nat, e = .returned (.slice q.1 (15 + xs.length) q.2) ∧ Own D w w' [row q.1 5 1 (15 + xs.length) q.2 ((fullB k a b xs).map u8v)] := by
  obtain ⟨A, cap, rfl, hc1, hc2, HS⟩ := HA.openB
  have hk8 : [Value.int .u8 (k : Int)] = [UInt8.ofNat k].map u8v := by rw [u8_small k hk]; rfl
  have hl8 : [Value.int .u8 ((xs.length / 256 : Nat) : Int), Value.int .u8 ((xs.length % 256 : Nat) : Int)] = [UInt8.ofNat (xs.length / 256), UInt8.ofNat xs.length].map u8v := by
    rw [u8_small (xs.length / 256) (by omega), ← u8v_ofNatE]; rfl
  refine hc_enter (vs := [.agg #[.int .i64 k, .int .u32 a, .int .u32 b, .slice A xs.length cap]]) Tryz.func140 rfl _ Tryz.ntmps140 rfl (Own.start D w) ?_
  simp only [argSlots, Nat.zero_add]
  refine hc_seq <| hc_region <| hl_new (on_boxN rfl rfl) rfl rfl rfl fun b1 =>  ?_
  refine hl_v (ov_assign rfl) rfl <| hl_nil <| hx_then_normal <| hc_seq <| ?_
  refine hc_cutK1 (σ := Option Addr × Nat) [] rfl 3 (fun q => .slice q.1 (preB k a b xs).length q.2) (fun q => [row q.1 5 1 (preB k a b xs).length q.2 ((preB k a b xs).map u8v)]) (fun K1 hK1 => ?_) (fun q => ?_)
  · refine hc_any [blk b1 246 [.int .i64 k, .int .u32 a, .int .u32 b, .slice A xs.length cap]] mixed 28 rfl ?_
    refine ha_v 0 rfl (ov_fieldA rfl) rfl <| ?_
    refine ha_v 1 rfl (ov_fieldA rfl) rfl <| ?_
    refine ha_v 2 rfl (ov_load rfl (CellIs.blk rfl)) rfl <| ?_
    refine ha_v 3 rfl (ov_conv rfl (by first | exact wrap_u8 (by omega) | rfl)) rfl <| ?_
    refine ha_v 5 rfl (ov_fieldA rfl) rfl <| ?_
    refine ha_v 6 rfl (ov_fieldA rfl) rfl <| ?_
    refine ha_v 7 rfl (ov_load rfl (CellIs.blk rfl)) rfl <| ?_
    refine ha_v 9 rfl (ov_fieldA rfl) rfl <| ?_
    refine ha_v 10 rfl (ov_fieldA rfl) rfl <| ?_
    refine ha_v 11 rfl (ov_load rfl (CellIs.blk rfl)) rfl <| ?_
    refine ha_v 13 rfl (ov_fieldA rfl) rfl <| ?_
    refine ha_v 14 rfl (ov_load rfl (CellIs.blk rfl)) rfl <| ?_
    refine ha_v 15 rfl (by first | exact ov_len rfl | exact ov_lenS rfl) rfl <| ?_
    refine ha_v 16 rfl (ov_shr (m := ((xs.length / 256 : Nat) : Int)) rfl rfl (by decide) (shr_nat _ 8)) rfl ?_
    refine ha_v 17 rfl (ov_conv rfl (by first | exact wrap_u8 (by omega) | rfl)) rfl <| ?_
    refine ha_v 18 rfl (ov_fieldA rfl) rfl <| ?_
    refine ha_v 19 rfl (ov_load rfl (CellIs.blk rfl)) rfl <| ?_
    refine ha_v 20 rfl (by first | exact ov_len rfl | exact ov_lenS rfl) rfl <| ?_
    refine ha_v 23 rfl (ov_fieldA rfl) rfl <| ?_
    refine ha_v 24 rfl (ov_load rfl (CellIs.blk rfl)) rfl <| ?_
    refine ha_v 21 rfl (ov_conv (m := ((xs.length % 256 : Nat) : Int)) rfl (wrap8E _)) rfl ?_
    refine ha_three 4 8 22 (by kernel_rfl) ?_ ?_ ?_
    · skip
      refine ho_n rfl (on_buildSliceN rfl rfl rfl) rfl (fun b8 => ?_)
      refine ha_two 8 22 (by kernel_rfl) ?_ ?_
      · skip
        refine ho_kx (σ := Nat) rfl Tryz.call158 rfl (fun w1 H1 => Own.callx0 H1 fun D' hold hin H2 => four_spec D' w1 a ha) ?_
        intro q12
        try rw [List.nil_append]
        refine ha_two 12 22 (by kernel_rfl) ?_ ?_
        · skip
          refine ho_kx (σ := Nat) rfl Tryz.call158 rfl (fun w1 H1 => Own.callx0 H1 fun D' hold hin H2 => four_spec D' w1 b hb) ?_
          intro q16
          try rw [List.nil_append]
          refine ha_one 22 (by kernel_rfl) <| ?_
          refine ho_n rfl (on_buildSliceN rfl rfl rfl) rfl (fun b26 => ?_)
          refine ha_one 25 (by kernel_rfl) <| ?_
          refine ho_n rfl (on_buildSliceN rfl rfl rfl) rfl (fun b29 => ?_)
          refine ha_one 26 (by kernel_rfl) <| ?_
          refine ho_kx (σ := Option Addr × Nat) rfl Tryz.call96 rfl (fun w1 H1 => Own.callx0 H1 fun D' hold hin H2 => Concat_spec D' w1 _ (preL k a b xs) (by rw [show (preL k a b xs).flatten.length = 11 + xs.length from preB_length k a b xs]; omega) (hin _ fun h hs ho => rep_lits (b := b29) hs (preL k a b xs) ⟨[_], [_, _, _, _], rfl, rep_bytes (b := b8) hs [UInt8.ofNat k] hk8 (by simp), [_], [_, _, _], rfl, rep_row (A := some ⟨q12, 0, none⟩) hs (fourB a) rfl (repL_bytes.2 rfl), [_], [_, _], rfl, rep_row (A := some ⟨q16, 0, none⟩) hs (fourB b) rfl (repL_bytes.2 rfl), [_], [_], rfl, rep_bytes (b := b26) hs [UInt8.ofNat (xs.length / 256), UInt8.ofNat xs.length] hl8 (by simp), [_], [], rfl, rep_old ho HA, rfl⟩ (by simp [preL]))) ?_
          intro q30
          try rw [List.nil_append]
          refine ha_v 27 rfl (ov_assign rfl) rfl <| ?_
          refine ha_done (by kernel_rfl) <| ?_
          refine hx_cut hK1 (q30) (by repeat (first | exact Slots.sub_nil _ | refine Slots.sub_cons rfl ?_)) (by first | assumption | exact Ent.refl _ | exact Ent.nil _ | (repeat (first | exact Ent.refl _ | exact Ent.nil _ | refine Ent.pick ?_)))
        skip
        refine ho_n rfl (on_buildSliceN rfl rfl rfl) rfl (fun b26 => ?_)
        refine ha_one 12 (by kernel_rfl) <| ?_
        refine ho_kx (σ := Nat) rfl Tryz.call158 rfl (fun w1 H1 => Own.callx0 H1 fun D' hold hin H2 => four_spec D' w1 b hb) ?_
        intro q16
        try rw [List.nil_append]
        refine ha_one 25 (by kernel_rfl) <| ?_
        refine ho_n rfl (on_buildSliceN rfl rfl rfl) rfl (fun b29 => ?_)
        refine ha_one 26 (by kernel_rfl) <| ?_
        refine ho_kx (σ := Option Addr × Nat) rfl Tryz.call96 rfl (fun w1 H1 => Own.callx0 H1 fun D' hold hin H2 => Concat_spec D' w1 _ (preL k a b xs) (by rw [show (preL k a b xs).flatten.length = 11 + xs.length from preB_length k a b xs]; omega) (hin _ fun h hs ho => rep_lits (b := b29) hs (preL k a b xs) ⟨[_], [_, _, _, _], rfl, rep_bytes (b := b8) hs [UInt8.ofNat k] hk8 (by simp), [_], [_, _, _], rfl, rep_row (A := some ⟨q12, 0, none⟩) hs (fourB a) rfl (repL_bytes.2 rfl), [_], [_, _], rfl, rep_row (A := some ⟨q16, 0, none⟩) hs (fourB b) rfl (repL_bytes.2 rfl), [_], [_], rfl, rep_bytes (b := b26) hs [UInt8.ofNat (xs.length / 256), UInt8.ofNat xs.length] hl8 (by simp), [_], [], rfl, rep_old ho HA, rfl⟩ (by simp [preL]))) ?_
        intro q30
        try rw [List.nil_append]
        refine ha_v 27 rfl (ov_assign rfl) rfl <| ?_
        refine ha_done (by kernel_rfl) <| ?_
        refine hx_cut hK1 (q30) (by repeat (first | exact Slots.sub_nil _ | refine Slots.sub_cons rfl ?_)) (by first | assumption | exact Ent.refl _ | exact Ent.nil _ | (repeat (first | exact Ent.refl _ | exact Ent.nil _ | refine Ent.pick ?_)))
      skip
      refine ho_n rfl (on_buildSliceN rfl rfl rfl) rfl (fun b26 => ?_)
      refine ha_one 8 (by kernel_rfl) <| ?_
      refine ho_kx (σ := Nat) rfl Tryz.call158 rfl (fun w1 H1 => Own.callx0 H1 fun D' hold hin H2 => four_spec D' w1 a ha) ?_
      intro q12
      try rw [List.nil_append]
      refine ha_one 12 (by kernel_rfl) <| ?_
      refine ho_kx (σ := Nat) rfl Tryz.call158 rfl (fun w1 H1 => Own.callx0 H1 fun D' hold hin H2 => four_spec D' w1 b hb) ?_
      intro q16
      try rw [List.nil_append]
      refine ha_one 25 (by kernel_rfl) <| ?_
      refine ho_n rfl (on_buildSliceN rfl rfl rfl) rfl (fun b29 => ?_)
      refine ha_one 26 (by kernel_rfl) <| ?_
      refine ho_kx (σ := Option Addr × Nat) rfl Tryz.call96 rfl (fun w1 H1 => Own.callx0 H1 fun D' hold hin H2 => Concat_spec D' w1 _ (preL k a b xs) (by rw [show (preL k a b xs).flatten.length = 11 + xs.length from preB_length k a b xs]; omega) (hin _ fun h hs ho => rep_lits (b := b29) hs (preL k a b xs) ⟨[_], [_, _, _, _], rfl, rep_bytes (b := b8) hs [UInt8.ofNat k] hk8 (by simp), [_], [_, _, _], rfl, rep_row (A := some ⟨q12, 0, none⟩) hs (fourB a) rfl (repL_bytes.2 rfl), [_], [_, _], rfl, rep_row (A := some ⟨q16, 0, none⟩) hs (fourB b) rfl (repL_bytes.2 rfl), [_], [_], rfl, rep_bytes (b := b26) hs [UInt8.ofNat (xs.length / 256), UInt8.ofNat xs.length] hl8 (by simp), [_], [], rfl, rep_old ho HA, rfl⟩ (by simp [preL]))) ?_
      intro q30
      try rw [List.nil_append]
      refine ha_v 27 rfl (ov_assign rfl) rfl <| ?_
      refine ha_done (by kernel_rfl) <| ?_
      refine hx_cut hK1 (q30) (by repeat (first | exact Slots.sub_nil _ | refine Slots.sub_cons rfl ?_)) (by first | assumption | exact Ent.refl _ | exact Ent.nil _ | (repeat (first | exact Ent.refl _ | exact Ent.nil _ | refine Ent.pick ?_)))
    · skip
      refine ho_kx (σ := Nat) rfl Tryz.call158 rfl (fun w1 H1 => Own.callx0 H1 fun D' hold hin H2 => four_spec D' w1 a ha) ?_
      intro q12
      try rw [List.nil_append]
      refine ha_three 4 12 22 (by kernel_rfl) ?_ ?_ ?_
      · skip
        refine ho_n rfl (on_buildSliceN rfl rfl rfl) rfl (fun b8 => ?_)
        refine ha_two 12 22 (by kernel_rfl) ?_ ?_
        · skip
          refine ho_kx (σ := Nat) rfl Tryz.call158 rfl (fun w1 H1 => Own.callx0 H1 fun D' hold hin H2 => four_spec D' w1 b hb) ?_
          intro q16
          try rw [List.nil_append]
          refine ha_one 22 (by kernel_rfl) <| ?_
          refine ho_n rfl (on_buildSliceN rfl rfl rfl) rfl (fun b26 => ?_)
          refine ha_one 25 (by kernel_rfl) <| ?_
          refine ho_n rfl (on_buildSliceN rfl rfl rfl) rfl (fun b29 => ?_)
          refine ha_one 26 (by kernel_rfl) <| ?_
          refine ho_kx (σ := Option Addr × Nat) rfl Tryz.call96 rfl (fun w1 H1 => Own.callx0 H1 fun D' hold hin H2 => Concat_spec D' w1 _ (preL k a b xs) (by rw [show (preL k a b xs).flatten.length = 11 + xs.length from preB_length k a b xs]; omega) (hin _ fun h hs ho => rep_lits (b := b29) hs (preL k a b xs) ⟨[_], [_, _, _, _], rfl, rep_bytes (b := b8) hs [UInt8.ofNat k] hk8 (by simp), [_], [_, _, _], rfl, rep_row (A := some ⟨q12, 0, none⟩) hs (fourB a) rfl (repL_bytes.2 rfl), [_], [_, _], rfl, rep_row (A := some ⟨q16, 0, none⟩) hs (fourB b) rfl (repL_bytes.2 rfl), [_], [_], rfl, rep_bytes (b := b26) hs [UInt8.ofNat (xs.length / 256), UInt8.ofNat xs.length] hl8 (by simp), [_], [], rfl, rep_old ho HA, rfl⟩ (by simp [preL]))) ?_
          intro q30
          try rw [List.nil_append]
          refine ha_v 27 rfl (ov_assign rfl) rfl <| ?_
          refine ha_done (by kernel_rfl) <| ?_
          refine hx_cut hK1 (q30) (by repeat (first | exact Slots.sub_nil _ | refine Slots.sub_cons rfl ?_)) (by first | assumption | exact Ent.refl _ | exact Ent.nil _ | (repeat (first | exact Ent.refl _ | exact Ent.nil _ | refine Ent.pick ?_)))
        skip
        refine ho_n rfl (on_buildSliceN rfl rfl rfl) rfl (fun b26 => ?_)
        refine ha_one 12 (by kernel_rfl) <| ?_
        refine ho_kx (σ := Nat) rfl Tryz.call158 rfl (fun w1 H1 => Own.callx0 H1 fun D' hold hin H2 => four_spec D' w1 b hb) ?_
        intro q16
        try rw [List.nil_append]
        refine ha_one 25 (by kernel_rfl) <| ?_
        refine ho_n rfl (on_buildSliceN rfl rfl rfl) rfl (fun b29 => ?_)
        refine ha_one 26 (by kernel_rfl) <| ?_
        refine ho_kx (σ := Option Addr × Nat) rfl Tryz.call96 rfl (fun w1 H1 => Own.callx0 H1 fun D' hold hin H2 => Concat_spec D' w1 _ (preL k a b xs) (by rw [show (preL k a b xs).flatten.length = 11 + xs.length from preB_length k a b xs]; omega) (hin _ fun h hs ho => rep_lits (b := b29) hs (preL k a b xs) ⟨[_], [_, _, _, _], rfl, rep_bytes (b := b8) hs [UInt8.ofNat k] hk8 (by simp), [_], [_, _, _], rfl, rep_row (A := some ⟨q12, 0, none⟩) hs (fourB a) rfl (repL_bytes.2 rfl), [_], [_, _], rfl, rep_row (A := some ⟨q16, 0, none⟩) hs (fourB b) rfl (repL_bytes.2 rfl), [_], [_], rfl, rep_bytes (b := b26) hs [UInt8.ofNat (xs.length / 256), UInt8.ofNat xs.length] hl8 (by simp), [_], [], rfl, rep_old ho HA, rfl⟩ (by simp [preL]))) ?_
        intro q30
        try rw [List.nil_append]
        refine ha_v 27 rfl (ov_assign rfl) rfl <| ?_
        refine ha_done (by kernel_rfl) <| ?_
        refine hx_cut hK1 (q30) (by repeat (first | exact Slots.sub_nil _ | refine Slots.sub_cons rfl ?_)) (by first | assumption | exact Ent.refl _ | exact Ent.nil _ | (repeat (first | exact Ent.refl _ | exact Ent.nil _ | refine Ent.pick ?_)))
      · skip
        refine ho_kx (σ := Nat) rfl Tryz.call158 rfl (fun w1 H1 => Own.callx0 H1 fun D' hold hin H2 => four_spec D' w1 b hb) ?_
        intro q16
        try rw [List.nil_append]
        refine ha_two 4 22 (by kernel_rfl) ?_ ?_
        · skip
          refine ho_n rfl (on_buildSliceN rfl rfl rfl) rfl (fun b8 => ?_)
          refine ha_one 22 (by kernel_rfl) <| ?_
          refine ho_n rfl (on_buildSliceN rfl rfl rfl) rfl (fun b26 => ?_)
          refine ha_one 25 (by kernel_rfl) <| ?_
          refine ho_n rfl (on_buildSliceN rfl rfl rfl) rfl (fun b29 => ?_)
          refine ha_one 26 (by kernel_rfl) <| ?_
          refine ho_kx (σ := Option Addr × Nat) rfl Tryz.call96 rfl (fun w1 H1 => Own.callx0 H1 fun D' hold hin H2 => Concat_spec D' w1 _ (preL k a b xs) (by rw [show (preL k a b xs).flatten.length = 11 + xs.length from preB_length k a b xs]; omega) (hin _ fun h hs ho => rep_lits (b := b29) hs (preL k a b xs) ⟨[_], [_, _, _, _], rfl, rep_bytes (b := b8) hs [UInt8.ofNat k] hk8 (by simp), [_], [_, _, _], rfl, rep_row (A := some ⟨q12, 0, none⟩) hs (fourB a) rfl (repL_bytes.2 rfl), [_], [_, _], rfl, rep_row (A := some ⟨q16, 0, none⟩) hs (fourB b) rfl (repL_bytes.2 rfl), [_], [_], rfl, rep_bytes (b := b26) hs [UInt8.ofNat (xs.length / 256), UInt8.ofNat xs.length] hl8 (by simp), [_], [], rfl, rep_old ho HA, rfl⟩ (by simp [preL]))) ?_
          intro q30
          try rw [List.nil_append]
          refine ha_v 27 rfl (ov_assign rfl) rfl <| ?_
          refine ha_done (by kernel_rfl) <| ?_
          refine hx_cut hK1 (q30) (by repeat (first | exact Slots.sub_nil _ | refine Slots.sub_cons rfl ?_)) (by first | assumption | exact Ent.refl _ | exact Ent.nil _ | (repeat (first | exact Ent.refl _ | exact Ent.nil _ | refine Ent.pick ?_)))
        skip
        refine ho_n rfl (on_buildSliceN rfl rfl rfl) rfl (fun b26 => ?_)
        refine ha_one 4 (by kernel_rfl) <| ?_
        refine ho_n rfl (on_buildSliceN rfl rfl rfl) rfl (fun b8 => ?_)
        refine ha_one 25 (by kernel_rfl) <| ?_
        refine ho_n rfl (on_buildSliceN rfl rfl rfl) rfl (fun b29 => ?_)
        refine ha_one 26 (by kernel_rfl) <| ?_
        refine ho_kx (σ := Option Addr × Nat) rfl Tryz.call96 rfl (fun w1 H1 => Own.callx0 H1 fun D' hold hin H2 => Concat_spec D' w1 _ (preL k a b xs) (by rw [show (preL k a b xs).flatten.length = 11 + xs.length from preB_length k a b xs]; omega) (hin _ fun h hs ho => rep_lits (b := b29) hs (preL k a b xs) ⟨[_], [_, _, _, _], rfl, rep_bytes (b := b8) hs [UInt8.ofNat k] hk8 (by simp), [_], [_, _, _], rfl, rep_row (A := some ⟨q12, 0, none⟩) hs (fourB a) rfl (repL_bytes.2 rfl), [_], [_, _], rfl, rep_row (A := some ⟨q16, 0, none⟩) hs (fourB b) rfl (repL_bytes.2 rfl), [_], [_], rfl, rep_bytes (b := b26) hs [UInt8.ofNat (xs.length / 256), UInt8.ofNat xs.length] hl8 (by simp), [_], [], rfl, rep_old ho HA, rfl⟩ (by simp [preL]))) ?_
        intro q30
        try rw [List.nil_append]
        refine ha_v 27 rfl (ov_assign rfl) rfl <| ?_
        refine ha_done (by kernel_rfl) <| ?_
        refine hx_cut hK1 (q30) (by repeat (first | exact Slots.sub_nil _ | refine Slots.sub_cons rfl ?_)) (by first | assumption | exact Ent.refl _ | exact Ent.nil _ | (repeat (first | exact Ent.refl _ | exact Ent.nil _ | refine Ent.pick ?_)))
      skip
      refine ho_n rfl (on_buildSliceN rfl rfl rfl) rfl (fun b26 => ?_)
      refine ha_two 4 12 (by kernel_rfl) ?_ ?_
      · skip
        refine ho_n rfl (on_buildSliceN rfl rfl rfl) rfl (fun b8 => ?_)
        refine ha_one 12 (by kernel_rfl) <| ?_
        refine ho_kx (σ := Nat) rfl Tryz.call158 rfl (fun w1 H1 => Own.callx0 H1 fun D' hold hin H2 => four_spec D' w1 b hb) ?_
        intro q16
        try rw [List.nil_append]
        refine ha_one 25 (by kernel_rfl) <| ?_
        refine ho_n rfl (on_buildSliceN rfl rfl rfl) rfl (fun b29 => ?_)
        refine ha_one 26 (by kernel_rfl) <| ?_
        refine ho_kx (σ := Option Addr × Nat) rfl Tryz.call96 rfl (fun w1 H1 => Own.callx0 H1 fun D' hold hin H2 => Concat_spec D' w1 _ (preL k a b xs) (by rw [show (preL k a b xs).flatten.length = 11 + xs.length from preB_length k a b xs]; omega) (hin _ fun h hs ho => rep_lits (b := b29) hs (preL k a b xs) ⟨[_], [_, _, _, _], rfl, rep_bytes (b := b8) hs [UInt8.ofNat k] hk8 (by simp), [_], [_, _, _], rfl, rep_row (A := some ⟨q12, 0, none⟩) hs (fourB a) rfl (repL_bytes.2 rfl), [_], [_, _], rfl, rep_row (A := some ⟨q16, 0, none⟩) hs (fourB b) rfl (repL_bytes.2 rfl), [_], [_], rfl, rep_bytes (b := b26) hs [UInt8.ofNat (xs.length / 256), UInt8.ofNat xs.length] hl8 (by simp), [_], [], rfl, rep_old ho HA, rfl⟩ (by simp [preL]))) ?_
        intro q30
        try rw [List.nil_append]
        refine ha_v 27 rfl (ov_assign rfl) rfl <| ?_
        refine ha_done (by kernel_rfl) <| ?_
        refine hx_cut hK1 (q30) (by repeat (first | exact Slots.sub_nil _ | refine Slots.sub_cons rfl ?_)) (by first | assumption | exact Ent.refl _ | exact Ent.nil _ | (repeat (first | exact Ent.refl _ | exact Ent.nil _ | refine Ent.pick ?_)))
      skip
      refine ho_kx (σ := Nat) rfl Tryz.call158 rfl (fun w1 H1 => Own.callx0 H1 fun D' hold hin H2 => four_spec D' w1 b hb) ?_
      intro q16
      try rw [List.nil_append]
      refine ha_one 4 (by kernel_rfl) <| ?_
      refine ho_n rfl (on_buildSliceN rfl rfl rfl) rfl (fun b8 => ?_)
      refine ha_one 25 (by kernel_rfl) <| ?_
      refine ho_n rfl (on_buildSliceN rfl rfl rfl) rfl (fun b29 => ?_)
      refine ha_one 26 (by kernel_rfl) <| ?_
      refine ho_kx (σ := Option Addr × Nat) rfl Tryz.call96 rfl (fun w1 H1 => Own.callx0 H1 fun D' hold hin H2 => Concat_spec D' w1 _ (preL k a b xs) (by rw [show (preL k a b xs).flatten.length = 11 + xs.length from preB_length k a b xs]; omega) (hin _ fun h hs ho => rep_lits (b := b29) hs (preL k a b xs) ⟨[_], [_, _, _, _], rfl, rep_bytes (b := b8) hs [UInt8.ofNat k] hk8 (by simp), [_], [_, _, _], rfl, rep_row (A := some ⟨q12, 0, none⟩) hs (fourB a) rfl (repL_bytes.2 rfl), [_], [_, _], rfl, rep_row (A := some ⟨q16, 0, none⟩) hs (fourB b) rfl (repL_bytes.2 rfl), [_], [_], rfl, rep_bytes (b := b26) hs [UInt8.ofNat (xs.length / 256), UInt8.ofNat xs.length] hl8 (by simp), [_], [], rfl, rep_old ho HA, rfl⟩ (by simp [preL]))) ?_
      intro q30
      try rw [List.nil_append]
      refine ha_v 27 rfl (ov_assign rfl) rfl <| ?_
      refine ha_done (by kernel_rfl) <| ?_
      refine hx_cut hK1 (q30) (by repeat (first | exact Slots.sub_nil _ | refine Slots.sub_cons rfl ?_)) (by first | assumption | exact Ent.refl _ | exact Ent.nil _ | (repeat (first | exact Ent.refl _ | exact Ent.nil _ | refine Ent.pick ?_)))
    skip
    refine ho_n rfl (on_buildSliceN rfl rfl rfl) rfl (fun b26 => ?_)
    refine ha_two 4 8 (by kernel_rfl) ?_ ?_
    · skip
      refine ho_n rfl (on_buildSliceN rfl rfl rfl) rfl (fun b8 => ?_)
      refine ha_one 8 (by kernel_rfl) <| ?_
      refine ho_kx (σ := Nat) rfl Tryz.call158 rfl (fun w1 H1 => Own.callx0 H1 fun D' hold hin H2 => four_spec D' w1 a ha) ?_
      intro q12
      try rw [List.nil_append]
      refine ha_one 12 (by kernel_rfl) <| ?_
      refine ho_kx (σ := Nat) rfl Tryz.call158 rfl (fun w1 H1 => Own.callx0 H1 fun D' hold hin H2 => four_spec D' w1 b hb) ?_
      intro q16
      try rw [List.nil_append]
      refine ha_one 25 (by kernel_rfl) <| ?_
      refine ho_n rfl (on_buildSliceN rfl rfl rfl) rfl (fun b29 => ?_)
      refine ha_one 26 (by kernel_rfl) <| ?_
      refine ho_kx (σ := Option Addr × Nat) rfl Tryz.call96 rfl (fun w1 H1 => Own.callx0 H1 fun D' hold hin H2 => Concat_spec D' w1 _ (preL k a b xs) (by rw [show (preL k a b xs).flatten.length = 11 + xs.length from preB_length k a b xs]; omega) (hin _ fun h hs ho => rep_lits (b := b29) hs (preL k a b xs) ⟨[_], [_, _, _, _], rfl, rep_bytes (b := b8) hs [UInt8.ofNat k] hk8 (by simp), [_], [_, _, _], rfl, rep_row (A := some ⟨q12, 0, none⟩) hs (fourB a) rfl (repL_bytes.2 rfl), [_], [_, _], rfl, rep_row (A := some ⟨q16, 0, none⟩) hs (fourB b) rfl (repL_bytes.2 rfl), [_], [_], rfl, rep_bytes (b := b26) hs [UInt8.ofNat (xs.length / 256), UInt8.ofNat xs.length] hl8 (by simp), [_], [], rfl, rep_old ho HA, rfl⟩ (by simp [preL]))) ?_
      intro q30
      try rw [List.nil_append]
      refine ha_v 27 rfl (ov_assign rfl) rfl <| ?_
      refine ha_done (by kernel_rfl) <| ?_
      refine hx_cut hK1 (q30) (by repeat (first | exact Slots.sub_nil _ | refine Slots.sub_cons rfl ?_)) (by first | assumption | exact Ent.refl _ | exact Ent.nil _ | (repeat (first | exact Ent.refl _ | exact Ent.nil _ | refine Ent.pick ?_)))
    skip
    refine ho_kx (σ := Nat) rfl Tryz.call158 rfl (fun w1 H1 => Own.callx0 H1 fun D' hold hin H2 => four_spec D' w1 a ha) ?_
    intro q12
    try rw [List.nil_append]
    refine ha_two 4 12 (by kernel_rfl) ?_ ?_
    · skip
      refine ho_n rfl (on_buildSliceN rfl rfl rfl) rfl (fun b8 => ?_)
      refine ha_one 12 (by kernel_rfl) <| ?_
      refine ho_kx (σ := Nat) rfl Tryz.call158 rfl (fun w1 H1 => Own.callx0 H1 fun D' hold hin H2 => four_spec D' w1 b hb) ?_
      intro q16
      try rw [List.nil_append]
      refine ha_one 25 (by kernel_rfl) <| ?_
      refine ho_n rfl (on_buildSliceN rfl rfl rfl) rfl (fun b29 => ?_)
      refine ha_one 26 (by kernel_rfl) <| ?_
      refine ho_kx (σ := Option Addr × Nat) rfl Tryz.call96 rfl (fun w1 H1 => Own.callx0 H1 fun D' hold hin H2 => Concat_spec D' w1 _ (preL k a b xs) (by rw [show (preL k a b xs).flatten.length = 11 + xs.length from preB_length k a b xs]; omega) (hin _ fun h hs ho => rep_lits (b := b29) hs (preL k a b xs) ⟨[_], [_, _, _, _], rfl, rep_bytes (b := b8) hs [UInt8.ofNat k] hk8 (by simp), [_], [_, _, _], rfl, rep_row (A := some ⟨q12, 0, none⟩) hs (fourB a) rfl (repL_bytes.2 rfl), [_], [_, _], rfl, rep_row (A := some ⟨q16, 0, none⟩) hs (fourB b) rfl (repL_bytes.2 rfl), [_], [_], rfl, rep_bytes (b := b26) hs [UInt8.ofNat (xs.length / 256), UInt8.ofNat xs.length] hl8 (by simp), [_], [], rfl, rep_old ho HA, rfl⟩ (by simp [preL]))) ?_
      intro q30
      try rw [List.nil_append]
      refine ha_v 27 rfl (ov_assign rfl) rfl <| ?_
      refine ha_done (by kernel_rfl) <| ?_
      refine hx_cut hK1 (q30) (by repeat (first | exact Slots.sub_nil _ | refine Slots.sub_cons rfl ?_)) (by first | assumption | exact Ent.refl _ | exact Ent.nil _ | (repeat (first | exact Ent.refl _ | exact Ent.nil _ | refine Ent.pick ?_)))
    skip
    refine ho_kx (σ := Nat) rfl Tryz.call158 rfl (fun w1 H1 => Own.callx0 H1 fun D' hold hin H2 => four_spec D' w1 b hb) ?_
    intro q16
    try rw [List.nil_append]
    refine ha_one 4 (by kernel_rfl) <| ?_
    refine ho_n rfl (on_buildSliceN rfl rfl rfl) rfl (fun b8 => ?_)
    refine ha_one 25 (by kernel_rfl) <| ?_
    refine ho_n rfl (on_buildSliceN rfl rfl rfl) rfl (fun b29 => ?_)
    refine ha_one 26 (by kernel_rfl) <| ?_
    refine ho_kx (σ := Option Addr × Nat) rfl Tryz.call96 rfl (fun w1 H1 => Own.callx0 H1 fun D' hold hin H2 => Concat_spec D' w1 _ (preL k a b xs) (by rw [show (preL k a b xs).flatten.length = 11 + xs.length from preB_length k a b xs]; omega) (hin _ fun h hs ho => rep_lits (b := b29) hs (preL k a b xs) ⟨[_], [_, _, _, _], rfl, rep_bytes (b := b8) hs [UInt8.ofNat k] hk8 (by simp), [_], [_, _, _], rfl, rep_row (A := some ⟨q12, 0, none⟩) hs (fourB a) rfl (repL_bytes.2 rfl), [_], [_, _], rfl, rep_row (A := some ⟨q16, 0, none⟩) hs (fourB b) rfl (repL_bytes.2 rfl), [_], [_], rfl, rep_bytes (b := b26) hs [UInt8.ofNat (xs.length / 256), UInt8.ofNat xs.length] hl8 (by simp), [_], [], rfl, rep_old ho HA, rfl⟩ (by simp [preL]))) ?_
    intro q30
    try rw [List.nil_append]
    refine ha_v 27 rfl (ov_assign rfl) rfl <| ?_
    refine ha_done (by kernel_rfl) <| ?_
    refine hx_cut hK1 (q30) (by repeat (first | exact Slots.sub_nil _ | refine Slots.sub_cons rfl ?_)) (by first | assumption | exact Ent.refl _ | exact Ent.nil _ | (repeat (first | exact Ent.refl _ | exact Ent.nil _ | refine Ent.pick ?_)))
  refine hx_then_normal <| hc_seq <| hc_region <| hl_v (ov_move rfl) rfl <| hl_v (ov_move rfl) rfl <| hl_new (on_buildSliceN rfl rfl rfl) rfl rfl rfl fun b33 =>  ?_
  refine hl_c Tryz.call159 rfl rfl (fun w1 H1 => Own.calln H1 fun D' hold hin H2 => Sum_spec D' w1 _ [preB k a b xs] (hin _ fun h hs ho => rep_lits (b := b33) hs _ ⟨[_], [], rfl, rep_row (A := q.1) hs (preB k a b xs) rfl (repL_bytes.2 rfl), rfl⟩ (by simp))) ?_
  refine hl_call (σ := Nat) Tryz.call158 rfl rfl (fun w1 H1 => Own.callx0 H1 fun D' hold hin H2 => four_spec D' w1 (Sm [preB k a b xs]) (Sm_lt _)) ?_
  intro q34
  try rw [List.nil_append]
  refine hl_new (on_appendR (news := (fourB (Sm [preB k a b xs])).map u8v) rfl rfl (SrcIs.rowR (A := some ⟨q34, 0, none⟩) (fun _ => rfl)) (by simp [fourB]) (u8_one _) (by decide) (by rw [preB_length]; omega)) rfl rfl rfl (fun q35 => ?_)
  refine hl_v (ov_assign rfl) rfl <| hl_nil <| hx_then_normal <| hc_ret <| ?_
  have e1 : (preB k a b xs).length + 4 = 15 + xs.length := by rw [preB_length]; omega
  have e2 : (preB k a b xs).map u8v ++ (fourB (Sm [preB k a b xs])).map u8v = (fullB k a b xs).map u8v := by rw [fullB, List.map_append]
  rw [e1, e2]
  exact results_1 (.inr rfl) rfl rfl fun w' H' => ⟨q35, rfl, H'.ent (by first | assumption | exact Ent.refl _ | exact Ent.nil _ | exact Ent.row_any (Ent.refl _) | (repeat (first | exact Ent.refl _ | exact Ent.nil _ | refine Ent.pick ?_)))⟩
end Go.Proofs.YtjlolpmmpafjeaaGreat
set_option linter.unusedVariables false
set_option linter.unusedSimpArgs false
namespace Go.Proofs.YtjlolpmmpafjeaaGreat
open Slk
abbrev Sec := Vector UInt8 64
def secC (s : Sec) : List Value := s.toList.map u8v
@[simp] theorem secC_len (s : Sec) : (secC s).length = 64 := by simp [secC]
theorem secC_one (s : Sec) : ∀ v ∈ secC s, v.oneCell' = true := u8_one _
theorem secC_inj {s t : Sec} : secC s = secC t ↔ s = t := by
  unfold secC
  rw [u8v_inj]
  exact ⟨fun h => Vector.toList_inj.1 h, fun h => by rw [h]⟩
def zeroSec : Sec := Vector.replicate 64 0
theorem secC_zero : secC zeroSec = List.replicate 64 (.int .u8 0) := by simp [secC, zeroSec, u8v]
theorem secC_at (s : Sec) {j : Nat} (h : j < 64) : (secC s)[j]? = some (u8v s[j]) := by
  unfold secC
  rw [List.getElem?_map, Vector.getElem?_toList, Vector.getElem?_eq_getElem h]; rfl
theorem secC_ok (s : Sec) : (cellsOk (List.replicate 64 (.i .u8)) (secC s)).isSome = true := by
  have := cellsOk_u8 s.toList
  rw [Vector.length_toList] at this
  exact this
section
variable {D : Nat → Prop} {w0 : World} {env : Slots} {l : List HProp} {dst : Option Tmp} {ty : TypeId} {pos : String} {after : Array Edge} {g : Option (Nat × Bool)} {x y : Operand} {t' : TypeId} {s t : Sec}
theorem ov_neqSec (hx : evalO env x = some (.agg (secC s).toArray)) (hy : evalO env y = some (.agg (secC t).toArray)) : OpVal Tryz.prog D w0 env l ⟨dst, .binOp .neq 61 x y t', ty, pos, after, g⟩ (.bool (decide (¬ s = t))) := ov_neqG hx hy (secC_ok s) (secC_ok t) secC_inj
end
end Go.Proofs.YtjlolpmmpafjeaaGreat
set_option linter.unusedVariables false
set_option linter.unusedSimpArgs false
namespace Go.Proofs.YtjlolpmmpafjeaaGreat
open Slk
/-! ### An entry's sectors -/
def secL (m : UInt8) (c : List UInt8) : List UInt8 := m :: (c ++ List.replicate (63 - c.length) 0)
theorem secL_length (m : UInt8) (c : List UInt8) (h : c.length ≤ 63) : (secL m c).length = 64 := by
  simp [secL]; omega
def piece (F : List UInt8) (k : Nat) : List UInt8 := (F.drop (63 * k)).take 63
theorem piece_length (F : List UInt8) (k : Nat) : (piece F k).length = min 63 (F.length - 63 * k) := by simp [piece]
def markK (k : Nat) : UInt8 := if k = 0 then 87 else 119
def secOf (F : List UInt8) (k : Nat) : Sec := ⟨(secL (markK k) (piece F k)).toArray, by
  rw [List.size_toArray, secL_length _ _ (by rw [piece_length]; omega)]⟩
def secsTo (F : List UInt8) (k : Nat) : List Sec := (List.range k).map (secOf F)
def encS (F : List UInt8) : List Sec := secsTo F ((F.length + 62) / 63)
theorem secsTo_len (F : List UInt8) (k : Nat) : (secsTo F k).length = k := by simp [secsTo]
theorem secsTo_snoc (F : List UInt8) (k : Nat) : secsTo F (k + 1) = secsTo F k ++ [secOf F k] := by simp [secsTo, List.range_succ]
theorem secOf_cells (F : List UInt8) (k : Nat) : secC (secOf F k) = .int .u8 (markK k).toNat :: ((piece F k).map u8v ++ List.replicate (63 - (piece F k).length) (.int .u8 0)) := by
  show ((secL (markK k) (piece F k)).toArray.toList.map u8v) = _
  simp [secL, u8v]
theorem fill_sec1 (s : Sec) : fillL (fun j => some (j * 64, 64)) (zerosL (List.replicate 64 (.int .u8 0)) 1) [(0, .agg (secC s).toArray)] = some (secC s) := by
  simp only [fillL, Value.cells, List.size_toArray, secC_len, Nat.zero_mul]
  rw [if_pos ⟨trivial, by rw [zerosL_length]; simp⟩, setSeg_all (by rw [secC_len, zerosL_length]; simp)]
theorem copy_piece (m : Value) (F : List UInt8) (k : Nat) : setSeg (m :: List.replicate 63 (.int .u8 0)) (0 + 1 * 1) ((piece F k).map u8v) = m :: ((piece F k).map u8v ++ List.replicate (63 - (piece F k).length) (.int .u8 0)) := by
  have hl : (piece F k).length ≤ 63 := by rw [piece_length]; omega
  have := setSeg_mid [m] (List.replicate (piece F k).length (.int .u8 0)) (List.replicate (63 - (piece F k).length) (.int .u8 0)) ((piece F k).map u8v) (0 + 1 * 1) rfl (by simp)
  rw [List.append_assoc, List.replicate_append_replicate, show (piece F k).length + (63 - (piece F k).length) = 63 by omega] at this
  simpa using this
theorem take_map_u8 (F : List UInt8) (k m : Nat) (hm : m = min 63 (F.length - 63 * k)) : (piece F k).map u8v = ((F.map u8v).drop (63 * k * 1)).take (m * 1) := by
  subst hm
  rw [Nat.mul_one, Nat.mul_one, ← List.map_drop, ← List.map_take, piece]
  congr 1
  rcases Nat.le_total 63 (F.length - 63 * k) with h | h
  · rw [Nat.min_eq_left h]
  rw [Nat.min_eq_right h, List.take_of_length_le (by simp; omega), List.take_of_length_le (by simp)]
def encL (bo : Nat) (A : Option Addr) (c : Nat) (F : List UInt8) (n k : Nat) : List HProp :=
  [exS (fun q : Option Addr × Nat => [blk bo 53 [.slice q.1 k q.2], row q.1 61 64 k q.2 ((secsTo F k).flatMap secC)]), row A 5 1 n c (F.map u8v)]
theorem one_mark (m : Int) : ∀ v ∈ (Value.int .u8 m :: List.replicate 63 (Value.int .u8 0)), v.oneCell' = true := fun v hv => by
  rcases List.mem_cons.1 hv with rfl | h
  · rfl
  · rw [List.eq_of_mem_replicate h]; rfl
theorem Encode_ok (D : Nat → Prop) (w : World) (k a b : Nat) (v : Value) (xs : List UInt8) (hk : k < 256) (ha : a < 4294967296) (hb : b < 4294967296) (hx : xs.length ≤ 4000) (HA : Old D w (Rep.rep xs [v])) :
    Calls Tryz.prog 99 #[.agg #[.int .i64 k, .int .u32 a, .int .u32 b, v]] w fun e w' => ∃ q : Option Addr × Nat, e = .returned (.tuple #[.slice q.1 ((15 + xs.length + 62) / 63) q.2, .int .i64 0]) ∧ Own D w w' [row q.1 61 64 ((15 + xs.length + 62) / 63) q.2 ((encS (fullB k a b xs)).flatMap secC)] := by
  obtain ⟨Ax, capx, rfl, hc1, hc2, HS⟩ := HA.openB
  obtain ⟨F, hF⟩ : ∃ F, F = fullB k a b xs := ⟨_, rfl⟩
  have hFl : F.length = 15 + xs.length := by rw [hF]; exact fullB_length _ _ _ _
  have hS : encS F = secsTo F ((15 + xs.length + 62) / 63) := by rw [← hFl]; rfl
  rw [← hF, hS]
  obtain ⟨n, hn⟩ : ∃ n, n = 15 + xs.length := ⟨_, rfl⟩
  refine hc_enterM (vs := [.agg #[.int .i64 k, .int .u32 a, .int .u32 b, .slice Ax xs.length capx]]) Tryz.func99 rfl _ Tryz.ntmps99 rfl (Own.start D w) ?_
  simp only [argSlots, Nat.zero_add]
  refine hc_seq <| hc_region <| hl_new (on_boxN rfl rfl) rfl rfl rfl fun b1 =>  ?_
  refine hl_v (ov_assign rfl) rfl <| hl_v (ov_assign rfl) rfl <| hl_nil <| hx_then_normal <| hc_seq <| hc_block <| ?_
  refine hc_seq <| hc_region <| hl_v (ov_fieldA rfl) rfl <| hl_v (ov_load rfl (CellIs.blk rfl)) rfl <| hl_v (ov_lss rfl rfl) rfl <| hl_v (ov_move rfl) rfl <| ?_
  refine hl_partF (t := 11) rfl (by omega) ?_
  refine hl_on rfl rfl <| hl_v (ov_fieldA rfl) rfl <| hl_on rfl rfl <| hl_v (ov_load rfl (CellIs.blk rfl)) rfl <| hl_on rfl rfl <| hl_v (ov_gtr rfl rfl) rfl <| hl_v (ov_pickF rfl rfl) rfl <| hl_v (ov_assign rfl) rfl <| hl_nil <| ?_
  refine hx_then_normal <| ?_
  refine hc_cond_F rfl (by omega) ?_
  refine hc_seq <| hc_region <| hl_v (ov_fieldA rfl) rfl <| hl_v (ov_load rfl (CellIs.blk rfl)) rfl <| hl_v (by first | exact ov_len rfl | exact ov_lenS rfl) rfl <| ?_
  refine hl_v (ov_gtr rfl rfl) rfl <| hl_v (ov_assign rfl) rfl <| hl_nil <| hx_then_normal <| ?_
  refine hc_cond_F rfl (by omega) ?_
  refine hc_skip <| hx_block_normal <| hx_then_normal <| hc_seq <| hc_region <| hl_new (on_alloc) rfl rfl rfl fun b4 =>  ?_
  refine hl_nil <| hx_then_normal <| hc_seq <| hc_seq <| hc_region <| hl_v (ov_fieldA rfl) rfl <| ?_
  refine hl_v (ov_load rfl (CellIs.blk rfl)) rfl <| hl_v (ov_fieldA rfl) rfl <| hl_v (ov_load rfl (CellIs.blk rfl)) rfl <| hl_v (ov_fieldA rfl) rfl <| hl_v (ov_load rfl (CellIs.blk rfl)) rfl <| hl_v (ov_buildSN rfl rfl) rfl <| ?_
  refine hl_v (ov_fieldA rfl) rfl <| hl_v (ov_load rfl (CellIs.blk rfl)) rfl <| hl_v (ov_buildSN rfl rfl) rfl <| ?_
  refine hl_call (σ := Option Addr × Nat) Tryz.call140 rfl rfl (fun w1 H1 => Own.callx0 H1 fun D' hold hin H2 => bytes_spec D' w1 k a b _ xs hk ha hb hx (hold _ HA)) ?_
  rintro ⟨A, c⟩
  try rw [List.nil_append]
  rw [← hn] at hFl
  rw [← hF, ← hn]
  dsimp only
  refine hl_call (σ := Nat × Nat) Tryz.call139 rfl rfl (fun w1 H1 => Own.callx0 H1 fun D' hold hin H2 => Chunk_spec D' w1 A n c) ?_
  rintro ⟨bs, bn⟩
  try rw [List.nil_append]
  dsimp only
  refine hl_nil <| hx_then_normal <| hc_block <| ?_
  refine HC.fact (fun w H => Own.factR A H) ?_
  rintro ⟨hrl, hnc, hcc, hA⟩
  have hA : isA A := hA (by intro h; have := congrArg List.length h; simp [hFl] at this; omega)
  refine hc_rangeFunc rfl Tryz.call157 rfl ((n + 62) / 63) (pieceV A n) (fun k => blk bs 108 [.slice A n c] :: blk bn 3 [.int .i64 63] :: encL b4 A c F n k) (Ent.trans (b := blk bs 108 [.slice A n c] :: blk bn 3 [.int .i64 63] :: ([blk b4 53 [.slice none 0 0], row none 61 64 0 0 []] ++ [row A 5 1 n c (F.map u8v)])) (Ent.trans (by first | assumption | exact Ent.refl _ | exact Ent.nil _ | exact Ent.row_any (Ent.refl _) | (repeat (first | exact Ent.refl _ | exact Ent.nil _ | refine Ent.pick ?_))) (Ent.cons (Ent.cons (Ent.cons (Ent.nil_row _ _))))) (Ent.cons (Ent.cons (Ent.exS (L := fun q : Option Addr × Nat => [blk b4 53 [.slice q.1 0 q.2], row q.1 61 64 0 q.2 ((secsTo F 0).flatMap secC)]) (none, 0))))) (Chunk1_seq D w bs bn A n c hnc (by omega) _) ?_ ?_
  · intro lp dp rec i hi
    have hin : 63 * i < n := by omega
    obtain ⟨m, hm⟩ : ∃ m, m = min 63 (n - 63 * i) := ⟨_, rfl⟩
    have hm63 : m ≤ 63 := by omega
    rw [show pieceV A n i = .slice (A.map (·.add (63 * i))) m m from by unfold pieceV; rw [← hm]]
    have hsn : (secsTo F i).flatMap secC ++ secC (secOf F i) = (secsTo F (i + 1)).flatMap secC := by rw [secsTo_snoc]; simp
    have hsrc : ∀ {l r : List HProp} [PickR l A 5 1 n c (F.map u8v) r], SrcIs D w l (A.map (·.add (63 * i))) ((piece F i).map u8v) := fun {l r} [hp : PickR l A 5 1 n c (F.map u8v) r] => by
      have h := SrcIs.rowCut (D := D) (w0 := w) (h := hp) hA (63 * i) m (by omega) hrl hnc (take_map_u8 F i m (by rw [hFl]; exact hm))
      rw [if_neg (by omega), Nat.mul_one] at h
      exact h
    refine hic_region <| hil_val (ov_assign rfl) rfl rfl rfl <| hil_nil <| hix_begin <| ?_
    refine HCi.ent (l' := exS (fun q : Option Addr × Nat => [blk b4 53 [.slice q.1 i q.2], row q.1 61 64 i q.2 ((secsTo F i).flatMap secC)]) :: loopP lp dp rec .busy :: blk bs 108 [.slice A n c] :: blk bn 3 [.int .i64 63] :: row A 5 1 n c (F.map u8v) :: []) (show Ent (loopP lp dp rec .busy :: blk bs 108 [.slice A n c] :: blk bn 3 [.int .i64 63] :: exS (fun q : Option Addr × Nat => [blk b4 53 [.slice q.1 i q.2], row q.1 61 64 i q.2 ((secsTo F i).flatMap secC)]) :: row A 5 1 n c (F.map u8v) :: []) _ from (by first | assumption | exact Ent.refl _ | exact Ent.nil _ | exact Ent.row_any (Ent.refl _) | (repeat (first | exact Ent.refl _ | exact Ent.nil _ | refine Ent.pick ?_)))) ?_
    refine HCi.exs ?_
    rintro ⟨A2, c2⟩
    dsimp only [List.cons_append, List.nil_append]
    by_cases hi0 : i = 0
    · have hcp : setSeg (.int .u8 87 :: List.replicate 63 (.int .u8 0)) (0 + 1 * 1) ((piece F i).map u8v) = secC (secOf F i) := by rw [copy_piece, secOf_cells, markK, if_pos hi0]; rfl
      refine hic_block <| hic_seq <| hic_region <| ?_
      refine hil_val (ov_buildA (res := .int .u8 119 :: List.replicate 63 (.int .u8 0)) rfl rfl) rfl rfl rfl ?_
      refine hil_new (on_alloc) rfl rfl rfl fun b6 =>  ?_
      refine hil_u0 (on_storeW (vs := .int .u8 119 :: List.replicate 63 (.int .u8 0)) rfl rfl (by simp) (by simp) (one_mark _)) rfl rfl ?_
      refine hil_nil <| hix_then_normal <| hic_seq <| hic_seq <| hic_region <| hil_val (ov_load rfl (CellIs.blk rfl)) rfl rfl rfl <| ?_
      refine hil_val (by first | exact ov_len rfl | exact ov_lenS rfl) rfl rfl rfl <| ?_
      refine hil_val (ov_eql rfl rfl) rfl rfl rfl <| hil_nil <| hix_then_normal <| ?_
      refine hic_cond_T rfl (by omega) ?_
      refine hic_region <| hil_val (ov_idxPc rfl rfl rfl rfl rfl) rfl rfl rfl <| ?_
      refine hil_u0 (on_storeE (.int .u8 87 :: List.replicate 63 (.int .u8 0)) rfl rfl (by simp) rfl rfl) rfl rfl ?_
      refine hil_nil <| hix_then_normal <| hic_seq <| hic_region <| ?_
      refine hil_val (ov_sliceP rfl 1 64 (.inr ⟨_, _, rfl, rfl⟩) (.inl ⟨rfl, rfl⟩) (by decide) (by decide) (by decide)) rfl rfl rfl ?_
      refine hil_val (ov_move rfl) rfl rfl rfl <| ?_
      refine hil_u (on_copy (news := (piece F i).map u8v) rfl rfl hsrc (by rw [List.length_map, piece_length, hFl, ← hm, Nat.mul_one]) (by omega) (by rw [List.length_map, piece_length, hFl, ← hm]; simp; omega) (u8_one _)) rfl rfl rfl ?_
      rw [hcp]
      refine hil_nil <| hix_then_normal <| hic_region <| hil_val (ov_load rfl (CellIs.blk rfl)) rfl rfl rfl <| ?_
      refine hil_val (ov_loadW rfl (secC_len (secOf F i))) rfl rfl rfl ?_
      refine hil_new (on_buildSlice (res := secC (secOf F i)) rfl rfl (fill_sec1 _)) rfl rfl rfl (fun bs2 => ?_)
      refine hil_new (on_appendR (A := A2) (news := secC (secOf F i)) rfl rfl (SrcIs.blk (b := bs2)) (by rw [secC_len]) (secC_one _) (by decide) (by omega)) rfl rfl rfl (fun q2 => ?_)
      refine hil_u0 (on_storeN rfl rfl rfl rfl rfl) rfl rfl <| hil_nil <| hix_block_normal <| ?_
      rw [hsn]
      exact hix_end (Ent.trans (b := loopP lp dp rec .busy :: blk bs 108 [.slice A n c] :: blk bn 3 [.int .i64 63] :: ([blk b4 53 [.slice q2.1 (i + 1) q2.2], row q2.1 61 64 (i + 1) q2.2 ((secsTo F (i + 1)).flatMap secC)] ++ [row A 5 1 n c (F.map u8v)])) (by first | assumption | exact Ent.refl _ | exact Ent.nil _ | exact Ent.row_any (Ent.refl _) | (repeat (first | exact Ent.refl _ | exact Ent.nil _ | refine Ent.pick ?_))) (Ent.cons (Ent.cons (Ent.cons (Ent.exS (L := fun q : Option Addr × Nat => [blk b4 53 [.slice q.1 (i + 1) q.2], row q.1 61 64 (i + 1) q.2 ((secsTo F (i + 1)).flatMap secC)]) q2)))))
    have hcp : setSeg (.int .u8 119 :: List.replicate 63 (.int .u8 0)) (0 + 1 * 1) ((piece F i).map u8v) = secC (secOf F i) := by rw [copy_piece, secOf_cells, markK, if_neg hi0]; rfl
    refine hic_block <| hic_seq <| hic_region <| ?_
    refine hil_val (ov_buildA (res := .int .u8 119 :: List.replicate 63 (.int .u8 0)) rfl rfl) rfl rfl rfl ?_
    refine hil_new (on_alloc) rfl rfl rfl fun b6 =>  ?_
    refine hil_u0 (on_storeW (vs := .int .u8 119 :: List.replicate 63 (.int .u8 0)) rfl rfl (by simp) (by simp) (one_mark _)) rfl rfl ?_
    refine hil_nil <| hix_then_normal <| hic_seq <| hic_seq <| hic_region <| hil_val (ov_load rfl (CellIs.blk rfl)) rfl rfl rfl <| ?_
    refine hil_val (by first | exact ov_len rfl | exact ov_lenS rfl) rfl rfl rfl <| ?_
    refine hil_val (ov_eql rfl rfl) rfl rfl rfl <| hil_nil <| hix_then_normal <| ?_
    refine hic_cond_F rfl (by omega) ?_
    refine hic_skip <| hix_then_normal <| hic_seq <| hic_region <| ?_
    refine hil_val (ov_sliceP rfl 1 64 (.inr ⟨_, _, rfl, rfl⟩) (.inl ⟨rfl, rfl⟩) (by decide) (by decide) (by decide)) rfl rfl rfl ?_
    refine hil_val (ov_move rfl) rfl rfl rfl <| ?_
    refine hil_u (on_copy (news := (piece F i).map u8v) rfl rfl hsrc (by rw [List.length_map, piece_length, hFl, ← hm, Nat.mul_one]) (by omega) (by rw [List.length_map, piece_length, hFl, ← hm]; simp; omega) (u8_one _)) rfl rfl rfl ?_
    rw [hcp]
    refine hil_nil <| hix_then_normal <| hic_region <| hil_val (ov_load rfl (CellIs.blk rfl)) rfl rfl rfl <| ?_
    refine hil_val (ov_loadW rfl (secC_len (secOf F i))) rfl rfl rfl ?_
    refine hil_new (on_buildSlice (res := secC (secOf F i)) rfl rfl (fill_sec1 _)) rfl rfl rfl (fun bs2 => ?_)
    refine hil_new (on_appendR (A := A2) (news := secC (secOf F i)) rfl rfl (SrcIs.blk (b := bs2)) (by rw [secC_len]) (secC_one _) (by decide) (by omega)) rfl rfl rfl (fun q2 => ?_)
    refine hil_u0 (on_storeN rfl rfl rfl rfl rfl) rfl rfl <| hil_nil <| hix_block_normal <| ?_
    rw [hsn]
    exact hix_end (Ent.trans (b := loopP lp dp rec .busy :: blk bs 108 [.slice A n c] :: blk bn 3 [.int .i64 63] :: ([blk b4 53 [.slice q2.1 (i + 1) q2.2], row q2.1 61 64 (i + 1) q2.2 ((secsTo F (i + 1)).flatMap secC)] ++ [row A 5 1 n c (F.map u8v)])) (by first | assumption | exact Ent.refl _ | exact Ent.nil _ | exact Ent.row_any (Ent.refl _) | (repeat (first | exact Ent.refl _ | exact Ent.nil _ | refine Ent.pick ?_))) (Ent.cons (Ent.cons (Ent.cons (Ent.exS (L := fun q : Option Addr × Nat => [blk b4 53 [.slice q.1 (i + 1) q.2], row q.1 61 64 (i + 1) q.2 ((secsTo F (i + 1)).flatMap secC)]) q2)))))
  intro dp
  refine HXi.ent (l' := exS (fun q : Option Addr × Nat => [blk b4 53 [.slice q.1 ((n + 62) / 63) q.2], row q.1 61 64 ((n + 62) / 63) q.2 ((secsTo F ((n + 62) / 63)).flatMap secC)]) :: ob dp (.deferred (some [])) :: blk bs 108 [.slice A n c] :: blk bn 3 [.int .i64 63] :: row A 5 1 n c (F.map u8v) :: []) (show Ent (ob dp (.deferred (some [])) :: blk bs 108 [.slice A n c] :: blk bn 3 [.int .i64 63] :: exS (fun q : Option Addr × Nat => [blk b4 53 [.slice q.1 ((n + 62) / 63) q.2], row q.1 61 64 ((n + 62) / 63) q.2 ((secsTo F ((n + 62) / 63)).flatMap secC)]) :: row A 5 1 n c (F.map u8v) :: []) _ from (by first | assumption | exact Ent.refl _ | exact Ent.nil _ | exact Ent.row_any (Ent.refl _) | (repeat (first | exact Ent.refl _ | exact Ent.nil _ | refine Ent.pick ?_)))) ?_
  refine HXi.exs ?_
  rintro ⟨A2, c2⟩
  dsimp only [List.cons_append, List.nil_append]
  refine hix_block_normal <| hix_then_normalW <| hic_seq <| hic_region <| hil_val (ov_load rfl (CellIs.blk rfl)) rfl rfl rfl <| hil_val (ov_assign rfl) rfl rfl rfl <| ?_
  refine hil_val (ov_assign rfl) rfl rfl rfl <| hil_nil <| hix_then_normal <| hic_ret <| ?_
  exact resultsM_2 (.inr rfl) rfl rfl rfl fun w' H' => ⟨(A2, c2), rfl, H'.ent (by first | assumption | exact Ent.refl _ | exact Ent.nil _ | exact Ent.row_any (Ent.refl _) | (repeat (first | exact Ent.refl _ | exact Ent.nil _ | refine Ent.pick ?_)))⟩
end Go.Proofs.YtjlolpmmpafjeaaGreat
