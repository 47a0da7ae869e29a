import Derived.Test.YtpgpfcplchaleaaCon6
import Derived.Test.YtpgpfcplchaleaaKBytes
set_option linter.unusedVariables false
set_option linter.unusedSimpArgs false
namespace Go.Proofs.Ytpgpfcplchaleaa
open Slk
/-! ### Numbers as bytes -/
def beB (n k : Nat) : List UInt8 := (List.range k).map fun i => UInt8.ofNat (n / 2 ^ (8 * (k - 1 - i)))
theorem beB_len (n k : Nat) : (beB n k).length = k := by simp [beB]
theorem beB_take (n k i : Nat) (h : i < k) : (beB n k).take (i + 1) = (beB n k).take i ++ [UInt8.ofNat (n / 2 ^ (8 * (k - 1 - i)))] := by
  have hl : i < (beB n k).length := by rw [beB_len]; exact h
  rw [List.take_succ_eq_append_getElem hl]
  simp [beB]
theorem u8v_ofNat (m : Nat) : u8v (UInt8.ofNat m) = .int .u8 ((m % 256 : Nat) : Int) := by simp [u8v]
theorem wrap8 (m : Nat) : IntKind.u8.wrap (m : Int) = ((m % 256 : Nat) : Int) := by
  show ((m : Int) % 2 ^ 8) = _
  omega
def wrt (g : Nat) (xs : List UInt8) : HProp := exS fun q : Option Addr × Nat => [blk g 82 [.slice q.1 xs.length q.2], row q.1 5 1 xs.length q.2 (xs.map u8v)]
theorem put_spec (D : Nat → Prop) (w : World) (g n k : Nat) (xs : List UInt8) (hn : n < 18446744073709551616) (hk : k ≤ 6) (hx : xs.length ≤ 1000000) (H : Own D w w [wrt g xs]) :
    Calls Try.prog 70 #[.pointer (some ⟨g, 0, none⟩), .int .u64 n, .int .i64 k] w fun e w' => e = .returned (.tuple #[]) ∧ Own D w w' [wrt g (xs ++ beB n k)] := by
  obtain ⟨⟨A0, c0⟩, H⟩ := Own.exs H
  refine hc_enter (vs := [.pointer (some ⟨g, 0, none⟩), .int .u64 n, .int .i64 k]) Try.func70 rfl _ Try.ntmps70 rfl H ?_
  simp only [argSlots, Nat.zero_add]
  refine HC.ent (l' := [blk g 82 [.slice A0 xs.length c0], row A0 5 1 xs.length c0 (xs.map u8v)]) (fun _ h => h) ?_
  refine hc_seq <|
    hc_region <|
    hl_val (ov_move rfl) rfl rfl rfl <|
    hl_val (ov_move rfl) rfl rfl rfl <|
    hl_nil <|
    hx_then_normal <| ?_
  refine hc_block <| ?_
  refine hc_loopK1 (σ := Nat × Nat × List Value × Option Addr × Nat) [0, 1, 2, 7] rfl 8 (fun s => .int .i64 (s.1 : Int)) (fun s => [blk g 82 [.slice s.2.2.2.1 s.2.1 s.2.2.2.2], row s.2.2.2.1 5 1 s.2.1 s.2.2.2.2 s.2.2.1]) (fun s => s.1 ≤ k ∧ s.2.1 = xs.length + s.1 ∧ s.2.2.1 = (xs ++ (beB n k).take s.1).map u8v) (fun s => k - s.1) ((0, xs.length, xs.map u8v, A0, c0)) (⟨Nat.zero_le _, rfl, by simp⟩) rfl (by first | assumption | exact Ent.refl _ | exact Ent.nil _ | (repeat (first | exact Ent.refl _ | exact Ent.nil _ | refine Ent.pick ?_))) ?_
  rintro ⟨i, m, cs, A, c⟩ hj_ K1 hK1
  dsimp only at hj_ ⊢
  obtain ⟨hi, hm, hcs⟩ := hj_
  refine hc_seq <|
    hc_region <|
    hl_val (ov_lss rfl rfl) rfl rfl rfl <|
    hl_nil <|
    hx_then_normal <|
    hc_seq <| ?_
  refine hc_cond rfl (fun h => ?_) (fun h => ?_)
  · have hlt : i < k := by omega
    have hcs' : cs ++ [.int .u8 ((n / 2 ^ (8 * (k - 1 - i)) % 256 : Nat) : Int)] = (xs ++ (beB n k).take (i + 1)).map u8v := by
      rw [hcs, beB_take n k i hlt, ← u8v_ofNat]; simp
    have hm' : m + 1 = xs.length + (i + 1) := by omega
    have hme : k - (i + 1) < k - i := by omega
    refine hc_skip <|
      hx_then_normal <|
      hc_seq <|
      hc_block <|
      hc_seq <|
      hc_region <| ?_
    refine hl_val (ov_move rfl) rfl rfl rfl <|
      hl_val (ov_assign rfl) rfl rfl rfl <|
      hl_nil <|
      hx_then_normal <| ?_
    refine hc_any [] mixed 18 rfl ?_
    refine ha_take 0 rfl (ov_move rfl) rfl rfl rfl (by kernel_rfl) (by kernel_rfl) (by kernel_rfl) (by first | assumption | exact Ent.refl _ | exact Ent.nil _ | (repeat (first | exact Ent.refl _ | exact Ent.nil _ | refine Ent.pick ?_))) <| ?_
    refine ha_take 1 rfl (ov_move rfl) rfl rfl rfl (by kernel_rfl) (by kernel_rfl) (by kernel_rfl) (by first | assumption | exact Ent.refl _ | exact Ent.nil _ | (repeat (first | exact Ent.refl _ | exact Ent.nil _ | refine Ent.pick ?_))) <| ?_
    refine ha_take 2 rfl (ov_nil rfl) rfl rfl rfl (by kernel_rfl) (by kernel_rfl) (by kernel_rfl) (by first | assumption | exact Ent.refl _ | exact Ent.nil _ | (repeat (first | exact Ent.refl _ | exact Ent.nil _ | refine Ent.pick ?_))) <| ?_
    refine ha_take 3 rfl (ov_fieldA rfl) rfl rfl rfl (by kernel_rfl) (by kernel_rfl) (by kernel_rfl) (by first | assumption | exact Ent.refl _ | exact Ent.nil _ | (repeat (first | exact Ent.refl _ | exact Ent.nil _ | refine Ent.pick ?_))) <| ?_
    refine ha_take 5 rfl (ov_move rfl) rfl rfl rfl (by kernel_rfl) (by kernel_rfl) (by kernel_rfl) (by first | assumption | exact Ent.refl _ | exact Ent.nil _ | (repeat (first | exact Ent.refl _ | exact Ent.nil _ | refine Ent.pick ?_))) <| ?_
    refine ha_take 6 rfl (ov_move rfl) rfl rfl rfl (by kernel_rfl) (by kernel_rfl) (by kernel_rfl) (by first | assumption | exact Ent.refl _ | exact Ent.nil _ | (repeat (first | exact Ent.refl _ | exact Ent.nil _ | refine Ent.pick ?_))) <| ?_
    refine ha_take 7 rfl (ov_sub rfl rfl (by first | exact wrap_i64 (by omega) | rfl)) rfl rfl rfl (by kernel_rfl) (by kernel_rfl) (by kernel_rfl) (by first | assumption | exact Ent.refl _ | exact Ent.nil _ | (repeat (first | exact Ent.refl _ | exact Ent.nil _ | refine Ent.pick ?_))) <| ?_
    refine ha_take 8 rfl (ov_move rfl) rfl rfl rfl (by kernel_rfl) (by kernel_rfl) (by kernel_rfl) (by first | assumption | exact Ent.refl _ | exact Ent.nil _ | (repeat (first | exact Ent.refl _ | exact Ent.nil _ | refine Ent.pick ?_))) <| ?_
    refine ha_take 9 rfl (ov_sub rfl rfl (by first | exact wrap_i64 (by omega) | rfl)) rfl rfl rfl (by kernel_rfl) (by kernel_rfl) (by kernel_rfl) (by first | assumption | exact Ent.refl _ | exact Ent.nil _ | (repeat (first | exact Ent.refl _ | exact Ent.nil _ | refine Ent.pick ?_))) <| ?_
    refine ha_take 10 rfl (ov_mul rfl rfl (by first | exact wrap_i64 (by omega) | rfl)) rfl rfl rfl (by kernel_rfl) (by kernel_rfl) (by kernel_rfl) (by first | assumption | exact Ent.refl _ | exact Ent.nil _ | (repeat (first | exact Ent.refl _ | exact Ent.nil _ | refine Ent.pick ?_))) <| ?_
    refine ha_take 11 rfl (ov_shr (m := ((n / 2 ^ (8 * (k - 1 - i)) : Nat) : Int)) rfl rfl (by omega) (shrK n (8 * (k - 1 - i)) _ 64 (by omega))) rfl rfl rfl (by kernel_rfl) (by kernel_rfl) (by kernel_rfl) (by first | assumption | exact Ent.refl _ | exact Ent.nil _ | (repeat (first | exact Ent.refl _ | exact Ent.nil _ | refine Ent.pick ?_))) ?_
    refine ha_take 12 rfl (ov_conv (m := ((n / 2 ^ (8 * (k - 1 - i)) % 256 : Nat) : Int)) rfl (wrap8 _)) rfl rfl rfl (by kernel_rfl) (by kernel_rfl) (by kernel_rfl) (by first | assumption | exact Ent.refl _ | exact Ent.nil _ | (repeat (first | exact Ent.refl _ | exact Ent.nil _ | refine Ent.pick ?_))) ?_
    refine ha_two 4 13 (by kernel_rfl) ?_ ?_
    · skip
      refine ho_val rfl (ov_load rfl (CellIs.blk rfl)) rfl rfl rfl (by first | assumption | exact Ent.refl _ | exact Ent.nil _ | (repeat (first | exact Ent.refl _ | exact Ent.nil _ | refine Ent.pick ?_))) <| ?_
      refine ha_one 13 (by kernel_rfl) <|
        ho_new rfl (on_buildSliceN rfl rfl rfl) rfl rfl rfl (fun _ => (by first | assumption | exact Ent.refl _ | exact Ent.nil _ | (repeat (first | exact Ent.refl _ | exact Ent.nil _ | refine Ent.pick ?_)))) fun b24 =>  ?_
      refine ha_one 14 (by kernel_rfl) <| ?_
      refine ho_new rfl (on_appendR (A := A) (news := [.int .u8 ((n / 2 ^ (8 * (k - 1 - i)) % 256 : Nat) : Int)]) rfl rfl (SrcIs.blk (b := b24)) rfl (by simp [Value.oneCell']) (by decide) (by omega)) rfl rfl rfl (fun _ => (by first | assumption | exact Ent.refl _ | exact Ent.nil _ | (repeat (first | exact Ent.refl _ | exact Ent.nil _ | refine Ent.pick ?_)))) (fun q2 => ?_)
      refine ha_take 15 rfl (ov_nil rfl) rfl rfl rfl (by kernel_rfl) (by kernel_rfl) (by kernel_rfl) (by first | assumption | exact Ent.refl _ | exact Ent.nil _ | (repeat (first | exact Ent.refl _ | exact Ent.nil _ | refine Ent.pick ?_))) <| ?_
      refine ha_take 16 rfl (ov_fieldA rfl) rfl rfl rfl (by kernel_rfl) (by kernel_rfl) (by kernel_rfl) (by first | assumption | exact Ent.refl _ | exact Ent.nil _ | (repeat (first | exact Ent.refl _ | exact Ent.nil _ | refine Ent.pick ?_))) <| ?_
      refine ha_one 17 (by kernel_rfl) <| ?_
      refine ho_u0 rfl (on_storeE [.slice q2.1 (m + 1) q2.2] rfl rfl (by simp) rfl rfl) rfl rfl (by first | assumption | exact Ent.refl _ | exact Ent.nil _ | (repeat (first | exact Ent.refl _ | exact Ent.nil _ | refine Ent.pick ?_))) ?_
      refine ha_done (by kernel_rfl) <|
        hx_block_normal <|
        hx_then_normal <|
        hc_region <|
        hl_val (ov_add rfl rfl (by first | exact wrap_i64 (by omega) | rfl)) rfl rfl rfl <| ?_
      refine hl_val (ov_move rfl) rfl rfl rfl <|
        hl_nil <| ?_
      refine hx_next hK1 ((i + 1, m + 1, cs ++ [.int .u8 ((n / 2 ^ (8 * (k - 1 - i)) % 256 : Nat) : Int)], q2)) (⟨hlt, hm', hcs'⟩) (hme) (by repeat (first | exact Slots.sub_nil _ | refine Slots.sub_cons rfl ?_)) (by first | assumption | exact Ent.refl _ | exact Ent.nil _ | (repeat (first | exact Ent.refl _ | exact Ent.nil _ | refine Ent.pick ?_)))
    · skip
      refine ho_new rfl (on_buildSliceN rfl rfl rfl) rfl rfl rfl (fun _ => (by first | assumption | exact Ent.refl _ | exact Ent.nil _ | (repeat (first | exact Ent.refl _ | exact Ent.nil _ | refine Ent.pick ?_)))) (fun b24 => ?_)
      refine ha_one 4 (by kernel_rfl) <| ?_
      refine ho_val rfl (ov_load rfl (CellIs.blk rfl)) rfl rfl rfl (by first | assumption | exact Ent.refl _ | exact Ent.nil _ | (repeat (first | exact Ent.refl _ | exact Ent.nil _ | refine Ent.pick ?_))) <| ?_
      refine ha_one 14 (by kernel_rfl) <| ?_
      refine ho_new rfl (on_appendR (A := A) (news := [.int .u8 ((n / 2 ^ (8 * (k - 1 - i)) % 256 : Nat) : Int)]) rfl rfl (SrcIs.blk (b := b24)) rfl (by simp [Value.oneCell']) (by decide) (by omega)) rfl rfl rfl (fun _ => (by first | assumption | exact Ent.refl _ | exact Ent.nil _ | (repeat (first | exact Ent.refl _ | exact Ent.nil _ | refine Ent.pick ?_)))) (fun q2 => ?_)
      refine ha_take 15 rfl (ov_nil rfl) rfl rfl rfl (by kernel_rfl) (by kernel_rfl) (by kernel_rfl) (by first | assumption | exact Ent.refl _ | exact Ent.nil _ | (repeat (first | exact Ent.refl _ | exact Ent.nil _ | refine Ent.pick ?_))) <| ?_
      refine ha_take 16 rfl (ov_fieldA rfl) rfl rfl rfl (by kernel_rfl) (by kernel_rfl) (by kernel_rfl) (by first | assumption | exact Ent.refl _ | exact Ent.nil _ | (repeat (first | exact Ent.refl _ | exact Ent.nil _ | refine Ent.pick ?_))) <| ?_
      refine ha_one 17 (by kernel_rfl) <| ?_
      refine ho_u0 rfl (on_storeE [.slice q2.1 (m + 1) q2.2] rfl rfl (by simp) rfl rfl) rfl rfl (by first | assumption | exact Ent.refl _ | exact Ent.nil _ | (repeat (first | exact Ent.refl _ | exact Ent.nil _ | refine Ent.pick ?_))) ?_
      refine ha_done (by kernel_rfl) <|
        hx_block_normal <|
        hx_then_normal <|
        hc_region <|
        hl_val (ov_add rfl rfl (by first | exact wrap_i64 (by omega) | rfl)) rfl rfl rfl <| ?_
      refine hl_val (ov_move rfl) rfl rfl rfl <|
        hl_nil <| ?_
      refine hx_next hK1 ((i + 1, m + 1, cs ++ [.int .u8 ((n / 2 ^ (8 * (k - 1 - i)) % 256 : Nat) : Int)], q2)) (⟨hlt, hm', hcs'⟩) (hme) (by repeat (first | exact Slots.sub_nil _ | refine Slots.sub_cons rfl ?_)) (by first | assumption | exact Ent.refl _ | exact Ent.nil _ | (repeat (first | exact Ent.refl _ | exact Ent.nil _ | refine Ent.pick ?_)))
  · have hik : i = k := by omega
    subst hik
    refine hc_exit <|
      hx_then_exit <|
      hx_then_exit <|
      hx_block_out <| ?_
    have hl : (xs ++ beB n i).length = xs.length + i := by rw [List.length_append, beB_len]
    rw [List.take_of_length_le (by rw [beB_len]; exact Nat.le_refl _)] at hcs
    rw [← hl] at hm
    subst hm; subst hcs
    exact results_0 (.inl rfl) rfl fun w' H' => ⟨rfl, H'.ent (Ent.exS (L := fun q : Option Addr × Nat => [blk g 82 [.slice q.1 (xs ++ beB n i).length q.2], row q.1 5 1 (xs ++ beB n i).length q.2 ((xs ++ beB n i).map u8v)]) (l := []) (A, c))⟩
end Go.Proofs.Ytpgpfcplchaleaa
