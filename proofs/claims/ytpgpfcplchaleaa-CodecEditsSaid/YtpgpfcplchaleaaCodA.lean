import Derived.Test.YtpgpfcplchaleaaCod9
set_option linter.unusedVariables false
set_option linter.unusedSimpArgs false
namespace Go.Proofs.Ytpgpfcplchaleaa
open Slk
/-! ### Edits are read -/
def rdE (s : RS) : EditC × RS :=
  let s1 := getS s 1
  let s2 := getS s1 1
  let s3 := getS s2 4
  let s4 := getS s3 2
  let s5 := getS s4 1
  let s6 := getS s5 1
  ((getN s 1, getN s1 1, getN s2 4, getN s3 2, UInt8.ofNat (getN s4 1), UInt8.ofNat (getN s5 1), UInt64.ofNat (getN s6 6)), getS s6 6)
def rdEs : Nat → RS → List EditC × RS
  | 0, s => ([], s)
  | i + 1, s => ((rdEs i s).1 ++ [(rdE (rdEs i s).2).1], (rdE (rdEs i s).2).2)
theorem rdEs_len (i : Nat) (s : RS) : (rdEs i s).1.length = i := by
  induction i with
  | zero => rfl
  | succ i ih => simp [rdEs, ih]
theorem old_rdE {D : Nat → Prop} {w : World} {s : RS} (h : Old D w (Rep.rep s.rem [s.v])) : Old D w (Rep.rep (rdE s).2.rem [(rdE s).2.v]) := old_get 6 (old_get 1 (old_get 1 (old_get 2 (old_get 4 (old_get 1 (old_get 1 h))))))
theorem old_rdEs {D : Nat → Prop} {w : World} {s : RS} (i : Nat) (h : Old D w (Rep.rep s.rem [s.v])) : Old D w (Rep.rep (rdEs i s).2.rem [(rdEs i s).2.v]) := by
  induction i with
  | zero => exact h
  | succ i ih => exact old_rdE ih
theorem rdE_cells (s : RS) : editV (rdE s).1 = [.int .i64 (getN s 1), .int .i64 (getN (getS s 1) 1), .int .i64 (getN (getS (getS s 1) 1) 4), .int .i64 (getN (getS (getS (getS s 1) 1) 4) 2), .int .u8 ((getN (getS (getS (getS (getS s 1) 1) 4) 2) 1 % 256 : Nat) : Int), .int .u8 ((getN (getS (getS (getS (getS (getS s 1) 1) 4) 2) 1) 1 % 256 : Nat) : Int), .int .u64 (getN (getS (getS (getS (getS (getS (getS s 1) 1) 4) 2) 1) 1) 6)] := by
  have h : getN (getS (getS (getS (getS (getS (getS s 1) 1) 4) 2) 1) 1) 6 < 18446744073709551616 := Nat.lt_of_lt_of_le (getN_lt _ 6) (by decide)
  show [_, _, _, _, u8v (UInt8.ofNat _), u8v (UInt8.ofNat _), _] = _
  rw [u8v_ofNat, u8v_ofNat]
  simp only [rdE, UInt64.toNat_ofNat']
  rw [Nat.mod_eq_of_lt h]
theorem redits_spec (D : Nat → Prop) (w : World) (g t : Nat) (s : RS) (H : Own D w w [blk g t [s.v, .bool s.bad]]) (HA : Old D w (Rep.rep s.rem [s.v])) :
    Calls Try.prog 45 #[.pointer (some ⟨g, 0, none⟩)] w fun e w' => ∃ q : Option Addr × Nat, e = .returned (.slice q.1 (getN s 1) q.2) ∧ Own D w w' [row q.1 64 7 (getN s 1) q.2 ((rdEs (getN s 1) (getS s 1)).1.flatMap editV), blk g t [(rdEs (getN s 1) (getS s 1)).2.v, .bool (rdEs (getN s 1) (getS s 1)).2.bad]] := by
  have hn : getN s 1 < 256 := getN_lt s 1
  refine hc_enter (vs := [.pointer (some ⟨g, 0, none⟩)]) Try.func45 rfl _ Try.ntmps45 rfl H ?_
  simp only [argSlots, Nat.zero_add]
  refine hc_seq <|
    hc_region <|
    hl_val (ov_assign rfl) rfl rfl rfl <|
    hl_nil <|
    hx_then_normal <|
    hc_seq <| ?_
  refine hc_region <|
    hl_val (ov_assign rfl) rfl rfl rfl <|
    hl_nil <|
    hx_then_normal <|
    hc_seq <|
    hc_seq <| ?_
  refine hc_region <|
    hl_val (ov_move rfl) rfl rfl rfl <|
    hl_val (ov_nil rfl) rfl rfl rfl <|
    hl_val (ov_fieldA rfl) rfl rfl rfl <| ?_
  refine hl_c Try.call73 rfl rfl (fun w1 H1 => Own.callp (blk g t [s.v, .bool s.bad]) H1 fun D' hold hin H2 => int_spec D' w1 g t 1 s (by decide) H2 (hold _ HA)) ?_
  have HA1 := old_get 1 HA
  generalize getS s 1 = s1 at *
  generalize getN s 1 = n at *
  refine hl_val (ov_move rfl) rfl rfl rfl <|
    hl_nil <|
    hx_then_normal <|
    hc_block <| ?_
  refine hc_loopK2 (σ := Nat × Option Addr × Nat) [0, 7] rfl 8 (fun q => .int .i64 (q.1 : Int)) 3 (fun q => .slice q.2.1 q.1 q.2.2) (fun q => [row q.2.1 64 7 q.1 q.2.2 ((rdEs q.1 s1).1.flatMap editV), blk g t [(rdEs q.1 s1).2.v, .bool (rdEs q.1 s1).2.bad]]) (fun q => q.1 ≤ n) (fun q => n - q.1) ((0, none, 0)) (Nat.zero_le _) rfl rfl (Ent.nil_row 64 7) ?_
  rintro ⟨i, A, c⟩ hi K1 hK1
  dsimp only at hi ⊢
  have HAi := old_rdEs i HA1
  refine hc_seq <|
    hc_region <|
    hl_val (ov_lss rfl rfl) rfl rfl rfl <|
    hl_nil <|
    hx_then_normal <|
    hc_seq <| ?_
  refine hc_cond rfl (fun h => ?_) (fun h => ?_)
  · have hlt : i < n := by omega
    have hce := rdE_cells (rdEs i s1).2
    have hs7 : (rdEs (i + 1) s1).2 = getS (getS (getS (getS (getS (getS (getS (rdEs i s1).2 1) 1) 4) 2) 1) 1) 6 := rfl
    have hl7 : (rdEs i s1).1.flatMap editV ++ editV (rdE (rdEs i s1).2).1 = (rdEs (i + 1) s1).1.flatMap editV := by
      show _ = ((rdEs i s1).1 ++ [(rdE (rdEs i s1).2).1]).flatMap editV
      rw [List.flatMap_append, List.flatMap_singleton]
    generalize (rdEs i s1).2 = r0 at *
    have K0 := HAi
    have K1 := old_get 1 K0
    have K2 := old_get 1 K1
    have K3 := old_get 4 K2
    have K4 := old_get 2 K3
    have K5 := old_get 1 K4
    have K6 := old_get 1 K5
    refine hc_skip <|
      hx_then_normal <|
      hc_seq <|
      hc_block <| ?_
    refine hc_any [] mixed 35 rfl ?_
    refine ha_take 0 rfl (ov_move rfl) rfl rfl rfl (by kernel_rfl) (by kernel_rfl) (by kernel_rfl) (by first | assumption | exact Ent.refl _ | exact Ent.nil _ | (repeat (first | exact Ent.refl _ | exact Ent.nil _ | refine Ent.pick ?_))) <| ?_
    refine ha_take 1 rfl (ov_move rfl) rfl rfl rfl (by kernel_rfl) (by kernel_rfl) (by kernel_rfl) (by first | assumption | exact Ent.refl _ | exact Ent.nil _ | (repeat (first | exact Ent.refl _ | exact Ent.nil _ | refine Ent.pick ?_))) <| ?_
    refine ha_take 2 rfl (ov_nil rfl) rfl rfl rfl (by kernel_rfl) (by kernel_rfl) (by kernel_rfl) (by first | assumption | exact Ent.refl _ | exact Ent.nil _ | (repeat (first | exact Ent.refl _ | exact Ent.nil _ | refine Ent.pick ?_))) <| ?_
    refine ha_take 3 rfl (ov_fieldA rfl) rfl rfl rfl (by kernel_rfl) (by kernel_rfl) (by kernel_rfl) (by first | assumption | exact Ent.refl _ | exact Ent.nil _ | (repeat (first | exact Ent.refl _ | exact Ent.nil _ | refine Ent.pick ?_))) <| ?_
    refine ha_take 5 rfl (ov_move rfl) rfl rfl rfl (by kernel_rfl) (by kernel_rfl) (by kernel_rfl) (by first | assumption | exact Ent.refl _ | exact Ent.nil _ | (repeat (first | exact Ent.refl _ | exact Ent.nil _ | refine Ent.pick ?_))) <| ?_
    refine ha_take 6 rfl (ov_nil rfl) rfl rfl rfl (by kernel_rfl) (by kernel_rfl) (by kernel_rfl) (by first | assumption | exact Ent.refl _ | exact Ent.nil _ | (repeat (first | exact Ent.refl _ | exact Ent.nil _ | refine Ent.pick ?_))) <| ?_
    refine ha_take 7 rfl (ov_fieldA rfl) rfl rfl rfl (by kernel_rfl) (by kernel_rfl) (by kernel_rfl) (by first | assumption | exact Ent.refl _ | exact Ent.nil _ | (repeat (first | exact Ent.refl _ | exact Ent.nil _ | refine Ent.pick ?_))) <| ?_
    refine ha_take 9 rfl (ov_move rfl) rfl rfl rfl (by kernel_rfl) (by kernel_rfl) (by kernel_rfl) (by first | assumption | exact Ent.refl _ | exact Ent.nil _ | (repeat (first | exact Ent.refl _ | exact Ent.nil _ | refine Ent.pick ?_))) <| ?_
    refine ha_take 10 rfl (ov_nil rfl) rfl rfl rfl (by kernel_rfl) (by kernel_rfl) (by kernel_rfl) (by first | assumption | exact Ent.refl _ | exact Ent.nil _ | (repeat (first | exact Ent.refl _ | exact Ent.nil _ | refine Ent.pick ?_))) <| ?_
    refine ha_take 11 rfl (ov_fieldA rfl) rfl rfl rfl (by kernel_rfl) (by kernel_rfl) (by kernel_rfl) (by first | assumption | exact Ent.refl _ | exact Ent.nil _ | (repeat (first | exact Ent.refl _ | exact Ent.nil _ | refine Ent.pick ?_))) <| ?_
    refine ha_take 13 rfl (ov_move rfl) rfl rfl rfl (by kernel_rfl) (by kernel_rfl) (by kernel_rfl) (by first | assumption | exact Ent.refl _ | exact Ent.nil _ | (repeat (first | exact Ent.refl _ | exact Ent.nil _ | refine Ent.pick ?_))) <| ?_
    refine ha_take 14 rfl (ov_nil rfl) rfl rfl rfl (by kernel_rfl) (by kernel_rfl) (by kernel_rfl) (by first | assumption | exact Ent.refl _ | exact Ent.nil _ | (repeat (first | exact Ent.refl _ | exact Ent.nil _ | refine Ent.pick ?_))) <| ?_
    refine ha_take 15 rfl (ov_fieldA rfl) rfl rfl rfl (by kernel_rfl) (by kernel_rfl) (by kernel_rfl) (by first | assumption | exact Ent.refl _ | exact Ent.nil _ | (repeat (first | exact Ent.refl _ | exact Ent.nil _ | refine Ent.pick ?_))) <| ?_
    refine ha_take 17 rfl (ov_move rfl) rfl rfl rfl (by kernel_rfl) (by kernel_rfl) (by kernel_rfl) (by first | assumption | exact Ent.refl _ | exact Ent.nil _ | (repeat (first | exact Ent.refl _ | exact Ent.nil _ | refine Ent.pick ?_))) <| ?_
    refine ha_take 18 rfl (ov_nil rfl) rfl rfl rfl (by kernel_rfl) (by kernel_rfl) (by kernel_rfl) (by first | assumption | exact Ent.refl _ | exact Ent.nil _ | (repeat (first | exact Ent.refl _ | exact Ent.nil _ | refine Ent.pick ?_))) <| ?_
    refine ha_take 19 rfl (ov_fieldA rfl) rfl rfl rfl (by kernel_rfl) (by kernel_rfl) (by kernel_rfl) (by first | assumption | exact Ent.refl _ | exact Ent.nil _ | (repeat (first | exact Ent.refl _ | exact Ent.nil _ | refine Ent.pick ?_))) <| ?_
    refine ha_take 22 rfl (ov_move rfl) rfl rfl rfl (by kernel_rfl) (by kernel_rfl) (by kernel_rfl) (by first | assumption | exact Ent.refl _ | exact Ent.nil _ | (repeat (first | exact Ent.refl _ | exact Ent.nil _ | refine Ent.pick ?_))) <| ?_
    refine ha_take 23 rfl (ov_nil rfl) rfl rfl rfl (by kernel_rfl) (by kernel_rfl) (by kernel_rfl) (by first | assumption | exact Ent.refl _ | exact Ent.nil _ | (repeat (first | exact Ent.refl _ | exact Ent.nil _ | refine Ent.pick ?_))) <| ?_
    refine ha_take 24 rfl (ov_fieldA rfl) rfl rfl rfl (by kernel_rfl) (by kernel_rfl) (by kernel_rfl) (by first | assumption | exact Ent.refl _ | exact Ent.nil _ | (repeat (first | exact Ent.refl _ | exact Ent.nil _ | refine Ent.pick ?_))) <| ?_
    refine ha_take 27 rfl (ov_move rfl) rfl rfl rfl (by kernel_rfl) (by kernel_rfl) (by kernel_rfl) (by first | assumption | exact Ent.refl _ | exact Ent.nil _ | (repeat (first | exact Ent.refl _ | exact Ent.nil _ | refine Ent.pick ?_))) <| ?_
    refine ha_take 28 rfl (ov_nil rfl) rfl rfl rfl (by kernel_rfl) (by kernel_rfl) (by kernel_rfl) (by first | assumption | exact Ent.refl _ | exact Ent.nil _ | (repeat (first | exact Ent.refl _ | exact Ent.nil _ | refine Ent.pick ?_))) <| ?_
    refine ha_take 29 rfl (ov_fieldA rfl) rfl rfl rfl (by kernel_rfl) (by kernel_rfl) (by kernel_rfl) (by first | assumption | exact Ent.refl _ | exact Ent.nil _ | (repeat (first | exact Ent.refl _ | exact Ent.nil _ | refine Ent.pick ?_))) <| ?_
    refine ha_one 4 (by kernel_rfl) <| ?_
    refine ho_c rfl Try.call73 rfl rfl rfl (fun w1 H1 => Own.callp (blk g t [r0.v, .bool r0.bad]) H1 fun D' hold hin H2 => int_spec D' w1 g t 1 r0 (by decide) H2 (hold _ K0)) (by first | assumption | exact Ent.refl _ | exact Ent.nil _ | (repeat (first | exact Ent.refl _ | exact Ent.nil _ | refine Ent.pick ?_))) ?_
    refine ha_one 8 (by kernel_rfl) <| ?_
    refine ho_c rfl Try.call73 rfl rfl rfl (fun w1 H1 => Own.callp (blk g t [(getS r0 1).v, .bool (getS r0 1).bad]) H1 fun D' hold hin H2 => int_spec D' w1 g t 1 (getS r0 1) (by decide) H2 (hold _ K1)) (by first | assumption | exact Ent.refl _ | exact Ent.nil _ | (repeat (first | exact Ent.refl _ | exact Ent.nil _ | refine Ent.pick ?_))) ?_
    refine ha_one 12 (by kernel_rfl) <| ?_
    refine ho_c rfl Try.call73 rfl rfl rfl (fun w1 H1 => Own.callp (blk g t [(getS (getS r0 1) 1).v, .bool (getS (getS r0 1) 1).bad]) H1 fun D' hold hin H2 => int_spec D' w1 g t 4 (getS (getS r0 1) 1) (by decide) H2 (hold _ K2)) (by first | assumption | exact Ent.refl _ | exact Ent.nil _ | (repeat (first | exact Ent.refl _ | exact Ent.nil _ | refine Ent.pick ?_))) ?_
    refine ha_one 16 (by kernel_rfl) <| ?_
    refine ho_c rfl Try.call73 rfl rfl rfl (fun w1 H1 => Own.callp (blk g t [(getS (getS (getS r0 1) 1) 4).v, .bool (getS (getS (getS r0 1) 1) 4).bad]) H1 fun D' hold hin H2 => int_spec D' w1 g t 2 (getS (getS (getS r0 1) 1) 4) (by decide) H2 (hold _ K3)) (by first | assumption | exact Ent.refl _ | exact Ent.nil _ | (repeat (first | exact Ent.refl _ | exact Ent.nil _ | refine Ent.pick ?_))) ?_
    refine ha_one 20 (by kernel_rfl) <| ?_
    refine ho_c rfl Try.call74 rfl rfl rfl (fun w1 H1 => Own.callp (blk g t [(getS (getS (getS (getS r0 1) 1) 4) 2).v, .bool (getS (getS (getS (getS r0 1) 1) 4) 2).bad]) H1 fun D' hold hin H2 => get_spec D' w1 g t 1 (getS (getS (getS (getS r0 1) 1) 4) 2) (by decide) H2 (hold _ K4)) (by first | assumption | exact Ent.refl _ | exact Ent.nil _ | (repeat (first | exact Ent.refl _ | exact Ent.nil _ | refine Ent.pick ?_))) ?_
    refine ha_take 21 rfl (ov_conv (m := ((getN (getS (getS (getS (getS r0 1) 1) 4) 2) 1 % 256 : Nat) : Int)) rfl (wrap8 _)) rfl rfl rfl (by kernel_rfl) (by kernel_rfl) (by kernel_rfl) (by first | assumption | exact Ent.refl _ | exact Ent.nil _ | (repeat (first | exact Ent.refl _ | exact Ent.nil _ | refine Ent.pick ?_))) ?_
    refine ha_one 25 (by kernel_rfl) <| ?_
    refine ho_c rfl Try.call74 rfl rfl rfl (fun w1 H1 => Own.callp (blk g t [(getS (getS (getS (getS (getS r0 1) 1) 4) 2) 1).v, .bool (getS (getS (getS (getS (getS r0 1) 1) 4) 2) 1).bad]) H1 fun D' hold hin H2 => get_spec D' w1 g t 1 (getS (getS (getS (getS (getS r0 1) 1) 4) 2) 1) (by decide) H2 (hold _ K5)) (by first | assumption | exact Ent.refl _ | exact Ent.nil _ | (repeat (first | exact Ent.refl _ | exact Ent.nil _ | refine Ent.pick ?_))) ?_
    refine ha_take 26 rfl (ov_conv (m := ((getN (getS (getS (getS (getS (getS r0 1) 1) 4) 2) 1) 1 % 256 : Nat) : Int)) rfl (wrap8 _)) rfl rfl rfl (by kernel_rfl) (by kernel_rfl) (by kernel_rfl) (by first | assumption | exact Ent.refl _ | exact Ent.nil _ | (repeat (first | exact Ent.refl _ | exact Ent.nil _ | refine Ent.pick ?_))) ?_
    refine ha_one 30 (by kernel_rfl) <| ?_
    refine ho_c rfl Try.call74 rfl rfl rfl (fun w1 H1 => Own.callp (blk g t [(getS (getS (getS (getS (getS (getS r0 1) 1) 4) 2) 1) 1).v, .bool (getS (getS (getS (getS (getS (getS r0 1) 1) 4) 2) 1) 1).bad]) H1 fun D' hold hin H2 => get_spec D' w1 g t 6 (getS (getS (getS (getS (getS (getS r0 1) 1) 4) 2) 1) 1) (by decide) H2 (hold _ K6)) (by first | assumption | exact Ent.refl _ | exact Ent.nil _ | (repeat (first | exact Ent.refl _ | exact Ent.nil _ | refine Ent.pick ?_))) ?_
    refine ha_take 31 rfl (ov_buildSN rfl rfl) rfl rfl rfl (by kernel_rfl) (by kernel_rfl) (by kernel_rfl) (by first | assumption | exact Ent.refl _ | exact Ent.nil _ | (repeat (first | exact Ent.refl _ | exact Ent.nil _ | refine Ent.pick ?_))) <| ?_
    refine ha_one 32 (by kernel_rfl) <|
      ho_new rfl (on_buildSliceN rfl rfl rfl) rfl rfl rfl (fun _ => (by first | assumption | exact Ent.refl _ | exact Ent.nil _ | (repeat (first | exact Ent.refl _ | exact Ent.nil _ | refine Ent.pick ?_)))) fun b42 =>  ?_
    refine ha_one 33 (by kernel_rfl) <| ?_
    rw [← hce]
    refine ho_new rfl (on_appendR (A := A) (news := editV (rdE r0).1) rfl rfl (SrcIs.blk (b := b42)) rfl (by simp [Value.oneCell', u8v]) (by decide) (by omega)) rfl rfl rfl (fun _ => (by first | assumption | exact Ent.refl _ | exact Ent.nil _ | (repeat (first | exact Ent.refl _ | exact Ent.nil _ | refine Ent.pick ?_)))) (fun q2 => ?_)
    rw [hl7, ← hs7]
    refine ha_take 34 rfl (ov_assign rfl) rfl rfl rfl (by kernel_rfl) (by kernel_rfl) (by kernel_rfl) (by first | assumption | exact Ent.refl _ | exact Ent.nil _ | (repeat (first | exact Ent.refl _ | exact Ent.nil _ | refine Ent.pick ?_))) <| ?_
    refine ha_done (by kernel_rfl) <|
      hx_block_normal <|
      hx_then_normal <|
      hc_region <|
      hl_val (ov_add rfl rfl (by first | exact wrap_i64 (by omega) | rfl)) rfl rfl rfl <| ?_
    refine hl_val (ov_move rfl) rfl rfl rfl <|
      hl_nil <| ?_
    refine hx_next hK1 ((i + 1, q2)) (hlt) (by show n - (i + 1) < n - i; omega) (by repeat (first | exact Slots.sub_nil _ | refine Slots.sub_cons rfl ?_)) (by first | assumption | exact Ent.refl _ | exact Ent.nil _ | (repeat (first | exact Ent.refl _ | exact Ent.nil _ | refine Ent.pick ?_)))
  · have hin : i = n := by omega
    subst hin
    refine hc_exit <|
      hx_then_exit <|
      hx_then_exit <|
      hx_block_out <|
      hx_then_normal <|
      hc_seq <| ?_
    refine hc_region <|
      hl_val (ov_move rfl) rfl rfl rfl <|
      hl_val (ov_assign rfl) rfl rfl rfl <|
      hl_nil <|
      hx_then_normal <|
      hc_ret <| ?_
    exact results_1 (.inr rfl) rfl rfl fun w' H' => ⟨(A, c), rfl, H'⟩
end Go.Proofs.Ytpgpfcplchaleaa
