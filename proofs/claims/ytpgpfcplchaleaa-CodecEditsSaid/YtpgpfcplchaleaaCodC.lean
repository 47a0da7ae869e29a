import Derived.Test.YtpgpfcplchaleaaCodB
set_option linter.unusedVariables false
set_option linter.unusedSimpArgs false
namespace Go.Proofs.Ytpgpfcplchaleaa
open Slk
theorem big_spec (D : Nat → Prop) (w : World) (n k : Nat) (hn : n < 18446744073709551616) (hk : k ≤ 6) :
    Calls Try.prog 44 #[.int .u64 n, .int .i64 k] w fun e w' => ∃ q : { q : Option Addr × Nat // 0 < k → isA q.1 }, e = .returned (.slice q.1.1 k q.1.2) ∧ Own D w w' [row q.1.1 5 1 k q.1.2 ((beB n k).map u8v)] := by
  refine hc_enter (vs := [.int .u64 n, .int .i64 k]) Try.func44 rfl _ Try.ntmps44 rfl (Own.start D w) ?_
  simp only [argSlots, Nat.zero_add]
  refine hc_seq <|
    hc_region <|
    hl_val (ov_assign rfl) rfl rfl rfl <|
    hl_nil <|
    hx_then_normal <|
    hc_seq <| ?_
  refine hc_region <|
    hl_val (ov_assign rfl) rfl rfl rfl <|
    hl_nil <|
    hx_then_normal <|
    hc_seq <|
    hc_seq <| ?_
  refine hc_region <|
    hl_val (ov_move rfl) rfl rfl rfl <| ?_
  refine hl_val (ov_sub (m := (k : Int) - 1 - ((0 : Nat) : Int)) rfl rfl (by rw [wrap_i64 (by omega)]; omega)) rfl rfl rfl ?_
  refine hl_val (ov_assign rfl) rfl rfl rfl <|
    hl_nil <|
    hx_then_normal <|
    hc_block <| ?_
  refine hc_loopK2 (σ := Nat × Option Addr × Nat) [0] rfl 6 (fun s => .int .i64 ((k : Int) - 1 - (s.1 : Int))) 5 (fun s => .slice s.2.1 s.1 s.2.2) (fun s => [row s.2.1 5 1 s.1 s.2.2 (((beB n k).take s.1).map u8v)]) (fun s => s.1 ≤ k) (fun s => k - s.1) ((0, none, 0)) (Nat.zero_le _) rfl rfl (Ent.nil_row 5 1) ?_
  rintro ⟨i, A, c⟩ hi K1 hK1
  dsimp only at hi ⊢
  refine hc_seq <|
    hc_seq <|
    hc_region <|
    hl_val (ov_move rfl) rfl rfl rfl <|
    hl_val (ov_geq rfl rfl) rfl rfl rfl <|
    hl_nil <| ?_
  refine hx_then_normal <| ?_
  refine hc_cond rfl (fun h => ?_) (fun h => ?_)
  · have hlt : i < k := by omega
    have hcs : ((beB n k).take i).map u8v ++ [.int .u8 ((n / 2 ^ (8 * (k - 1 - i)) % 256 : Nat) : Int)] = ((beB n k).take (i + 1)).map u8v := by
      rw [beB_take n k i hlt, ← u8v_ofNat]; simp
    refine hc_skip <|
      hx_then_normal <|
      hc_seq <|
      hc_block <|
      hc_region <|
      hl_val (ov_move rfl) rfl rfl rfl <| ?_
    refine hl_val (ov_move rfl) rfl rfl rfl <|
      hl_val (ov_move rfl) rfl rfl rfl <|
      hl_val (ov_mul rfl rfl (by first | exact wrap_i64 (by omega) | rfl)) rfl rfl rfl <| ?_
    refine hl_val (ov_conv rfl (by first | exact wrap_u64 (by omega) | rfl)) rfl rfl rfl <| ?_
    refine hl_val (ov_shr (m := ((n / 2 ^ (8 * (k - 1 - i)) : Nat) : Int)) rfl rfl (by omega) (shrK n (8 * (k - 1 - i)) _ 64 (by omega))) rfl rfl rfl ?_
    refine hl_val (ov_conv (m := ((n / 2 ^ (8 * (k - 1 - i)) % 256 : Nat) : Int)) rfl (wrap8 _)) rfl rfl rfl ?_
    refine hl_new (on_buildSliceN rfl rfl rfl) rfl rfl rfl fun b20 =>  ?_
    refine hl_new (on_appendR (A := A) (news := [.int .u8 ((n / 2 ^ (8 * (k - 1 - i)) % 256 : Nat) : Int)]) rfl rfl (SrcIs.blk (b := b20)) rfl (by simp [Value.oneCell']) (by decide) (by omega)) rfl rfl rfl (fun q2 => ?_)
    rw [hcs]
    refine hl_val (ov_assign rfl) rfl rfl rfl <|
      hl_nil <|
      hx_block_normal <|
      hx_then_normal <|
      hc_region <|
      hl_val (ov_move rfl) rfl rfl rfl <| ?_
    refine hl_val (ov_sub (m := (k : Int) - 1 - ((i + 1 : Nat) : Int)) rfl rfl (by rw [wrap_i64 (by omega)]; omega)) rfl rfl rfl ?_
    refine hl_val (ov_assign rfl) rfl rfl rfl <|
      hl_nil <| ?_
    refine hx_next hK1 ((i + 1, q2)) (hlt) (by show k - (i + 1) < k - i; omega) (by repeat (first | exact Slots.sub_nil _ | refine Slots.sub_cons rfl ?_)) (by first | assumption | exact Ent.refl _ | exact Ent.nil _ | (repeat (first | exact Ent.refl _ | exact Ent.nil _ | refine Ent.pick ?_)))
  · have hik : i = k := by omega
    subst hik
    rw [List.take_of_length_le (by rw [beB_len]; exact Nat.le_refl _)]
    refine HC.fact (fun w H => Own.factR A H) ?_
    rintro ⟨_, _, _, hA⟩
    have hA : 0 < i → isA A := fun h => hA (by intro e; have := congrArg List.length e; simp [beB_len] at this; omega)
    refine hc_exit <|
      hx_then_exit <|
      hx_then_exit <|
      hx_block_out <|
      hx_then_normal <|
      hc_seq <| ?_
    refine hc_region <|
      hl_val (ov_move rfl) rfl rfl rfl <|
      hl_val (ov_assign rfl) rfl rfl rfl <|
      hl_nil <|
      hx_then_normal <|
      hc_ret <| ?_
    exact results_1 (.inr rfl) rfl rfl fun w' H' => ⟨⟨(A, c), hA⟩, rfl, H'⟩
end Go.Proofs.Ytpgpfcplchaleaa
