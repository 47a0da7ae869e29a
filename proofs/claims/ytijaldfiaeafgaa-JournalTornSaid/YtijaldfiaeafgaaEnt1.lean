import Derived.Test.YtijaldfiaeafgaaM2
import Derived.Test.YtijaldfiaeafgaaM2
set_option linter.unusedVariables false
set_option linter.unusedSimpArgs false
namespace Go.Proofs.Ytijaldfiaeafgaa
open Slk
section
variable {P : Program} {D : Nat → Prop} {w0 : World} {env : Slots} {l : List HProp} {dst : Option Tmp} {ty : TypeId} {pos : String} {after : Array Edge} {g : Option (Nat × Bool)}
theorem ov_slice3 {t e : TypeId} {s bb : Nat} {z : List Value} [h : TySlice P t e] [hs : TyI P e s bb z] {x ol oh om : Operand} {k1 k2 k3 : IntKind} {A : Option Addr} {n cap : Nat} (hx : evalO env x = some (.slice A n cap)) (lo hi mx : Nat)
    (hl : evalO env ol = some (.int k1 lo)) (hh : evalO env oh = some (.int k2 hi)) (hm : evalO env om = some (.int k3 mx)) (h1 : lo ≤ hi) (h2 : hi ≤ mx) (h3 : mx ≤ cap) {R : Value} (hR : Value.slice (if mx = lo then A else A.map (·.add (lo * s))) (hi - lo) (mx - lo) = R) :
    OpVal P D w0 env l ⟨dst, .slice t x (some ol) (some oh) (some om), ty, pos, after, g⟩ R := .mk fun n' a w E H => by
  subst hR
  have hz := Slk.run_sizeOf (P := P) (t := e) w
  simp [hz, execOp, E.eval hx, E.eval hl, E.eval hh, E.eval hm, Instr.sliceAt, run_underlying h.out, Instr.slice, Instr.sliceBounds, Instr.sliceBound, asIntOf, run_sizeOf (P := P) (t := e), h1, h2, h3]
end
/-- The k-th piece of a slice of bytes, at most 63 of them. -/
def pieceV (A : Option Addr) (n k : Nat) : Value := .slice (A.map (·.add (63 * k))) (min 63 (n - 63 * k)) (min 63 (n - 63 * k))
theorem Chunk1_seq (D : Nat → Prop) (w0 : World) (bs bn : Nat) (A : Option Addr) (n cap : Nat) (hn : n ≤ cap) (hc : n ≤ 9000000) (L : Nat → List HProp) :
    SeqOwn Try.prog D w0 73 [.pointer (some ⟨bs, 0, none⟩), .pointer (some ⟨bn, 0, none⟩)] ((n + 62) / 63) (pieceV A n) (fun k => blk bs 23 [.slice A n cap] :: blk bn 3 [.int .i64 63] :: L k) := by
  intro lp X W H hY
  refine hc_enter (vs := [.func (.yield lp) #[] #[], .pointer (some ⟨bs, 0, none⟩), .pointer (some ⟨bn, 0, none⟩)]) Try.func73 rfl _ Try.ntmps73 rfl H ?_
  simp only [argSlots, Nat.zero_add]
  refine hc_seq <| hc_region <| hl_v (ov_assign rfl) rfl <| hl_nil <| hx_then_normal <| hc_block <| ?_
  refine hc_loopK1 (σ := Nat) [0, 1, 2] rfl 4 (fun k => .int .i64 ((63 * k : Nat) : Int)) (fun k => X :: blk bs 23 [.slice A n cap] :: blk bn 3 [.int .i64 63] :: L k) (fun k => k ≤ (n + 62) / 63) (fun k => (n + 62) / 63 - k) (0) (Nat.zero_le _) rfl (by first | assumption | exact Ent.refl _ | exact Ent.nil _ | (repeat (first | exact Ent.refl _ | exact Ent.nil _ | refine Ent.pick ?_))) ?_
  rintro k hj K1 hK1
  refine hc_seq <| hc_seq <| hc_region <| hl_v (ov_move rfl) rfl <| hl_v (ov_load rfl (CellIs.blk rfl)) rfl <| hl_v (by first | exact ov_len rfl | exact ov_lenS rfl) rfl <| ?_
  refine hl_v (ov_lss rfl rfl) rfl <| hl_nil <| hx_then_normal <| ?_
  refine hc_cond rfl (fun h => ?_) (fun h => ?_)
  · have hk : 63 * k < n := by omega
    have hm : (min 63 (n - 63 * k) : Nat) ≤ 63 := Nat.min_le_left _ _
    have hm1 : 63 * k + min 63 (n - 63 * k) ≤ n := by omega
    have hm2 : 0 < min 63 (n - 63 * k) := by omega
    obtain ⟨m, hmm⟩ : ∃ m, m = min 63 (n - 63 * k) := ⟨_, rfl⟩
    rw [← hmm] at hm hm1 hm2
    refine hc_skip <| hx_then_normal <| hc_seq <| hc_block <| hc_seq <| hc_quiet mixed (by kernel_rfl) <| ?_
    refine hq_v (ov_load rfl (CellIs.blk rfl)) rfl <| hq_v (ov_load rfl (CellIs.blk rfl)) rfl <| hq_v (ov_move rfl) rfl <| hq_v (ov_slice rfl _ _ (.inr ⟨_, _, rfl, rfl⟩) (.inl ⟨rfl, rfl⟩) (by omega) (by omega)) rfl <| hq_v (by first | exact ov_len rfl | exact ov_lenS rfl) rfl <| ?_
    refine hq_v (ov_min (m := (m : Int)) rfl rfl (by split <;> omega)) rfl ?_
    refine hq_v (ov_assign rfl) rfl <| hq_nil <| hx_then_normal <| ?_
    refine hc_wide ?_
    refine hic_seq <| hic_region <| hil_val (ov_move rfl) rfl rfl rfl <| hil_val (ov_load rfl (CellIs.blk rfl)) rfl rfl rfl <| hil_val (ov_move rfl) rfl rfl rfl <| hil_val (ov_move rfl) rfl rfl rfl <| ?_
    refine hil_val (ov_move rfl) rfl rfl rfl <| hil_val (ov_add rfl rfl (by first | exact wrap_i64 (by omega) | rfl)) rfl rfl rfl <| ?_
    refine hil_val (ov_move rfl) rfl rfl rfl <| hil_val (ov_move rfl) rfl rfl rfl <| hil_val (ov_add rfl rfl (by first | exact wrap_i64 (by omega) | rfl)) rfl rfl rfl <| ?_
    refine hil_val (ov_slice3 rfl (63 * k) (63 * k + m) (63 * k + m) rfl rfl rfl (by omega) (by omega) (by omega) (R := pieceV A n k) (by unfold pieceV; rw [← hmm, if_neg (by omega), show 63 * k + m - 63 * k = m by omega, Nat.mul_one])) rfl rfl rfl ?_
    refine hil_yield rfl rfl rfl (fun w1 H1 => hY k w1 (by omega) H1) ?_
    refine hil_val (ov_not rfl) rfl rfl rfl <| hil_nil <| hix_then_normal <| hic_cond_false rfl <| hic_skip <| hix_block_normal <| ?_
    refine hix_then_normalW <| hic_region <| hil_val (ov_move rfl) rfl rfl rfl <| hil_val (ov_load rfl (CellIs.blk rfl)) rfl rfl rfl <| hil_val (ov_add rfl rfl (by first | exact wrap_i64 (by omega) | rfl)) rfl rfl rfl <| ?_
    refine hil_val (ov_assign rfl) rfl rfl rfl <| hil_nil <| ?_
    refine hix_back ?_
    refine hx_next hK1 (k + 1) (by omega) (by omega) (by repeat (first | exact Slots.sub_nil _ | refine Slots.sub_cons rfl ?_)) (by first | assumption | exact Ent.refl _ | exact Ent.nil _ | (repeat (first | exact Ent.refl _ | exact Ent.nil _ | refine Ent.pick ?_)))
  refine hc_exit <| hx_then_exit <| hx_then_exit <| hx_block_out <| ?_
  exact results_0 (.inl rfl) rfl fun w' H' => ⟨_, rfl, (show (n + 62) / 63 = k by omega) ▸ H'⟩
end Go.Proofs.Ytijaldfiaeafgaa
