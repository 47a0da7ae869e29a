import Derived.Test.YtijaldfiaeafgaaEnt4
import Derived.Test.YtijaldfiaeafgaaM2
set_option linter.unusedVariables false
set_option linter.unusedSimpArgs false
namespace Go.Proofs.Ytijaldfiaeafgaa
open Slk
/-! ### Lists of sectors -/
theorem repL_secs : ∀ {S : List Sec} {cs : List Value} {h : Heap}, repL S cs h ↔ cs = S.flatMap secC
  | [], cs, h => Iff.rfl
  | s :: r, cs, h => by
    constructor
    · rintro ⟨c1, c2, rfl, h1, h2⟩
      rw [show c1 = secC s from repL_bytes.1 h1, repL_secs.1 h2, List.flatMap_cons]
    · rintro rfl
      exact ⟨secC s, _, List.flatMap_cons, repL_bytes.2 rfl, repL_secs.2 rfl⟩
theorem _root_.Slk.Old.openS {D : Nat → Prop} {w0 : World} {S : List Sec} {v : Value} (k : Old D w0 (Rep.rep S [v])) :
    ∃ A cap, v = .slice A S.length cap ∧ S.length ≤ cap ∧ cap ≤ 9223372036854775807 ∧ OldS D w0 A (S.flatMap secC) ∧ Old D w0 (rdA A (S.flatMap secC)) := by
  obtain ⟨h, hh, A, cap, e, h1, h2, ecs, k1, k2⟩ := k
  have := repL_secs.1 k1
  subst this
  exact ⟨A, cap, by simpa using e, h1, h2, OldS.of_old ⟨h, hh, k2⟩, ⟨h, hh, k2⟩⟩
theorem flat_isA {S : List Sec} {D : Nat → Prop} {w0 : World} {A : Option Addr} (HS : OldS D w0 A (S.flatMap secC)) {k : Nat} (hk : k < S.length) : isA A := HS.isA (by
  intro h
  have := congrArg List.length h
  rw [List.length_flatMap] at this
  cases S with
  | nil => simp at hk
  | cons s r => simp at this)
theorem cells_sec {S : List Sec} {D : Nat → Prop} {w0 : World} {A : Option Addr} (HS : OldS D w0 A (S.flatMap secC)) {k : Nat} (hk : k < S.length) (l : List HProp) : CellsAre D w0 l (ab A) (ao A + k * 64) (secC S[k]) :=
  CellsAre.sub ((SrcIs.old (l := l) HS).cells (by
    intro h
    have := congrArg List.length h
    cases S with
    | nil => simp at hk
    | cons s r => simp at this)) fun i v hv => by
    have : i < 64 := by
      rcases Nat.lt_or_ge i 64 with h | h
      · exact h
      · rw [List.getElem?_eq_none (by simpa using h)] at hv; cases hv
    rw [flat_at secC_len S k i hk this]; exact hv
theorem cell_sec {S : List Sec} {D : Nat → Prop} {w0 : World} {A : Option Addr} (HS : OldS D w0 A (S.flatMap secC)) {k j : Nat} (hk : k < S.length) (hj : j < 64) (l : List HProp) : CellIs D w0 l (ab A) (ao A + k * 64 + j) (.int .u8 ((S[k])[j].toNat : Int)) :=
  (cells_sec HS hk l).cell (i := j) (secC_at S[k] hj)
theorem Equal_spec (D : Nat → Prop) (w : World) (v1 v2 : Value) (S T : List Sec) (HA : Old D w (Rep.rep S [v1])) (HB : Old D w (Rep.rep T [v2])) :
    Calls Try.prog 69 #[v1, v2] w fun e w' => e = .returned (.bool (decide (S = T))) ∧ Own D w w' [] := by
  obtain ⟨A, c1, rfl, hA1, hA2, HS, _⟩ := HA.openS
  obtain ⟨B, c2, rfl, hB1, hB2, HT, _⟩ := HB.openS
  refine hc_enter (vs := [.slice A S.length c1, .slice B T.length c2]) Try.func69 rfl _ Try.ntmps69 rfl (Own.start D w) ?_
  simp only [argSlots, Nat.zero_add]
  refine hc_seq <| hc_region <| hl_v (ov_assign rfl) rfl <| hl_nil <| hx_then_normal <| hc_seq <| ?_
  refine hc_seq <| hc_region <| hl_v (ov_move rfl) rfl <| hl_v (by first | exact ov_len rfl | exact ov_lenS rfl) rfl <| ?_
  refine hl_v (ov_move rfl) rfl <| hl_v (by first | exact ov_len rfl | exact ov_lenS rfl) rfl <| ?_
  refine hl_v (ov_neq rfl rfl) rfl <| hl_nil <| hx_then_normal <| ?_
  refine hc_cond rfl (fun h => ?_) (fun h => ?_)
  · have hne : ¬ S = T := fun e => by subst e; exact h rfl
    refine hc_seq <| hc_region <| hl_v (ov_assign rfl) rfl <| hl_nil <| hx_then_normal <| hc_ret <| ?_
    refine hx_then_ret <| ?_
    exact results_1 (.inr rfl) rfl rfl fun w' H' => ⟨by rw [decide_eq_false hne], H'⟩
  have hl : S.length = T.length := by omega
  refine hc_skip <| hx_then_normal <| hc_seq <| hc_seq <| hc_region <| hl_v (ov_move rfl) rfl <| ?_
  refine hl_v (by first | exact ov_len rfl | exact ov_lenS rfl) rfl <| ?_
  refine hl_v (ov_move rfl) rfl <| hl_nil <| hx_then_normal <| hc_block <| ?_
  refine hc_loops1 (σ := Nat) [0, 1, 12] rfl 13 (fun k => .int .i64 (k : Int)) (fun k => k ≤ S.length ∧ S.take k = T.take k) (fun k => S.length - k) (0) (⟨Nat.zero_le _, by simp⟩) rfl ?_
  rintro k ⟨hk, hkt⟩ K1 hK1
  refine hc_seq <| hc_region <| hl_v (ov_lss rfl rfl) rfl <| hl_nil <| hx_then_normal <| hc_seq <| ?_
  refine hc_cond rfl (fun h2 => ?_) (fun h2 => ?_)
  · have hlt : k < S.length := by omega
    have hlt2 : k < T.length := by omega
    have hA := flat_isA HS hlt
    have hB := flat_isA HT hlt2
    have hc1 := cells_sec HS hlt []
    have hc2 := cells_sec HT hlt2 []
    have hs1 := List.take_succ_eq_append_getElem hlt
    have hs2 := List.take_succ_eq_append_getElem hlt2
    have hat : S = T → S[k] = T[k] := fun e => by subst e; rfl
    generalize S[k] = s at *
    generalize T[k] = t at *
    refine hc_skip <| hx_then_normal <| hc_seq <| hc_block <| hc_seq <| hc_region <| ?_
    refine hl_v (ov_move rfl) rfl <| hl_v (ov_assign rfl) rfl <| hl_nil <| hx_then_normal <| hc_seq <| hc_quiet mixed (by kernel_rfl) <| ?_
    refine hq_v (ov_move rfl) rfl <| hq_v (ov_move rfl) rfl <| hq_v (ov_idxS rfl (by assumption) rfl _ rfl (by omega)) rfl <| ?_
    refine hq_v (ov_loadG (cs := secC s) rfl (secC_len _) hc1) rfl ?_
    refine hq_v (ov_move rfl) rfl <| hq_v (ov_move rfl) rfl <| hq_v (ov_idxS rfl (by assumption) rfl _ rfl (by omega)) rfl <| ?_
    refine hq_v (ov_loadG (cs := secC t) rfl (secC_len _) hc2) rfl ?_
    refine hq_v (ov_neqSec rfl rfl) rfl ?_
    refine hq_nil <| hx_then_normal <| ?_
    refine hc_cond rfl (fun h3 => ?_) (fun h3 => ?_)
    · have hne : ¬ S = T := fun e => h3 (hat e)
      refine hc_seq <| hc_region <| hl_v (ov_assign rfl) rfl <| hl_nil <| hx_then_normal <| hc_ret <| ?_
      refine hx_block_ret <| hx_then_ret <| hx_then_ret <| hx_block_ret <| hx_then_ret <| ?_
      exact results_1 (.inr rfl) rfl rfl fun w' H' => ⟨by rw [decide_eq_false hne], H'⟩
    have hst : s = t := Classical.not_not.1 h3
    refine hc_skip <| hx_block_normal <| hx_then_normal <| hc_region <| hl_v (ov_add rfl rfl (by first | exact wrap_i64 (by omega) | rfl)) rfl <| ?_
    refine hl_v (ov_move rfl) rfl <| hl_nil <| ?_
    refine hx_next hK1 (k + 1) (⟨hlt, by rw [hs1, hs2, hkt, hst]⟩) (by omega) (by repeat (first | exact Slots.sub_nil _ | refine Slots.sub_cons rfl ?_)) (by first | assumption | exact Ent.refl _ | exact Ent.nil _ | (repeat (first | exact Ent.refl _ | exact Ent.nil _ | refine Ent.pick ?_)))
  have hk' : k = S.length := by omega
  have he : S = T := by rw [← List.take_length (l := S), ← hk', hkt, hk', hl, List.take_length]
  refine hc_exit <| hx_then_exit <| hx_then_exit <| hx_block_out <| hx_then_normal <| hc_seq <| ?_
  refine hc_region <| hl_v (ov_assign rfl) rfl <| hl_nil <| hx_then_normal <| hc_ret <| ?_
  exact results_1 (.inr rfl) rfl rfl fun w' H' => ⟨by rw [decide_eq_true he], H'⟩
def needM (m : Nat) : Nat := if 4000 < m then 0 else (m + 77) / 63
theorem Need_nat (D : Nat → Prop) (w : World) (m N : Nat) (hN : needM m = N) : Calls Try.prog 59 #[.int .i64 (m : Int)] w fun e w' => e = .returned (.int .i64 (N : Int)) ∧ Own D w w' [] := by
  subst hN
  refine (Need_spec D w m).mono fun e w' ⟨he, H'⟩ => ⟨?_, H'⟩
  rw [he]
  have : needN (m : Int) = ((needM m : Nat) : Int) := by
    unfold needN needM
    split <;> split <;> omega
  rw [this]
end Go.Proofs.Ytijaldfiaeafgaa
