import Derived.Test.YtijaldfiaeafgaaREn3
import Derived.Test.YtijaldfiaeafgaaRSec2
import Derived.Test.YtijaldfiaeafgaaSnp4
set_option linter.unusedVariables false
set_option linter.unusedSimpArgs false
namespace Go.Proofs.Ytijaldfiaeafgaa
open Slk
theorem RDec_some (D : Nat → Prop) (w : World) (v : Value) (S : List Sec) (x : EntT) (n : Nat) (h : decS S = some (x, n)) (hS : S.length ≤ 100000) (HA : Old D w (Rep.rep S [v])) :
    Calls Try.prog 63 #[v] w fun e w' => ∃ q : Option Addr × Nat, e = .returned (.agg #[.int .i64 x.1, .int .u32 x.2.1, .int .u32 x.2.2.1, .slice q.1 x.2.2.2.length q.2, .int .i64 n, .int .i64 0]) ∧ Own D w w' [row q.1 5 1 x.2.2.2.length q.2 (x.2.2.2.map u8v)] :=
  (RDec_spec D w v S hS HA).mono fun e w' hp => by
    rcases hp with ⟨h1, _⟩ | ⟨x', n', q, h1, he, H'⟩
    · rw [h] at h1; cases h1
    · rw [h] at h1; cases h1; exact ⟨q, he, H'⟩
theorem RDec_none (D : Nat → Prop) (w : World) (v : Value) (S : List Sec) (h : decS S = none) (hS : S.length ≤ 100000) (HA : Old D w (Rep.rep S [v])) :
    Calls Try.prog 63 #[v] w fun e w' => e = .returned (.agg #[.int .i64 0, .int .u32 0, .int .u32 0, .slice none 0 0, .int .i64 0, .int .i64 11]) ∧ Own D w w' [] :=
  (RDec_spec D w v S hS HA).mono fun e w' hp => by
    rcases hp with ⟨_, he, H'⟩ | ⟨x', n', q, h1, _⟩
    · exact ⟨he, H'⟩
    · rw [h] at h1; cases h1
theorem may_nil (D : Nat → Prop) (w : World) : Calls Try.prog 49 #[.pointer none] w fun e w' => e = .returned (.bool false) ∧ Own D w w' [] := by
  refine hc_enter (vs := [.pointer none]) Try.func49 rfl _ Try.ntmps49 rfl (Own.start D w) ?_
  simp only [argSlots, Nat.zero_add]
  refine hc_seq <| hc_region <| hl_v (ov_assign rfl) rfl <| hl_nil <| hx_then_normal <| hc_seq <| ?_
  refine hc_region <| hl_v (ov_move rfl) rfl <| hl_v (ov_neqP rfl rfl) rfl <| hl_v (ov_move rfl) rfl <| ?_
  refine hl_off rfl rfl rfl rfl rfl rfl <| hl_off rfl rfl rfl rfl rfl rfl <| hl_off rfl rfl rfl rfl rfl rfl <| hl_off rfl rfl rfl rfl rfl rfl <| hl_off rfl rfl rfl rfl rfl rfl <| hl_off rfl rfl rfl rfl rfl rfl <| ?_
  refine hl_v (ov_pickF rfl rfl) rfl <| hl_v (ov_assign rfl) rfl <| hl_nil <| hx_then_normal <| hc_ret <| ?_
  exact results_1 (.inr rfl) rfl rfl fun w' H' => ⟨rfl, H'⟩
theorem may_spec (D : Nat → Prop) (w : World) (g : Nat) (S : List Sec) (H : Own D w w [rdsk g S []]) : Calls Try.prog 49 #[.pointer (some ⟨g, 0, none⟩)] w fun e w' => e = .returned (.bool (decide ((32 : Int) ≤ (S.length : Int)))) ∧ Own D w w' [rdsk g S []] := by
  refine hc_enter (vs := [.pointer (some ⟨g, 0, none⟩)]) Try.func49 rfl _ Try.ntmps49 rfl H ?_
  simp only [argSlots, Nat.zero_add]
  refine HC.exs ?_
  rintro ⟨⟨A0, c0⟩, A1, c1⟩
  refine HC.ent (l' := [blk g 59 [.slice A0 S.length c0, .slice A1 0 c1], row A0 34 64 S.length c0 (S.flatMap secC), row A1 116 65 0 c1 []]) (fun _ h => h) ?_
  refine hc_seq <| hc_region <| hl_v (ov_assign rfl) rfl <| hl_nil <| hx_then_normal <| hc_seq <| ?_
  refine hc_region <| hl_v (ov_move rfl) rfl <| hl_v (ov_neqP rfl rfl) rfl <| hl_v (ov_move rfl) rfl <| ?_
  refine hl_on rfl rfl <| hl_v (ov_move rfl) rfl <| hl_on rfl rfl <| hl_v (ov_nil rfl) rfl <| hl_on rfl rfl <| hl_v (ov_fieldA rfl) rfl <| hl_on rfl rfl <| hl_v (ov_load rfl (CellIs.blk rfl)) rfl <| hl_on rfl rfl <| hl_v (by first | exact ov_len rfl | exact ov_lenS rfl) rfl <| ?_
  refine hl_on rfl rfl <| hl_v (ov_geq rfl rfl) rfl <| hl_v (ov_pickT rfl rfl) rfl <| hl_v (ov_assign rfl) rfl <| hl_nil <| hx_then_normal <| hc_ret <| ?_
  exact results_1 (.inr rfl) rfl rfl fun w' H' => ⟨rfl, H'.ent (dsk_mk (P := []))⟩
/-- What the reference tells of a place. -/
def gotC (o : Option EntT) (p : Nat) (q : Option Addr × Nat) : List Value := match o with
  | none => [.int .u32 0, .slice none 0 0, .int .i64 0, .int .i64 13]
  | some e => [.int .u32 e.2.1, .slice q.1 e.2.2.2.length q.2, .int .i64 (p : Int), .int .i64 0]
def gotO (o : Option EntT) (q : Option Addr × Nat) : List HProp := match o with
  | none => []
  | some e => [row q.1 5 1 e.2.2.2.length q.2 (e.2.2.2.map u8v)]
@[simp] theorem gotC_len (o : Option EntT) (p : Nat) (q : Option Addr × Nat) : (gotC o p q).length = 4 := by cases o <;> rfl
theorem gotC_one (o : Option EntT) (p : Nat) (q : Option Addr × Nat) : ∀ v ∈ gotC o p q, v.oneCell' = true := by cases o <;> simp [gotC, Value.oneCell']
set_option maxHeartbeats 1000000 in
theorem at_spec (D : Nat → Prop) (w : World) (g p : Nat) (hp : p < 2) (S : List Sec) (hS : 32 ≤ S.length) (H : Own D w w [rdsk g S []]) :
    Calls Try.prog 50 #[.pointer (some ⟨g, 0, none⟩), .int .i64 (p : Int)] w fun e w' => ∃ q : Option Addr × Nat, e = .returned (.agg (gotC (lookS S (16 * p)) p q).toArray) ∧ Own D w w' (rdsk g S [] :: gotO (lookS S (16 * p)) q) := by
  refine hc_enter (vs := [.pointer (some ⟨g, 0, none⟩), .int .i64 (p : Int)]) Try.func50 rfl _ Try.ntmps50 rfl H ?_
  simp only [argSlots, Nat.zero_add]
  refine hc_seq <| hc_region <| hl_new (on_alloc) rfl rfl rfl fun b4 =>
    hl_nil <| hx_then_normal <| hc_seq <| ?_
  refine hc_region <| hl_v (ov_assign rfl) rfl <| hl_nil <| hx_then_normal <| hc_seq <| hc_seq <| ?_
  refine hc_region <| hl_v (ov_assign rfl) rfl <| hl_nil <| hx_then_normal <| hc_block <| ?_
  refine hc_loopK2 (σ := Nat × Option Addr × Nat) [0, 1, 4] rfl 6 (fun s => .int .i64 (s.1 : Int)) 5 (fun s => .slice s.2.1 s.1 s.2.2) (fun s => [row s.2.1 34 64 s.1 s.2.2 (((S.drop (16 * p)).take s.1).flatMap secC), rdsk g S [], blk b4 50 [.int .u32 0, .slice none 0 0, .int .i64 0, .int .i64 0]]) (fun s => s.1 ≤ 16) (fun s => 16 - s.1) ((0, none, 0)) (by decide) rfl rfl (Ent.trans (Ent.nil_row 34 64) (by simp only [List.take_zero, List.flatMap_nil]; exact (by first | assumption | exact Ent.refl _ | exact Ent.nil _ | exact Ent.row_any (Ent.refl _) | (repeat (first | exact Ent.refl _ | exact Ent.nil _ | refine Ent.pick ?_))))) ?_
  rintro ⟨k, ql⟩ hk16 K1 hK1
  dsimp only at hk16 ⊢
  refine hc_seq <| hc_seq <| hc_region <| hl_v (ov_move rfl) rfl <| hl_v (ov_lss rfl rfl) rfl <| hl_nil <| ?_
  refine hx_then_normal <| ?_
  refine hc_cond rfl (fun h2 => ?_) (fun h2 => ?_)
  · have hk : k < 16 := by omega
    have hi : 16 * p + k < S.length := by omega
    have hst : (S.drop (16 * p)).take (k + 1) = (S.drop (16 * p)).take k ++ [S[16 * p + k]] := by
      rw [List.take_succ_eq_append_getElem (by rw [List.length_drop]; omega), List.getElem_drop]
    obtain ⟨s, hs⟩ : ∃ s, s = S[16 * p + k] := ⟨_, rfl⟩
    rw [← hs] at hst
    refine hc_skip <| hx_then_normal <| hc_seq <| hc_block <| hc_seq <| hc_region <| ?_
    refine hl_v (ov_move rfl) rfl <| hl_v (ov_move rfl) rfl <| ?_
    refine hl_v (ov_mul (m := ((16 * p : Nat) : Int)) rfl rfl ((wrap_i64 (by omega)).trans (by omega))) rfl ?_
    refine hl_v (ov_move rfl) rfl <| ?_
    refine hl_v (ov_add (m := ((16 * p + k : Nat) : Int)) rfl rfl ((wrap_i64 (by omega)).trans (by omega))) rfl ?_
    refine hl_c Try.call62 rfl rfl (fun w1 H1 => Own.callp (rdsk g S []) H1 fun D' hold hin H2 => (RRead_ok D' w1 g (16 * p + k) S [] hi H2).mono fun e w' ⟨he, H'⟩ => ⟨show e = Ending.returned (.tuple #[.agg (secC s).toArray, .int .i64 0]) by rw [he, hs]; rfl, H'⟩) ?_
    refine hl_v (ov_move rfl) rfl <| hl_v (ov_extract rfl rfl) rfl <| hl_v (ov_extract rfl rfl) rfl <| hl_new (on_alloc) rfl rfl rfl fun b7 =>  ?_
    refine hl_u0 (on_storeW (vs := secC s) rfl rfl (by simp [secC_len]) (by simp [secC_len]) (secC_one s)) rfl rfl ?_
    refine hl_v (ov_assign rfl) rfl <| hl_nil <| hx_then_normal <| hc_region <| hl_v (ov_move rfl) rfl <| ?_
    refine hl_v (ov_loadW rfl (secC_len s)) rfl ?_
    refine hl_new (on_buildSlice (res := secC s) rfl rfl (fill_sec1 _)) rfl rfl rfl (fun b37 => ?_)
    refine hl_new (on_appendR (A := ql.1) (news := secC s) rfl rfl (SrcIs.blk (b := b37)) (by rw [secC_len]) (secC_one _) (by decide) (by omega)) rfl rfl rfl (fun qm => ?_)
    rw [show ((S.drop (16 * p)).take k).flatMap secC ++ secC s = ((S.drop (16 * p)).take (k + 1)).flatMap secC by rw [hst, List.flatMap_append, List.flatMap_singleton]]
    refine hl_v (ov_assign rfl) rfl <| hl_nil <| hx_block_normal <| hx_then_normal <| hc_region <| hl_v (ov_move rfl) rfl <| ?_
    refine hl_v (ov_add rfl rfl (by first | exact wrap_i64 (by omega) | rfl)) rfl <| ?_
    refine hl_v (ov_assign rfl) rfl <| hl_nil <| ?_
    refine hx_next hK1 ((k + 1, qm)) (hk) (by omega) (by repeat (first | exact Slots.sub_nil _ | refine Slots.sub_cons rfl ?_)) (by first | assumption | exact Ent.refl _ | exact Ent.nil _ | (repeat (first | exact Ent.refl _ | exact Ent.nil _ | refine Ent.pick ?_)))
  obtain rfl : k = 16 := by omega
  obtain ⟨T, hT⟩ : ∃ T, T = (S.drop (16 * p)).take 16 := ⟨_, rfl⟩
  have hTl : T.length = 16 := by rw [hT, List.length_take, List.length_drop]; omega
  rw [← hT]
  rcases hd : decS T with _ | ⟨x, n⟩
  · have hno : lookS S (16 * p) = none := by unfold lookS; rw [← hT, hd]
    refine hc_exit <| hx_then_exit <| hx_then_exit <| hx_block_out <| hx_then_normal <| hc_seq <| ?_
    refine hc_region <| hl_v (ov_move rfl) rfl <| ?_
    refine hl_c Try.call63 rfl rfl (fun w1 H1 => Own.calln H1 fun D' hold hin H2 => RDec_none D' w1 _ T hd (by omega) (hin _ fun h hs ho => rep_row (A := ql.1) hs T hTl.symm (repL_secs.2 rfl))) ?_
    refine hl_new (on_alloc) rfl rfl rfl fun b9 =>  ?_
    refine hl_u0 (on_storeW (vs := [.int .i64 0, .int .u32 0, .int .u32 0, .slice none 0 0, .int .i64 0, .int .i64 11]) rfl rfl (by simp) (by simp) (by simp [Value.oneCell'])) rfl rfl ?_
    refine hl_nil <| hx_then_normal <| hc_seq <| hc_seq <| hc_region <| hl_v (ov_fieldA rfl) rfl <| ?_
    refine hl_v (ov_load rfl (CellIs.blk rfl)) rfl <| hl_v (ov_neq rfl rfl) rfl <| hl_v (ov_move rfl) rfl <| ?_
    refine hl_partT (t := 32) rfl ((by decide)) ?_
    have hlk : lookS S (16 * p) = none := hno
    refine hl_off rfl rfl rfl rfl rfl rfl <| hl_off rfl rfl rfl rfl rfl rfl <| hl_off rfl rfl rfl rfl rfl rfl <| hl_off rfl rfl rfl rfl rfl rfl <| hl_v (ov_pickT rfl rfl) rfl <| hl_v (ov_move rfl) rfl <| ?_
    refine hl_off rfl rfl rfl rfl rfl rfl <| hl_off rfl rfl rfl rfl rfl rfl <| hl_off rfl rfl rfl rfl rfl rfl <| hl_off rfl rfl rfl rfl rfl rfl <| hl_v (ov_pickT rfl rfl) rfl <| hl_nil <| ?_
    refine hx_then_normal <| hc_cond_true rfl <| hc_seq <| hc_region <| hl_v (ov_buildSN rfl rfl) rfl <| ?_
    refine hl_u0 (on_storeW (vs := gotC none 0 (none, 0)) rfl rfl (by simp [gotC]) (by simp [gotC]) (gotC_one _ _ _)) rfl rfl ?_
    refine hl_nil <| hx_then_normal <| hc_ret <| hx_then_ret <| ?_
    exact results_c (.inr rfl) rfl rfl (by simp) fun w' H' => ⟨(none, 0), by rw [hlk]; rfl, by rw [hlk]; exact H'.ent (Ent.trans (b := [rdsk g S []]) (by first | assumption | exact Ent.refl _ | exact Ent.nil _ | exact Ent.row_any (Ent.refl _) | (repeat (first | exact Ent.refl _ | exact Ent.nil _ | refine Ent.pick ?_))) (Ent.refl _))⟩
  have hlk' : lookS S (16 * p) = if x.1 = 2 ∧ x.2.2.1 = 0 then some x else none := by unfold lookS; rw [← hT, hd]
  refine hc_exit <| hx_then_exit <| hx_then_exit <| hx_block_out <| hx_then_normal <| hc_seq <| ?_
  refine hc_region <| hl_v (ov_move rfl) rfl <| ?_
  refine hl_call (σ := Option Addr × Nat) Try.call63 rfl rfl (fun w1 H1 => Own.callx0 H1 fun D' hold hin H2 => RDec_some D' w1 _ T x n hd (by omega) (hin _ fun h hs ho => rep_row (A := ql.1) hs T hTl.symm (repL_secs.2 rfl))) ?_
  intro qx
  try rw [List.nil_append]
  refine hl_new (on_alloc) rfl rfl rfl fun b9 =>  ?_
  refine hl_u0 (on_storeW (vs := [.int .i64 x.1, .int .u32 x.2.1, .int .u32 x.2.2.1, .slice qx.1 x.2.2.2.length qx.2, .int .i64 n, .int .i64 0]) rfl rfl (by simp) (by simp) (by simp [Value.oneCell'])) rfl rfl ?_
  refine hl_nil <| hx_then_normal <| hc_seq <| hc_seq <| hc_region <| hl_v (ov_fieldA rfl) rfl <| ?_
  refine hl_v (ov_load rfl (CellIs.blk rfl)) rfl <| hl_v (ov_neq rfl rfl) rfl <| hl_v (ov_move rfl) rfl <| ?_
  refine hl_partF (t := 32) rfl ((fun h => h rfl)) ?_
  refine hl_on rfl rfl <| hl_v (ov_fieldA rfl) rfl <| hl_on rfl rfl <| hl_v (ov_fieldA rfl) rfl <| hl_on rfl rfl <| hl_v (ov_load rfl (CellIs.blk rfl)) rfl <| hl_on rfl rfl <| hl_v (ov_neq rfl rfl) rfl <| hl_v (ov_pickF rfl rfl) rfl <| hl_v (ov_move rfl) rfl <| ?_
  refine hl_part (t := 38) rfl (fun c1 => ?_) (fun c1 => ?_)
  · have hno : lookS S (16 * p) = none := by rw [hlk', if_neg (by omega)]
    have hlk : lookS S (16 * p) = none := hno
    refine hl_off rfl rfl rfl rfl rfl rfl <| hl_off rfl rfl rfl rfl rfl rfl <| hl_off rfl rfl rfl rfl rfl rfl <| hl_off rfl rfl rfl rfl rfl rfl <| hl_v (ov_pickT rfl rfl) rfl <| hl_nil <| ?_
    refine hx_then_normal <| hc_cond_true rfl <| hc_seq <| hc_region <| hl_v (ov_buildSN rfl rfl) rfl <| ?_
    refine hl_u0 (on_storeW (vs := gotC none 0 (none, 0)) rfl rfl (by simp [gotC]) (by simp [gotC]) (gotC_one _ _ _)) rfl rfl ?_
    refine hl_nil <| hx_then_normal <| hc_ret <| hx_then_ret <| ?_
    exact results_c (.inr rfl) rfl rfl (by simp) fun w' H' => ⟨(none, 0), by rw [hlk]; rfl, by rw [hlk]; exact H'.ent (Ent.trans (b := [rdsk g S []]) (by first | assumption | exact Ent.refl _ | exact Ent.nil _ | exact Ent.row_any (Ent.refl _) | (repeat (first | exact Ent.refl _ | exact Ent.nil _ | refine Ent.pick ?_))) (Ent.refl _))⟩
  refine hl_on rfl rfl <| hl_v (ov_fieldA rfl) rfl <| hl_on rfl rfl <| hl_v (ov_fieldA rfl) rfl <| hl_on rfl rfl <| hl_v (ov_load rfl (CellIs.blk rfl)) rfl <| hl_on rfl rfl <| hl_v (ov_neq rfl rfl) rfl <| hl_v (ov_pickF rfl rfl) rfl <| hl_nil <| ?_
  refine hx_then_normal <| ?_
  refine hc_cond rfl (fun c2 => ?_) (fun c2 => ?_)
  · have hno : lookS S (16 * p) = none := by rw [hlk', if_neg (by omega)]
    have hlk : lookS S (16 * p) = none := hno
    refine hc_seq <| hc_region <| hl_v (ov_buildSN rfl rfl) rfl <| ?_
    refine hl_u0 (on_storeW (vs := gotC none 0 (none, 0)) rfl rfl (by simp [gotC]) (by simp [gotC]) (gotC_one _ _ _)) rfl rfl ?_
    refine hl_nil <| hx_then_normal <| hc_ret <| hx_then_ret <| ?_
    exact results_c (.inr rfl) rfl rfl (by simp) fun w' H' => ⟨(none, 0), by rw [hlk]; rfl, by rw [hlk]; exact H'.ent (Ent.trans (b := [rdsk g S []]) (by first | assumption | exact Ent.refl _ | exact Ent.nil _ | exact Ent.row_any (Ent.refl _) | (repeat (first | exact Ent.refl _ | exact Ent.nil _ | refine Ent.pick ?_))) (Ent.refl _))⟩
  have hlk : lookS S (16 * p) = some x := by rw [hlk', if_pos (by omega)]
  refine hc_skip <| hx_then_normal <| hc_seq <| hc_region <| hl_v (ov_fieldA rfl) rfl <| hl_v (ov_fieldA rfl) rfl <| ?_
  refine hl_v (ov_load rfl (CellIs.blk rfl)) rfl <| hl_v (ov_fieldA rfl) rfl <| hl_v (ov_fieldA rfl) rfl <| hl_v (ov_load rfl (CellIs.blk rfl)) rfl <| hl_v (ov_move rfl) rfl <| hl_v (ov_buildSN rfl rfl) rfl <| ?_
  refine hl_u0 (on_storeW (vs := gotC (some x) p qx) rfl rfl (by simp [gotC]) (by simp [gotC]) (gotC_one _ _ _)) rfl rfl ?_
  refine hl_nil <| hx_then_normal <| hc_ret <| ?_
  exact results_c (.inr rfl) rfl rfl (by simp) fun w' H' => ⟨qx, by rw [hlk], by rw [hlk]; exact H'.ent (Ent.trans (b := [rdsk g S [], row qx.1 5 1 x.2.2.2.length qx.2 (x.2.2.2.map u8v)]) (by first | assumption | exact Ent.refl _ | exact Ent.nil _ | exact Ent.row_any (Ent.refl _) | (repeat (first | exact Ent.refl _ | exact Ent.nil _ | refine Ent.pick ?_))) (Ent.refl _))⟩
/-- What the reference's Load tells. -/
def gotN (o : Option (EntT × Nat)) (q : Option Addr × Nat) : List Value := match o with
  | none => [.int .u32 0, .slice none 0 0, .int .i64 0, .int .i64 13]
  | some y => [.int .u32 y.1.2.1, .slice q.1 y.1.2.2.2.length q.2, .int .i64 ((y.2 / 16 : Nat) : Int), .int .i64 0]
def gotNO (o : Option (EntT × Nat)) (q : Option Addr × Nat) : List HProp := match o with
  | none => []
  | some y => [row q.1 5 1 y.1.2.2.2.length q.2 (y.1.2.2.2.map u8v)]
theorem gotN_one (o : Option (EntT × Nat)) (q : Option Addr × Nat) : ∀ v ∈ gotN o q, v.oneCell' = true := by cases o <;> simp [gotN, Value.oneCell']
@[simp] theorem gotN_len (o : Option (EntT × Nat)) (q : Option Addr × Nat) : (gotN o q).length = 4 := by cases o <;> rfl
abbrev gotArg : List Value := [.int .u32 0, .slice none 0 0, .int .i64 0, .int .i64 1]
theorem newS_def (S : List Sec) : newS S = pickS (pickS none 0 (lookS S 0)) 16 (lookS S 16) := rfl
theorem RLoad_nil (D : Nat → Prop) (w : World) : Calls Try.prog 22 #[.pointer none] w fun e w' => e = .returned (.agg gotArg.toArray) ∧ Own D w w' [] := by
  refine hc_enter (vs := [.pointer none]) Try.func22 rfl _ Try.ntmps22 rfl (Own.start D w) ?_
  simp only [argSlots, Nat.zero_add]
  refine hc_seq <| hc_region <| hl_new (on_alloc) rfl rfl rfl fun b2 =>
    hl_nil <| hx_then_normal <| hc_seq <| ?_
  refine hc_seq <| hc_region <| hl_v (ov_move rfl) rfl <| ?_
  refine hl_c Try.call49 rfl rfl (fun w1 H1 => Own.calln H1 fun D' hold hin H2 => may_nil D' w1) ?_
  refine hl_v (by first | exact ov_notd rfl | exact ov_not rfl) rfl <| ?_
  refine hl_nil <| hx_then_normal <| ?_
  refine hc_cond_true rfl ?_
  refine hc_seq <| hc_region <| hl_v (ov_buildSN rfl rfl) rfl <| ?_
  refine hl_u0 (on_storeW (vs := gotArg) rfl rfl (by simp) (by simp) (by simp [Value.oneCell'])) rfl rfl ?_
  refine hl_nil <| hx_then_normal <| hc_ret <| hx_then_ret <| ?_
  exact results_c (.inr rfl) rfl rfl (by simp) fun w' H' => ⟨rfl, H'.ent (Ent.nil _)⟩
theorem RLoad_small (D : Nat → Prop) (w : World) (g : Nat) (S : List Sec) (hS : S.length < 32) (H : Own D w w [rdsk g S []]) : Calls Try.prog 22 #[.pointer (some ⟨g, 0, none⟩)] w fun e w' => e = .returned (.agg gotArg.toArray) ∧ Own D w w' [rdsk g S []] := by
  refine hc_enter (vs := [.pointer (some ⟨g, 0, none⟩)]) Try.func22 rfl _ Try.ntmps22 rfl H ?_
  simp only [argSlots, Nat.zero_add]
  refine hc_seq <| hc_region <| hl_new (on_alloc) rfl rfl rfl fun b2 =>
    hl_nil <| hx_then_normal <| hc_seq <| ?_
  refine hc_seq <| hc_region <| hl_v (ov_move rfl) rfl <| ?_
  refine hl_c Try.call49 rfl rfl (fun w1 H1 => Own.callp (rdsk g S []) H1 fun D' hold hin H2 => may_spec D' w1 g S H2) ?_
  refine hl_v (by first | exact ov_notd rfl | exact ov_not rfl) rfl <| ?_
  refine hl_nil <| hx_then_normal <| ?_
  refine hc_cond_T rfl ((by omega)) ?_
  refine hc_seq <| hc_region <| hl_v (ov_buildSN rfl rfl) rfl <| ?_
  refine hl_u0 (on_storeW (vs := gotArg) rfl rfl (by simp) (by simp) (by simp [Value.oneCell'])) rfl rfl ?_
  refine hl_nil <| hx_then_normal <| hc_ret <| hx_then_ret <| ?_
  exact results_c (.inr rfl) rfl rfl (by simp) fun w' H' => ⟨rfl, H'.ent (by first | assumption | exact Ent.refl _ | exact Ent.nil _ | exact Ent.row_any (Ent.refl _) | (repeat (first | exact Ent.refl _ | exact Ent.nil _ | refine Ent.pick ?_)))⟩
set_option maxHeartbeats 1000000 in
theorem RLoad_spec (D : Nat → Prop) (w : World) (g : Nat) (S : List Sec) (hS : 32 ≤ S.length) (H : Own D w w [rdsk g S []]) :
    Calls Try.prog 22 #[.pointer (some ⟨g, 0, none⟩)] w fun e w' => ∃ q : Option Addr × Nat, e = .returned (.agg (gotN (newS S) q).toArray) ∧ Own D w w' (rdsk g S [] :: gotNO (newS S) q) := by
  refine hc_enter (vs := [.pointer (some ⟨g, 0, none⟩)]) Try.func22 rfl _ Try.ntmps22 rfl H ?_
  simp only [argSlots, Nat.zero_add]
  refine hc_seq <| hc_region <| hl_new (on_alloc) rfl rfl rfl fun b2 =>
    hl_nil <| hx_then_normal <| hc_seq <| ?_
  refine hc_seq <| hc_region <| hl_v (ov_move rfl) rfl <| ?_
  refine hl_c Try.call49 rfl rfl (fun w1 H1 => Own.callp (rdsk g S []) H1 fun D' hold hin H2 => may_spec D' w1 g S H2) ?_
  refine hl_v (by first | exact ov_notd rfl | exact ov_not rfl) rfl <| ?_
  refine hl_nil <| hx_then_normal <| ?_
  refine hc_cond_F rfl ((by omega)) ?_
  refine hc_skip <| hx_then_normal <| hc_seq <| hc_region <| hl_v (ov_move rfl) rfl <| ?_
  refine hl_call (σ := Option Addr × Nat) Try.call50 rfl rfl (fun w1 H1 => Own.callpx (rdsk g S []) H1 fun D' hold hin H2 => at_spec D' w1 g 0 (by decide) S hS H2) ?_
  intro qa
  refine hl_v (ov_move rfl) rfl <| ?_
  refine hl_call (σ := Option Addr × Nat) Try.call50 rfl rfl (fun w1 H1 => Own.callpx (rdsk g S []) H1 fun D' hold hin H2 => at_spec D' w1 g 1 (by decide) S hS H2) ?_
  intro qb
  have hnew := newS_def S
  rw [Nat.mul_zero, Nat.mul_one]
  refine hl_new (on_alloc) rfl rfl rfl fun b3 => 
    hl_new (on_alloc) rfl rfl rfl fun b4 =>  ?_
  refine hl_u0 (on_storeW (vs := gotC (lookS S 0) 0 qa) rfl rfl (gotC_len _ _ _) (by simp [gotC_len]) (gotC_one _ _ _)) rfl rfl ?_
  refine hl_u0 (on_storeW (vs := gotC (lookS S 16) 1 qb) rfl rfl (gotC_len _ _ _) (by simp [gotC_len]) (gotC_one _ _ _)) rfl rfl ?_
  refine hl_nil <| hx_then_normal <| hc_seq <| hc_seq <| ?_
  rcases hb : lookS S 16 with _ | y
  · rw [hb] at hnew
    have hn : newS S = pickS none 0 (lookS S 0) := hnew
    dsimp only [gotC, gotO]
    refine hc_region <| hl_v (ov_fieldA rfl) rfl <| ?_
    refine hl_v (ov_load rfl (CellIs.blk rfl)) rfl ?_
    refine hl_v (ov_eql rfl rfl) rfl <| hl_v (ov_move rfl) rfl <| ?_
    refine hl_partF (t := 16) rfl ((by decide)) ?_
    refine hl_off rfl rfl rfl rfl rfl rfl <| hl_off rfl rfl rfl rfl rfl rfl <| hl_off rfl rfl rfl rfl rfl rfl <| hl_off rfl rfl rfl rfl rfl rfl <| hl_offU rfl rfl rfl rfl rfl <| hl_offU rfl rfl rfl rfl rfl <| ?_
    refine hl_offU rfl rfl rfl rfl rfl <| hl_offU rfl rfl rfl rfl rfl <| hl_offU rfl rfl rfl rfl rfl <| hl_off rfl rfl rfl rfl rfl rfl <| hl_v (ov_pickF rfl rfl) rfl <| hl_nil <| ?_
    refine hx_then_normal <| hc_cond_false rfl <| hc_skip <| hx_then_normal <| hc_seq <| ?_
    rcases ha : lookS S 0 with _ | x
    · rw [ha] at hn
      have hn : newS S = none := hn
      dsimp only [gotO]
      refine hc_region <| ?_
      refine hl_v (ov_loadW rfl rfl) rfl ?_
      refine hl_u0 (on_storeW (vs := gotC none 0 qa) rfl rfl (by simp [gotC]) (by simp [gotC]) (gotC_one _ _ _)) rfl rfl ?_
      refine hl_nil <| hx_then_normal <| hc_ret <| ?_
      exact results_c (.inr rfl) rfl rfl (by simp) fun w' H' => ⟨qa, by rw [hn]; simp [gotC, gotN], by rw [hn]; exact H'.ent (Ent.trans (b := [rdsk g S []]) (by first | assumption | exact Ent.refl _ | exact Ent.nil _ | exact Ent.row_any (Ent.refl _) | (repeat (first | exact Ent.refl _ | exact Ent.nil _ | refine Ent.pick ?_))) (Ent.refl _))⟩
    rw [ha] at hn
    have hn : newS S = some (x, 0) := hn
    dsimp only [gotO]
    refine hc_region <| ?_
    refine hl_v (ov_loadW rfl rfl) rfl ?_
    refine hl_u0 (on_storeW (vs := gotC (some x) 0 qa) rfl rfl (by simp [gotC]) (by simp [gotC]) (gotC_one _ _ _)) rfl rfl ?_
    refine hl_nil <| hx_then_normal <| hc_ret <| ?_
    exact results_c (.inr rfl) rfl rfl (by simp) fun w' H' => ⟨qa, by rw [hn]; simp [gotC, gotN], by rw [hn]; exact H'.ent (Ent.trans (b := [rdsk g S [], row qa.1 5 1 x.2.2.2.length qa.2 (x.2.2.2.map u8v)]) (by first | assumption | exact Ent.refl _ | exact Ent.nil _ | exact Ent.row_any (Ent.refl _) | (repeat (first | exact Ent.refl _ | exact Ent.nil _ | refine Ent.pick ?_))) (Ent.refl _))⟩
  rw [hb] at hnew
  dsimp only [gotO]
  rcases ha : lookS S 0 with _ | x
  · rw [ha] at hnew
    have hn : newS S = some (y, 16) := hnew
    dsimp only [gotO]
    refine hc_region <| hl_v (ov_fieldA rfl) rfl <| hl_v (ov_load rfl (CellIs.blk rfl)) rfl <| hl_v (ov_eql rfl rfl) rfl <| hl_v (ov_move rfl) rfl <| ?_
    refine hl_partT (t := 16) rfl (rfl) ?_
    refine hl_on rfl rfl <| hl_v (ov_fieldA rfl) rfl <| hl_on rfl rfl <| hl_v (ov_load rfl (CellIs.blk rfl)) rfl <| hl_on rfl rfl <| hl_v (ov_neq rfl rfl) rfl <| hl_on rfl rfl <| hl_v (ov_move rfl) rfl <| ?_
    refine hl_partT (t := 20) rfl ((by decide)) ?_
    refine hl_off rfl rfl rfl rfl rfl rfl <| hl_off rfl rfl rfl rfl rfl rfl <| hl_off rfl rfl rfl rfl rfl rfl <| hl_off rfl rfl rfl rfl rfl rfl <| hl_off rfl rfl rfl rfl rfl rfl <| hl_on rfl rfl <| hl_v (ov_pickT rfl rfl) rfl <| ?_
    refine hl_v (ov_pickT rfl rfl) rfl <| hl_nil <| hx_then_normal <| hc_cond_true rfl <| hc_seq <| hc_region <| ?_
    refine hl_v (by first | exact ov_loadW rfl (by simp; done) | exact ov_loadGB rfl rfl) rfl <| ?_
    refine hl_u0 (on_storeW (vs := gotC (some y) 1 qb) rfl rfl (by simp [gotC]) (by simp [gotC]) (gotC_one _ _ _)) rfl rfl ?_
    refine hl_nil <| hx_then_normal <| hc_ret <| hx_then_ret <| ?_
    exact results_c (.inr rfl) rfl rfl (by simp) fun w' H' => ⟨qb, by rw [hn]; simp [gotC, gotN], by rw [hn]; exact H'.ent (Ent.trans (b := [rdsk g S [], row qb.1 5 1 y.2.2.2.length qb.2 (y.2.2.2.map u8v)]) (by first | assumption | exact Ent.refl _ | exact Ent.nil _ | exact Ent.row_any (Ent.refl _) | (repeat (first | exact Ent.refl _ | exact Ent.nil _ | refine Ent.pick ?_))) (Ent.refl _))⟩
  rw [ha] at hnew
  have hnew : newS S = if x.2.1 < y.2.1 then some (y, 16) else some (x, 0) := hnew
  dsimp only [gotO]
  refine hc_region <| hl_v (ov_fieldA rfl) rfl <| hl_v (ov_load rfl (CellIs.blk rfl)) rfl <| hl_v (ov_eql rfl rfl) rfl <| hl_v (ov_move rfl) rfl <| ?_
  refine hl_partT (t := 16) rfl (rfl) ?_
  refine hl_on rfl rfl <| hl_v (ov_fieldA rfl) rfl <| hl_on rfl rfl <| hl_v (ov_load rfl (CellIs.blk rfl)) rfl <| hl_on rfl rfl <| hl_v (ov_neq rfl rfl) rfl <| hl_on rfl rfl <| hl_v (ov_move rfl) rfl <| ?_
  refine hl_partF (t := 20) rfl ((fun h => h rfl)) ?_
  refine hl_on rfl rfl <| hl_v (ov_fieldA rfl) rfl <| hl_on rfl rfl <| hl_v (ov_load rfl (CellIs.blk rfl)) rfl <| hl_on rfl rfl <| hl_v (ov_fieldA rfl) rfl <| hl_on rfl rfl <| hl_v (ov_load rfl (CellIs.blk rfl)) rfl <| hl_on rfl rfl <| hl_v (ov_gtr rfl rfl) rfl <| hl_on rfl rfl <| hl_v (ov_pickF rfl rfl) rfl <| ?_
  refine hl_v (ov_pickT rfl rfl) rfl <| hl_nil <| hx_then_normal <| ?_
  refine hc_cond rfl (fun c3 => ?_) (fun c3 => ?_)
  · have hn : newS S = some (y, 16) := by rw [hnew, if_pos (by omega)]
    refine hc_seq <| hc_region <| hl_v (by first | exact ov_loadW rfl (by simp; done) | exact ov_loadGB rfl rfl) rfl <| ?_
    refine hl_u0 (on_storeW (vs := gotC (some y) 1 qb) rfl rfl (by simp [gotC]) (by simp [gotC]) (gotC_one _ _ _)) rfl rfl ?_
    refine hl_nil <| hx_then_normal <| hc_ret <| hx_then_ret <| ?_
    exact results_c (.inr rfl) rfl rfl (by simp) fun w' H' => ⟨qb, by rw [hn]; simp [gotC, gotN], by rw [hn]; exact H'.ent (Ent.trans (b := [rdsk g S [], row qb.1 5 1 y.2.2.2.length qb.2 (y.2.2.2.map u8v)]) (by first | assumption | exact Ent.refl _ | exact Ent.nil _ | exact Ent.row_any (Ent.refl _) | (repeat (first | exact Ent.refl _ | exact Ent.nil _ | refine Ent.pick ?_))) (Ent.refl _))⟩
  have hn : newS S = some (x, 0) := by rw [hnew, if_neg (by omega)]
  refine hc_skip <| hx_then_normal <| hc_seq <| hc_region <| hl_v (by first | exact ov_loadW rfl (by simp; done) | exact ov_loadGB rfl rfl) rfl <| ?_
  refine hl_u0 (on_storeW (vs := gotC (some x) 0 qa) rfl rfl (by simp [gotC]) (by simp [gotC]) (gotC_one _ _ _)) rfl rfl ?_
  refine hl_nil <| hx_then_normal <| hc_ret <| ?_
  exact results_c (.inr rfl) rfl rfl (by simp) fun w' H' => ⟨qa, by rw [hn]; simp [gotC, gotN], by rw [hn]; exact H'.ent (Ent.trans (b := [rdsk g S [], row qa.1 5 1 x.2.2.2.length qa.2 (x.2.2.2.map u8v)]) (by first | assumption | exact Ent.refl _ | exact Ent.nil _ | exact Ent.row_any (Ent.refl _) | (repeat (first | exact Ent.refl _ | exact Ent.nil _ | refine Ent.pick ?_))) (Ent.refl _))⟩
end Go.Proofs.Ytijaldfiaeafgaa
