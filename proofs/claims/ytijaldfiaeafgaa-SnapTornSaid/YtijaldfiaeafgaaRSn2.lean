import Derived.Test.YtijaldfiaeafgaaRSn1
set_option linter.unusedVariables false
set_option linter.unusedSimpArgs false
namespace Go.Proofs.Ytijaldfiaeafgaa
open Slk
theorem newS_place {S : List Sec} {y : EntT × Nat} (h : newS S = some y) : y.2 = 0 ∨ y.2 = 16 := by
  rw [newS_def] at h
  rcases ha : lookS S 0 with _ | a <;> rcases hb : lookS S 16 with _ | b <;> rw [ha, hb] at h
  · cases h
  · have h : some (b, 16) = some y := h
    cases h; exact .inr rfl
  · have h : some (a, 0) = some y := h
    cases h; exact .inl rfl
  have h : (if a.2.1 < b.2.1 then some (b, 16) else some (a, 0)) = some y := h
  split at h
  · cases h; exact .inr rfl
  cases h; exact .inl rfl
abbrev wrsE (e : Int) : List Value := [.slice none 0 0, .int .i64 0, .int .i64 e]
abbrev wrsC (n at_ : Nat) (q : Option Addr × Nat) : List Value := [.slice q.1 n q.2, .int .i64 (at_ : Int), .int .i64 0]
theorem RPlan_nil (D : Nat → Prop) (w : World) (a : Nat) (v : Value) : Calls Try.prog 28 #[.pointer none, .int .u32 (a : Int), v] w fun e w' => e = .returned (.agg (wrsE 1).toArray) ∧ Own D w w' [] := by
  refine hc_enter (vs := [.pointer none, .int .u32 (a : Int), v]) Try.func28 rfl _ Try.ntmps28 rfl (Own.start D w) ?_
  simp only [argSlots, Nat.zero_add]
  refine hc_seq <| hc_region <| hl_new (on_alloc) rfl rfl rfl fun b6 =>
    hl_nil <| hx_then_normal <| hc_seq <| ?_
  refine hc_seq <| hc_region <| hl_v (ov_move rfl) rfl <| ?_
  refine hl_c Try.call49 rfl rfl (fun w1 H1 => Own.calln H1 fun D' hold hin H2 => may_nil D' w1) ?_
  refine hl_v (by first | exact ov_notd rfl | exact ov_not rfl) rfl <| ?_
  refine hl_nil <| hx_then_normal <| ?_
  refine hc_cond_true rfl ?_
  refine hc_seq <| hc_region <| hl_v (ov_buildSN rfl rfl) rfl <| ?_
  refine hl_u0 (on_storeW (vs := wrsE 1) rfl rfl (by simp) (by simp) (by simp [Value.oneCell'])) rfl rfl ?_
  refine hl_nil <| hx_then_normal <| hc_ret <| hx_then_ret <| ?_
  exact results_c (.inr rfl) rfl rfl (by simp) fun w' H' => ⟨rfl, H'.ent (Ent.nil _)⟩
theorem RPlan_small (D : Nat → Prop) (w : World) (g : Nat) (S : List Sec) (a : Nat) (v : Value) (hS : S.length < 32) (H : Own D w w [rdsk g S []]) : Calls Try.prog 28 #[.pointer (some ⟨g, 0, none⟩), .int .u32 (a : Int), v] w fun e w' => e = .returned (.agg (wrsE 1).toArray) ∧ Own D w w' [rdsk g S []] := by
  refine hc_enter (vs := [.pointer (some ⟨g, 0, none⟩), .int .u32 (a : Int), v]) Try.func28 rfl _ Try.ntmps28 rfl H ?_
  simp only [argSlots, Nat.zero_add]
  refine hc_seq <| hc_region <| hl_new (on_alloc) rfl rfl rfl fun b6 =>
    hl_nil <| hx_then_normal <| hc_seq <| ?_
  refine hc_seq <| hc_region <| hl_v (ov_move rfl) rfl <| ?_
  refine hl_c Try.call49 rfl rfl (fun w1 H1 => Own.callp (rdsk g S []) H1 fun D' hold hin H2 => may_spec D' w1 g S H2) ?_
  refine hl_v (by first | exact ov_notd rfl | exact ov_not rfl) rfl <| ?_
  refine hl_nil <| hx_then_normal <| ?_
  refine hc_cond_T rfl ((by omega)) ?_
  refine hc_seq <| hc_region <| hl_v (ov_buildSN rfl rfl) rfl <| ?_
  refine hl_u0 (on_storeW (vs := wrsE 1) rfl rfl (by simp) (by simp) (by simp [Value.oneCell'])) rfl rfl ?_
  refine hl_nil <| hx_then_normal <| hc_ret <| hx_then_ret <| ?_
  exact results_c (.inr rfl) rfl rfl (by simp) fun w' H' => ⟨rfl, H'.ent (by first | assumption | exact Ent.refl _ | exact Ent.nil _ | exact Ent.row_any (Ent.refl _) | (repeat (first | exact Ent.refl _ | exact Ent.nil _ | refine Ent.pick ?_)))⟩
theorem RPlan_long (D : Nat → Prop) (w : World) (g : Nat) (S : List Sec) (a : Nat) (v : Value) (xs : List UInt8) (hS : 32 ≤ S.length) (ha : a < 4294967296) (hx : xs.length ≤ 4000) (hl : 993 < xs.length) (HA : Old D w (Rep.rep xs [v])) (H : Own D w w [rdsk g S []]) :
    Calls Try.prog 28 #[.pointer (some ⟨g, 0, none⟩), .int .u32 (a : Int), v] w fun e w' => e = .returned (.agg (wrsE 2).toArray) ∧ Own D w w' [rdsk g S []] := by
  obtain ⟨L, hL⟩ : ∃ L, L = encE (snE a xs) := ⟨_, rfl⟩
  have hel : L.length = (15 + xs.length + 62) / 63 := by rw [hL, encE, encS_len, fullB_length]
  obtain ⟨n, hn⟩ : ∃ n, n = L.length := ⟨_, rfl⟩
  obtain ⟨A, cap, rfl, _⟩ := HA.openB
  refine hc_enter (vs := [.pointer (some ⟨g, 0, none⟩), .int .u32 (a : Int), .slice A xs.length cap]) Try.func28 rfl _ Try.ntmps28 rfl H ?_
  simp only [argSlots, Nat.zero_add]
  refine hc_seq <| hc_region <| hl_new (on_alloc) rfl rfl rfl fun b6 =>
    hl_nil <| hx_then_normal <| hc_seq <| ?_
  refine hc_seq <| hc_region <| hl_v (ov_move rfl) rfl <| ?_
  refine hl_c Try.call49 rfl rfl (fun w1 H1 => Own.callp (rdsk g S []) H1 fun D' hold hin H2 => may_spec D' w1 g S H2) ?_
  refine hl_v (by first | exact ov_notd rfl | exact ov_not rfl) rfl <| ?_
  refine hl_nil <| hx_then_normal <| ?_
  refine hc_cond_F rfl ((by omega)) ?_
  refine hc_skip <| hx_then_normal <| hc_seq <| hc_region <| hl_v (ov_move rfl) rfl <| hl_v (ov_move rfl) rfl <| ?_
  refine hl_v (ov_buildSN rfl rfl) rfl <| ?_
  refine hl_call (σ := Option Addr × Nat) Try.call55 rfl rfl (fun w1 H1 => Own.callx0 H1 fun D' hold hin H2 => REnc_at D' w1 (snE a xs) _ L n hL hn ⟨show 2 < 256 by decide, ha, show 0 < 4294967296 by decide, hx⟩ (hold _ HA)) ?_
  intro q
  try rw [List.nil_append]
  refine hl_v (ov_move rfl) rfl <| hl_v (ov_extract rfl rfl) rfl <| hl_v (ov_extract rfl rfl) rfl <| hl_v (ov_assign rfl) rfl <| hl_v (ov_assign rfl) rfl <| hl_nil <| ?_
  refine hx_then_normal <| hc_seq <| hc_seq <| hc_region <| hl_v (ov_move rfl) rfl <| hl_v (ov_neq rfl rfl) rfl <| ?_
  refine hl_v (ov_move rfl) rfl <| ?_
  refine hl_partF (t := 24) rfl ((fun h => h rfl)) ?_
  refine hl_on rfl rfl <| hl_v (ov_move rfl) rfl <| hl_on rfl rfl <| hl_v (by first | exact ov_len rfl | exact ov_lenS rfl) rfl <| ?_
  refine hl_on rfl rfl <| hl_v (ov_gtr rfl rfl) rfl <| hl_v (ov_pickF rfl rfl) rfl <| hl_nil <| hx_then_normal <| ?_
  refine hc_cond_T rfl ((by omega)) ?_
  refine hc_seq <| hc_region <| hl_v (ov_buildSN rfl rfl) rfl <| ?_
  refine hl_u0 (on_storeW (vs := wrsE 2) rfl rfl (by simp) (by simp) (by simp [Value.oneCell'])) rfl rfl ?_
  refine hl_nil <| hx_then_normal <| hc_ret <| hx_then_ret <| ?_
  exact results_c (.inr rfl) rfl rfl (by simp) fun w' H' => ⟨rfl, H'.ent (by first | assumption | exact Ent.refl _ | exact Ent.nil _ | exact Ent.row_any (Ent.refl _) | (repeat (first | exact Ent.refl _ | exact Ent.nil _ | refine Ent.pick ?_)))⟩
set_option maxHeartbeats 1000000 in
theorem RPlan_ok (D : Nat → Prop) (w : World) (g : Nat) (S : List Sec) (a : Nat) (v : Value) (xs : List UInt8) (L : List Sec) (n : Nat) (hL : L = encE (snE a xs)) (hn : n = L.length) (hS : 32 ≤ S.length) (ha : a < 4294967296) (hl : xs.length ≤ 993) (HA : Old D w (Rep.rep xs [v])) (H : Own D w w [rdsk g S []]) :
    Calls Try.prog 28 #[.pointer (some ⟨g, 0, none⟩), .int .u32 (a : Int), v] w fun e w' => ∃ qe : Option Addr × Nat, e = .returned (.agg (wrsC n (atS S) qe).toArray) ∧ Own D w w' [rdsk g S [], row qe.1 34 64 n qe.2 (L.flatMap secC)] := by
  have hel : L.length = (15 + xs.length + 62) / 63 := by rw [hL, encE, encS_len, fullB_length]
  obtain ⟨A, cap, rfl, _⟩ := HA.openB
  refine hc_enter (vs := [.pointer (some ⟨g, 0, none⟩), .int .u32 (a : Int), .slice A xs.length cap]) Try.func28 rfl _ Try.ntmps28 rfl H ?_
  simp only [argSlots, Nat.zero_add]
  refine hc_seq <| hc_region <| hl_new (on_alloc) rfl rfl rfl fun b6 =>
    hl_nil <| hx_then_normal <| hc_seq <| ?_
  refine hc_seq <| hc_region <| hl_v (ov_move rfl) rfl <| ?_
  refine hl_c Try.call49 rfl rfl (fun w1 H1 => Own.callp (rdsk g S []) H1 fun D' hold hin H2 => may_spec D' w1 g S H2) ?_
  refine hl_v (by first | exact ov_notd rfl | exact ov_not rfl) rfl <| ?_
  refine hl_nil <| hx_then_normal <| ?_
  refine hc_cond_F rfl ((by omega)) ?_
  refine hc_skip <| hx_then_normal <| hc_seq <| hc_region <| hl_v (ov_move rfl) rfl <| hl_v (ov_move rfl) rfl <| ?_
  refine hl_v (ov_buildSN rfl rfl) rfl <| ?_
  refine hl_call (σ := Option Addr × Nat) Try.call55 rfl rfl (fun w1 H1 => Own.callx0 H1 fun D' hold hin H2 => REnc_at D' w1 (snE a xs) _ L n hL hn ⟨show 2 < 256 by decide, ha, show 0 < 4294967296 by decide, by show xs.length ≤ 4000; omega⟩ (hold _ HA)) ?_
  intro qe
  try rw [List.nil_append]
  refine hl_v (ov_move rfl) rfl <| hl_v (ov_extract rfl rfl) rfl <| hl_v (ov_extract rfl rfl) rfl <| hl_v (ov_assign rfl) rfl <| hl_v (ov_assign rfl) rfl <| hl_nil <| ?_
  refine hx_then_normal <| hc_seq <| hc_seq <| hc_region <| hl_v (ov_move rfl) rfl <| hl_v (ov_neq rfl rfl) rfl <| ?_
  refine hl_v (ov_move rfl) rfl <| ?_
  refine hl_partF (t := 24) rfl ((fun h => h rfl)) ?_
  refine hl_on rfl rfl <| hl_v (ov_move rfl) rfl <| hl_on rfl rfl <| hl_v (by first | exact ov_len rfl | exact ov_lenS rfl) rfl <| ?_
  refine hl_on rfl rfl <| hl_v (ov_gtr rfl rfl) rfl <| hl_v (ov_pickF rfl rfl) rfl <| hl_nil <| hx_then_normal <| ?_
  refine hc_cond_F rfl ((by omega)) ?_
  refine hc_skip <| hx_then_normal <| hc_seq <| hc_region <| hl_v (ov_move rfl) rfl <| hl_v (ov_buildSN rfl rfl) rfl <| ?_
  refine hl_new (on_alloc) rfl rfl rfl fun b9 =>  ?_
  refine hl_u0 (on_storeW (vs := wrsC n 0 qe) rfl rfl (by simp) (by simp) (by simp [Value.oneCell'])) rfl rfl ?_
  refine hl_nil <| hx_then_normal <| hc_seq <| hc_seq <| hc_region <| hl_v (ov_move rfl) rfl <| ?_
  refine hl_call (σ := Option Addr × Nat) Try.call22 rfl rfl (fun w1 H1 => Own.callpx (rdsk g S []) H1 fun D' hold hin H2 => RLoad_spec D' w1 g S hS H2) ?_
  intro qg
  refine hl_new (on_alloc) rfl rfl rfl fun b10 =>  ?_
  refine hl_u0 (on_storeW (vs := gotN (newS S) qg) rfl rfl (gotN_len _ _) (by simp [gotN_len]) (gotN_one _ _)) rfl rfl ?_
  refine hl_nil <| hx_then_normal <| hc_seq <| ?_
  rcases hnw : newS S with _ | y
  · have hate : atS S = 0 := by unfold atS; rw [hnw]
    dsimp only [gotN, gotNO]
    refine hc_region <| hl_v (ov_fieldA rfl) rfl <| ?_
    refine hl_v (ov_load rfl (CellIs.blk rfl)) rfl ?_
    refine hl_v (ov_eql rfl rfl) rfl <| hl_v (ov_move rfl) rfl <| ?_
    refine hl_partF (t := 37) rfl ((by decide)) ?_
    refine hl_off rfl rfl rfl rfl rfl rfl <| hl_off rfl rfl rfl rfl rfl rfl <| hl_off rfl rfl rfl rfl rfl rfl <| hl_v (ov_pickF rfl rfl) rfl <| hl_nil <| hx_then_normal <| ?_
    refine hc_cond_false rfl <| hc_skip <| hx_then_normal <| hc_seq <| hc_region <| ?_
    refine hl_v (ov_loadW rfl rfl) rfl ?_
    refine hl_u0 (on_storeW (vs := wrsC n (atS S) qe) rfl (by rw [hate]; rfl) (by simp) (by simp) (by simp [Value.oneCell'])) rfl rfl ?_
    refine hl_nil <| hx_then_normal <| hc_ret <| ?_
    exact results_c (.inr rfl) rfl rfl (by simp) fun w' H' => ⟨qe, rfl, H'.ent (by first | assumption | exact Ent.refl _ | exact Ent.nil _ | exact Ent.row_any (Ent.refl _) | (repeat (first | exact Ent.refl _ | exact Ent.nil _ | refine Ent.pick ?_)))⟩
  have hpl := newS_place hnw
  dsimp only [gotN, gotNO]
  refine hc_region <| hl_v (ov_fieldA rfl) rfl <| hl_v (ov_load rfl (CellIs.blk rfl)) rfl <| hl_v (ov_eql rfl rfl) rfl <| hl_v (ov_move rfl) rfl <| ?_
  refine hl_partT (t := 37) rfl (rfl) ?_
  refine hl_on rfl rfl <| hl_v (ov_fieldA rfl) rfl <| hl_on rfl rfl <| hl_v (ov_load rfl (CellIs.blk rfl)) rfl <| hl_on rfl rfl <| hl_v (ov_eql rfl rfl) rfl <| hl_v (ov_pickT rfl rfl) rfl <| hl_nil <| hx_then_normal <| ?_
  refine hc_cond rfl (fun z => ?_) (fun z => ?_)
  · have hate : atS S = 16 := by unfold atS; rw [hnw]; exact if_pos (by omega)
    refine hc_region <| hl_v (ov_fieldA rfl) rfl <| hl_u0 (on_storeN rfl rfl rfl rfl rfl) rfl rfl <| hl_nil <| hx_then_normal <| hc_seq <| ?_
    refine hc_region <| ?_
    refine hl_v (ov_loadW rfl rfl) rfl ?_
    refine hl_u0 (on_storeW (vs := wrsC n (atS S) qe) rfl (by rw [hate]; rfl) (by simp) (by simp) (by simp [Value.oneCell'])) rfl rfl ?_
    refine hl_nil <| hx_then_normal <| hc_ret <| ?_
    exact results_c (.inr rfl) rfl rfl (by simp) fun w' H' => ⟨qe, rfl, H'.ent (by first | assumption | exact Ent.refl _ | exact Ent.nil _ | exact Ent.row_any (Ent.refl _) | (repeat (first | exact Ent.refl _ | exact Ent.nil _ | refine Ent.pick ?_)))⟩
  have hate : atS S = 0 := by unfold atS; rw [hnw]; exact if_neg (by omega)
  refine hc_skip <| hx_then_normal <| hc_seq <| hc_region <| ?_
  refine hl_v (ov_loadW rfl rfl) rfl ?_
  refine hl_u0 (on_storeW (vs := wrsC n (atS S) qe) rfl (by rw [hate]; rfl) (by simp) (by simp) (by simp [Value.oneCell'])) rfl rfl ?_
  refine hl_nil <| hx_then_normal <| hc_ret <| ?_
  exact results_c (.inr rfl) rfl rfl (by simp) fun w' H' => ⟨qe, rfl, H'.ent (by first | assumption | exact Ent.refl _ | exact Ent.nil _ | exact Ent.row_any (Ent.refl _) | (repeat (first | exact Ent.refl _ | exact Ent.nil _ | refine Ent.pick ?_)))⟩
theorem RSave_nil (D : Nat → Prop) (w : World) (a : Nat) (v : Value) : Calls Try.prog 21 #[.pointer none, .int .u32 (a : Int), v] w fun e w' => e = .returned (.int .i64 1) ∧ Own D w w' [] := by
  refine hc_enter (vs := [.pointer none, .int .u32 (a : Int), v]) Try.func21 rfl _ Try.ntmps21 rfl (Own.start D w) ?_
  simp only [argSlots, Nat.zero_add]
  refine hc_seq <| hc_region <| hl_v (ov_assign rfl) rfl <| hl_nil <| hx_then_normal <| hc_seq <| ?_
  refine hc_region <| hl_v (ov_move rfl) rfl <| hl_v (ov_move rfl) rfl <| hl_v (ov_move rfl) rfl <| ?_
  refine hl_c Try.call28 rfl rfl (fun w1 H1 => Own.calln H1 fun D' hold hin H2 => RPlan_nil D' w1 a v) ?_
  refine hl_new (on_alloc) rfl rfl rfl fun b7 =>  ?_
  refine hl_u0 (on_storeW (vs := wrsE 1) rfl rfl (by simp) (by simp) (by simp [Value.oneCell'])) rfl rfl ?_
  refine hl_nil <| hx_then_normal <| hc_seq <| hc_seq <| hc_region <| hl_v (ov_fieldA rfl) rfl <| ?_
  refine hl_v (ov_load rfl (CellIs.blk rfl)) rfl <| hl_v (ov_neq rfl rfl) rfl <| hl_nil <| hx_then_normal <| ?_
  refine hc_cond_T rfl ((by decide)) ?_
  refine hc_seq <| hc_region <| hl_v (ov_fieldA rfl) rfl <| hl_v (ov_load rfl (CellIs.blk rfl)) rfl <| hl_v (ov_assign rfl) rfl <| hl_nil <| ?_
  refine hx_then_normal <| hc_ret <| hx_then_ret <| ?_
  exact results_1 (.inr rfl) rfl rfl fun w' H' => ⟨rfl, H'.ent (Ent.nil _)⟩
theorem RSave_small (D : Nat → Prop) (w : World) (g : Nat) (S : List Sec) (a : Nat) (v : Value) (hS : S.length < 32) (H : Own D w w [rdsk g S []]) : Calls Try.prog 21 #[.pointer (some ⟨g, 0, none⟩), .int .u32 (a : Int), v] w fun e w' => e = .returned (.int .i64 1) ∧ Own D w w' [rdsk g S []] := by
  refine hc_enter (vs := [.pointer (some ⟨g, 0, none⟩), .int .u32 (a : Int), v]) Try.func21 rfl _ Try.ntmps21 rfl H ?_
  simp only [argSlots, Nat.zero_add]
  refine hc_seq <| hc_region <| hl_v (ov_assign rfl) rfl <| hl_nil <| hx_then_normal <| hc_seq <| ?_
  refine hc_region <| hl_v (ov_move rfl) rfl <| hl_v (ov_move rfl) rfl <| hl_v (ov_move rfl) rfl <| ?_
  refine hl_c Try.call28 rfl rfl (fun w1 H1 => Own.callp (rdsk g S []) H1 fun D' hold hin H2 => RPlan_small D' w1 g S a v hS H2) ?_
  refine hl_new (on_alloc) rfl rfl rfl fun b7 =>  ?_
  refine hl_u0 (on_storeW (vs := wrsE 1) rfl rfl (by simp) (by simp) (by simp [Value.oneCell'])) rfl rfl ?_
  refine hl_nil <| hx_then_normal <| hc_seq <| hc_seq <| hc_region <| hl_v (ov_fieldA rfl) rfl <| ?_
  refine hl_v (ov_load rfl (CellIs.blk rfl)) rfl <| hl_v (ov_neq rfl rfl) rfl <| hl_nil <| hx_then_normal <| ?_
  refine hc_cond_T rfl ((by decide)) ?_
  refine hc_seq <| hc_region <| hl_v (ov_fieldA rfl) rfl <| hl_v (ov_load rfl (CellIs.blk rfl)) rfl <| hl_v (ov_assign rfl) rfl <| hl_nil <| ?_
  refine hx_then_normal <| hc_ret <| hx_then_ret <| ?_
  exact results_1 (.inr rfl) rfl rfl fun w' H' => ⟨rfl, H'.ent (by first | assumption | exact Ent.refl _ | exact Ent.nil _ | exact Ent.row_any (Ent.refl _) | (repeat (first | exact Ent.refl _ | exact Ent.nil _ | refine Ent.pick ?_)))⟩
theorem RSave_long (D : Nat → Prop) (w : World) (g : Nat) (S : List Sec) (a : Nat) (v : Value) (xs : List UInt8) (hS : 32 ≤ S.length) (ha : a < 4294967296) (hx : xs.length ≤ 4000) (hl : 993 < xs.length) (HA : Old D w (Rep.rep xs [v])) (H : Own D w w [rdsk g S []]) :
    Calls Try.prog 21 #[.pointer (some ⟨g, 0, none⟩), .int .u32 (a : Int), v] w fun e w' => e = .returned (.int .i64 2) ∧ Own D w w' [rdsk g S []] := by
  refine hc_enter (vs := [.pointer (some ⟨g, 0, none⟩), .int .u32 (a : Int), v]) Try.func21 rfl _ Try.ntmps21 rfl H ?_
  simp only [argSlots, Nat.zero_add]
  refine hc_seq <| hc_region <| hl_v (ov_assign rfl) rfl <| hl_nil <| hx_then_normal <| hc_seq <| ?_
  refine hc_region <| hl_v (ov_move rfl) rfl <| hl_v (ov_move rfl) rfl <| hl_v (ov_move rfl) rfl <| ?_
  refine hl_c Try.call28 rfl rfl (fun w1 H1 => Own.callp (rdsk g S []) H1 fun D' hold hin H2 => RPlan_long D' w1 g S a v xs hS ha hx hl (hold _ HA) H2) ?_
  refine hl_new (on_alloc) rfl rfl rfl fun b7 =>  ?_
  refine hl_u0 (on_storeW (vs := wrsE 2) rfl rfl (by simp) (by simp) (by simp [Value.oneCell'])) rfl rfl ?_
  refine hl_nil <| hx_then_normal <| hc_seq <| hc_seq <| hc_region <| hl_v (ov_fieldA rfl) rfl <| ?_
  refine hl_v (ov_load rfl (CellIs.blk rfl)) rfl <| hl_v (ov_neq rfl rfl) rfl <| hl_nil <| hx_then_normal <| ?_
  refine hc_cond_T rfl ((by decide)) ?_
  refine hc_seq <| hc_region <| hl_v (ov_fieldA rfl) rfl <| hl_v (ov_load rfl (CellIs.blk rfl)) rfl <| hl_v (ov_assign rfl) rfl <| hl_nil <| ?_
  refine hx_then_normal <| hc_ret <| hx_then_ret <| ?_
  exact results_1 (.inr rfl) rfl rfl fun w' H' => ⟨rfl, H'.ent (by first | assumption | exact Ent.refl _ | exact Ent.nil _ | exact Ent.row_any (Ent.refl _) | (repeat (first | exact Ent.refl _ | exact Ent.nil _ | refine Ent.pick ?_)))⟩
set_option maxHeartbeats 1000000 in
theorem RSave_ok (D : Nat → Prop) (w : World) (g : Nat) (S : List Sec) (a : Nat) (v : Value) (xs : List UInt8) (hS : 32 ≤ S.length) (hS2 : S.length ≤ 100000) (ha : a < 4294967296) (hl : xs.length ≤ 993) (HA : Old D w (Rep.rep xs [v])) (H : Own D w w [rdsk g S []]) :
    Calls Try.prog 21 #[.pointer (some ⟨g, 0, none⟩), .int .u32 (a : Int), v] w fun e w' => e = .returned (.int .i64 0) ∧ Own D w w' [rdsk g (saveS S a xs) []] := by
  obtain ⟨L, hL⟩ : ∃ L, L = encE (snE a xs) := ⟨_, rfl⟩
  have hel : L.length = (15 + xs.length + 62) / 63 := by rw [hL, encE, encS_len, fullB_length]
  have hsv : saveS S a xs = putS S (atS S) L := by unfold saveS; rw [hL]
  obtain ⟨n, hn⟩ : ∃ n, n = L.length := ⟨_, rfl⟩
  have hat := atS_or S
  obtain ⟨at_, hate⟩ : ∃ x, x = atS S := ⟨_, rfl⟩
  rw [← hate] at hat hsv
  refine hc_enter (vs := [.pointer (some ⟨g, 0, none⟩), .int .u32 (a : Int), v]) Try.func21 rfl _ Try.ntmps21 rfl H ?_
  simp only [argSlots, Nat.zero_add]
  refine hc_seq <| hc_region <| hl_v (ov_assign rfl) rfl <| hl_nil <| hx_then_normal <| hc_seq <| ?_
  refine hc_region <| hl_v (ov_move rfl) rfl <| hl_v (ov_move rfl) rfl <| hl_v (ov_move rfl) rfl <| ?_
  refine hl_call (σ := Option Addr × Nat) Try.call28 rfl rfl (fun w1 H1 => Own.callpx (rdsk g S []) H1 fun D' hold hin H2 => RPlan_ok D' w1 g S a v xs L n hL hn hS ha hl (hold _ HA) H2) ?_
  intro qe
  rw [← hate]
  refine HL.fact (fun w H => Own.factR qe.1 H) ?_
  rintro ⟨_, _, _, hA⟩
  have hA : isA qe.1 := hA (by intro h; have := congrArg List.length h; rw [flat_len secC_len] at this; simp only [List.length_nil] at this; omega)
  refine hl_new (on_alloc) rfl rfl rfl fun b7 =>  ?_
  refine hl_u0 (on_storeW (vs := wrsC n at_ qe) rfl rfl (by simp) (by simp) (by simp [Value.oneCell'])) rfl rfl ?_
  refine hl_nil <| hx_then_normal <| hc_seq <| hc_seq <| hc_region <| hl_v (ov_fieldA rfl) rfl <| ?_
  refine hl_v (ov_load rfl (CellIs.blk rfl)) rfl <| hl_v (ov_neq rfl rfl) rfl <| hl_nil <| hx_then_normal <| ?_
  refine hc_cond_F rfl ((fun h => h rfl)) ?_
  refine hc_skip <| hx_then_normal <| hc_seq <| hc_seq <| hc_region <| hl_v (ov_assign rfl) rfl <| ?_
  refine hl_nil <| hx_then_normal <| hc_block <| ?_
  refine hc_loopK1 (σ := Nat) [0, 7] rfl 8 (fun i => .int .i64 (i : Int)) (fun i => [rdsk g S (PW at_ L i), row qe.1 34 64 n qe.2 (L.flatMap secC), blk b7 65 (wrsC n at_ qe)]) (fun i => i ≤ n) (fun i => n - i) (0) (Nat.zero_le _) rfl (show Ent _ [rdsk g S [], row qe.1 34 64 n qe.2 (L.flatMap secC), blk b7 65 (wrsC n at_ qe)] from (by first | assumption | exact Ent.refl _ | exact Ent.nil _ | exact Ent.row_any (Ent.refl _) | (repeat (first | exact Ent.refl _ | exact Ent.nil _ | refine Ent.pick ?_)))) ?_
  rintro i hi K1 hK1
  refine hc_seq <| hc_seq <| hc_region <| hl_v (ov_move rfl) rfl <| hl_v (ov_fieldA rfl) rfl <| hl_v (ov_load rfl (CellIs.blk rfl)) rfl <| ?_
  refine hl_v (by first | exact ov_len rfl | exact ov_lenS rfl) rfl <| ?_
  refine hl_v (ov_lss rfl rfl) rfl <| hl_nil <| hx_then_normal <| ?_
  refine hc_cond rfl (fun h => ?_) (fun h => ?_)
  · have hin : i < n := by omega
    have hiL : i < L.length := by omega
    refine hc_skip <| hx_then_normal <| hc_seq <| hc_block <| ?_
    refine hc_tail 10 mixed (by kernel_rfl) ?_
    refine ht_v (ov_move rfl) rfl <| ht_v (ov_fieldA rfl) rfl <| ht_v (ov_load rfl (CellIs.blk rfl)) rfl <| ht_v (ov_move rfl) rfl <| ?_
    refine ht_v (ov_add (m := ((at_ + i : Nat) : Int)) rfl rfl ((wrap_i64 (by omega)).trans (by omega))) rfl ?_
    refine ht_v (ov_fieldA rfl) rfl <| ht_v (ov_load rfl (CellIs.blk rfl)) rfl <| ht_v (ov_move rfl) rfl <| ?_
    refine ht_v (ov_idxS rfl hA rfl i rfl hin) rfl ?_
    refine ht_v (ov_loadG (cs := secC L[i]) rfl (secC_len _) (CellsAre.flat (f := secC) (A := qe.1) secC_len hA (i := i) hiL)) rfl ?_
    refine ht_nil <| ?_
    refine hl_c Try.call25 rfl rfl (fun w1 H1 => Own.callp (rdsk g S (PW at_ L i)) H1 fun D' hold hin H2 => RWrite_ok D' w1 g (at_ + i) L[i] S (PW at_ L i) (by omega) (by have := PW_len (at_ := at_) (l := L) (i := i); omega) H2) ?_
    rw [← PW_succ hiL]
    refine hl_nil <| hx_block_normal <| hx_then_normal <| hc_region <| hl_v (ov_move rfl) rfl <| hl_v (ov_add rfl rfl (by first | exact wrap_i64 (by omega) | rfl)) rfl <| ?_
    refine hl_v (ov_assign rfl) rfl <| hl_nil <| ?_
    refine hx_next hK1 (i + 1) (hin) (by omega) (by repeat (first | exact Slots.sub_nil _ | refine Slots.sub_cons rfl ?_)) (by first | assumption | exact Ent.refl _ | exact Ent.nil _ | (repeat (first | exact Ent.refl _ | exact Ent.nil _ | refine Ent.pick ?_)))
  have hin : i = n := by omega
  rw [hin, hn]
  refine hc_exit <| hx_then_exit <| hx_then_exit <| hx_block_out <| hx_then_normal <| hc_seq <| ?_
  refine hc_region <| hl_v (ov_move rfl) rfl <| ?_
  refine hl_c Try.call26 rfl rfl (fun w1 H1 => Own.callp (rdsk g S (PW at_ L L.length)) H1 fun D' hold hin H2 => RFlush_spec D' w1 g S (PW at_ L L.length) (PW_lt (by omega)) H2) ?_
  rw [PW_done (by omega), ← hsv]
  refine hl_nil <| hx_then_normal <| hc_seq <| hc_region <| hl_v (ov_assign rfl) rfl <| hl_nil <| ?_
  refine hx_then_normal <| hc_ret <| ?_
  exact results_1 (.inr rfl) rfl rfl fun w' H' => ⟨rfl, H'.ent (by first | assumption | exact Ent.refl _ | exact Ent.nil _ | exact Ent.row_any (Ent.refl _) | (repeat (first | exact Ent.refl _ | exact Ent.nil _ | refine Ent.pick ?_)))⟩
end Go.Proofs.Ytijaldfiaeafgaa
