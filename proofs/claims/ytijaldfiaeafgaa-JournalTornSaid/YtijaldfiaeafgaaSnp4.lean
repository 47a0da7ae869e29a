import Derived.Test.YtijaldfiaeafgaaSnp3
set_option linter.unusedVariables false
set_option linter.unusedSimpArgs false
namespace Go.Proofs.Ytijaldfiaeafgaa
open Slk
def atS (S : List Sec) : Nat := match newS S with
  | none => 0
  | some y => if y.2 = 0 then 16 else 0
theorem atS_or (S : List Sec) : atS S = 0 ∨ atS S = 16 := by
  unfold atS; split
  · exact .inl rfl
  split
  · exact .inr rfl
  exact .inl rfl
abbrev snE (a : Nat) (xs : List UInt8) : EntT := (2, a, 0, xs)
def saveS (S : List Sec) (a : Nat) (xs : List UInt8) : List Sec := putS S (atS S) (encE (snE a xs))
theorem Encode_sn (D : Nat → Prop) (w : World) (a : Nat) (v : Value) (xs : List UInt8) (L : List Sec) (n : Nat) (hL : L = encE (snE a xs)) (hn : n = L.length) (ha : a < 4294967296) (hx : xs.length ≤ 4000) (HA : Old D w (Rep.rep xs [v])) :
    Calls Try.prog 47 #[.agg #[.int .i64 2, .int .u32 a, .int .u32 0, v]] w fun r w' => ∃ q : Option Addr × Nat, r = .returned (.tuple #[.slice q.1 n q.2, .int .i64 0]) ∧ Own D w w' [row q.1 34 64 n q.2 (L.flatMap secC)] := by
  subst hn; subst hL
  exact Encode_ent D w (snE a xs) ⟨show 2 < 256 by decide, ha, show 0 < 4294967296 by decide, hx⟩ v HA
theorem Save_nil (D : Nat → Prop) (w : World) (a : Nat) (v : Value) : Calls Try.prog 16 #[.pointer none, .int .u32 a, v] w fun e w' => e = .returned (.int .i64 1) ∧ Own D w w' [] := by
  refine hc_enter (vs := [.pointer none, .int .u32 a, v]) Try.func16 rfl _ Try.ntmps16 rfl (Own.start D w) ?_
  simp only [argSlots, Nat.zero_add]
  refine hc_seq <| hc_region <| hl_v (ov_assign rfl) rfl <| hl_nil <| hx_then_normal <| hc_seq <| ?_
  refine hc_seq <| hc_region <| hl_v (ov_move rfl) rfl <| ?_
  refine hl_c Try.call45 rfl rfl (fun w1 H1 => Own.calln H1 fun D' hold hin H2 => Len_nil D' w1) ?_
  refine hl_v (ov_lss rfl rfl) rfl <| hl_nil <| hx_then_normal <| ?_
  refine hc_cond_T rfl ((by decide)) ?_
  refine hc_seq <| hc_region <| hl_v (ov_assign rfl) rfl <| hl_nil <| hx_then_normal <| hc_ret <| ?_
  refine hx_then_ret <| ?_
  exact results_1 (.inr rfl) rfl rfl fun w' H' => ⟨rfl, H'.ent (Ent.nil _)⟩
theorem Save_small (D : Nat → Prop) (w : World) (g : Nat) (S : List Sec) (a : Nat) (v : Value) (hS : S.length < 32) (H : Own D w w [dsk g S []]) : Calls Try.prog 16 #[.pointer (some ⟨g, 0, none⟩), .int .u32 a, v] w fun e w' => e = .returned (.int .i64 1) ∧ Own D w w' [dsk g S []] := by
  refine hc_enter (vs := [.pointer (some ⟨g, 0, none⟩), .int .u32 a, v]) Try.func16 rfl _ Try.ntmps16 rfl H ?_
  simp only [argSlots, Nat.zero_add]
  refine hc_seq <| hc_region <| hl_v (ov_assign rfl) rfl <| hl_nil <| hx_then_normal <| hc_seq <| ?_
  refine hc_seq <| hc_region <| hl_v (ov_move rfl) rfl <| ?_
  refine hl_c Try.call45 rfl rfl (fun w1 H1 => Own.callp (dsk g S []) H1 fun D' hold hin H2 => Len_spec D' w1 g S [] H2) ?_
  refine hl_v (ov_lss rfl rfl) rfl <| hl_nil <| hx_then_normal <| ?_
  refine hc_cond_T rfl ((by omega)) ?_
  refine hc_seq <| hc_region <| hl_v (ov_assign rfl) rfl <| hl_nil <| hx_then_normal <| hc_ret <| ?_
  refine hx_then_ret <| ?_
  exact results_1 (.inr rfl) rfl rfl fun w' H' => ⟨rfl, H'⟩
theorem Save_long (D : Nat → Prop) (w : World) (g : Nat) (S : List Sec) (a : Nat) (v : Value) (xs : List UInt8) (hS : 32 ≤ S.length) (ha : a < 4294967296) (hx : xs.length ≤ 4000) (hl : 993 < xs.length) (HA : Old D w (Rep.rep xs [v])) (H : Own D w w [dsk g S []]) :
    Calls Try.prog 16 #[.pointer (some ⟨g, 0, none⟩), .int .u32 a, v] w fun e w' => e = .returned (.int .i64 2) ∧ Own D w w' [dsk g S []] := by
  obtain ⟨L, hL⟩ : ∃ L, L = encE (snE a xs) := ⟨_, rfl⟩
  have hel : L.length = (15 + xs.length + 62) / 63 := by rw [hL, encE, encS_len, fullB_length]
  obtain ⟨n, hn⟩ : ∃ n, n = L.length := ⟨_, rfl⟩
  obtain ⟨A, cap, rfl, _⟩ := HA.openB
  refine hc_enter (vs := [.pointer (some ⟨g, 0, none⟩), .int .u32 a, .slice A xs.length cap]) Try.func16 rfl _ Try.ntmps16 rfl H ?_
  simp only [argSlots, Nat.zero_add]
  refine hc_seq <| hc_region <| hl_v (ov_assign rfl) rfl <| hl_nil <| hx_then_normal <| hc_seq <| ?_
  refine hc_seq <| hc_region <| hl_v (ov_move rfl) rfl <| ?_
  refine hl_c Try.call45 rfl rfl (fun w1 H1 => Own.callp (dsk g S []) H1 fun D' hold hin H2 => Len_spec D' w1 g S [] H2) ?_
  refine hl_v (ov_lss rfl rfl) rfl <| hl_nil <| hx_then_normal <| ?_
  refine hc_cond_F rfl ((by omega)) ?_
  refine hc_skip <| hx_then_normal <| hc_seq <| hc_region <| hl_v (ov_move rfl) rfl <| hl_v (ov_move rfl) rfl <| ?_
  refine hl_v (ov_buildSN rfl rfl) rfl <| ?_
  refine hl_call (σ := Option Addr × Nat) Try.call47 rfl rfl (fun w1 H1 => Own.callx0 H1 fun D' hold hin H2 => Encode_sn D' w1 a (.slice A xs.length cap) xs L n hL hn ha (by omega) (hold _ HA)) ?_
  intro q
  try rw [List.nil_append]
  refine hl_v (ov_move rfl) rfl <| hl_v (ov_extract rfl rfl) rfl <| hl_v (ov_extract rfl rfl) rfl <| hl_v (ov_assign rfl) rfl <| hl_v (ov_assign rfl) rfl <| hl_nil <| ?_
  refine hx_then_normal <| hc_seq <| hc_seq <| hc_region <| hl_v (ov_move rfl) rfl <| hl_v (ov_neq rfl rfl) rfl <| ?_
  refine hl_nil <| hx_then_normal <| ?_
  refine hc_cond_F rfl ((fun h => h rfl)) ?_
  refine hc_skip <| hx_then_normal <| hc_seq <| hc_seq <| hc_region <| hl_v (ov_move rfl) rfl <| ?_
  refine hl_v (by first | exact ov_len rfl | exact ov_lenS rfl) rfl <| ?_
  refine hl_v (ov_gtr rfl rfl) rfl <| hl_nil <| hx_then_normal <| ?_
  refine hc_cond_T rfl ((by omega)) ?_
  refine hc_seq <| hc_region <| hl_v (ov_assign rfl) rfl <| hl_nil <| hx_then_normal <| hc_ret <| ?_
  refine hx_then_ret <| ?_
  exact results_1 (.inr rfl) rfl rfl fun w' H' => ⟨rfl, H'.ent (by first | assumption | exact Ent.refl _ | exact Ent.nil _ | exact Ent.row_any (Ent.refl _) | (repeat (first | exact Ent.refl _ | exact Ent.nil _ | refine Ent.pick ?_)))⟩
set_option maxHeartbeats 1000000 in
theorem Save_ok (D : Nat → Prop) (w : World) (g : Nat) (S : List Sec) (a : Nat) (v : Value) (xs : List UInt8) (hS : 32 ≤ S.length) (ha : a < 4294967296) (hl : xs.length ≤ 993) (HA : Old D w (Rep.rep xs [v])) (H : Own D w w [dsk g S []]) :
    Calls Try.prog 16 #[.pointer (some ⟨g, 0, none⟩), .int .u32 a, v] w fun e w' => e = .returned (.int .i64 0) ∧ Own D w w' [dsk g (saveS S a xs) []] := by
  obtain ⟨L, hL⟩ : ∃ L, L = encE (snE a xs) := ⟨_, rfl⟩
  have hel : L.length = (15 + xs.length + 62) / 63 := by rw [hL, encE, encS_len, fullB_length]
  obtain ⟨A, cap, rfl, _⟩ := HA.openB
  have hsv : saveS S a xs = putS S (atS S) L := by unfold saveS; rw [hL]
  obtain ⟨n, hn⟩ : ∃ n, n = L.length := ⟨_, rfl⟩
  have hn1 : 1 ≤ n := by omega
  have hn16 : n ≤ 16 := by omega
  have hat := atS_or S
  obtain ⟨at_, hate⟩ : ∃ x, x = atS S := ⟨_, rfl⟩
  rw [← hate] at hat hsv
  have hfit : at_ + L.length ≤ S.length := by omega
  obtain ⟨x0, r, hLr⟩ : ∃ x r, L = x :: r := by
    cases L with
    | nil => simp at hn; omega
    | cons x r => exact ⟨x, r, rfl⟩
  have hrl : r.length = n - 1 := by rw [hn, hLr, List.length_cons]; omega
  have hl0 : 0 < L.length := by omega
  have hL0 : L[0] = x0 := by simp only [hLr, List.getElem_cons_zero]
  refine hc_enter (vs := [.pointer (some ⟨g, 0, none⟩), .int .u32 a, .slice A xs.length cap]) Try.func16 rfl _ Try.ntmps16 rfl H ?_
  simp only [argSlots, Nat.zero_add]
  refine hc_seq <| hc_region <| hl_v (ov_assign rfl) rfl <| hl_nil <| hx_then_normal <| hc_seq <| ?_
  refine hc_seq <| hc_region <| hl_v (ov_move rfl) rfl <| ?_
  refine hl_c Try.call45 rfl rfl (fun w1 H1 => Own.callp (dsk g S []) H1 fun D' hold hin H2 => Len_spec D' w1 g S [] H2) ?_
  refine hl_v (ov_lss rfl rfl) rfl <| hl_nil <| hx_then_normal <| ?_
  refine hc_cond_F rfl ((by omega)) ?_
  refine hc_skip <| hx_then_normal <| hc_seq <| hc_region <| hl_v (ov_move rfl) rfl <| hl_v (ov_move rfl) rfl <| ?_
  refine hl_v (ov_buildSN rfl rfl) rfl <| ?_
  refine hl_call (σ := Option Addr × Nat) Try.call47 rfl rfl (fun w1 H1 => Own.callx0 H1 fun D' hold hin H2 => Encode_sn D' w1 a (.slice A xs.length cap) xs L n hL hn ha (by omega) (hold _ HA)) ?_
  intro q
  try rw [List.nil_append]
  refine hl_v (ov_move rfl) rfl <| hl_v (ov_extract rfl rfl) rfl <| hl_v (ov_extract rfl rfl) rfl <| hl_v (ov_assign rfl) rfl <| hl_v (ov_assign rfl) rfl <| hl_nil <| ?_
  refine hx_then_normal <| hc_seq <| hc_seq <| hc_region <| hl_v (ov_move rfl) rfl <| hl_v (ov_neq rfl rfl) rfl <| ?_
  refine hl_nil <| hx_then_normal <| ?_
  refine hc_cond_F rfl ((fun h => h rfl)) ?_
  refine hc_skip <| hx_then_normal <| hc_seq <| hc_seq <| hc_region <| hl_v (ov_move rfl) rfl <| ?_
  refine hl_v (by first | exact ov_len rfl | exact ov_lenS rfl) rfl <| ?_
  refine hl_v (ov_gtr rfl rfl) rfl <| hl_nil <| hx_then_normal <| ?_
  refine hc_cond_F rfl ((by omega)) ?_
  refine hc_skip <| hx_then_normal <| hc_seq <| hc_region <| hl_v (ov_assign rfl) rfl <| hl_nil <| ?_
  refine hx_then_normal <| hc_seq <| hc_seq <| hc_region <| hl_v (ov_move rfl) rfl <| ?_
  refine hl_call (σ := Nat × Option Addr × Nat) Try.call46 rfl rfl (fun w1 H1 => Own.callpx (dsk g S []) H1 fun D' hold hin H2 => newest_spec D' w1 g S hS H2) ?_
  intro s
  obtain ⟨f, qf⟩ := s
  dsimp only
  refine hl_v (ov_assign rfl) rfl <| hl_nil <| hx_then_normal <| ?_
  refine hc_cutK1 (σ := Unit) [0, 7] rfl 9 (fun _u => .int .i64 (at_ : Int)) (fun _u => [row q.1 34 64 n q.2 (L.flatMap secC), dsk g S []]) (fun K1 hK1 => ?_) (fun _u => ?_)
  · unfold atS at hate
    rcases hnw : newS S with _ | y
    · rw [hnw] at hate
      have hate : at_ = 0 := hate
      dsimp only [fndP, fndO]
      refine hc_seq <| hc_region <| hl_v (ov_move rfl) rfl <| hl_v (ov_neqP rfl rfl) rfl <| hl_v (ov_move rfl) rfl <| ?_
      refine hl_off rfl rfl rfl rfl rfl rfl <| hl_off rfl rfl rfl rfl rfl rfl <| hl_off rfl rfl rfl rfl rfl rfl <| hl_off rfl rfl rfl rfl rfl rfl <| hl_off rfl rfl rfl rfl rfl rfl <| hl_v (ov_pickF rfl rfl) rfl <| ?_
      refine hl_nil <| hx_then_normal <| hc_cond_false rfl <| hc_skip <| ?_
      rw [hate] at hK1
      refine hx_cut hK1 (()) (by repeat (first | exact Slots.sub_nil _ | refine Slots.sub_cons rfl ?_)) (by first | assumption | exact Ent.refl _ | exact Ent.nil _ | (repeat (first | exact Ent.refl _ | exact Ent.nil _ | refine Ent.pick ?_)))
    rw [hnw] at hate
    have hate : at_ = if y.2 = 0 then 16 else 0 := hate
    dsimp only [fndP, fndO]
    refine hc_seq <| hc_region <| hl_v (ov_move rfl) rfl <| hl_v (ov_neqP rfl rfl) rfl <| hl_v (ov_move rfl) rfl <| ?_
    refine hl_on rfl rfl <| hl_v (ov_move rfl) rfl <| hl_on rfl rfl <| hl_v (ov_nil rfl) rfl <| hl_on rfl rfl <| hl_v (ov_fieldA rfl) rfl <| hl_on rfl rfl <| hl_v (ov_load rfl (CellIs.blk rfl)) rfl <| hl_on rfl rfl <| hl_v (ov_eql rfl rfl) rfl <| hl_v (ov_pickT rfl rfl) rfl <| ?_
    refine hl_nil <| hx_then_normal <| ?_
    refine hc_cond rfl (fun z => ?_) (fun z => ?_)
    · rw [if_pos (by omega)] at hate
      rw [hate] at hK1
      refine hc_region <| hl_v (ov_assign rfl) rfl <| hl_nil <| ?_
      refine hx_cut hK1 (()) (by repeat (first | exact Slots.sub_nil _ | refine Slots.sub_cons rfl ?_)) (by first | assumption | exact Ent.refl _ | exact Ent.nil _ | (repeat (first | exact Ent.refl _ | exact Ent.nil _ | refine Ent.pick ?_)))
    rw [if_neg (by omega)] at hate
    rw [hate] at hK1
    refine hc_skip <| ?_
    refine hx_cut hK1 (()) (by repeat (first | exact Slots.sub_nil _ | refine Slots.sub_cons rfl ?_)) (by first | assumption | exact Ent.refl _ | exact Ent.nil _ | (repeat (first | exact Ent.refl _ | exact Ent.nil _ | refine Ent.pick ?_)))
  refine hx_then_normal <| hc_seq <| hc_seq <| hc_region <| hl_v (ov_move rfl) rfl <| hl_v (by first | exact ov_len rfl | exact ov_lenS rfl) rfl <| ?_
  refine hl_v (ov_move rfl) rfl <| hl_nil <| hx_then_normal <| hc_block <| ?_
  refine hc_loopK1 (σ := Nat × List Sec × List (Nat × Sec)) [0, 7, 9, 43] rfl 44 (fun s => .int .i64 (s.1 : Int)) (fun s => [dsk g s.2.1 s.2.2, row q.1 34 64 n q.2 (L.flatMap secC)]) (fun s => s.1 ≤ n ∧ (s.1 < n → s.2 = (S, PW (at_ + 1) r s.1)) ∧ (s.1 = n → s.2 = (putS S (at_ + 1) r, [(at_, x0)]))) (fun s => n - s.1) ((0, S, [])) (⟨Nat.zero_le _, fun _ => rfl, fun h => by omega⟩) rfl (by first | assumption | exact Ent.refl _ | exact Ent.nil _ | (repeat (first | exact Ent.refl _ | exact Ent.nil _ | refine Ent.pick ?_))) ?_
  rintro ⟨i, T, P⟩ hj_ K2 hK2
  dsimp only at hj_ ⊢
  obtain ⟨hi, hlt1, heq1⟩ := hj_
  refine hc_seq <| hc_region <| hl_v (ov_lss rfl rfl) rfl <| hl_nil <| hx_then_normal <| hc_seq <| ?_
  refine hc_cond rfl (fun h => ?_) (fun h => ?_)
  · have hin : i < n := by omega
    have hTP := hlt1 hin
    simp only [Prod.mk.injEq] at hTP
    obtain ⟨rfl, rfl⟩ := hTP
    refine HC.fact (fun w H => Own.factR q.1 H) ?_
    rintro ⟨hpl, _, _, hA⟩
    have hA : isA q.1 := hA (by intro h; have := congrArg List.length h; rw [hpl] at this; simp only [List.length_nil] at this; omega)
    by_cases hlast : i + 1 = n
    · have hi1 : i = r.length := by omega
      refine hc_skip <| hx_then_normal <| hc_seq <| hc_block <| hc_seq <| hc_region <| ?_
      refine hl_v (ov_move rfl) rfl <| hl_v (ov_assign rfl) rfl <| hl_nil <| hx_then_normal <| hc_seq <| hc_region <| ?_
      refine hl_v (ov_move rfl) rfl <| hl_v (ov_add rfl rfl (by first | exact wrap_i64 (by omega) | rfl)) rfl <| ?_
      refine hl_v (ov_move rfl) rfl <| hl_v (by first | exact ov_len rfl | exact ov_lenS rfl) rfl <| ?_
      refine hl_v (ov_remE (m := 0) (b := n) rfl rfl (by omega) (by rw [hlast, Nat.mod_self])) rfl ?_
      refine hl_v (ov_assign rfl) rfl <| hl_nil <| hx_then_normal <| hc_seq <| hc_seq <| hc_region <| ?_
      refine hl_v (ov_move rfl) rfl <| hl_v (ov_eql rfl rfl) rfl <| hl_nil <| hx_then_normal <| ?_
      refine hc_cond_T rfl ((by rfl)) ?_
      refine hc_seq <| hc_region <| hl_v (ov_move rfl) rfl <| ?_
      refine hl_c Try.call24 rfl rfl (fun w1 H1 => Own.callp (dsk g T (PW (at_ + 1) r i)) H1 fun D' hold hin H2 => (Flush_spec D' w1 g T (PW (at_ + 1) r i) (PW_lt (by rw [hLr, List.length_cons] at hfit; omega)) H2)) ?_
      have hfl : settleL (fun _ => true) 0 T (PW (at_ + 1) r i) = putS T (at_ + 1) r := by rw [hi1]; exact PW_done (by omega)
      rw [hfl]
      have hpl2 : (putS T (at_ + 1) r).length = T.length := putS_len (by omega)
      refine hl_v (ov_assign rfl) rfl <| hl_nil <| hx_then_normal <| hc_seq <| hc_region <| hl_v (ov_move rfl) rfl <| ?_
      refine hl_v (ov_neq rfl rfl) rfl <| hl_nil <| hx_then_normal <| ?_
      refine hc_cond_F rfl ((fun h => h rfl)) ?_
      refine hc_skip <| hx_then_normal <| hc_seq <| hc_region <| hl_v (ov_move rfl) rfl <| hl_v (ov_move rfl) rfl <| ?_
      refine hl_v (ov_move rfl) rfl <| ?_
      refine hl_v (ov_add (m := ((at_ : Nat) : Int)) rfl rfl ((wrap_i64 (by omega)).trans (by omega))) rfl ?_
      refine hl_v (ov_move rfl) rfl <| hl_v (ov_move rfl) rfl <| ?_
      refine hl_v (ov_idxS rfl hA rfl 0 rfl (by omega)) rfl ?_
      refine hl_v (ov_loadG (cs := secC x0) rfl (secC_len _) (by rw [← hL0]; exact CellsAre.flat (f := secC) (A := q.1) secC_len hA (i := 0) hl0)) rfl ?_
      refine hl_c Try.call23 rfl rfl (fun w1 H1 => Own.callp (dsk g (putS T (at_ + 1) r) []) H1 fun D' hold hin H2 => Write_ok D' w1 g at_ x0 (putS T (at_ + 1) r) [] (by omega) (by decide) H2) ?_
      refine hl_v (ov_assign rfl) rfl <| hl_nil <| hx_then_normal <| hc_seq <| hc_region <| hl_v (ov_move rfl) rfl <| ?_
      refine hl_v (ov_neq rfl rfl) rfl <| hl_nil <| hx_then_normal <| ?_
      refine hc_cond_F rfl ((fun h => h rfl)) ?_
      refine hc_skip <| hx_block_normal <| hx_then_normal <| hc_region <| hl_v (ov_add rfl rfl (by first | exact wrap_i64 (by omega) | rfl)) rfl <| ?_
      refine hl_v (ov_move rfl) rfl <| hl_nil <| ?_
      refine hx_next hK2 ((i + 1, putS T (at_ + 1) r, [(at_, x0)])) (⟨by show i + 1 ≤ n; omega, fun h => by have h : i + 1 < n := h; omega, fun _ => rfl⟩) (by omega) (by repeat (first | exact Slots.sub_nil _ | refine Slots.sub_cons rfl ?_)) (by first | assumption | exact Ent.refl _ | exact Ent.nil _ | (repeat (first | exact Ent.refl _ | exact Ent.nil _ | refine Ent.pick ?_)))
    have hir : i < r.length := by omega
    have hli : i + 1 < L.length := by omega
    have hLi : L[i + 1] = r[i] := by simp only [hLr, List.getElem_cons_succ]
    refine hc_skip <| hx_then_normal <| hc_seq <| hc_block <| hc_seq <| hc_region <| ?_
    refine hl_v (ov_move rfl) rfl <| hl_v (ov_assign rfl) rfl <| hl_nil <| hx_then_normal <| hc_seq <| hc_region <| ?_
    refine hl_v (ov_move rfl) rfl <| hl_v (ov_add rfl rfl (by first | exact wrap_i64 (by omega) | rfl)) rfl <| ?_
    refine hl_v (ov_move rfl) rfl <| hl_v (by first | exact ov_len rfl | exact ov_lenS rfl) rfl <| ?_
    refine hl_v (ov_remE (m := i + 1) (b := n) rfl rfl (by omega) (Nat.mod_eq_of_lt (by omega)).symm) rfl ?_
    refine hl_v (ov_assign rfl) rfl <| hl_nil <| hx_then_normal <| hc_seq <| hc_seq <| hc_region <| ?_
    refine hl_v (ov_move rfl) rfl <| hl_v (ov_eql rfl rfl) rfl <| hl_nil <| hx_then_normal <| ?_
    refine hc_cond_F rfl ((by omega)) ?_
    refine hc_skip <| hx_then_normal <| hc_seq <| hc_region <| hl_v (ov_move rfl) rfl <| hl_v (ov_move rfl) rfl <| ?_
    refine hl_v (ov_move rfl) rfl <| ?_
    refine hl_v (ov_add (m := ((at_ + 1 + i : Nat) : Int)) rfl rfl ((wrap_i64 (by omega)).trans (by omega))) rfl ?_
    refine hl_v (ov_move rfl) rfl <| hl_v (ov_move rfl) rfl <| ?_
    refine hl_v (ov_idxS rfl hA rfl (i + 1) rfl (by omega)) rfl ?_
    refine hl_v (ov_loadG (cs := secC r[i]) rfl (secC_len _) (by rw [← hLi]; exact CellsAre.flat (f := secC) (A := q.1) secC_len hA (i := i + 1) hli)) rfl ?_
    refine hl_c Try.call23 rfl rfl (fun w1 H1 => Own.callp (dsk g T (PW (at_ + 1) r i)) H1 fun D' hold hin H2 => Write_ok D' w1 g (at_ + 1 + i) r[i] T (PW (at_ + 1) r i) (by omega) (by have := PW_len (at_ := at_ + 1) (l := r) (i := i); omega) H2) ?_
    rw [← PW_succ hir]
    refine hl_v (ov_assign rfl) rfl <| hl_nil <| hx_then_normal <| hc_seq <| hc_region <| hl_v (ov_move rfl) rfl <| ?_
    refine hl_v (ov_neq rfl rfl) rfl <| hl_nil <| hx_then_normal <| ?_
    refine hc_cond_F rfl ((fun h => h rfl)) ?_
    refine hc_skip <| hx_block_normal <| hx_then_normal <| hc_region <| hl_v (ov_add rfl rfl (by first | exact wrap_i64 (by omega) | rfl)) rfl <| ?_
    refine hl_v (ov_move rfl) rfl <| hl_nil <| ?_
    refine hx_next hK2 ((i + 1, T, PW (at_ + 1) r (i + 1))) (⟨by show i + 1 ≤ n; omega, fun _ => rfl, fun h => by have h : i + 1 = n := h; omega⟩) (by omega) (by repeat (first | exact Slots.sub_nil _ | refine Slots.sub_cons rfl ?_)) (by first | assumption | exact Ent.refl _ | exact Ent.nil _ | (repeat (first | exact Ent.refl _ | exact Ent.nil _ | refine Ent.pick ?_)))
  have hin : i = n := by omega
  have hTP := heq1 hin
  simp only [Prod.mk.injEq] at hTP
  obtain ⟨rfl, rfl⟩ := hTP
  have hpl2 : (putS S (at_ + 1) r).length = S.length := putS_len (by omega)
  have hfin : settleL (fun _ => true) 0 (putS S (at_ + 1) r) [(at_, x0)] = saveS S a xs := by
    rw [hsv, hLr, ← put_first (by rw [← hLr]; exact hfit)]; rfl
  refine hc_exit <| hx_then_exit <| hx_then_exit <| hx_block_out <| hx_then_normal <| hc_seq <| ?_
  refine hc_region <| hl_v (ov_move rfl) rfl <| ?_
  refine hl_c Try.call24 rfl rfl (fun w1 H1 => Own.callp (dsk g (putS S (at_ + 1) r) [(at_, x0)]) H1 fun D' hold hin H2 => Flush_spec D' w1 g (putS S (at_ + 1) r) [(at_, x0)] (fun p hp => by obtain rfl := List.mem_singleton.1 hp; show at_ < _; omega) H2) ?_
  rw [hfin]
  refine hl_v (ov_assign rfl) rfl <| hl_nil <| hx_then_normal <| hc_ret <| ?_
  exact results_1 (.inr rfl) rfl rfl fun w' H' => ⟨rfl, H'.ent (by first | assumption | exact Ent.refl _ | exact Ent.nil _ | exact Ent.row_any (Ent.refl _) | (repeat (first | exact Ent.refl _ | exact Ent.nil _ | refine Ent.pick ?_)))⟩
end Go.Proofs.Ytijaldfiaeafgaa
