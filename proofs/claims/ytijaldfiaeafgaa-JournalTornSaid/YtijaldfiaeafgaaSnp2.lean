import Derived.Test.YtijaldfiaeafgaaSnp1
set_option linter.unusedVariables false
set_option linter.unusedSimpArgs false
namespace Go.Proofs.Ytijaldfiaeafgaa
open Slk
/-- A snapshot that was found. -/
abbrev fndL (y : EntT × Nat) (f : Nat) (q : Option Addr × Nat) : List HProp := [blk f 106 [.int .i64 y.1.1, .int .u32 y.1.2.1, .int .u32 y.1.2.2.1, .slice q.1 y.1.2.2.2.length q.2, .int .i64 (y.2 : Int)], row q.1 5 1 y.1.2.2.2.length q.2 (y.1.2.2.2.map u8v)]
def fndO (b : Option (EntT × Nat)) (f : Nat) (q : Option Addr × Nat) : List HProp := match b with
  | none => []
  | some y => fndL y f q
def fndP (b : Option (EntT × Nat)) (f : Nat) : Value := match b with
  | none => .pointer none
  | some _ => .pointer (some ⟨f, 0, none⟩)
set_option maxHeartbeats 1000000 in
theorem look_spec (D : Nat → Prop) (w : World) (g pb : Nat) (S : List Sec) (hS : 32 ≤ S.length) (HP : Old D w (blk pb 3 [.int .i64 0, .int .i64 16])) (H : Own D w w [dsk g S []]) :
    Calls Try.prog 64 #[.pointer (some ⟨g, 0, none⟩), .slice (some ⟨pb, 0, none⟩) 2 2] w fun e w' => ∃ s : Nat × Option Addr × Nat, e = .returned (fndP (newS S) s.1) ∧ Own D w w' (dsk g S [] :: fndO (newS S) s.1 s.2) := by
  have hcell : ∀ (j : Nat) (hj : j < 2) l, CellIs D w l pb (0 + j * 1) (.int .i64 ((16 * j : Nat) : Int)) := fun j hj l => by
    rw [Nat.mul_one]
    refine (CellsAre.old (Old.blk HP)).cell (i := j) ?_
    rcases (show j = 0 ∨ j = 1 by omega) with rfl | rfl <;> rfl
  refine hc_enter (vs := [.pointer (some ⟨g, 0, none⟩), .slice (some ⟨pb, 0, none⟩) 2 2]) Try.func64 rfl _ Try.ntmps64 rfl H ?_
  simp only [argSlots, Nat.zero_add]
  refine hc_seq <| hc_region <| hl_v (ov_assign rfl) rfl <| hl_nil <| hx_then_normal <| hc_seq <| ?_
  refine hc_region <| hl_v (ov_assign rfl) rfl <| hl_nil <| hx_then_normal <| hc_seq <| hc_seq <| ?_
  refine hc_region <| hl_v (ov_move rfl) rfl <| hl_v (by first | exact ov_len rfl | exact ov_lenS rfl) rfl <| ?_
  refine hl_v (ov_move rfl) rfl <| hl_nil <| hx_then_normal <| hc_block <| ?_
  refine hc_loopK2 (σ := Nat × Option (EntT × Nat) × Nat × Option Addr × Nat) [0, 15, 16] rfl 17 (fun s => .int .i64 (s.1 : Int)) 5 (fun s => fndP s.2.1 s.2.2.1) (fun s => [stars (fndO s.2.1 s.2.2.1 s.2.2.2), dsk g S []]) (fun s => s.1 ≤ 2 ∧ s.2.1 = bestS S s.1) (fun s => 2 - s.1) ((0, none, 0, none, 0)) (⟨by decide, rfl⟩) rfl rfl (Ent.trans (b := [] ++ [dsk g S []]) (by first | assumption | exact Ent.refl _ | exact Ent.nil _ | exact Ent.row_any (Ent.refl _) | (repeat (first | exact Ent.refl _ | exact Ent.nil _ | refine Ent.pick ?_))) (Ent.fold (L := []))) ?_
  rintro ⟨j, b, f, q⟩ hj_ K1 hK1
  dsimp only at hj_ ⊢
  obtain ⟨hj2, hb⟩ := hj_
  refine hc_seq <| hc_region <| hl_v (ov_lss rfl rfl) rfl <| hl_nil <| hx_then_normal <| hc_seq <| ?_
  refine hc_cond rfl (fun h => ?_) (fun h => ?_)
  · have hj : j < 2 := by omega
    have hj1 : j + 1 ≤ 2 := by omega
    have hbs : bestS S (j + 1) = pickS b (16 * j) (lookS S (16 * j)) := by rw [hb]; rfl
    refine hc_skip <| hx_then_normal <| hc_seq <| hc_block <| hc_seq <| hc_region <| ?_
    refine hl_v (ov_idxA rfl rfl j rfl hj) rfl ?_
    refine hl_v (ov_load rfl (hcell j hj _)) rfl ?_
    refine hl_v (ov_assign rfl) rfl <| hl_nil <| hx_then_normal <| hc_seq <| hc_region <| hl_v (ov_assign rfl) rfl <| ?_
    refine hl_nil <| hx_then_normal <| hc_seq <| hc_seq <| hc_region <| hl_v (ov_move rfl) rfl <| ?_
    refine hl_nil <| hx_then_normal <| hc_block <| ?_
    refine hc_loopK2 (σ := Nat × Option Addr × Nat) [0, 5, 7, 15, 16, 17] rfl 21 (fun s => .int .i64 (s.1 : Int)) 8 (fun s => .slice s.2.1 s.1 s.2.2) (fun s => [row s.2.1 34 64 s.1 s.2.2 (((S.drop (16 * j)).take s.1).flatMap secC), dsk g S [], stars (fndO b f q)]) (fun s => s.1 ≤ 16) (fun s => 16 - s.1) ((0, none, 0)) (by decide) rfl rfl (Ent.trans (Ent.nil_row 34 64) (by simp only [List.take_zero, List.flatMap_nil]; exact (by first | assumption | exact Ent.refl _ | exact Ent.nil _ | exact Ent.row_any (Ent.refl _) | (repeat (first | exact Ent.refl _ | exact Ent.nil _ | refine Ent.pick ?_))))) ?_
    rintro ⟨k, ql⟩ hk16 K2 hK2
    dsimp only at hk16 ⊢
    refine hc_seq <| hc_region <| hl_v (ov_lss rfl rfl) rfl <| hl_nil <| hx_then_normal <| hc_seq <| ?_
    refine hc_cond rfl (fun h2 => ?_) (fun h2 => ?_)
    · have hk : k < 16 := by omega
      have hi : 16 * j + k < S.length := by omega
      have hst : (S.drop (16 * j)).take (k + 1) = (S.drop (16 * j)).take k ++ [S[16 * j + k]] := by
        rw [List.take_succ_eq_append_getElem (by rw [List.length_drop]; omega), List.getElem_drop]
      obtain ⟨s, hs⟩ : ∃ s, s = S[16 * j + k] := ⟨_, rfl⟩
      rw [← hs] at hst
      refine hc_skip <| hx_then_normal <| hc_seq <| hc_block <| hc_seq <| hc_region <| ?_
      refine hl_v (ov_move rfl) rfl <| hl_v (ov_assign rfl) rfl <| hl_nil <| hx_then_normal <| hc_seq <| hc_region <| ?_
      refine hl_v (ov_move rfl) rfl <| hl_v (ov_move rfl) rfl <| hl_v (ov_move rfl) rfl <| ?_
      refine hl_v (ov_add (m := ((16 * j + k : Nat) : Int)) rfl rfl ((wrap_i64 (by omega)).trans (by omega))) rfl ?_
      refine hl_c Try.call17 rfl rfl (fun w1 H1 => Own.callp (dsk g S []) H1 fun D' hold hin H2 => (Read_ok D' w1 g (16 * j + k) S [] hi H2).mono fun e w' ⟨he, H'⟩ => ⟨show e = Ending.returned (.tuple #[.agg (secC s).toArray, .int .i64 0]) by rw [he, hs]; rfl, H'⟩) ?_
      refine hl_v (ov_move rfl) rfl <| hl_v (ov_extract rfl rfl) rfl <| hl_v (ov_extract rfl rfl) rfl <| hl_new (on_alloc) rfl rfl rfl fun b10 =>  ?_
      refine hl_u0 (on_storeW (vs := secC s) rfl rfl (by simp [secC_len]) (by simp [secC_len]) (secC_one s)) rfl rfl ?_
      refine hl_v (ov_assign rfl) rfl <| hl_nil <| hx_then_normal <| hc_seq <| hc_seq <| hc_region <| ?_
      refine hl_v (ov_move rfl) rfl <| hl_v (ov_neq rfl rfl) rfl <| hl_nil <| hx_then_normal <| ?_
      refine hc_cond_F rfl ((fun h => h rfl)) ?_
      refine hc_skip <| hx_then_normal <| hc_region <| hl_v (ov_move rfl) rfl <| ?_
      refine hl_v (ov_loadW rfl (secC_len s)) rfl ?_
      refine hl_new (on_buildSlice (res := secC s) rfl rfl (fill_sec1 _)) rfl rfl rfl (fun b37 => ?_)
      refine hl_new (on_appendR (A := ql.1) (news := secC s) rfl rfl (SrcIs.blk (b := b37)) (by rw [secC_len]) (secC_one _) (by decide) (by omega)) rfl rfl rfl (fun qm => ?_)
      rw [show ((S.drop (16 * j)).take k).flatMap secC ++ secC s = ((S.drop (16 * j)).take (k + 1)).flatMap secC by rw [hst, List.flatMap_append, List.flatMap_singleton]]
      refine hl_v (ov_assign rfl) rfl <| hl_nil <| hx_block_normal <| hx_then_normal <| hc_region <| hl_v (ov_add rfl rfl (by first | exact wrap_i64 (by omega) | rfl)) rfl <| ?_
      refine hl_v (ov_move rfl) rfl <| hl_nil <| ?_
      refine hx_next hK2 ((k + 1, qm)) (hk) (by omega) (by repeat (first | exact Slots.sub_nil _ | refine Slots.sub_cons rfl ?_)) (by first | assumption | exact Ent.refl _ | exact Ent.nil _ | (repeat (first | exact Ent.refl _ | exact Ent.nil _ | refine Ent.pick ?_)))
    obtain rfl : k = 16 := by omega
    obtain ⟨T, hT⟩ : ∃ T, T = (S.drop (16 * j)).take 16 := ⟨_, rfl⟩
    have hTl : T.length = 16 := by rw [hT, List.length_take, List.length_drop]; omega
    rw [← hT]
    rcases hd : decS T with _ | ⟨x, n⟩
    · have hkeep : b = bestS S (j + 1) := by rw [hbs]; unfold lookS; rw [← hT, hd]; rfl
      refine hc_exit <| hx_then_exit <| hx_then_exit <| hx_block_out <| hx_then_normal <| hc_seq <| ?_
      refine hc_region <| hl_v (ov_move rfl) rfl <| ?_
      refine hl_c Try.call57 rfl rfl (fun w1 H1 => Own.calln H1 fun D' hold hin H2 => Decode_none D' w1 _ T hd (hin _ fun h hs ho => rep_row (A := ql.1) hs T hTl.symm (repL_secs.2 rfl))) ?_
      refine hl_v (ov_move rfl) rfl <| hl_v (ov_extract rfl rfl) rfl <| hl_v (ov_extract rfl rfl) rfl <| hl_v (ov_extract rfl rfl) rfl <| hl_new (on_alloc) rfl rfl rfl fun b12 =>  ?_
      refine hl_u0 (on_storeW (vs := [.int .i64 0, .int .u32 0, .int .u32 0, .slice none 0 0]) rfl rfl (by simp) (by simp) (by simp [Value.oneCell'])) rfl rfl ?_
      refine hl_v (ov_assign rfl) rfl <| hl_v (ov_assign rfl) rfl <| hl_nil <| hx_then_normal <| hc_seq <| hc_quiet mixed (by kernel_rfl) <| ?_
      refine hq_v (ov_move rfl) rfl <| hq_v (ov_eql rfl rfl) rfl <| hq_v (ov_move rfl) rfl <| ?_
      refine hq_partF (t := 48) rfl ((by decide)) ?_
      refine hq_off rfl rfl rfl rfl rfl rfl <| hq_off rfl rfl rfl rfl rfl rfl <| hq_off rfl rfl rfl rfl rfl rfl <| hq_v (ov_pickF rfl rfl) rfl <| hq_v (ov_move rfl) rfl <| hq_off rfl rfl rfl rfl rfl rfl <| ?_
      refine hq_off rfl rfl rfl rfl rfl rfl <| hq_off rfl rfl rfl rfl rfl rfl <| hq_v (ov_pickF rfl rfl) rfl <| hq_v (ov_move rfl) rfl <| hq_off rfl rfl rfl rfl rfl rfl <| hq_off rfl rfl rfl rfl rfl rfl <| ?_
      refine hq_off rfl rfl rfl rfl rfl rfl <| hq_offU rfl rfl rfl rfl rfl <| hq_offU rfl rfl rfl rfl rfl <| hq_offU rfl rfl rfl rfl rfl <| hq_offU rfl rfl rfl rfl rfl <| hq_offU rfl rfl rfl rfl rfl <| ?_
      refine hq_offU rfl rfl rfl rfl rfl <| hq_offU rfl rfl rfl rfl rfl <| hq_offU rfl rfl rfl rfl rfl <| hq_off rfl rfl rfl rfl rfl rfl <| hq_v (ov_pickF rfl rfl) rfl <| hq_nil <| ?_
      refine hx_then_normal <| hc_cond_false rfl <| hc_skip <| hx_block_normal <| hx_then_normal <| hc_region <| ?_
      refine hl_v (ov_add rfl rfl (by first | exact wrap_i64 (by omega) | rfl)) rfl <| ?_
      refine hl_v (ov_move rfl) rfl <| hl_nil <| ?_
      refine hx_next hK1 ((j + 1, b, f, q)) (⟨hj1, hkeep⟩) (by omega) (by repeat (first | exact Slots.sub_nil _ | refine Slots.sub_cons rfl ?_)) (by first | assumption | exact Ent.refl _ | exact Ent.nil _ | (repeat (first | exact Ent.refl _ | exact Ent.nil _ | refine Ent.pick ?_)))
    refine hc_exit <| hx_then_exit <| hx_then_exit <| hx_block_out <| hx_then_normal <| hc_seq <| ?_
    refine hc_region <| hl_v (ov_move rfl) rfl <| ?_
    refine hl_call (σ := Option Addr × Nat) Try.call57 rfl rfl (fun w1 H1 => Own.callx0 H1 fun D' hold hin H2 => Decode_some D' w1 _ T x n hd (hin _ fun h hs ho => rep_row (A := ql.1) hs T hTl.symm (repL_secs.2 rfl))) ?_
    intro qx
    try rw [List.nil_append]
    refine hl_v (ov_move rfl) rfl <| hl_v (ov_extract rfl rfl) rfl <| hl_v (ov_extract rfl rfl) rfl <| hl_v (ov_extract rfl rfl) rfl <| hl_new (on_alloc) rfl rfl rfl fun b12 =>  ?_
    refine hl_u0 (on_storeW (vs := entV x qx) rfl rfl (by simp [entV]) (by simp [entV]) (by simp [entV, Value.oneCell'])) rfl rfl ?_
    have hlk : lookS S (16 * j) = if x.1 = 2 ∧ x.2.2.1 = 0 then some x else none := by unfold lookS; rw [← hT, hd]
    refine hl_v (ov_assign rfl) rfl <| hl_v (ov_assign rfl) rfl <| hl_nil <| hx_then_normal <| hc_seq <| ?_
    rcases b with _ | y
    · dsimp only [fndP]
      refine hc_quiet mixed (by kernel_rfl) <| hq_v (ov_move rfl) rfl <| hq_v (ov_eql rfl rfl) rfl <| hq_v (ov_move rfl) rfl <| ?_
      refine hq_partT (t := 48) rfl (rfl) ?_
      refine hq_on rfl rfl <| hq_v (ov_fieldA rfl) rfl <| hq_on rfl rfl <| hq_v (ov_load rfl (CellIs.blk rfl)) rfl <| hq_on rfl rfl <| hq_v (ov_eql rfl rfl) rfl <| hq_v (ov_pickT rfl rfl) rfl <| hq_v (ov_move rfl) rfl <| ?_
      refine hq_part (t := 53) rfl (fun c1 => ?_) (fun c1 => ?_)
      · have c1 : x.1 = 2 := by omega
        refine hq_on rfl rfl <| hq_v (ov_fieldA rfl) rfl <| hq_on rfl rfl <| hq_v (ov_load rfl (CellIs.blk rfl)) rfl <| hq_on rfl rfl <| hq_v (ov_eql rfl rfl) rfl <| hq_v (ov_pickT rfl rfl) rfl <| hq_v (ov_move rfl) rfl <| ?_
        refine hq_part (t := 58) rfl (fun c2 => ?_) (fun c2 => ?_)
        · have c2 : x.2.2.1 = 0 := by omega
          rw [hlk, if_pos ⟨c1, c2⟩] at hbs
          have hnew : some (x, 16 * j) = bestS S (j + 1) := hbs.symm
          refine hq_on rfl rfl <| hq_v (ov_move rfl) rfl <| hq_on rfl rfl <| hq_v (ov_eqlP rfl rfl) rfl <| hq_on rfl rfl <| hq_v (ov_move rfl) rfl <| ?_
          refine hq_off rfl rfl rfl rfl rfl rfl <| hq_off rfl rfl rfl rfl rfl rfl <| hq_off rfl rfl rfl rfl rfl rfl <| hq_off rfl rfl rfl rfl rfl rfl <| hq_off rfl rfl rfl rfl rfl rfl <| hq_off rfl rfl rfl rfl rfl rfl <| ?_
          refine hq_off rfl rfl rfl rfl rfl rfl <| hq_off rfl rfl rfl rfl rfl rfl <| hq_on rfl rfl <| hq_v (ov_pickT rfl rfl) rfl <| hq_v (ov_pickT rfl rfl) rfl <| hq_nil <| hx_then_normal <| ?_
          refine hc_cond_true rfl <| hc_region <| hl_v (by first | exact ov_loadW rfl (by simp; done) | exact ov_loadGB rfl rfl) rfl <| ?_
          refine hl_v (ov_move rfl) rfl <| hl_v (ov_buildSN rfl rfl) rfl <| ?_
          refine hl_new (on_boxN rfl rfl) rfl rfl rfl fun b75 =>  ?_
          refine hl_v (ov_assign rfl) rfl <| hl_nil <| hx_block_normal <| hx_then_normal <| hc_region <| hl_v (ov_add rfl rfl (by first | exact wrap_i64 (by omega) | rfl)) rfl <| ?_
          refine hl_v (ov_move rfl) rfl <| hl_nil <| ?_
          exact hx_next hK1 ((j + 1, some (x, 16 * j), b75, qx)) (⟨hj1, hnew⟩) (by omega) (by repeat (first | exact Slots.sub_nil _ | refine Slots.sub_cons rfl ?_)) (Ent.trans (b := fndL (x, 16 * j) b75 qx ++ [dsk g S []]) (by first | assumption | exact Ent.refl _ | exact Ent.nil _ | exact Ent.row_any (Ent.refl _) | (repeat (first | exact Ent.refl _ | exact Ent.nil _ | refine Ent.pick ?_))) Ent.fold)
        have hkeep : none = bestS S (j + 1) := by rw [hbs, hlk, if_neg (by omega)]; rfl
        refine hq_off rfl rfl rfl rfl rfl rfl <| hq_off rfl rfl rfl rfl rfl rfl <| hq_off rfl rfl rfl rfl rfl rfl <| hq_offU rfl rfl rfl rfl rfl <| hq_offU rfl rfl rfl rfl rfl <| hq_offU rfl rfl rfl rfl rfl <| ?_
        refine hq_offU rfl rfl rfl rfl rfl <| hq_offU rfl rfl rfl rfl rfl <| hq_offU rfl rfl rfl rfl rfl <| hq_offU rfl rfl rfl rfl rfl <| hq_offU rfl rfl rfl rfl rfl <| hq_off rfl rfl rfl rfl rfl rfl <| ?_
        refine hq_v (ov_pickF rfl rfl) rfl <| hq_nil <| hx_then_normal <| hc_cond_false rfl <| hc_skip <| hx_block_normal <| ?_
        refine hx_then_normal <| hc_region <| hl_v (ov_add rfl rfl (by first | exact wrap_i64 (by omega) | rfl)) rfl <| ?_
        refine hl_v (ov_move rfl) rfl <| hl_nil <| ?_
        exact hx_next hK1 ((j + 1, none, f, q)) (⟨hj1, hkeep⟩) (by omega) (by repeat (first | exact Slots.sub_nil _ | refine Slots.sub_cons rfl ?_)) (Ent.trans (b := [] ++ [dsk g S []]) (by first | assumption | exact Ent.refl _ | exact Ent.nil _ | exact Ent.row_any (Ent.refl _) | (repeat (first | exact Ent.refl _ | exact Ent.nil _ | refine Ent.pick ?_))) (Ent.fold (L := [])))
      have hkeep : none = bestS S (j + 1) := by rw [hbs, hlk, if_neg (by omega)]; rfl
      refine hq_off rfl rfl rfl rfl rfl rfl <| hq_off rfl rfl rfl rfl rfl rfl <| hq_off rfl rfl rfl rfl rfl rfl <| hq_v (ov_pickF rfl rfl) rfl <| hq_v (ov_move rfl) rfl <| hq_off rfl rfl rfl rfl rfl rfl <| ?_
      refine hq_off rfl rfl rfl rfl rfl rfl <| hq_off rfl rfl rfl rfl rfl rfl <| hq_offU rfl rfl rfl rfl rfl <| hq_offU rfl rfl rfl rfl rfl <| hq_offU rfl rfl rfl rfl rfl <| hq_offU rfl rfl rfl rfl rfl <| ?_
      refine hq_offU rfl rfl rfl rfl rfl <| hq_offU rfl rfl rfl rfl rfl <| hq_offU rfl rfl rfl rfl rfl <| hq_offU rfl rfl rfl rfl rfl <| hq_off rfl rfl rfl rfl rfl rfl <| hq_v (ov_pickF rfl rfl) rfl <| ?_
      refine hq_nil <| hx_then_normal <| hc_cond_false rfl <| hc_skip <| hx_block_normal <| hx_then_normal <| ?_
      refine hc_region <| hl_v (ov_add rfl rfl (by first | exact wrap_i64 (by omega) | rfl)) rfl <| ?_
      refine hl_v (ov_move rfl) rfl <| hl_nil <| ?_
      exact hx_next hK1 ((j + 1, none, f, q)) (⟨hj1, hkeep⟩) (by omega) (by repeat (first | exact Slots.sub_nil _ | refine Slots.sub_cons rfl ?_)) (Ent.trans (b := [] ++ [dsk g S []]) (by first | assumption | exact Ent.refl _ | exact Ent.nil _ | exact Ent.row_any (Ent.refl _) | (repeat (first | exact Ent.refl _ | exact Ent.nil _ | refine Ent.pick ?_))) (Ent.fold (L := [])))
    dsimp only [fndP, fndO]
    refine HC.ent (Ent.trans (b := stars (fndL y f q) :: [dsk g S [], blk b12 104 (entV x qx), row qx.1 5 1 x.2.2.2.length qx.2 (x.2.2.2.map u8v)]) (by first | assumption | exact Ent.refl _ | exact Ent.nil _ | exact Ent.row_any (Ent.refl _) | (repeat (first | exact Ent.refl _ | exact Ent.nil _ | refine Ent.pick ?_))) Ent.flat) ?_
    refine hc_quiet mixed (by kernel_rfl) <| hq_v (ov_move rfl) rfl <| hq_v (ov_eql rfl rfl) rfl <| hq_v (ov_move rfl) rfl <| ?_
    refine hq_partT (t := 48) rfl (rfl) ?_
    refine hq_on rfl rfl <| hq_v (ov_fieldA rfl) rfl <| hq_on rfl rfl <| hq_v (ov_load rfl (CellIs.blk rfl)) rfl <| hq_on rfl rfl <| hq_v (ov_eql rfl rfl) rfl <| hq_v (ov_pickT rfl rfl) rfl <| hq_v (ov_move rfl) rfl <| ?_
    refine hq_part (t := 53) rfl (fun c1 => ?_) (fun c1 => ?_)
    · have c1 : x.1 = 2 := by omega
      refine hq_on rfl rfl <| hq_v (ov_fieldA rfl) rfl <| hq_on rfl rfl <| hq_v (ov_load rfl (CellIs.blk rfl)) rfl <| hq_on rfl rfl <| hq_v (ov_eql rfl rfl) rfl <| hq_v (ov_pickT rfl rfl) rfl <| hq_v (ov_move rfl) rfl <| ?_
      refine hq_part (t := 58) rfl (fun c2 => ?_) (fun c2 => ?_)
      · have c2 : x.2.2.1 = 0 := by omega
        rw [hlk, if_pos ⟨c1, c2⟩] at hbs
        have hbs : bestS S (j + 1) = if y.1.2.1 < x.2.1 then some (x, 16 * j) else some y := hbs
        refine hq_on rfl rfl <| hq_v (ov_move rfl) rfl <| hq_on rfl rfl <| hq_v (ov_eqlP rfl rfl) rfl <| hq_on rfl rfl <| hq_v (ov_move rfl) rfl <| ?_
        refine hq_on rfl rfl <| hq_v (ov_fieldA rfl) rfl <| hq_on rfl rfl <| hq_v (ov_load rfl (CellIs.blk rfl)) rfl <| hq_on rfl rfl <| hq_v (ov_move rfl) rfl <| hq_on rfl rfl <| hq_v (ov_nil rfl) rfl <| hq_on rfl rfl <| hq_v (ov_fieldA rfl) rfl <| hq_on rfl rfl <| hq_v (ov_fieldA rfl) rfl <| ?_
        refine hq_on rfl rfl <| hq_v (ov_load rfl (CellIs.blk rfl)) rfl <| hq_on rfl rfl <| hq_v (ov_gtr rfl rfl) rfl <| hq_on rfl rfl <| hq_v (ov_pickF rfl rfl) rfl <| hq_v (ov_pickT rfl rfl) rfl <| hq_nil <| hx_then_normal <| ?_
        refine hc_cond rfl (fun c3 => ?_) (fun c3 => ?_)
        · have hnew : some (x, 16 * j) = bestS S (j + 1) := by rw [hbs, if_pos (by omega)]
          refine hc_region <| hl_v (by first | exact ov_loadW rfl (by simp; done) | exact ov_loadGB rfl rfl) rfl <| ?_
          refine hl_v (ov_move rfl) rfl <| hl_v (ov_buildSN rfl rfl) rfl <| ?_
          refine hl_new (on_boxN rfl rfl) rfl rfl rfl fun b75 =>  ?_
          refine hl_v (ov_assign rfl) rfl <| hl_nil <| hx_block_normal <| hx_then_normal <| hc_region <| hl_v (ov_add rfl rfl (by first | exact wrap_i64 (by omega) | rfl)) rfl <| ?_
          refine hl_v (ov_move rfl) rfl <| hl_nil <| ?_
          exact hx_next hK1 ((j + 1, some (x, 16 * j), b75, qx)) (⟨hj1, hnew⟩) (by omega) (by repeat (first | exact Slots.sub_nil _ | refine Slots.sub_cons rfl ?_)) (Ent.trans (b := fndL (x, 16 * j) b75 qx ++ [dsk g S []]) (by first | assumption | exact Ent.refl _ | exact Ent.nil _ | exact Ent.row_any (Ent.refl _) | (repeat (first | exact Ent.refl _ | exact Ent.nil _ | refine Ent.pick ?_))) Ent.fold)
        have hkeep : some y = bestS S (j + 1) := by rw [hbs, if_neg (by omega)]
        refine hc_skip <| hx_block_normal <| hx_then_normal <| hc_region <| hl_v (ov_add rfl rfl (by first | exact wrap_i64 (by omega) | rfl)) rfl <| ?_
        refine hl_v (ov_move rfl) rfl <| hl_nil <| ?_
        exact hx_next hK1 ((j + 1, some y, f, q)) (⟨hj1, hkeep⟩) (by omega) (by repeat (first | exact Slots.sub_nil _ | refine Slots.sub_cons rfl ?_)) (Ent.trans (b := fndL y f q ++ [dsk g S []]) (by first | assumption | exact Ent.refl _ | exact Ent.nil _ | exact Ent.row_any (Ent.refl _) | (repeat (first | exact Ent.refl _ | exact Ent.nil _ | refine Ent.pick ?_))) Ent.fold)
      have hkeep : some y = bestS S (j + 1) := by rw [hbs, hlk, if_neg (by omega)]; rfl
      refine hq_off rfl rfl rfl rfl rfl rfl <| hq_off rfl rfl rfl rfl rfl rfl <| hq_off rfl rfl rfl rfl rfl rfl <| hq_offU rfl rfl rfl rfl rfl <| hq_offU rfl rfl rfl rfl rfl <| hq_offU rfl rfl rfl rfl rfl <| ?_
      refine hq_offU rfl rfl rfl rfl rfl <| hq_offU rfl rfl rfl rfl rfl <| hq_offU rfl rfl rfl rfl rfl <| hq_offU rfl rfl rfl rfl rfl <| hq_offU rfl rfl rfl rfl rfl <| hq_off rfl rfl rfl rfl rfl rfl <| ?_
      refine hq_v (ov_pickF rfl rfl) rfl <| hq_nil <| hx_then_normal <| hc_cond_false rfl <| hc_skip <| hx_block_normal <| ?_
      refine hx_then_normal <| hc_region <| hl_v (ov_add rfl rfl (by first | exact wrap_i64 (by omega) | rfl)) rfl <| ?_
      refine hl_v (ov_move rfl) rfl <| hl_nil <| ?_
      exact hx_next hK1 ((j + 1, some y, f, q)) (⟨hj1, hkeep⟩) (by omega) (by repeat (first | exact Slots.sub_nil _ | refine Slots.sub_cons rfl ?_)) (Ent.trans (b := fndL y f q ++ [dsk g S []]) (by first | assumption | exact Ent.refl _ | exact Ent.nil _ | exact Ent.row_any (Ent.refl _) | (repeat (first | exact Ent.refl _ | exact Ent.nil _ | refine Ent.pick ?_))) Ent.fold)
    have hkeep : some y = bestS S (j + 1) := by rw [hbs, hlk, if_neg (by omega)]; rfl
    refine hq_off rfl rfl rfl rfl rfl rfl <| hq_off rfl rfl rfl rfl rfl rfl <| hq_off rfl rfl rfl rfl rfl rfl <| hq_v (ov_pickF rfl rfl) rfl <| hq_v (ov_move rfl) rfl <| hq_off rfl rfl rfl rfl rfl rfl <| ?_
    refine hq_off rfl rfl rfl rfl rfl rfl <| hq_off rfl rfl rfl rfl rfl rfl <| hq_offU rfl rfl rfl rfl rfl <| hq_offU rfl rfl rfl rfl rfl <| hq_offU rfl rfl rfl rfl rfl <| hq_offU rfl rfl rfl rfl rfl <| ?_
    refine hq_offU rfl rfl rfl rfl rfl <| hq_offU rfl rfl rfl rfl rfl <| hq_offU rfl rfl rfl rfl rfl <| hq_offU rfl rfl rfl rfl rfl <| hq_off rfl rfl rfl rfl rfl rfl <| hq_v (ov_pickF rfl rfl) rfl <| ?_
    refine hq_nil <| hx_then_normal <| hc_cond_false rfl <| hc_skip <| hx_block_normal <| hx_then_normal <| ?_
    refine hc_region <| hl_v (ov_add rfl rfl (by first | exact wrap_i64 (by omega) | rfl)) rfl <| ?_
    refine hl_v (ov_move rfl) rfl <| hl_nil <| ?_
    exact hx_next hK1 ((j + 1, some y, f, q)) (⟨hj1, hkeep⟩) (by omega) (by repeat (first | exact Slots.sub_nil _ | refine Slots.sub_cons rfl ?_)) (Ent.trans (b := fndL y f q ++ [dsk g S []]) (by first | assumption | exact Ent.refl _ | exact Ent.nil _ | exact Ent.row_any (Ent.refl _) | (repeat (first | exact Ent.refl _ | exact Ent.nil _ | refine Ent.pick ?_))) Ent.fold)
  obtain rfl : j = 2 := by omega
  refine hc_exit <| hx_then_exit <| hx_then_exit <| hx_block_out <| hx_then_normal <| hc_seq <| ?_
  refine hc_region <| hl_v (ov_move rfl) rfl <| hl_v (ov_assign rfl) rfl <| hl_nil <| hx_then_normal <| hc_ret <| ?_
  exact results_1 (.inr rfl) rfl rfl fun w' H' => ⟨(f, q), by rw [hb]; rfl, H'.ent (Ent.trans (b := stars (fndO (newS S) f q) :: [dsk g S []]) (by rw [hb]; exact (by first | assumption | exact Ent.refl _ | exact Ent.nil _ | exact Ent.row_any (Ent.refl _) | (repeat (first | exact Ent.refl _ | exact Ent.nil _ | refine Ent.pick ?_)))) (Ent.trans Ent.flat (Ent.perm List.perm_append_comm)))⟩
end Go.Proofs.Ytijaldfiaeafgaa
