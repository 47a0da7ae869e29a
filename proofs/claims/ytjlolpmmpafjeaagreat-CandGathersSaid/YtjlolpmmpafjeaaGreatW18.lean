import Derived.Test.YtjlolpmmpafjeaaGreatW17
set_option linter.unusedVariables false
set_option linter.unusedSimpArgs false
namespace Go.Proofs.YtjlolpmmpafjeaaGreat
open Slk
abbrev fndL (y : EntT × Nat) (f : Nat) (q : Option Addr × Nat) : List HProp := [blk f 223 [.int .i64 y.1.1, .int .u32 y.1.2.1, .int .u32 y.1.2.2.1, .slice q.1 y.1.2.2.2.length q.2, .int .i64 (y.2 : Int)], row q.1 5 1 y.1.2.2.2.length q.2 (y.1.2.2.2.map u8v)]
def fndO (b : Option (EntT × Nat)) (f : Nat) (q : Option Addr × Nat) : List HProp := match b with
  | none => []
  | some y => fndL y f q
def fndP (b : Option (EntT × Nat)) (f : Nat) : Value := match b with
  | none => .pointer none
  | some _ => .pointer (some ⟨f, 0, none⟩)
set_option maxHeartbeats 1000000 in
theorem look_spec (D : Nat → Prop) (w : World) (g pb : Nat) (S : List Sec) (hS : 32 ≤ S.length) (HP : Old D w (blk pb 3 [.int .i64 0, .int .i64 16])) (H : Own D w w [dsk g S []]) :
    Calls Tryz.prog 143 #[.pointer (some ⟨g, 0, none⟩), .slice (some ⟨pb, 0, none⟩) 2 2] w fun e w' => ∃ s : Nat × Option Addr × Nat, e = .returned (fndP (newS S) s.1) ∧ Own D w w' (dsk g S [] :: fndO (newS S) s.1 s.2) := by
  have hcell : ∀ (j : Nat) (hj : j < 2) l, CellIs D w l pb (0 + j * 1) (.int .i64 ((16 * j : Nat) : Int)) := fun j hj l => by
    rw [Nat.mul_one]
    refine (CellsAre.old (Old.blk HP)).cell (i := j) ?_
    rcases (show j = 0 ∨ j = 1 by omega) with rfl | rfl <;> rfl
  refine hc_enter (vs := [.pointer (some ⟨g, 0, none⟩), .slice (some ⟨pb, 0, none⟩) 2 2]) Tryz.func143 rfl _ Tryz.ntmps143 rfl H ?_
  simp only [argSlots, Nat.zero_add]
  refine zg <| hl_v (ov_assign rfl) rfl <| zn <| hc_seq <| ?_
  refine hc_region <| hl_v (ov_assign rfl) rfl <| zn <| hc_seq <| hc_seq <| ?_
  refine hc_region <| hl_v (ov_move rfl) rfl <| hl_v za15 rfl <| ?_
  refine hl_v (ov_move rfl) rfl <| zn <| hc_block <| ?_
  refine hc_loopK2 (σ := Nat × Option (EntT × Nat) × Nat × Option Addr × Nat) [0, 15, 16] rfl 17 (fun s => .int .i64 (s.1 : Int)) 5 (fun s => fndP s.2.1 s.2.2.1) (fun s => [stars (fndO s.2.1 s.2.2.1 s.2.2.2), dsk g S []]) (fun s => s.1 ≤ 2 ∧ s.2.1 = bestS S s.1) (fun s => 2 - s.1) ((0, none, 0, none, 0)) (⟨by decide, rfl⟩) rfl rfl (Ent.trans (b := [] ++ [dsk g S []]) za4 (Ent.fold (L := []))) ?_
  rintro ⟨j, b, f, q⟩ hj_ K1 hK1
  dsimp only at hj_ ⊢
  obtain ⟨hj2, hb⟩ := hj_
  refine zg <| hl_v (ov_lss rfl rfl) rfl <| zn <| hc_seq <| ?_
  refine hc_cond rfl (fun h => ?_) (fun h => ?_)
  · have hj : j < 2 := by omega
    have hj1 : j + 1 ≤ 2 := by omega
    have hbs : bestS S (j + 1) = pickS b (16 * j) (lookS S (16 * j)) := by rw [hb]; rfl
    refine zk <| hc_seq <| hc_block <| zg <| ?_
    refine hl_v (ov_idxA rfl rfl j rfl hj) rfl ?_
    refine hl_v (ov_load rfl (hcell j hj _)) rfl ?_
    refine hl_v (ov_assign rfl) rfl <| zn <| zg <| hl_v (ov_assign rfl) rfl <| ?_
    refine zn <| hc_seq <| zg <| hl_v (ov_move rfl) rfl <| ?_
    refine zn <| hc_block <| ?_
    refine hc_loopK2 (σ := Nat × Option Addr × Nat) [0, 5, 7, 15, 16, 17] rfl 21 (fun s => .int .i64 (s.1 : Int)) 8 (fun s => .slice s.2.1 s.1 s.2.2) (fun s => [row s.2.1 61 64 s.1 s.2.2 (((S.drop (16 * j)).take s.1).flatMap secC), dsk g S [], stars (fndO b f q)]) (fun s => s.1 ≤ 16) (fun s => 16 - s.1) ((0, none, 0)) (by decide) rfl rfl (Ent.trans (Ent.nil_row 61 64) (by simp only [List.take_zero, List.flatMap_nil]; exact za4)) ?_
    rintro ⟨k, ql⟩ hk16 K2 hK2
    dsimp only at hk16 ⊢
    refine zg <| hl_v (ov_lss rfl rfl) rfl <| zn <| hc_seq <| ?_
    refine hc_cond rfl (fun h2 => ?_) (fun h2 => ?_)
    · have hk : k < 16 := by omega
      have hi : 16 * j + k < S.length := by omega
      have hst : (S.drop (16 * j)).take (k + 1) = (S.drop (16 * j)).take k ++ [S[16 * j + k]] := by
        rw [List.take_succ_eq_append_getElem za27, List.getElem_drop]
      obtain ⟨s, hs⟩ : ∃ s, s = S[16 * j + k] := ⟨_, rfl⟩
      rw [← hs] at hst
      refine zk <| hc_seq <| hc_block <| zg <| ?_
      refine hl_v (ov_move rfl) rfl <| hl_v (ov_assign rfl) rfl <| zn <| zg <| ?_
      refine hl_v (ov_move rfl) rfl <| hl_v (ov_move rfl) rfl <| hl_v (ov_move rfl) rfl <| ?_
      refine hl_v (ov_add (m := ((16 * j + k : Nat) : Int)) rfl rfl ((wrap_i64 (by omega)).trans (by omega))) rfl ?_
      refine hl_c Tryz.call35 rfl rfl (fun w1 H1 => Own.callp (dsk g S []) H1 fun D' hold hin H2 => (Read_ok D' w1 g (16 * j + k) S [] hi H2).mono fun e w' ⟨he, H'⟩ => ⟨show e = Ending.returned (.tuple #[.agg (secC s).toArray, .int .i64 0]) by rw [he, hs]; rfl, H'⟩) ?_
      refine hl_v (ov_move rfl) rfl <| hl_v (ov_extract rfl rfl) rfl <| hl_v (ov_extract rfl rfl) rfl <| hl_new (on_alloc) rfl rfl rfl fun b10 =>  ?_
      refine hl_u0 (on_storeW (vs := secC s) rfl rfl (by simp [secC_len]) (by simp [secC_len]) (secC_one s)) rfl rfl ?_
      refine hl_v (ov_assign rfl) rfl <| zn <| hc_seq <| zg <| ?_
      refine hl_v (ov_move rfl) rfl <| hl_v (ov_neq rfl rfl) rfl <| zn <| ?_
      refine hc_cond_F rfl ((fun h => h rfl)) ?_
      refine zk <| hc_region <| hl_v (ov_move rfl) rfl <| ?_
      refine hl_v (ov_loadW rfl (secC_len s)) rfl ?_
      refine hl_new (on_buildSlice (res := secC s) rfl rfl (fill_sec1 _)) rfl rfl rfl (fun b37 => ?_)
      refine hl_new (on_appendR (A := ql.1) (news := secC s) rfl rfl (SrcIs.blk (b := b37)) (by rw [secC_len]) (secC_one _) (by decide) (by omega)) rfl rfl rfl (fun qm => ?_)
      rw [show ((S.drop (16 * j)).take k).flatMap secC ++ secC s = ((S.drop (16 * j)).take (k + 1)).flatMap secC by rw [hst, List.flatMap_append, List.flatMap_singleton]]
      refine hl_v (ov_assign rfl) rfl <| hl_nil <| hx_block_normal <| hx_then_normal <| hc_region <| hl_v (ov_add rfl rfl za18) rfl <| ?_
      refine hl_v (ov_move rfl) rfl <| hl_nil <| ?_
      refine hx_next hK2 ((k + 1, qm)) (hk) (by omega) za9 za6
    obtain rfl : k = 16 := by omega
    obtain ⟨T, hT⟩ : ∃ T, T = (S.drop (16 * j)).take 16 := ⟨_, rfl⟩
    have hTl : T.length = 16 := by rw [hT, List.length_take, List.length_drop]; omega
    rw [← hT]
    rcases hd : decS T with _ | ⟨x, n⟩
    · have hkeep : b = bestS S (j + 1) := by rw [hbs]; unfold lookS; rw [← hT, hd]; rfl
      refine hc_exit <| hx_then_exit <| hx_then_exit <| hx_block_out <| hx_then_normal <| hc_seq <| ?_
      refine hc_region <| hl_v (ov_move rfl) rfl <| ?_
      refine hl_c Tryz.call79 rfl rfl (fun w1 H1 => Own.calln H1 fun D' hold hin H2 => Decode_none D' w1 _ T hd (hin _ fun h hs ho => rep_row (A := ql.1) hs T hTl.symm (repL_secs.2 rfl))) ?_
      refine hl_v (ov_move rfl) rfl <| hl_v (ov_extract rfl rfl) rfl <| hl_v (ov_extract rfl rfl) rfl <| hl_v (ov_extract rfl rfl) rfl <| hl_new (on_alloc) rfl rfl rfl fun b12 =>  ?_
      refine hl_u0 (on_storeW (vs := [.int .i64 0, .int .u32 0, .int .u32 0, .slice none 0 0]) rfl rfl (by simp) (by simp) za33) rfl rfl ?_
      refine hl_v (ov_assign rfl) rfl <| hl_v (ov_assign rfl) rfl <| zn <| hc_seq <| hc_quiet mixed (by kernel_rfl) <| ?_
      refine hq_v (ov_move rfl) rfl <| hq_v (ov_eql rfl rfl) rfl <| hq_v (ov_move rfl) rfl <| ?_
      refine hq_partF (t := 48) rfl ((by decide)) ?_
      refine hq_off rfl rfl rfl rfl rfl rfl <| hq_off rfl rfl rfl rfl rfl rfl <| hq_off rfl rfl rfl rfl rfl rfl <| hq_v (ov_pickF rfl rfl) rfl <| hq_v (ov_move rfl) rfl <| hq_off rfl rfl rfl rfl rfl rfl <| ?_
      refine hq_off rfl rfl rfl rfl rfl rfl <| hq_off rfl rfl rfl rfl rfl rfl <| hq_v (ov_pickF rfl rfl) rfl <| hq_v (ov_move rfl) rfl <| hq_off rfl rfl rfl rfl rfl rfl <| hq_off rfl rfl rfl rfl rfl rfl <| ?_
      refine hq_off rfl rfl rfl rfl rfl rfl <| hq_offU rfl rfl rfl rfl rfl <| hq_offU rfl rfl rfl rfl rfl <| hq_offU rfl rfl rfl rfl rfl <| hq_offU rfl rfl rfl rfl rfl <| hq_offU rfl rfl rfl rfl rfl <| ?_
      refine hq_offU rfl rfl rfl rfl rfl <| hq_offU rfl rfl rfl rfl rfl <| hq_offU rfl rfl rfl rfl rfl <| hq_off rfl rfl rfl rfl rfl rfl <| hq_v (ov_pickF rfl rfl) rfl <| hq_nil <| ?_
      refine hx_then_normal <| hc_cond_false rfl <| hc_skip <| hx_block_normal <| hx_then_normal <| hc_region <| ?_
      refine hl_v (ov_add rfl rfl za18) rfl <| ?_
      refine hl_v (ov_move rfl) rfl <| hl_nil <| ?_
      refine hx_next hK1 ((j + 1, b, f, q)) (⟨hj1, hkeep⟩) (by omega) za9 za6
    refine hc_exit <| hx_then_exit <| hx_then_exit <| hx_block_out <| hx_then_normal <| hc_seq <| ?_
    refine hc_region <| hl_v (ov_move rfl) rfl <| ?_
    refine hl_call (σ := Option Addr × Nat) Tryz.call79 rfl rfl (fun w1 H1 => Own.callx0 H1 fun D' hold hin H2 => Decode_some D' w1 _ T x n hd (hin _ fun h hs ho => rep_row (A := ql.1) hs T hTl.symm (repL_secs.2 rfl))) ?_
    intro qx
    try rw [List.nil_append]
    refine hl_v (ov_move rfl) rfl <| hl_v (ov_extract rfl rfl) rfl <| hl_v (ov_extract rfl rfl) rfl <| hl_v (ov_extract rfl rfl) rfl <| hl_new (on_alloc) rfl rfl rfl fun b12 =>  ?_
    refine hl_u0 (on_storeW (vs := entV x qx) rfl rfl (by simp [entV]) (by simp [entV]) (by simp [entV, Value.oneCell'])) rfl rfl ?_
    have hlk : lookS S (16 * j) = if x.1 = 2 ∧ x.2.2.1 = 0 then some x else none := by unfold lookS; rw [← hT, hd]
    refine hl_v (ov_assign rfl) rfl <| hl_v (ov_assign rfl) rfl <| zn <| hc_seq <| ?_
    rcases b with _ | y
    · dsimp only [fndP]
      refine hc_quiet mixed (by kernel_rfl) <| hq_v (ov_move rfl) rfl <| hq_v (ov_eql rfl rfl) rfl <| hq_v (ov_move rfl) rfl <| ?_
      refine hq_partT (t := 48) rfl (rfl) ?_
      refine hq_on rfl rfl <| hq_v (ov_fieldA rfl) rfl <| hq_on rfl rfl <| hq_v (ov_load rfl (CellIs.blk rfl)) rfl <| hq_on rfl rfl <| hq_v (ov_eql rfl rfl) rfl <| hq_v (ov_pickT rfl rfl) rfl <| hq_v (ov_move rfl) rfl <| ?_
      refine hq_part (t := 53) rfl (fun c1 => ?_) (fun c1 => ?_)
      · have c1 : x.1 = 2 := by omega
        refine hq_on rfl rfl <| hq_v (ov_fieldA rfl) rfl <| hq_on rfl rfl <| hq_v (ov_load rfl (CellIs.blk rfl)) rfl <| hq_on rfl rfl <| hq_v (ov_eql rfl rfl) rfl <| hq_v (ov_pickT rfl rfl) rfl <| hq_v (ov_move rfl) rfl <| ?_
        refine hq_part (t := 58) rfl (fun c2 => ?_) (fun c2 => ?_)
        · have c2 : x.2.2.1 = 0 := by omega
          rw [hlk, if_pos ⟨c1, c2⟩] at hbs
          have hnew : some (x, 16 * j) = bestS S (j + 1) := hbs.symm
          refine hq_on rfl rfl <| hq_v (ov_move rfl) rfl <| hq_on rfl rfl <| hq_v (ov_eqlP rfl rfl) rfl <| hq_on rfl rfl <| hq_v (ov_move rfl) rfl <| ?_
          refine hq_off rfl rfl rfl rfl rfl rfl <| hq_off rfl rfl rfl rfl rfl rfl <| hq_off rfl rfl rfl rfl rfl rfl <| hq_off rfl rfl rfl rfl rfl rfl <| hq_off rfl rfl rfl rfl rfl rfl <| hq_off rfl rfl rfl rfl rfl rfl <| ?_
          refine hq_off rfl rfl rfl rfl rfl rfl <| hq_off rfl rfl rfl rfl rfl rfl <| hq_on rfl rfl <| hq_v (ov_pickT rfl rfl) rfl <| hq_v (ov_pickT rfl rfl) rfl <| hq_nil <| hx_then_normal <| ?_
          refine hc_cond_true rfl <| hc_region <| hl_v za10 rfl <| ?_
          refine hl_v (ov_move rfl) rfl <| hl_v (ov_buildSN rfl rfl) rfl <| ?_
          refine hl_new (on_boxN rfl rfl) rfl rfl rfl fun b75 =>  ?_
          refine hl_v (ov_assign rfl) rfl <| hl_nil <| hx_block_normal <| hx_then_normal <| hc_region <| hl_v (ov_add rfl rfl za18) rfl <| ?_
          refine hl_v (ov_move rfl) rfl <| hl_nil <| ?_
          exact hx_next hK1 ((j + 1, some (x, 16 * j), b75, qx)) (⟨hj1, hnew⟩) (by omega) za9 (Ent.trans (b := fndL (x, 16 * j) b75 qx ++ [dsk g S []]) za4 Ent.fold)
        have hkeep : none = bestS S (j + 1) := by rw [hbs, hlk, if_neg (by omega)]; rfl
        refine hq_off rfl rfl rfl rfl rfl rfl <| hq_off rfl rfl rfl rfl rfl rfl <| hq_off rfl rfl rfl rfl rfl rfl <| hq_offU rfl rfl rfl rfl rfl <| hq_offU rfl rfl rfl rfl rfl <| hq_offU rfl rfl rfl rfl rfl <| ?_
        refine hq_offU rfl rfl rfl rfl rfl <| hq_offU rfl rfl rfl rfl rfl <| hq_offU rfl rfl rfl rfl rfl <| hq_offU rfl rfl rfl rfl rfl <| hq_offU rfl rfl rfl rfl rfl <| hq_off rfl rfl rfl rfl rfl rfl <| ?_
        refine hq_v (ov_pickF rfl rfl) rfl <| hq_nil <| hx_then_normal <| hc_cond_false rfl <| hc_skip <| hx_block_normal <| ?_
        refine hx_then_normal <| hc_region <| hl_v (ov_add rfl rfl za18) rfl <| ?_
        refine hl_v (ov_move rfl) rfl <| hl_nil <| ?_
        exact hx_next hK1 ((j + 1, none, f, q)) (⟨hj1, hkeep⟩) (by omega) za9 (Ent.trans (b := [] ++ [dsk g S []]) za4 (Ent.fold (L := [])))
      have hkeep : none = bestS S (j + 1) := by rw [hbs, hlk, if_neg (by omega)]; rfl
      refine hq_off rfl rfl rfl rfl rfl rfl <| hq_off rfl rfl rfl rfl rfl rfl <| hq_off rfl rfl rfl rfl rfl rfl <| hq_v (ov_pickF rfl rfl) rfl <| hq_v (ov_move rfl) rfl <| hq_off rfl rfl rfl rfl rfl rfl <| ?_
      refine hq_off rfl rfl rfl rfl rfl rfl <| hq_off rfl rfl rfl rfl rfl rfl <| hq_offU rfl rfl rfl rfl rfl <| hq_offU rfl rfl rfl rfl rfl <| hq_offU rfl rfl rfl rfl rfl <| hq_offU rfl rfl rfl rfl rfl <| ?_
      refine hq_offU rfl rfl rfl rfl rfl <| hq_offU rfl rfl rfl rfl rfl <| hq_offU rfl rfl rfl rfl rfl <| hq_offU rfl rfl rfl rfl rfl <| hq_off rfl rfl rfl rfl rfl rfl <| hq_v (ov_pickF rfl rfl) rfl <| ?_
      refine hq_nil <| hx_then_normal <| hc_cond_false rfl <| hc_skip <| hx_block_normal <| hx_then_normal <| ?_
      refine hc_region <| hl_v (ov_add rfl rfl za18) rfl <| ?_
      refine hl_v (ov_move rfl) rfl <| hl_nil <| ?_
      exact hx_next hK1 ((j + 1, none, f, q)) (⟨hj1, hkeep⟩) (by omega) za9 (Ent.trans (b := [] ++ [dsk g S []]) za4 (Ent.fold (L := [])))
    dsimp only [fndP, fndO]
    refine HC.ent (Ent.trans (b := stars (fndL y f q) :: [dsk g S [], blk b12 172 (entV x qx), row qx.1 5 1 x.2.2.2.length qx.2 (x.2.2.2.map u8v)]) za4 Ent.flat) ?_
    refine hc_quiet mixed (by kernel_rfl) <| hq_v (ov_move rfl) rfl <| hq_v (ov_eql rfl rfl) rfl <| hq_v (ov_move rfl) rfl <| ?_
    refine hq_partT (t := 48) rfl (rfl) ?_
    refine hq_on rfl rfl <| hq_v (ov_fieldA rfl) rfl <| hq_on rfl rfl <| hq_v (ov_load rfl (CellIs.blk rfl)) rfl <| hq_on rfl rfl <| hq_v (ov_eql rfl rfl) rfl <| hq_v (ov_pickT rfl rfl) rfl <| hq_v (ov_move rfl) rfl <| ?_
    refine hq_part (t := 53) rfl (fun c1 => ?_) (fun c1 => ?_)
    · have c1 : x.1 = 2 := by omega
      refine hq_on rfl rfl <| hq_v (ov_fieldA rfl) rfl <| hq_on rfl rfl <| hq_v (ov_load rfl (CellIs.blk rfl)) rfl <| hq_on rfl rfl <| hq_v (ov_eql rfl rfl) rfl <| hq_v (ov_pickT rfl rfl) rfl <| hq_v (ov_move rfl) rfl <| ?_
      refine hq_part (t := 58) rfl (fun c2 => ?_) (fun c2 => ?_)
      · have c2 : x.2.2.1 = 0 := by omega
        rw [hlk, if_pos ⟨c1, c2⟩] at hbs
        have hbs : bestS S (j + 1) = if y.1.2.1 < x.2.1 then some (x, 16 * j) else some y := hbs
        refine hq_on rfl rfl <| hq_v (ov_move rfl) rfl <| hq_on rfl rfl <| hq_v (ov_eqlP rfl rfl) rfl <| hq_on rfl rfl <| hq_v (ov_move rfl) rfl <| ?_
        refine hq_on rfl rfl <| hq_v (ov_fieldA rfl) rfl <| hq_on rfl rfl <| hq_v (ov_load rfl (CellIs.blk rfl)) rfl <| hq_on rfl rfl <| hq_v (ov_move rfl) rfl <| hq_on rfl rfl <| hq_v (ov_nil rfl) rfl <| hq_on rfl rfl <| hq_v (ov_fieldA rfl) rfl <| hq_on rfl rfl <| hq_v (ov_fieldA rfl) rfl <| ?_
        refine hq_on rfl rfl <| hq_v (ov_load rfl (CellIs.blk rfl)) rfl <| hq_on rfl rfl <| hq_v (ov_gtr rfl rfl) rfl <| hq_on rfl rfl <| hq_v (ov_pickF rfl rfl) rfl <| hq_v (ov_pickT rfl rfl) rfl <| hq_nil <| hx_then_normal <| ?_
        refine hc_cond rfl (fun c3 => ?_) (fun c3 => ?_)
        · have hnew : some (x, 16 * j) = bestS S (j + 1) := by rw [hbs, if_pos (by omega)]
          refine hc_region <| hl_v za10 rfl <| ?_
          refine hl_v (ov_move rfl) rfl <| hl_v (ov_buildSN rfl rfl) rfl <| ?_
          refine hl_new (on_boxN rfl rfl) rfl rfl rfl fun b75 =>  ?_
          refine hl_v (ov_assign rfl) rfl <| hl_nil <| hx_block_normal <| hx_then_normal <| hc_region <| hl_v (ov_add rfl rfl za18) rfl <| ?_
          refine hl_v (ov_move rfl) rfl <| hl_nil <| ?_
          exact hx_next hK1 ((j + 1, some (x, 16 * j), b75, qx)) (⟨hj1, hnew⟩) (by omega) za9 (Ent.trans (b := fndL (x, 16 * j) b75 qx ++ [dsk g S []]) za4 Ent.fold)
        have hkeep : some y = bestS S (j + 1) := by rw [hbs, if_neg (by omega)]
        refine hc_skip <| hx_block_normal <| hx_then_normal <| hc_region <| hl_v (ov_add rfl rfl za18) rfl <| ?_
        refine hl_v (ov_move rfl) rfl <| hl_nil <| ?_
        exact hx_next hK1 ((j + 1, some y, f, q)) (⟨hj1, hkeep⟩) (by omega) za9 (Ent.trans (b := fndL y f q ++ [dsk g S []]) za4 Ent.fold)
      have hkeep : some y = bestS S (j + 1) := by rw [hbs, hlk, if_neg (by omega)]; rfl
      refine hq_off rfl rfl rfl rfl rfl rfl <| hq_off rfl rfl rfl rfl rfl rfl <| hq_off rfl rfl rfl rfl rfl rfl <| hq_offU rfl rfl rfl rfl rfl <| hq_offU rfl rfl rfl rfl rfl <| hq_offU rfl rfl rfl rfl rfl <| ?_
      refine hq_offU rfl rfl rfl rfl rfl <| hq_offU rfl rfl rfl rfl rfl <| hq_offU rfl rfl rfl rfl rfl <| hq_offU rfl rfl rfl rfl rfl <| hq_offU rfl rfl rfl rfl rfl <| hq_off rfl rfl rfl rfl rfl rfl <| ?_
      refine hq_v (ov_pickF rfl rfl) rfl <| hq_nil <| hx_then_normal <| hc_cond_false rfl <| hc_skip <| hx_block_normal <| ?_
      refine hx_then_normal <| hc_region <| hl_v (ov_add rfl rfl za18) rfl <| ?_
      refine hl_v (ov_move rfl) rfl <| hl_nil <| ?_
      exact hx_next hK1 ((j + 1, some y, f, q)) (⟨hj1, hkeep⟩) (by omega) za9 (Ent.trans (b := fndL y f q ++ [dsk g S []]) za4 Ent.fold)
    have hkeep : some y = bestS S (j + 1) := by rw [hbs, hlk, if_neg (by omega)]; rfl
    refine hq_off rfl rfl rfl rfl rfl rfl <| hq_off rfl rfl rfl rfl rfl rfl <| hq_off rfl rfl rfl rfl rfl rfl <| hq_v (ov_pickF rfl rfl) rfl <| hq_v (ov_move rfl) rfl <| hq_off rfl rfl rfl rfl rfl rfl <| ?_
    refine hq_off rfl rfl rfl rfl rfl rfl <| hq_off rfl rfl rfl rfl rfl rfl <| hq_offU rfl rfl rfl rfl rfl <| hq_offU rfl rfl rfl rfl rfl <| hq_offU rfl rfl rfl rfl rfl <| hq_offU rfl rfl rfl rfl rfl <| ?_
    refine hq_offU rfl rfl rfl rfl rfl <| hq_offU rfl rfl rfl rfl rfl <| hq_offU rfl rfl rfl rfl rfl <| hq_offU rfl rfl rfl rfl rfl <| hq_off rfl rfl rfl rfl rfl rfl <| hq_v (ov_pickF rfl rfl) rfl <| ?_
    refine hq_nil <| hx_then_normal <| hc_cond_false rfl <| hc_skip <| hx_block_normal <| hx_then_normal <| ?_
    refine hc_region <| hl_v (ov_add rfl rfl za18) rfl <| ?_
    refine hl_v (ov_move rfl) rfl <| hl_nil <| ?_
    exact hx_next hK1 ((j + 1, some y, f, q)) (⟨hj1, hkeep⟩) (by omega) za9 (Ent.trans (b := fndL y f q ++ [dsk g S []]) za4 Ent.fold)
  obtain rfl : j = 2 := by omega
  refine hc_exit <| hx_then_exit <| hx_then_exit <| hx_block_out <| hx_then_normal <| hc_seq <| ?_
  refine hc_region <| hl_v (ov_move rfl) rfl <| hl_v (ov_assign rfl) rfl <| zn <| hc_ret <| ?_
  exact results_1 (.inr rfl) rfl rfl fun w' H' => ⟨(f, q), by rw [hb]; rfl, H'.ent (Ent.trans (b := stars (fndO (newS S) f q) :: [dsk g S []]) (by rw [hb]; exact za4) (Ent.trans Ent.flat (Ent.perm List.perm_append_comm)))⟩
end Go.Proofs.YtjlolpmmpafjeaaGreat
set_option linter.unusedVariables false
set_option linter.unusedSimpArgs false
namespace Go.Proofs.YtjlolpmmpafjeaaGreat
open Slk
theorem newest_spec (D : Nat → Prop) (w : World) (g : Nat) (S : List Sec) (hS : 32 ≤ S.length) (H : Own D w w [dsk g S []]) :
    Calls Tryz.prog 112 #[.pointer (some ⟨g, 0, none⟩)] w fun e w' => ∃ s : Nat × Option Addr × Nat, e = .returned (fndP (newS S) s.1) ∧ Own D w w' (dsk g S [] :: fndO (newS S) s.1 s.2) := by
  refine hc_enter (vs := [.pointer (some ⟨g, 0, none⟩)]) Tryz.func112 rfl _ Tryz.ntmps112 rfl H ?_
  simp only [argSlots, Nat.zero_add]
  refine zg <| hl_v (ov_assign rfl) rfl <| zn <| hc_seq <| ?_
  refine hc_region <| hl_v (ov_move rfl) rfl <| hl_new (on_buildSliceN rfl rfl rfl) rfl rfl rfl fun b4 =>  ?_
  refine hl_call (σ := Nat × Option Addr × Nat) Tryz.call143 rfl rfl (fun w1 H1 => Own.callpx (dsk g S []) H1 fun D' hold hin H2 => look_spec D' w1 g b4 S hS (hin _ fun h hs _ => stars_blk hs) H2) ?_
  intro s
  refine hl_v (ov_assign rfl) rfl <| zn <| hc_ret <| ?_
  exact results_1 (.inr rfl) rfl rfl fun w' H' => ⟨s, rfl, H'.ent (Ent.trans (b := dsk g S [] :: fndO (newS S) s.1 s.2 ++ [blk b4 3 [.int .i64 0, .int .i64 16]]) (fun _ h => h) Ent.append_l)⟩
def loadE (S : List Sec) : Nat × List UInt8 × Int := match newS S with
  | none => (0, [], 13)
  | some y => (y.1.2.1, y.1.2.2.2, 0)
theorem Load_spec (D : Nat → Prop) (w : World) (g : Nat) (S : List Sec) (hS : 32 ≤ S.length) (H : Own D w w [dsk g S []]) :
    Calls Tryz.prog 73 #[.pointer (some ⟨g, 0, none⟩)] w fun e w' => ∃ q : Option Addr × Nat, e = .returned (.tuple #[.int .u32 (loadE S).1, .slice q.1 (loadE S).2.1.length q.2, .int .i64 (loadE S).2.2]) ∧ Own D w w' [dsk g S [], row q.1 5 1 (loadE S).2.1.length q.2 ((loadE S).2.1.map u8v)] := by
  refine hc_enter (vs := [.pointer (some ⟨g, 0, none⟩)]) Tryz.func73 rfl _ Tryz.ntmps73 rfl H ?_
  simp only [argSlots, Nat.zero_add]
  refine zg <| hl_v (ov_assign rfl) rfl <| hl_v (ov_assign rfl) rfl <| hl_v (ov_assign rfl) rfl <| hl_nil <| ?_
  refine hx_then_normal <| hc_seq <| zg <| hl_v (ov_move rfl) rfl <| ?_
  refine hl_c Tryz.call44 rfl rfl (fun w1 H1 => Own.callp (dsk g S []) H1 fun D' hold hin H2 => Len_spec D' w1 g S [] H2) ?_
  refine hl_v (ov_lss rfl rfl) rfl <| zn <| ?_
  refine hc_cond_F rfl ((by omega)) ?_
  refine zk <| zg <| hl_v (ov_move rfl) rfl <| ?_
  refine hl_call (σ := Nat × Option Addr × Nat) Tryz.call112 rfl rfl (fun w1 H1 => Own.callpx (dsk g S []) H1 fun D' hold hin H2 => newest_spec D' w1 g S hS H2) ?_
  intro s
  obtain ⟨f, q⟩ := s
  unfold loadE
  rcases hn : newS S with _ | y
  · dsimp only [fndP, fndO]
    refine hl_v (ov_assign rfl) rfl <| zn <| hc_seq <| zg <| ?_
    refine hl_v (ov_move rfl) rfl <| hl_v (ov_eqlP rfl rfl) rfl <| zn <| ?_
    refine hc_cond_true rfl ?_
    refine zg <| hl_v (ov_assign rfl) rfl <| hl_v (ov_assign rfl) rfl <| hl_v (ov_assign rfl) rfl <| hl_nil <| ?_
    refine hx_then_normal <| hc_ret <| hx_then_ret <| ?_
    exact results_3 (.inr rfl) rfl rfl rfl rfl fun w' H' => ⟨(none, 0), rfl, H'.ent (Ent.trans (b := dsk g S [] :: []) za4 (Ent.cons (Ent.nil_row 5 1)))⟩
  dsimp only [fndP, fndO]
  refine hl_v (ov_assign rfl) rfl <| zn <| hc_seq <| zg <| ?_
  refine hl_v (ov_move rfl) rfl <| hl_v (ov_eqlP rfl rfl) rfl <| zn <| ?_
  refine hc_cond_false rfl ?_
  refine zk <| hc_seq <| hc_quiet mixed (by kernel_rfl) <| hq_v (ov_move rfl) rfl <| hq_v (ov_nil rfl) rfl <| ?_
  refine hq_v (ov_fieldA rfl) rfl <| hq_v (ov_fieldA rfl) rfl <| hq_v (ov_load rfl (CellIs.blk rfl)) rfl <| hq_v (ov_move rfl) rfl <| hq_v (ov_nil rfl) rfl <| hq_v (ov_fieldA rfl) rfl <| ?_
  refine hq_v (ov_fieldA rfl) rfl <| hq_v (ov_load rfl (CellIs.blk rfl)) rfl <| hq_v (ov_assign rfl) rfl <| hq_v (ov_assign rfl) rfl <| hq_v (ov_assign rfl) rfl <| hq_nil <| ?_
  refine hx_then_normal <| hc_ret <| ?_
  exact results_3 (.inr rfl) rfl rfl rfl rfl fun w' H' => ⟨q, rfl, H'.ent za4⟩
end Go.Proofs.YtjlolpmmpafjeaaGreat
set_option linter.unusedVariables false
set_option linter.unusedSimpArgs false
namespace Go.Proofs.YtjlolpmmpafjeaaGreat
open Slk
def atS (S : List Sec) : Nat := match newS S with
  | none => 0
  | some y => if y.2 = 0 then 16 else 0
theorem atS_or (S : List Sec) : atS S = 0 ∨ atS S = 16 := by
  unfold atS; split
  · exact .inl rfl
  split
  · exact .inr rfl
  exact .inl rfl
abbrev snE (a : Nat) (xs : List UInt8) : EntT := (2, a, 0, xs)
def saveS (S : List Sec) (a : Nat) (xs : List UInt8) : List Sec := putS S (atS S) (encE (snE a xs))
theorem Encode_sn (D : Nat → Prop) (w : World) (a : Nat) (v : Value) (xs : List UInt8) (L : List Sec) (n : Nat) (hL : L = encE (snE a xs)) (hn : n = L.length) (ha : a < 4294967296) (hx : xs.length ≤ 4000) (HA : Old D w (Rep.rep xs [v])) :
    Calls Tryz.prog 99 #[.agg #[.int .i64 2, .int .u32 a, .int .u32 0, v]] w fun r w' => ∃ q : Option Addr × Nat, r = .returned (.tuple #[.slice q.1 n q.2, .int .i64 0]) ∧ Own D w w' [row q.1 61 64 n q.2 (L.flatMap secC)] := by
  subst hn; subst hL
  exact Encode_ent D w (snE a xs) ⟨show 2 < 256 by decide, ha, show 0 < 4294967296 by decide, hx⟩ v HA
set_option maxHeartbeats 1000000 in
theorem Save_ok (D : Nat → Prop) (w : World) (g : Nat) (S : List Sec) (a : Nat) (v : Value) (xs : List UInt8) (hS : 32 ≤ S.length) (ha : a < 4294967296) (hl : xs.length ≤ 993) (HA : Old D w (Rep.rep xs [v])) (H : Own D w w [dsk g S []]) :
    Calls Tryz.prog 111 #[.pointer (some ⟨g, 0, none⟩), .int .u32 a, v] w fun e w' => e = .returned (.int .i64 0) ∧ Own D w w' [dsk g (saveS S a xs) []] := by
  obtain ⟨L, hL⟩ : ∃ L, L = encE (snE a xs) := ⟨_, rfl⟩
  have hel : L.length = (15 + xs.length + 62) / 63 := by rw [hL, encE, encS_len, fullB_length]
  obtain ⟨A, cap, rfl, _⟩ := HA.openB
  have hsv : saveS S a xs = putS S (atS S) L := by unfold saveS; rw [hL]
  obtain ⟨n, hn⟩ : ∃ n, n = L.length := ⟨_, rfl⟩
  have hn1 : 1 ≤ n := by omega
  have hn16 : n ≤ 16 := by omega
  have hat := atS_or S
  obtain ⟨at_, hate⟩ : ∃ x, x = atS S := ⟨_, rfl⟩
  rw [← hate] at hat hsv
  have hfit : at_ + L.length ≤ S.length := by omega
  obtain ⟨x0, r, hLr⟩ : ∃ x r, L = x :: r := by
    cases L with
    | nil => simp at hn; omega
    | cons x r => exact ⟨x, r, rfl⟩
  have hrl : r.length = n - 1 := by rw [hn, hLr, List.length_cons]; omega
  have hl0 : 0 < L.length := by omega
  have hL0 : L[0] = x0 := by simp only [hLr, List.getElem_cons_zero]
  refine hc_enter (vs := [.pointer (some ⟨g, 0, none⟩), .int .u32 a, .slice A xs.length cap]) Tryz.func111 rfl _ Tryz.ntmps111 rfl H ?_
  simp only [argSlots, Nat.zero_add]
  refine zg <| hl_v (ov_assign rfl) rfl <| zn <| hc_seq <| ?_
  refine zg <| hl_v (ov_move rfl) rfl <| ?_
  refine hl_c Tryz.call44 rfl rfl (fun w1 H1 => Own.callp (dsk g S []) H1 fun D' hold hin H2 => Len_spec D' w1 g S [] H2) ?_
  refine hl_v (ov_lss rfl rfl) rfl <| zn <| ?_
  refine hc_cond_F rfl ((by omega)) ?_
  refine zk <| zg <| hl_v (ov_move rfl) rfl <| hl_v (ov_move rfl) rfl <| ?_
  refine hl_v (ov_buildSN rfl rfl) rfl <| ?_
  refine hl_call (σ := Option Addr × Nat) Tryz.call99 rfl rfl (fun w1 H1 => Own.callx0 H1 fun D' hold hin H2 => Encode_sn D' w1 a (.slice A xs.length cap) xs L n hL hn ha (by omega) (hold _ HA)) ?_
  intro q
  try rw [List.nil_append]
  refine hl_v (ov_move rfl) rfl <| hl_v (ov_extract rfl rfl) rfl <| hl_v (ov_extract rfl rfl) rfl <| hl_v (ov_assign rfl) rfl <| hl_v (ov_assign rfl) rfl <| hl_nil <| ?_
  refine hx_then_normal <| hc_seq <| zg <| hl_v (ov_move rfl) rfl <| hl_v (ov_neq rfl rfl) rfl <| ?_
  refine zn <| ?_
  refine hc_cond_F rfl ((fun h => h rfl)) ?_
  refine zk <| hc_seq <| zg <| hl_v (ov_move rfl) rfl <| ?_
  refine hl_v za15 rfl <| ?_
  refine hl_v (ov_gtr rfl rfl) rfl <| zn <| ?_
  refine hc_cond_F rfl ((by omega)) ?_
  refine zk <| zg <| hl_v (ov_assign rfl) rfl <| hl_nil <| ?_
  refine hx_then_normal <| hc_seq <| zg <| hl_v (ov_move rfl) rfl <| ?_
  refine hl_call (σ := Nat × Option Addr × Nat) Tryz.call112 rfl rfl (fun w1 H1 => Own.callpx (dsk g S []) H1 fun D' hold hin H2 => newest_spec D' w1 g S hS H2) ?_
  intro s
  obtain ⟨f, qf⟩ := s
  dsimp only
  refine hl_v (ov_assign rfl) rfl <| zn <| ?_
  refine hc_cutK1 (σ := Unit) [0, 7] rfl 9 (fun _u => .int .i64 (at_ : Int)) (fun _u => [row q.1 61 64 n q.2 (L.flatMap secC), dsk g S []]) (fun K1 hK1 => ?_) (fun _u => ?_)
  · unfold atS at hate
    rcases hnw : newS S with _ | y
    · rw [hnw] at hate
      have hate : at_ = 0 := hate
      dsimp only [fndP, fndO]
      refine zg <| hl_v (ov_move rfl) rfl <| hl_v (ov_neqP rfl rfl) rfl <| hl_v (ov_move rfl) rfl <| ?_
      refine hl_off rfl rfl rfl rfl rfl rfl <| hl_off rfl rfl rfl rfl rfl rfl <| hl_off rfl rfl rfl rfl rfl rfl <| hl_off rfl rfl rfl rfl rfl rfl <| hl_off rfl rfl rfl rfl rfl rfl <| hl_v (ov_pickF rfl rfl) rfl <| ?_
      refine zn <| hc_cond_false rfl <| hc_skip <| ?_
      rw [hate] at hK1
      refine hx_cut hK1 (()) za9 za6
    rw [hnw] at hate
    have hate : at_ = if y.2 = 0 then 16 else 0 := hate
    dsimp only [fndP, fndO]
    refine zg <| hl_v (ov_move rfl) rfl <| hl_v (ov_neqP rfl rfl) rfl <| hl_v (ov_move rfl) rfl <| ?_
    refine hl_on rfl rfl <| hl_v (ov_move rfl) rfl <| hl_on rfl rfl <| hl_v (ov_nil rfl) rfl <| hl_on rfl rfl <| hl_v (ov_fieldA rfl) rfl <| hl_on rfl rfl <| hl_v (ov_load rfl (CellIs.blk rfl)) rfl <| hl_on rfl rfl <| hl_v (ov_eql rfl rfl) rfl <| hl_v (ov_pickT rfl rfl) rfl <| ?_
    refine zn <| ?_
    refine hc_cond rfl (fun z => ?_) (fun z => ?_)
    · rw [if_pos (by omega)] at hate
      rw [hate] at hK1
      refine hc_region <| hl_v (ov_assign rfl) rfl <| hl_nil <| ?_
      refine hx_cut hK1 (()) za9 za6
    rw [if_neg (by omega)] at hate
    rw [hate] at hK1
    refine hc_skip <| ?_
    refine hx_cut hK1 (()) za9 za6
  refine hx_then_normal <| hc_seq <| zg <| hl_v (ov_move rfl) rfl <| hl_v za15 rfl <| ?_
  refine hl_v (ov_move rfl) rfl <| zn <| hc_block <| ?_
  refine hc_loopK1 (σ := Nat × List Sec × List (Nat × Sec)) [0, 7, 9, 43] rfl 44 (fun s => .int .i64 (s.1 : Int)) (fun s => [dsk g s.2.1 s.2.2, row q.1 61 64 n q.2 (L.flatMap secC)]) (fun s => s.1 ≤ n ∧ (s.1 < n → s.2 = (S, PW (at_ + 1) r s.1)) ∧ (s.1 = n → s.2 = (putS S (at_ + 1) r, [(at_, x0)]))) (fun s => n - s.1) ((0, S, [])) (⟨Nat.zero_le _, fun _ => rfl, fun h => by omega⟩) rfl za6 ?_
  rintro ⟨i, T, P⟩ hj_ K2 hK2
  dsimp only at hj_ ⊢
  obtain ⟨hi, hlt1, heq1⟩ := hj_
  refine zg <| hl_v (ov_lss rfl rfl) rfl <| zn <| hc_seq <| ?_
  refine hc_cond rfl (fun h => ?_) (fun h => ?_)
  · have hin : i < n := by omega
    have hTP := hlt1 hin
    simp only [Prod.mk.injEq] at hTP
    obtain ⟨rfl, rfl⟩ := hTP
    refine HC.fact (fun w H => Own.factR q.1 H) ?_
    rintro ⟨hpl, _, _, hA⟩
    have hA : isA q.1 := hA (by intro h; have := congrArg List.length h; rw [hpl] at this; simp only [List.length_nil] at this; omega)
    by_cases hlast : i + 1 = n
    · have hi1 : i = r.length := by omega
      refine zk <| hc_seq <| hc_block <| zg <| ?_
      refine hl_v (ov_move rfl) rfl <| hl_v (ov_assign rfl) rfl <| zn <| zg <| ?_
      refine hl_v (ov_move rfl) rfl <| hl_v (ov_add rfl rfl za18) rfl <| ?_
      refine hl_v (ov_move rfl) rfl <| hl_v za15 rfl <| ?_
      refine hl_v (ov_remE (m := 0) (b := n) rfl rfl (by omega) (by rw [hlast, Nat.mod_self])) rfl ?_
      refine hl_v (ov_assign rfl) rfl <| zn <| hc_seq <| zg <| ?_
      refine hl_v (ov_move rfl) rfl <| hl_v (ov_eql rfl rfl) rfl <| zn <| ?_
      refine hc_cond_T rfl ((by rfl)) ?_
      refine zg <| hl_v (ov_move rfl) rfl <| ?_
      refine hl_c Tryz.call24 rfl rfl (fun w1 H1 => Own.callp (dsk g T (PW (at_ + 1) r i)) H1 fun D' hold hin H2 => (Flush_spec D' w1 g T (PW (at_ + 1) r i) (PW_lt (by rw [hLr, List.length_cons] at hfit; omega)) H2)) ?_
      have hfl : settleL (fun _ => true) 0 T (PW (at_ + 1) r i) = putS T (at_ + 1) r := by rw [hi1]; exact PW_done (by omega)
      rw [hfl]
      have hpl2 : (putS T (at_ + 1) r).length = T.length := putS_len (by omega)
      refine hl_v (ov_assign rfl) rfl <| zn <| zg <| hl_v (ov_move rfl) rfl <| ?_
      refine hl_v (ov_neq rfl rfl) rfl <| zn <| ?_
      refine hc_cond_F rfl ((fun h => h rfl)) ?_
      refine zk <| zg <| hl_v (ov_move rfl) rfl <| hl_v (ov_move rfl) rfl <| ?_
      refine hl_v (ov_move rfl) rfl <| ?_
      refine hl_v (ov_add (m := ((at_ : Nat) : Int)) rfl rfl ((wrap_i64 (by omega)).trans (by omega))) rfl ?_
      refine hl_v (ov_move rfl) rfl <| hl_v (ov_move rfl) rfl <| ?_
      refine hl_v (ov_idxS rfl hA rfl 0 rfl (by omega)) rfl ?_
      refine hl_v (ov_loadG (cs := secC x0) rfl (secC_len _) (by rw [← hL0]; exact CellsAre.flat (f := secC) (A := q.1) secC_len hA (i := 0) hl0)) rfl ?_
      refine hl_c Tryz.call23 rfl rfl (fun w1 H1 => Own.callp (dsk g (putS T (at_ + 1) r) []) H1 fun D' hold hin H2 => Write_ok D' w1 g at_ x0 (putS T (at_ + 1) r) [] (by omega) (by decide) H2) ?_
      refine hl_v (ov_assign rfl) rfl <| zn <| zg <| hl_v (ov_move rfl) rfl <| ?_
      refine hl_v (ov_neq rfl rfl) rfl <| zn <| ?_
      refine hc_cond_F rfl ((fun h => h rfl)) ?_
      refine hc_skip <| hx_block_normal <| hx_then_normal <| hc_region <| hl_v (ov_add rfl rfl za18) rfl <| ?_
      refine hl_v (ov_move rfl) rfl <| hl_nil <| ?_
      refine hx_next hK2 ((i + 1, putS T (at_ + 1) r, [(at_, x0)])) (⟨by show i + 1 ≤ n; omega, fun h => by have h : i + 1 < n := h; omega, fun _ => rfl⟩) (by omega) za9 za6
    have hir : i < r.length := by omega
    have hli : i + 1 < L.length := by omega
    have hLi : L[i + 1] = r[i] := by simp only [hLr, List.getElem_cons_succ]
    refine zk <| hc_seq <| hc_block <| zg <| ?_
    refine hl_v (ov_move rfl) rfl <| hl_v (ov_assign rfl) rfl <| zn <| zg <| ?_
    refine hl_v (ov_move rfl) rfl <| hl_v (ov_add rfl rfl za18) rfl <| ?_
    refine hl_v (ov_move rfl) rfl <| hl_v za15 rfl <| ?_
    refine hl_v (ov_remE (m := i + 1) (b := n) rfl rfl (by omega) (Nat.mod_eq_of_lt (by omega)).symm) rfl ?_
    refine hl_v (ov_assign rfl) rfl <| zn <| hc_seq <| zg <| ?_
    refine hl_v (ov_move rfl) rfl <| hl_v (ov_eql rfl rfl) rfl <| zn <| ?_
    refine hc_cond_F rfl ((by omega)) ?_
    refine zk <| zg <| hl_v (ov_move rfl) rfl <| hl_v (ov_move rfl) rfl <| ?_
    refine hl_v (ov_move rfl) rfl <| ?_
    refine hl_v (ov_add (m := ((at_ + 1 + i : Nat) : Int)) rfl rfl ((wrap_i64 (by omega)).trans (by omega))) rfl ?_
    refine hl_v (ov_move rfl) rfl <| hl_v (ov_move rfl) rfl <| ?_
    refine hl_v (ov_idxS rfl hA rfl (i + 1) rfl (by omega)) rfl ?_
    refine hl_v (ov_loadG (cs := secC r[i]) rfl (secC_len _) (by rw [← hLi]; exact CellsAre.flat (f := secC) (A := q.1) secC_len hA (i := i + 1) hli)) rfl ?_
    refine hl_c Tryz.call23 rfl rfl (fun w1 H1 => Own.callp (dsk g T (PW (at_ + 1) r i)) H1 fun D' hold hin H2 => Write_ok D' w1 g (at_ + 1 + i) r[i] T (PW (at_ + 1) r i) (by omega) (by have := PW_len (at_ := at_ + 1) (l := r) (i := i); omega) H2) ?_
    rw [← PW_succ hir]
    refine hl_v (ov_assign rfl) rfl <| zn <| zg <| hl_v (ov_move rfl) rfl <| ?_
    refine hl_v (ov_neq rfl rfl) rfl <| zn <| ?_
    refine hc_cond_F rfl ((fun h => h rfl)) ?_
    refine hc_skip <| hx_block_normal <| hx_then_normal <| hc_region <| hl_v (ov_add rfl rfl za18) rfl <| ?_
    refine hl_v (ov_move rfl) rfl <| hl_nil <| ?_
    refine hx_next hK2 ((i + 1, T, PW (at_ + 1) r (i + 1))) (⟨by show i + 1 ≤ n; omega, fun _ => rfl, fun h => by have h : i + 1 = n := h; omega⟩) (by omega) za9 za6
  have hin : i = n := by omega
  have hTP := heq1 hin
  simp only [Prod.mk.injEq] at hTP
  obtain ⟨rfl, rfl⟩ := hTP
  have hpl2 : (putS S (at_ + 1) r).length = S.length := putS_len (by omega)
  have hfin : settleL (fun _ => true) 0 (putS S (at_ + 1) r) [(at_, x0)] = saveS S a xs := by
    rw [hsv, hLr, ← put_first (by rw [← hLr]; exact hfit)]; rfl
  refine hc_exit <| hx_then_exit <| hx_then_exit <| hx_block_out <| hx_then_normal <| hc_seq <| ?_
  refine hc_region <| hl_v (ov_move rfl) rfl <| ?_
  refine hl_c Tryz.call24 rfl rfl (fun w1 H1 => Own.callp (dsk g (putS S (at_ + 1) r) [(at_, x0)]) H1 fun D' hold hin H2 => Flush_spec D' w1 g (putS S (at_ + 1) r) [(at_, x0)] (fun p hp => by obtain rfl := List.mem_singleton.1 hp; show at_ < _; omega) H2) ?_
  rw [hfin]
  refine hl_v (ov_assign rfl) rfl <| zn <| hc_ret <| ?_
  exact results_1 (.inr rfl) rfl rfl fun w' H' => ⟨rfl, H'.ent za4⟩
end Go.Proofs.YtjlolpmmpafjeaaGreat
set_option linter.unusedVariables false
set_option linter.unusedSimpArgs false
namespace Go.Proofs.YtjlolpmmpafjeaaGreat
open Slk
theorem dec_first {s : Sec} {r : List Sec} (h : s[0] ≠ 87) : decS (s :: r) = none := by
  unfold decS; exact if_neg (fun hh => h (UInt8.toNat_inj.1 hh.1))
theorem look_none {S : List Sec} {at_ : Nat} {s : Sec} (h : S[at_]? = some s) (hs : s[0] ≠ 87) : lookS S at_ = none := by
  obtain ⟨hl, rfl⟩ := List.getElem?_eq_some_iff.1 h
  unfold lookS
  rw [List.drop_eq_getElem_cons hl, List.take_succ_cons, dec_first hs]
theorem look_put {S : List Sec} {at_ : Nat} {e : EntT} (hok : okE e) (h1 : e.1 = 2) (h2 : e.2.2.1 = 0) (hl : (encE e).length ≤ 16) (hS : at_ + 16 ≤ S.length) : lookS (putS S at_ (encE e)) at_ = some e := by
  have : ((putS S at_ (encE e)).drop at_).take 16 = encE e ++ (S.drop (at_ + (encE e).length)).take (16 - (encE e).length) := by
    unfold putS
    rw [List.append_assoc, List.drop_left' za26, List.take_append, List.take_of_length_le hl]
  unfold lookS
  rw [this, decS_enc e hok]
  exact if_pos ⟨h1, h2⟩
theorem look_other {S : List Sec} {at_ at2 : Nat} {l : List Sec} (h : at_ + l.length ≤ S.length) (h1 : at2 + 16 ≤ at_ ∨ at_ + l.length ≤ at2) : lookS (putS S at_ l) at2 = lookS S at2 := by
  have : ((putS S at_ l).drop at2).take 16 = (S.drop at2).take 16 := by
    refine List.ext_getElem? fun i => ?_
    rw [List.getElem?_take, List.getElem?_take]
    split
    · rw [List.getElem?_drop, List.getElem?_drop, putS_get h]
      rcases h1 with h1 | h1
      · rw [if_pos (by omega)]
      · rw [if_neg (by omega), if_neg (by omega)]
    · rfl
  unfold lookS
  rw [this]
theorem encE_sn {a : Nat} {xs : List UInt8} (hx : xs.length ≤ 993) : (encE (snE a xs)).length ≤ 16 ∧ 1 ≤ (encE (snE a xs)).length := by
  rw [encE, encS_len, fullB_length]
  show (15 + xs.length + 62) / 63 ≤ 16 ∧ 1 ≤ (15 + xs.length + 62) / 63
  omega
theorem snE_ok {a : Nat} {xs : List UInt8} (ha : a < 4294967296) (hx : xs.length ≤ 993) : okE (snE a xs) := ⟨show 2 < 256 by decide, ha, show 0 < 4294967296 by decide, show xs.length ≤ 4000 by omega⟩
section
variable {S : List Sec} {a : Nat} {xs : List UInt8}
theorem save_len (hS : 32 ≤ S.length) (hx : xs.length ≤ 993) : (saveS S a xs).length = S.length := by
  have := atS_or S
  have := (encE_sn (a := a) hx).1
  exact putS_len (by omega)
theorem save_look (hS : 32 ≤ S.length) (ha : a < 4294967296) (hx : xs.length ≤ 993) : lookS (saveS S a xs) (atS S) = some (snE a xs) := by
  have := atS_or S
  exact look_put (snE_ok ha hx) rfl rfl (encE_sn hx).1 (by omega)
theorem save_other (hS : 32 ≤ S.length) (hx : xs.length ≤ 993) {at2 : Nat} (h2 : at2 = 0 ∨ at2 = 16) (hne : at2 ≠ atS S) : lookS (saveS S a xs) at2 = lookS S at2 := by
  have := atS_or S
  have := (encE_sn (a := a) hx).1
  exact look_other (by omega) (by omega)
theorem save_get (hS : 32 ≤ S.length) (hx : xs.length ≤ 993) {at2 i : Nat} (h2 : at2 = 0 ∨ at2 = 16) (hne : at2 ≠ atS S) (hi : at2 ≤ i ∧ i < at2 + 16) : (saveS S a xs)[i]? = S[i]? := by
  have := atS_or S
  have := (encE_sn (a := a) hx).1
  unfold saveS
  rw [putS_get (by omega)]
  rcases Nat.lt_or_ge i (atS S) with h | h
  · rw [if_pos h]
  · rw [if_neg (by omega), if_neg (by omega)]
end
theorem newS_eq (S : List Sec) : newS S = pickS (pickS none 0 (lookS S 0)) 16 (lookS S 16) := rfl
theorem blank_look {n at_ : Nat} (h : at_ < n) : lookS (List.replicate n zeroSec) at_ = none :=
  look_none (s := zeroSec) (by rw [List.getElem?_replicate, if_pos h]) (by decide)
theorem blank_new {n : Nat} (h : 32 ≤ n) : newS (List.replicate n zeroSec) = none := by
  rw [newS_eq, blank_look (by omega), blank_look (by omega)]; rfl
theorem atS_none {S : List Sec} (h : newS S = none) : atS S = 0 := by unfold atS; rw [h]
theorem atS_some {S : List Sec} {y : EntT × Nat} (h : newS S = some y) : atS S = if y.2 = 0 then 16 else 0 := by unfold atS; rw [h]
theorem loadE_none {S : List Sec} (h : newS S = none) : loadE S = (0, [], 13) := by unfold loadE; rw [h]
theorem loadE_some {S : List Sec} {y : EntT × Nat} (h : newS S = some y) : loadE S = (y.1.2.1, y.1.2.2.2, 0) := by unfold loadE; rw [h]
theorem Load_is (D : Nat → Prop) (w : World) (g : Nat) (S : List Sec) (a : Nat) (xs : List UInt8) (er : Int) (hL : loadE S = (a, xs, er)) (hS : 32 ≤ S.length) (H : Own D w w [dsk g S []]) :
    Calls Tryz.prog 73 #[.pointer (some ⟨g, 0, none⟩)] w fun e w' => ∃ q : Option Addr × Nat, e = .returned (.tuple #[.int .u32 a, .slice q.1 xs.length q.2, .int .i64 er]) ∧ Own D w w' [dsk g S [], row q.1 5 1 xs.length q.2 (xs.map u8v)] := by
  have h := Load_spec D w g S hS H
  rw [hL] at h
  exact h
end Go.Proofs.YtjlolpmmpafjeaaGreat
