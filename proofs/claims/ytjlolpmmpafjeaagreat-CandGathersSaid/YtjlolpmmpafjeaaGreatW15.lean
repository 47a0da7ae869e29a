import Derived.Test.YtjlolpmmpafjeaaGreatW14
import Derived.Test.YtjlolpmmpafjeaaGreatW02
set_option linter.unusedVariables false
set_option linter.unusedSimpArgs false
namespace Go.Proofs.YtjlolpmmpafjeaaGreat
open Slk
/-! ### An entry's sectors -/
def secL (m : UInt8) (c : List UInt8) : List UInt8 := m :: (c ++ List.replicate (63 - c.length) 0)
theorem secL_length (m : UInt8) (c : List UInt8) (h : c.length ≤ 63) : (secL m c).length = 64 := by
  simp [secL]; omega
def piece (F : List UInt8) (k : Nat) : List UInt8 := (F.drop (63 * k)).take 63
theorem piece_length (F : List UInt8) (k : Nat) : (piece F k).length = min 63 (F.length - 63 * k) := by simp [piece]
def markK (k : Nat) : UInt8 := if k = 0 then 87 else 119
def secOf (F : List UInt8) (k : Nat) : Sec := ⟨(secL (markK k) (piece F k)).toArray, by
  rw [List.size_toArray, secL_length _ _ (by rw [piece_length]; omega)]⟩
def secsTo (F : List UInt8) (k : Nat) : List Sec := (List.range k).map (secOf F)
def encS (F : List UInt8) : List Sec := secsTo F ((F.length + 62) / 63)
theorem secsTo_len (F : List UInt8) (k : Nat) : (secsTo F k).length = k := by simp [secsTo]
theorem secsTo_snoc (F : List UInt8) (k : Nat) : secsTo F (k + 1) = secsTo F k ++ [secOf F k] := by simp [secsTo, List.range_succ]
theorem secOf_cells (F : List UInt8) (k : Nat) : secC (secOf F k) = .int .u8 (markK k).toNat :: ((piece F k).map u8v ++ List.replicate (63 - (piece F k).length) (.int .u8 0)) := by
  show ((secL (markK k) (piece F k)).toArray.toList.map u8v) = _
  simp [secL, u8v]
theorem fill_sec1 (s : Sec) : fillL (fun j => some (j * 64, 64)) (zerosL (List.replicate 64 (.int .u8 0)) 1) [(0, .agg (secC s).toArray)] = some (secC s) := by
  simp only [fillL, Value.cells, List.size_toArray, secC_len, Nat.zero_mul]
  rw [if_pos ⟨trivial, by rw [zerosL_length]; simp⟩, setSeg_all (by rw [secC_len, zerosL_length]; simp)]
theorem copy_piece (m : Value) (F : List UInt8) (k : Nat) : setSeg (m :: List.replicate 63 (.int .u8 0)) (0 + 1 * 1) ((piece F k).map u8v) = m :: ((piece F k).map u8v ++ List.replicate (63 - (piece F k).length) (.int .u8 0)) := by
  have hl : (piece F k).length ≤ 63 := by rw [piece_length]; omega
  have := setSeg_mid [m] (List.replicate (piece F k).length (.int .u8 0)) (List.replicate (63 - (piece F k).length) (.int .u8 0)) ((piece F k).map u8v) (0 + 1 * 1) rfl (by simp)
  rw [List.append_assoc, List.replicate_append_replicate, show (piece F k).length + (63 - (piece F k).length) = 63 by omega] at this
  simpa using this
theorem take_map_u8 (F : List UInt8) (k m : Nat) (hm : m = min 63 (F.length - 63 * k)) : (piece F k).map u8v = ((F.map u8v).drop (63 * k * 1)).take (m * 1) := by
  subst hm
  rw [Nat.mul_one, Nat.mul_one, ← List.map_drop, ← List.map_take, piece]
  congr 1
  rcases Nat.le_total 63 (F.length - 63 * k) with h | h
  · rw [Nat.min_eq_left h]
  rw [Nat.min_eq_right h, List.take_of_length_le (by simp; omega), List.take_of_length_le (by simp)]
def encL (bo : Nat) (A : Option Addr) (c : Nat) (F : List UInt8) (n k : Nat) : List HProp :=
  [exS (fun q : Option Addr × Nat => [blk bo 53 [.slice q.1 k q.2], row q.1 61 64 k q.2 ((secsTo F k).flatMap secC)]), row A 5 1 n c (F.map u8v)]
theorem one_mark (m : Int) : ∀ v ∈ (Value.int .u8 m :: List.replicate 63 (Value.int .u8 0)), v.oneCell' = true := fun v hv => by
  rcases List.mem_cons.1 hv with rfl | h
  · rfl
  · rw [List.eq_of_mem_replicate h]; rfl
theorem Encode_ok (D : Nat → Prop) (w : World) (k a b : Nat) (v : Value) (xs : List UInt8) (hk : k < 256) (ha : a < 4294967296) (hb : b < 4294967296) (hx : xs.length ≤ 4000) (HA : Old D w (Rep.rep xs [v])) :
    Calls Tryz.prog 99 #[.agg #[.int .i64 k, .int .u32 a, .int .u32 b, v]] w fun e w' => ∃ q : Option Addr × Nat, e = .returned (.tuple #[.slice q.1 ((15 + xs.length + 62) / 63) q.2, .int .i64 0]) ∧ Own D w w' [row q.1 61 64 ((15 + xs.length + 62) / 63) q.2 ((encS (fullB k a b xs)).flatMap secC)] := by
  obtain ⟨Ax, capx, rfl, hc1, hc2, HS⟩ := HA.openB
  obtain ⟨F, hF⟩ : ∃ F, F = fullB k a b xs := ⟨_, rfl⟩
  have hFl : F.length = 15 + xs.length := by rw [hF]; exact fullB_length _ _ _ _
  have hS : encS F = secsTo F ((15 + xs.length + 62) / 63) := by rw [← hFl]; rfl
  rw [← hF, hS]
  obtain ⟨n, hn⟩ : ∃ n, n = 15 + xs.length := ⟨_, rfl⟩
  refine hc_enterM (vs := [.agg #[.int .i64 k, .int .u32 a, .int .u32 b, .slice Ax xs.length capx]]) Tryz.func99 rfl _ Tryz.ntmps99 rfl (Own.start D w) ?_
  simp only [argSlots, Nat.zero_add]
  refine zg <| hl_new (on_boxN rfl rfl) rfl rfl rfl fun b1 =>  ?_
  refine hl_v (ov_assign rfl) rfl <| hl_v (ov_assign rfl) rfl <| zn <| hc_seq <| hc_block <| ?_
  refine zg <| hl_v (ov_fieldA rfl) rfl <| hl_v (ov_load rfl (CellIs.blk rfl)) rfl <| hl_v (ov_lss rfl rfl) rfl <| hl_v (ov_move rfl) rfl <| ?_
  refine hl_partF (t := 11) rfl (by omega) ?_
  refine hl_on rfl rfl <| hl_v (ov_fieldA rfl) rfl <| hl_on rfl rfl <| hl_v (ov_load rfl (CellIs.blk rfl)) rfl <| hl_on rfl rfl <| hl_v (ov_gtr rfl rfl) rfl <| hl_v (ov_pickF rfl rfl) rfl <| hl_v (ov_assign rfl) rfl <| hl_nil <| ?_
  refine hx_then_normal <| ?_
  refine hc_cond_F rfl (by omega) ?_
  refine zg <| hl_v (ov_fieldA rfl) rfl <| hl_v (ov_load rfl (CellIs.blk rfl)) rfl <| hl_v za15 rfl <| ?_
  refine hl_v (ov_gtr rfl rfl) rfl <| hl_v (ov_assign rfl) rfl <| zn <| ?_
  refine hc_cond_F rfl (by omega) ?_
  refine hc_skip <| hx_block_normal <| hx_then_normal <| zg <| hl_new (on_alloc) rfl rfl rfl fun b4 =>  ?_
  refine zn <| hc_seq <| zg <| hl_v (ov_fieldA rfl) rfl <| ?_
  refine hl_v (ov_load rfl (CellIs.blk rfl)) rfl <| hl_v (ov_fieldA rfl) rfl <| hl_v (ov_load rfl (CellIs.blk rfl)) rfl <| hl_v (ov_fieldA rfl) rfl <| hl_v (ov_load rfl (CellIs.blk rfl)) rfl <| hl_v (ov_buildSN rfl rfl) rfl <| ?_
  refine hl_v (ov_fieldA rfl) rfl <| hl_v (ov_load rfl (CellIs.blk rfl)) rfl <| hl_v (ov_buildSN rfl rfl) rfl <| ?_
  refine hl_call (σ := Option Addr × Nat) Tryz.call140 rfl rfl (fun w1 H1 => Own.callx0 H1 fun D' hold hin H2 => bytes_spec D' w1 k a b _ xs hk ha hb hx (hold _ HA)) ?_
  rintro ⟨A, c⟩
  try rw [List.nil_append]
  rw [← hn] at hFl
  rw [← hF, ← hn]
  dsimp only
  refine hl_call (σ := Nat × Nat) Tryz.call139 rfl rfl (fun w1 H1 => Own.callx0 H1 fun D' hold hin H2 => Chunk_spec D' w1 A n c) ?_
  rintro ⟨bs, bn⟩
  try rw [List.nil_append]
  dsimp only
  refine zn <| hc_block <| ?_
  refine HC.fact (fun w H => Own.factR A H) ?_
  rintro ⟨hrl, hnc, hcc, hA⟩
  have hA : isA A := hA (by intro h; have := congrArg List.length h; simp [hFl] at this; omega)
  refine hc_rangeFunc rfl Tryz.call157 rfl ((n + 62) / 63) (pieceV A n) (fun k => blk bs 108 [.slice A n c] :: blk bn 3 [.int .i64 63] :: encL b4 A c F n k) (Ent.trans (b := blk bs 108 [.slice A n c] :: blk bn 3 [.int .i64 63] :: ([blk b4 53 [.slice none 0 0], row none 61 64 0 0 []] ++ [row A 5 1 n c (F.map u8v)])) (Ent.trans za4 (Ent.cons (Ent.cons (Ent.cons (Ent.nil_row _ _))))) (Ent.cons (Ent.cons (Ent.exS (L := fun q : Option Addr × Nat => [blk b4 53 [.slice q.1 0 q.2], row q.1 61 64 0 q.2 ((secsTo F 0).flatMap secC)]) (none, 0))))) (Chunk1_seq D w bs bn A n c hnc (by omega) _) ?_ ?_
  · intro lp dp rec i hi
    have hin : 63 * i < n := by omega
    obtain ⟨m, hm⟩ : ∃ m, m = min 63 (n - 63 * i) := ⟨_, rfl⟩
    have hm63 : m ≤ 63 := by omega
    rw [show pieceV A n i = .slice (A.map (·.add (63 * i))) m m from by unfold pieceV; rw [← hm]]
    have hsn : (secsTo F i).flatMap secC ++ secC (secOf F i) = (secsTo F (i + 1)).flatMap secC := by rw [secsTo_snoc]; simp
    have hsrc : ∀ {l r : List HProp} [PickR l A 5 1 n c (F.map u8v) r], SrcIs D w l (A.map (·.add (63 * i))) ((piece F i).map u8v) := fun {l r} [hp : PickR l A 5 1 n c (F.map u8v) r] => by
      have h := SrcIs.rowCut (D := D) (w0 := w) (h := hp) hA (63 * i) m (by omega) hrl hnc (take_map_u8 F i m (by rw [hFl]; exact hm))
      rw [if_neg (by omega), Nat.mul_one] at h
      exact h
    refine hic_region <| hil_val (ov_assign rfl) rfl rfl rfl <| hil_nil <| hix_begin <| ?_
    refine HCi.ent (l' := exS (fun q : Option Addr × Nat => [blk b4 53 [.slice q.1 i q.2], row q.1 61 64 i q.2 ((secsTo F i).flatMap secC)]) :: loopP lp dp rec .busy :: blk bs 108 [.slice A n c] :: blk bn 3 [.int .i64 63] :: row A 5 1 n c (F.map u8v) :: []) (show Ent (loopP lp dp rec .busy :: blk bs 108 [.slice A n c] :: blk bn 3 [.int .i64 63] :: exS (fun q : Option Addr × Nat => [blk b4 53 [.slice q.1 i q.2], row q.1 61 64 i q.2 ((secsTo F i).flatMap secC)]) :: row A 5 1 n c (F.map u8v) :: []) _ from za4) ?_
    refine HCi.exs ?_
    rintro ⟨A2, c2⟩
    dsimp only [List.cons_append, List.nil_append]
    by_cases hi0 : i = 0
    · have hcp : setSeg (.int .u8 87 :: List.replicate 63 (.int .u8 0)) (0 + 1 * 1) ((piece F i).map u8v) = secC (secOf F i) := by rw [copy_piece, secOf_cells, markK, if_pos hi0]; rfl
      refine hic_block <| hic_seq <| hic_region <| ?_
      refine hil_val (ov_buildA (res := .int .u8 119 :: List.replicate 63 (.int .u8 0)) rfl rfl) rfl rfl rfl ?_
      refine hil_new (on_alloc) rfl rfl rfl fun b6 =>  ?_
      refine hil_u0 (on_storeW (vs := .int .u8 119 :: List.replicate 63 (.int .u8 0)) rfl rfl (by simp) (by simp) (one_mark _)) rfl rfl ?_
      refine hil_nil <| hix_then_normal <| hic_seq <| hic_seq <| hic_region <| hil_val (ov_load rfl (CellIs.blk rfl)) rfl rfl rfl <| ?_
      refine hil_val za15 rfl rfl rfl <| ?_
      refine hil_val (ov_eql rfl rfl) rfl rfl rfl <| hil_nil <| hix_then_normal <| ?_
      refine hic_cond_T rfl (by omega) ?_
      refine hic_region <| hil_val (ov_idxPc rfl rfl rfl rfl rfl) rfl rfl rfl <| ?_
      refine hil_u0 (on_storeE (.int .u8 87 :: List.replicate 63 (.int .u8 0)) rfl rfl (by simp) rfl rfl) rfl rfl ?_
      refine hil_nil <| hix_then_normal <| hic_seq <| hic_region <| ?_
      refine hil_val (ov_sliceP rfl 1 64 (.inr ⟨_, _, rfl, rfl⟩) (.inl ⟨rfl, rfl⟩) (by decide) (by decide) (by decide)) rfl rfl rfl ?_
      refine hil_val (ov_move rfl) rfl rfl rfl <| ?_
      refine hil_u (on_copy (news := (piece F i).map u8v) rfl rfl hsrc (by rw [List.length_map, piece_length, hFl, ← hm, Nat.mul_one]) (by omega) (by rw [List.length_map, piece_length, hFl, ← hm]; simp; omega) (u8_one _)) rfl rfl rfl ?_
      rw [hcp]
      refine hil_nil <| hix_then_normal <| hic_region <| hil_val (ov_load rfl (CellIs.blk rfl)) rfl rfl rfl <| ?_
      refine hil_val (ov_loadW rfl (secC_len (secOf F i))) rfl rfl rfl ?_
      refine hil_new (on_buildSlice (res := secC (secOf F i)) rfl rfl (fill_sec1 _)) rfl rfl rfl (fun bs2 => ?_)
      refine hil_new (on_appendR (A := A2) (news := secC (secOf F i)) rfl rfl (SrcIs.blk (b := bs2)) (by rw [secC_len]) (secC_one _) (by decide) (by omega)) rfl rfl rfl (fun q2 => ?_)
      refine hil_u0 (on_storeN rfl rfl rfl rfl rfl) rfl rfl <| hil_nil <| hix_block_normal <| ?_
      rw [hsn]
      exact hix_end (Ent.trans (b := loopP lp dp rec .busy :: blk bs 108 [.slice A n c] :: blk bn 3 [.int .i64 63] :: ([blk b4 53 [.slice q2.1 (i + 1) q2.2], row q2.1 61 64 (i + 1) q2.2 ((secsTo F (i + 1)).flatMap secC)] ++ [row A 5 1 n c (F.map u8v)])) za4 (Ent.cons (Ent.cons (Ent.cons (Ent.exS (L := fun q : Option Addr × Nat => [blk b4 53 [.slice q.1 (i + 1) q.2], row q.1 61 64 (i + 1) q.2 ((secsTo F (i + 1)).flatMap secC)]) q2)))))
    have hcp : setSeg (.int .u8 119 :: List.replicate 63 (.int .u8 0)) (0 + 1 * 1) ((piece F i).map u8v) = secC (secOf F i) := by rw [copy_piece, secOf_cells, markK, if_neg hi0]; rfl
    refine hic_block <| hic_seq <| hic_region <| ?_
    refine hil_val (ov_buildA (res := .int .u8 119 :: List.replicate 63 (.int .u8 0)) rfl rfl) rfl rfl rfl ?_
    refine hil_new (on_alloc) rfl rfl rfl fun b6 =>  ?_
    refine hil_u0 (on_storeW (vs := .int .u8 119 :: List.replicate 63 (.int .u8 0)) rfl rfl (by simp) (by simp) (one_mark _)) rfl rfl ?_
    refine hil_nil <| hix_then_normal <| hic_seq <| hic_seq <| hic_region <| hil_val (ov_load rfl (CellIs.blk rfl)) rfl rfl rfl <| ?_
    refine hil_val za15 rfl rfl rfl <| ?_
    refine hil_val (ov_eql rfl rfl) rfl rfl rfl <| hil_nil <| hix_then_normal <| ?_
    refine hic_cond_F rfl (by omega) ?_
    refine hic_skip <| hix_then_normal <| hic_seq <| hic_region <| ?_
    refine hil_val (ov_sliceP rfl 1 64 (.inr ⟨_, _, rfl, rfl⟩) (.inl ⟨rfl, rfl⟩) (by decide) (by decide) (by decide)) rfl rfl rfl ?_
    refine hil_val (ov_move rfl) rfl rfl rfl <| ?_
    refine hil_u (on_copy (news := (piece F i).map u8v) rfl rfl hsrc (by rw [List.length_map, piece_length, hFl, ← hm, Nat.mul_one]) (by omega) (by rw [List.length_map, piece_length, hFl, ← hm]; simp; omega) (u8_one _)) rfl rfl rfl ?_
    rw [hcp]
    refine hil_nil <| hix_then_normal <| hic_region <| hil_val (ov_load rfl (CellIs.blk rfl)) rfl rfl rfl <| ?_
    refine hil_val (ov_loadW rfl (secC_len (secOf F i))) rfl rfl rfl ?_
    refine hil_new (on_buildSlice (res := secC (secOf F i)) rfl rfl (fill_sec1 _)) rfl rfl rfl (fun bs2 => ?_)
    refine hil_new (on_appendR (A := A2) (news := secC (secOf F i)) rfl rfl (SrcIs.blk (b := bs2)) (by rw [secC_len]) (secC_one _) (by decide) (by omega)) rfl rfl rfl (fun q2 => ?_)
    refine hil_u0 (on_storeN rfl rfl rfl rfl rfl) rfl rfl <| hil_nil <| hix_block_normal <| ?_
    rw [hsn]
    exact hix_end (Ent.trans (b := loopP lp dp rec .busy :: blk bs 108 [.slice A n c] :: blk bn 3 [.int .i64 63] :: ([blk b4 53 [.slice q2.1 (i + 1) q2.2], row q2.1 61 64 (i + 1) q2.2 ((secsTo F (i + 1)).flatMap secC)] ++ [row A 5 1 n c (F.map u8v)])) za4 (Ent.cons (Ent.cons (Ent.cons (Ent.exS (L := fun q : Option Addr × Nat => [blk b4 53 [.slice q.1 (i + 1) q.2], row q.1 61 64 (i + 1) q.2 ((secsTo F (i + 1)).flatMap secC)]) q2)))))
  intro dp
  refine HXi.ent (l' := exS (fun q : Option Addr × Nat => [blk b4 53 [.slice q.1 ((n + 62) / 63) q.2], row q.1 61 64 ((n + 62) / 63) q.2 ((secsTo F ((n + 62) / 63)).flatMap secC)]) :: ob dp (.deferred (some [])) :: blk bs 108 [.slice A n c] :: blk bn 3 [.int .i64 63] :: row A 5 1 n c (F.map u8v) :: []) (show Ent (ob dp (.deferred (some [])) :: blk bs 108 [.slice A n c] :: blk bn 3 [.int .i64 63] :: exS (fun q : Option Addr × Nat => [blk b4 53 [.slice q.1 ((n + 62) / 63) q.2], row q.1 61 64 ((n + 62) / 63) q.2 ((secsTo F ((n + 62) / 63)).flatMap secC)]) :: row A 5 1 n c (F.map u8v) :: []) _ from za4) ?_
  refine HXi.exs ?_
  rintro ⟨A2, c2⟩
  dsimp only [List.cons_append, List.nil_append]
  refine hix_block_normal <| hix_then_normalW <| hic_seq <| hic_region <| hil_val (ov_load rfl (CellIs.blk rfl)) rfl rfl rfl <| hil_val (ov_assign rfl) rfl rfl rfl <| ?_
  refine hil_val (ov_assign rfl) rfl rfl rfl <| hil_nil <| hix_then_normal <| hic_ret <| ?_
  exact resultsM_2 (.inr rfl) rfl rfl rfl fun w' H' => ⟨(A2, c2), rfl, H'.ent za4⟩
end Go.Proofs.YtjlolpmmpafjeaaGreat
set_option linter.unusedVariables false
set_option linter.unusedSimpArgs false
namespace Go.Proofs.YtjlolpmmpafjeaaGreat
open Slk
/-! ### Lists of sectors -/
theorem repL_secs : ∀ {S : List Sec} {cs : List Value} {h : Heap}, repL S cs h ↔ cs = S.flatMap secC
  | [], cs, h => Iff.rfl
  | s :: r, cs, h => by
    constructor
    · rintro ⟨c1, c2, rfl, h1, h2⟩
      rw [show c1 = secC s from repL_bytes.1 h1, repL_secs.1 h2, List.flatMap_cons]
    · rintro rfl
      exact ⟨secC s, _, List.flatMap_cons, repL_bytes.2 rfl, repL_secs.2 rfl⟩
theorem _root_.Slk.Old.openS {D : Nat → Prop} {w0 : World} {S : List Sec} {v : Value} (k : Old D w0 (Rep.rep S [v])) :
    ∃ A cap, v = .slice A S.length cap ∧ S.length ≤ cap ∧ cap ≤ 9223372036854775807 ∧ OldS D w0 A (S.flatMap secC) ∧ Old D w0 (rdA A (S.flatMap secC)) := by
  obtain ⟨h, hh, A, cap, e, h1, h2, ecs, k1, k2⟩ := k
  have := repL_secs.1 k1
  subst this
  exact ⟨A, cap, by simpa using e, h1, h2, OldS.of_old ⟨h, hh, k2⟩, ⟨h, hh, k2⟩⟩
theorem flat_isA {S : List Sec} {D : Nat → Prop} {w0 : World} {A : Option Addr} (HS : OldS D w0 A (S.flatMap secC)) {k : Nat} (hk : k < S.length) : isA A := HS.isA (by
  intro h
  have := congrArg List.length h
  rw [List.length_flatMap] at this
  cases S with
  | nil => simp at hk
  | cons s r => simp at this)
theorem cells_sec {S : List Sec} {D : Nat → Prop} {w0 : World} {A : Option Addr} (HS : OldS D w0 A (S.flatMap secC)) {k : Nat} (hk : k < S.length) (l : List HProp) : CellsAre D w0 l (ab A) (ao A + k * 64) (secC S[k]) :=
  CellsAre.sub ((SrcIs.old (l := l) HS).cells (by
    intro h
    have := congrArg List.length h
    cases S with
    | nil => simp at hk
    | cons s r => simp at this)) fun i v hv => by
    have : i < 64 := by
      rcases Nat.lt_or_ge i 64 with h | h
      · exact h
      · rw [List.getElem?_eq_none (by simpa using h)] at hv; cases hv
    rw [flat_at secC_len S k i hk this]; exact hv
theorem cell_sec {S : List Sec} {D : Nat → Prop} {w0 : World} {A : Option Addr} (HS : OldS D w0 A (S.flatMap secC)) {k j : Nat} (hk : k < S.length) (hj : j < 64) (l : List HProp) : CellIs D w0 l (ab A) (ao A + k * 64 + j) (.int .u8 ((S[k])[j].toNat : Int)) :=
  (cells_sec HS hk l).cell (i := j) (secC_at S[k] hj)
theorem Equal_spec (D : Nat → Prop) (w : World) (v1 v2 : Value) (S T : List Sec) (HA : Old D w (Rep.rep S [v1])) (HB : Old D w (Rep.rep T [v2])) :
    Calls Tryz.prog 124 #[v1, v2] w fun e w' => e = .returned (.bool (decide (S = T))) ∧ Own D w w' [] := by
  obtain ⟨A, c1, rfl, hA1, hA2, HS, _⟩ := HA.openS
  obtain ⟨B, c2, rfl, hB1, hB2, HT, _⟩ := HB.openS
  refine hc_enter (vs := [.slice A S.length c1, .slice B T.length c2]) Tryz.func124 rfl _ Tryz.ntmps124 rfl (Own.start D w) ?_
  simp only [argSlots, Nat.zero_add]
  refine zg <| hl_v (ov_assign rfl) rfl <| zn <| hc_seq <| ?_
  refine zg <| hl_v (ov_move rfl) rfl <| hl_v za15 rfl <| ?_
  refine hl_v (ov_move rfl) rfl <| hl_v za15 rfl <| ?_
  refine hl_v (ov_neq rfl rfl) rfl <| zn <| ?_
  refine hc_cond rfl (fun h => ?_) (fun h => ?_)
  · have hne : ¬ S = T := fun e => by subst e; exact h rfl
    refine zg <| hl_v (ov_assign rfl) rfl <| zn <| hc_ret <| ?_
    refine hx_then_ret <| ?_
    exact results_1 (.inr rfl) rfl rfl fun w' H' => ⟨by rw [decide_eq_false hne], H'⟩
  have hl : S.length = T.length := by omega
  refine zk <| hc_seq <| zg <| hl_v (ov_move rfl) rfl <| ?_
  refine hl_v za15 rfl <| ?_
  refine hl_v (ov_move rfl) rfl <| zn <| hc_block <| ?_
  refine hc_loops1 (σ := Nat) [0, 1, 12] rfl 13 (fun k => .int .i64 (k : Int)) (fun k => k ≤ S.length ∧ S.take k = T.take k) (fun k => S.length - k) (0) (⟨Nat.zero_le _, by simp⟩) rfl ?_
  rintro k ⟨hk, hkt⟩ K1 hK1
  refine zg <| hl_v (ov_lss rfl rfl) rfl <| zn <| hc_seq <| ?_
  refine hc_cond rfl (fun h2 => ?_) (fun h2 => ?_)
  · have hlt : k < S.length := by omega
    have hlt2 : k < T.length := by omega
    have hA := flat_isA HS hlt
    have hB := flat_isA HT hlt2
    have hc1 := cells_sec HS hlt []
    have hc2 := cells_sec HT hlt2 []
    have hs1 := List.take_succ_eq_append_getElem hlt
    have hs2 := List.take_succ_eq_append_getElem hlt2
    have hat : S = T → S[k] = T[k] := fun e => by subst e; rfl
    generalize S[k] = s at *
    generalize T[k] = t at *
    refine zk <| hc_seq <| hc_block <| zg <| ?_
    refine hl_v (ov_move rfl) rfl <| hl_v (ov_assign rfl) rfl <| zn <| hc_seq <| hc_quiet mixed (by kernel_rfl) <| ?_
    refine hq_v (ov_move rfl) rfl <| hq_v (ov_move rfl) rfl <| hq_v (ov_idxS rfl (by assumption) rfl _ rfl (by omega)) rfl <| ?_
    refine hq_v (ov_loadG (cs := secC s) rfl (secC_len _) hc1) rfl ?_
    refine hq_v (ov_move rfl) rfl <| hq_v (ov_move rfl) rfl <| hq_v (ov_idxS rfl (by assumption) rfl _ rfl (by omega)) rfl <| ?_
    refine hq_v (ov_loadG (cs := secC t) rfl (secC_len _) hc2) rfl ?_
    refine hq_v (ov_neqSec rfl rfl) rfl ?_
    refine hq_nil <| hx_then_normal <| ?_
    refine hc_cond rfl (fun h3 => ?_) (fun h3 => ?_)
    · have hne : ¬ S = T := fun e => h3 (hat e)
      refine zg <| hl_v (ov_assign rfl) rfl <| zn <| hc_ret <| ?_
      refine hx_block_ret <| hx_then_ret <| hx_then_ret <| hx_block_ret <| hx_then_ret <| ?_
      exact results_1 (.inr rfl) rfl rfl fun w' H' => ⟨by rw [decide_eq_false hne], H'⟩
    have hst : s = t := Classical.not_not.1 h3
    refine hc_skip <| hx_block_normal <| hx_then_normal <| hc_region <| hl_v (ov_add rfl rfl za18) rfl <| ?_
    refine hl_v (ov_move rfl) rfl <| hl_nil <| ?_
    refine hx_next hK1 (k + 1) (⟨hlt, by rw [hs1, hs2, hkt, hst]⟩) (by omega) za9 za6
  have hk' : k = S.length := by omega
  have he : S = T := by rw [← List.take_length (l := S), ← hk', hkt, hk', hl, List.take_length]
  refine hc_exit <| hx_then_exit <| hx_then_exit <| hx_block_out <| hx_then_normal <| hc_seq <| ?_
  refine hc_region <| hl_v (ov_assign rfl) rfl <| zn <| hc_ret <| ?_
  exact results_1 (.inr rfl) rfl rfl fun w' H' => ⟨by rw [decide_eq_true he], H'⟩
def needM (m : Nat) : Nat := if 4000 < m then 0 else (m + 77) / 63
theorem Need_nat (D : Nat → Prop) (w : World) (m N : Nat) (hN : needM m = N) : Calls Tryz.prog 97 #[.int .i64 (m : Int)] w fun e w' => e = .returned (.int .i64 (N : Int)) ∧ Own D w w' [] := by
  subst hN
  refine (Need_spec D w m).mono fun e w' ⟨he, H'⟩ => ⟨?_, H'⟩
  rw [he]
  have : needN (m : Int) = ((needM m : Nat) : Int) := by
    unfold needN needM
    split <;> split <;> omega
  rw [this]
end Go.Proofs.YtjlolpmmpafjeaaGreat
