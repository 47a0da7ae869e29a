import Derived.Test.YtjlolpmmpafjeaaGreatV11
set_option linter.unusedVariables false
set_option linter.unusedSimpArgs false
namespace Go.Proofs.YtjlolpmmpafjeaaGreat
open Slk
abbrev Sec := Vector UInt8 64
def secC (s : Sec) : List Value := s.toList.map u8v
@[simp] theorem secC_len (s : Sec) : (secC s).length = 64 := by simp [secC]
theorem secC_one (s : Sec) : ∀ v ∈ secC s, v.oneCell' = true := u8_one _
theorem secC_inj {s t : Sec} : secC s = secC t ↔ s = t := by
 unfold secC
 rw [u8v_inj]
 exact ⟨fun h => Vector.toList_inj.1 h, fun h => by rw [h]⟩
def zeroSec : Sec := Vector.replicate 64 0
theorem secC_zero : secC zeroSec = List.replicate 64 (.int .u8 0) := by simp [secC, zeroSec, u8v]
theorem secC_at (s : Sec) {j : Nat} (h : j < 64) : (secC s)[j]? = some (u8v s[j]) := by
 unfold secC
 rw [List.getElem?_map, Vector.getElem?_toList, Vector.getElem?_eq_getElem h]; rfl
theorem secC_ok (s : Sec) : (cellsOk (List.replicate 64 (.i .u8)) (secC s)).isSome = true := by
 have := cellsOk_u8 s.toList
 rw [Vector.length_toList] at this
 exact this
section
variable {D : Nat → Prop} {w0 : World} {env : Slots} {l : List HProp} {dst : Option Tmp} {ty : TypeId} {pos : String} {after : Array Edge} {g : Option (Nat × Bool)} {x y : Operand} {t' : TypeId} {s t : Sec}
theorem ov_neqSec (hx : evalO env x = some (.agg (secC s).toArray)) (hy : evalO env y = some (.agg (secC t).toArray)) : OpVal Tryz.prog D w0 env l ⟨dst, .binOp .neq 61 x y t', ty, pos, after, g⟩ (.bool (decide (¬ s = t))) := ov_neqG hx hy (secC_ok s) (secC_ok t) secC_inj
end
def secL (m : UInt8) (c : List UInt8) : List UInt8 := m :: (c ++ List.replicate (63 - c.length) 0)
theorem secL_length (m : UInt8) (c : List UInt8) (h : c.length ≤ 63) : (secL m c).length = 64 := by
 simp [secL]; omega
def piece (F : List UInt8) (k : Nat) : List UInt8 := (F.drop (63 * k)).take 63
theorem piece_length (F : List UInt8) (k : Nat) : (piece F k).length = min 63 (F.length - 63 * k) := by simp [piece]
def markK (k : Nat) : UInt8 := if k = 0 then 87 else 119
def secOf (F : List UInt8) (k : Nat) : Sec := ⟨(secL (markK k) (piece F k)).toArray, by
 rw [List.size_toArray, secL_length _ _ (by rw [piece_length]; omega)]⟩
def secsTo (F : List UInt8) (k : Nat) : List Sec := (List.range k).map (secOf F)
def encS (F : List UInt8) : List Sec := secsTo F ((F.length + 62) / 63)
theorem secsTo_len (F : List UInt8) (k : Nat) : (secsTo F k).length = k := by simp [secsTo]
theorem secsTo_snoc (F : List UInt8) (k : Nat) : secsTo F (k + 1) = secsTo F k ++ [secOf F k] := by simp [secsTo, List.range_succ]
theorem secOf_cells (F : List UInt8) (k : Nat) : secC (secOf F k) = .int .u8 (markK k).toNat :: ((piece F k).map u8v ++ List.replicate (63 - (piece F k).length) (.int .u8 0)) := by
 show ((secL (markK k) (piece F k)).toArray.toList.map u8v) = _
 simp [secL, u8v]
theorem fill_sec1 (s : Sec) : fillL (fun j => some (j * 64, 64)) (zerosL (List.replicate 64 (.int .u8 0)) 1) [(0, .agg (secC s).toArray)] = some (secC s) := by
 simp only [fillL, Value.cells, List.size_toArray, secC_len, Nat.zero_mul]
 rw [if_pos ⟨trivial, by rw [zerosL_length]; simp⟩, setSeg_all (by rw [secC_len, zerosL_length]; simp)]
theorem copy_piece (m : Value) (F : List UInt8) (k : Nat) : setSeg (m :: List.replicate 63 (.int .u8 0)) (0 + 1 * 1) ((piece F k).map u8v) = m :: ((piece F k).map u8v ++ List.replicate (63 - (piece F k).length) (.int .u8 0)) := by
 have hl : (piece F k).length ≤ 63 := by rw [piece_length]; omega
 have := setSeg_mid [m] (List.replicate (piece F k).length (.int .u8 0)) (List.replicate (63 - (piece F k).length) (.int .u8 0)) ((piece F k).map u8v) (0 + 1 * 1) rfl (by simp)
 rw [List.append_assoc, List.replicate_append_replicate, show (piece F k).length + (63 - (piece F k).length) = 63 by omega] at this
 simpa using this
theorem take_map_u8 (F : List UInt8) (k m : Nat) (hm : m = min 63 (F.length - 63 * k)) : (piece F k).map u8v = ((F.map u8v).drop (63 * k * 1)).take (m * 1) := by
 subst hm
 rw [Nat.mul_one, Nat.mul_one, ← List.map_drop, ← List.map_take, piece]
 congr 1
 rcases Nat.le_total 63 (F.length - 63 * k) with h | h
 ·rw [Nat.min_eq_left h]
 rw [Nat.min_eq_right h, List.take_of_length_le Z58, List.take_of_length_le (by simp)]
def encL (bo : Nat) (A : Option Addr) (c : Nat) (F : List UInt8) (n k : Nat) : List HProp :=
 [exS (fun q : Option Addr × Nat => [blk bo 53 [.slice q.1 k q.2], row q.1 61 64 k q.2 ((secsTo F k).flatMap secC)]), row A 5 1 n c (F.map u8v)]
theorem one_mark (m : Int) : ∀ v ∈ (Value.int .u8 m :: List.replicate 63 (Value.int .u8 0)), v.oneCell' = true := fun v hv => by
 rcases List.mem_cons.1 hv with rfl | h
 ·rfl
 ·rw [List.eq_of_mem_replicate h]; rfl
theorem Encode_ok (D : Nat → Prop) (w : World) (k a b : Nat) (v : Value) (xs : List UInt8) (hk : k < 256) (ha : a < 4294967296) (hb : b < 4294967296) (hx : xs.length ≤ 4000) (HA : Old D w (Rep.rep xs [v])) :
  Calls Tryz.prog 99 #[.agg #[.int .i64 k, .int .u32 a, .int .u32 b, v]] w fun e w' => ∃ q : Option Addr × Nat, e = .returned (.tuple #[.slice q.1 ((15 + xs.length + 62) / 63) q.2, .int .i64 0]) ∧ Own D w w' [row q.1 61 64 ((15 + xs.length + 62) / 63) q.2 ((encS (fullB k a b xs)).flatMap secC)] := by
 obtain ⟨Ax, capx, rfl, hc1, hc2, HS⟩ := HA.openB
 obtain ⟨F, hF⟩ : ∃ F, F = fullB k a b xs := ⟨_, rfl⟩
 have hFl : F.length = 15 + xs.length := by rw [hF]; exact fullB_length _ _ _ _
 have hS : encS F = secsTo F ((15 + xs.length + 62) / 63) := by rw [← hFl]; rfl
 rw [← hF, hS]
 obtain ⟨n, hn⟩ : ∃ n, n = 15 + xs.length := ⟨_, rfl⟩
 refine hc_enterM (vs := [.agg #[.int .i64 k, .int .u32 a, .int .u32 b, .slice Ax xs.length capx]]) Tryz.func99 rfl _ Tryz.ntmps99 rfl (Own.start D w) ?_
 simp only [argSlots, Nat.zero_add]
 refine zg <| hl_new (on_boxN rfl rfl) rfl rfl rfl fun b1 =>  ?_
 refine zs rfl <| zs rfl <| zn <| hc_seq <| hc_block <| zg <| zf rfl <| zl rfl rfl <| zv (ov_lss rfl rfl) <| zm rfl <| ?_
 refine hl_partF (t := 11) rfl Z64 ?_
 refine hl_on rfl rfl <| zf rfl <| hl_on rfl rfl <| zl rfl rfl <| hl_on rfl rfl <| zv (ov_gtr rfl rfl) <| zv (ov_pickF rfl rfl) <| zs rfl <| hl_nil <| ?_
 refine zt <| hc_cond_F rfl Z64 ?_
 refine zg <| zf rfl <| zl rfl rfl <| zv Z25 <| ?_
 refine zv (ov_gtr rfl rfl) <| zs rfl <| zn <| hc_cond_F rfl Z64 ?_
 refine hc_skip <| zb <| zt <| zg <| hl_new (on_alloc) rfl rfl rfl fun b4 =>  ?_
 refine zn <| hc_seq <| zg <| zf rfl <| ?_
 refine zl rfl rfl <| zf rfl <| zl rfl rfl <| zf rfl <| zl rfl rfl <| zv (ov_buildSN rfl rfl) <| ?_
 refine zf rfl <| zl rfl rfl <| zv (ov_buildSN rfl rfl) <| ?_
 refine hl_call (σ := Option Addr × Nat) Tryz.call140 rfl rfl (fun w1 => zu fun D' hold _ _ => bytes_spec D' w1 k a b _ xs hk ha hb hx (hold _ HA)) ?_
 rintro ⟨A, c⟩
 try rw [List.nil_append]
 rw [← hn] at hFl
 rw [← hF, ← hn]
 dsimp only
 refine hl_call (σ := Nat × Nat) Tryz.call139 rfl rfl (fun w1 => zu fun D' _ _ _ => Chunk_spec D' w1 A n c) ?_
 rintro ⟨bs, bn⟩
 try rw [List.nil_append]
 dsimp only
 refine zn <| hc_block <| HC.fact (fun w H => Own.factR A H) ?_
 rintro ⟨hrl, hnc, hcc, hA⟩
 have hA : isA A := hA (by intro h; have := congrArg List.length h; simp [hFl] at this; omega)
 refine hc_rangeFunc rfl Tryz.call157 rfl ((n + 62) / 63) (pieceV A n) (fun k => blk bs 108 [.slice A n c] :: blk bn 3 [.int .i64 63] :: encL b4 A c F n k) (Ent.trans (b := blk bs 108 [.slice A n c] :: blk bn 3 [.int .i64 63] :: ([blk b4 53 [.slice none 0 0], row none 61 64 0 0 []] ++ [row A 5 1 n c (F.map u8v)])) (Ent.trans Z8 (Ent.cons (Ent.cons (Ent.cons (Ent.nil_row _ _))))) (Ent.cons (Ent.cons (Ent.exS (L := fun q : Option Addr × Nat => [blk b4 53 [.slice q.1 0 q.2], row q.1 61 64 0 q.2 ((secsTo F 0).flatMap secC)]) (none, 0))))) (Chunk1_seq D w bs bn A n c hnc Z64 _) ?_ ?_
 ·intro lp dp rec i hi
  have hin : 63 * i < n := by omega
  obtain ⟨m, hm⟩ : ∃ m, m = min 63 (n - 63 * i) := ⟨_, rfl⟩
  have hm63 : m ≤ 63 := by omega
  rw [show pieceV A n i = .slice (A.map (·.add (63 * i))) m m from by unfold pieceV; rw [← hm]]
  have hsn : (secsTo F i).flatMap secC ++ secC (secOf F i) = (secsTo F (i + 1)).flatMap secC := by rw [secsTo_snoc]; simp
  have hsrc : ∀ {l r : List HProp} [PickR l A 5 1 n c (F.map u8v) r], SrcIs D w l (A.map (·.add (63 * i))) ((piece F i).map u8v) := fun {l r} [hp : PickR l A 5 1 n c (F.map u8v) r] => by
   have h := SrcIs.rowCut (D := D) (w0 := w) (h := hp) hA (63 * i) m Z64 hrl hnc (take_map_u8 F i m (by rw [hFl]; exact hm))
   rw [if_neg Z64, Nat.mul_one] at h
   exact h
  refine hic_region <| hil_val (ov_assign rfl) rfl rfl rfl <| hil_nil <| hix_begin <| ?_
  refine HCi.ent (l' := exS (fun q : Option Addr × Nat => [blk b4 53 [.slice q.1 i q.2], row q.1 61 64 i q.2 ((secsTo F i).flatMap secC)]) :: loopP lp dp rec .busy :: blk bs 108 [.slice A n c] :: blk bn 3 [.int .i64 63] :: row A 5 1 n c (F.map u8v) :: []) (show Ent (loopP lp dp rec .busy :: blk bs 108 [.slice A n c] :: blk bn 3 [.int .i64 63] :: exS (fun q : Option Addr × Nat => [blk b4 53 [.slice q.1 i q.2], row q.1 61 64 i q.2 ((secsTo F i).flatMap secC)]) :: row A 5 1 n c (F.map u8v) :: []) _ from Z8) ?_
  refine HCi.exs ?_
  rintro ⟨A2, c2⟩
  dsimp only [List.cons_append, List.nil_append]
  by_cases hi0 : i = 0
  ·have hcp : setSeg (.int .u8 87 :: List.replicate 63 (.int .u8 0)) (0 + 1 * 1) ((piece F i).map u8v) = secC (secOf F i) := by rw [copy_piece, secOf_cells, markK, if_pos hi0]; rfl
   refine hic_block <| hic_seq <| hic_region <| ?_
   refine hil_val (ov_buildA (res := .int .u8 119 :: List.replicate 63 (.int .u8 0)) rfl rfl) rfl rfl rfl ?_
   refine hil_new (on_alloc) rfl rfl rfl fun b6 =>  ?_
   refine hil_u0 (on_storeW (vs := .int .u8 119 :: List.replicate 63 (.int .u8 0)) rfl rfl (by simp) (by simp) (one_mark _)) rfl rfl ?_
   refine hil_nil <| hix_then_normal <| hic_seq <| hic_seq <| hic_region <| hil_val (zw rfl rfl) rfl rfl rfl <| ?_
   refine hil_val Z25 rfl rfl rfl <| ?_
   refine hil_val (ov_eql rfl rfl) rfl rfl rfl <| hil_nil <| hix_then_normal <| ?_
   refine hic_cond_T rfl Z64 ?_
   refine hic_region <| hil_val (ov_idxPc rfl rfl rfl rfl rfl) rfl rfl rfl <| ?_
   refine hil_u0 (on_storeE (.int .u8 87 :: List.replicate 63 (.int .u8 0)) rfl rfl (by simp) rfl rfl) rfl rfl ?_
   refine hil_nil <| hix_then_normal <| hic_seq <| hic_region <| ?_
   refine hil_val (ov_sliceP rfl 1 64 (.inr ⟨_, _, rfl, rfl⟩) (.inl ⟨rfl, rfl⟩) Z63 Z63 Z63) rfl rfl rfl ?_
   refine hil_val (ov_move rfl) rfl rfl rfl <| ?_
   refine hil_u (on_copy (news := (piece F i).map u8v) rfl rfl hsrc (by rw [List.length_map, piece_length, hFl, ← hm, Nat.mul_one]) Z64 Z21 (u8_one _)) rfl rfl rfl ?_
   rw [hcp]
   refine hil_nil <| hix_then_normal <| hic_region <| hil_val (zw rfl rfl) rfl rfl rfl <| ?_
   refine hil_val (ov_loadW rfl (secC_len (secOf F i))) rfl rfl rfl ?_
   refine hil_new (on_buildSlice (res := secC (secOf F i)) rfl rfl (fill_sec1 _)) rfl rfl rfl (fun bs2 => ?_)
   refine hil_new (on_appendR (A := A2) (news := secC (secOf F i)) rfl rfl (SrcIs.blk (b := bs2)) Z57 (secC_one _) Z63 Z64) rfl rfl rfl (fun q2 => ?_)
   refine hil_u0 (on_storeN rfl rfl rfl rfl rfl) rfl rfl <| hil_nil <| hix_block_normal <| ?_
   rw [hsn]
   exact hix_end (Ent.trans (b := loopP lp dp rec .busy :: blk bs 108 [.slice A n c] :: blk bn 3 [.int .i64 63] :: ([blk b4 53 [.slice q2.1 (i + 1) q2.2], row q2.1 61 64 (i + 1) q2.2 ((secsTo F (i + 1)).flatMap secC)] ++ [row A 5 1 n c (F.map u8v)])) Z8 (Ent.cons (Ent.cons (Ent.cons (Ent.exS (L := fun q : Option Addr × Nat => [blk b4 53 [.slice q.1 (i + 1) q.2], row q.1 61 64 (i + 1) q.2 ((secsTo F (i + 1)).flatMap secC)]) q2)))))
  have hcp : setSeg (.int .u8 119 :: List.replicate 63 (.int .u8 0)) (0 + 1 * 1) ((piece F i).map u8v) = secC (secOf F i) := by rw [copy_piece, secOf_cells, markK, if_neg hi0]; rfl
  refine hic_block <| hic_seq <| hic_region <| ?_
  refine hil_val (ov_buildA (res := .int .u8 119 :: List.replicate 63 (.int .u8 0)) rfl rfl) rfl rfl rfl ?_
  refine hil_new (on_alloc) rfl rfl rfl fun b6 =>  ?_
  refine hil_u0 (on_storeW (vs := .int .u8 119 :: List.replicate 63 (.int .u8 0)) rfl rfl (by simp) (by simp) (one_mark _)) rfl rfl ?_
  refine hil_nil <| hix_then_normal <| hic_seq <| hic_seq <| hic_region <| hil_val (zw rfl rfl) rfl rfl rfl <| ?_
  refine hil_val Z25 rfl rfl rfl <| ?_
  refine hil_val (ov_eql rfl rfl) rfl rfl rfl <| hil_nil <| hix_then_normal <| ?_
  refine hic_cond_F rfl Z64 ?_
  refine hic_skip <| hix_then_normal <| hic_seq <| hic_region <| ?_
  refine hil_val (ov_sliceP rfl 1 64 (.inr ⟨_, _, rfl, rfl⟩) (.inl ⟨rfl, rfl⟩) Z63 Z63 Z63) rfl rfl rfl ?_
  refine hil_val (ov_move rfl) rfl rfl rfl <| ?_
  refine hil_u (on_copy (news := (piece F i).map u8v) rfl rfl hsrc (by rw [List.length_map, piece_length, hFl, ← hm, Nat.mul_one]) Z64 Z21 (u8_one _)) rfl rfl rfl ?_
  rw [hcp]
  refine hil_nil <| hix_then_normal <| hic_region <| hil_val (zw rfl rfl) rfl rfl rfl <| ?_
  refine hil_val (ov_loadW rfl (secC_len (secOf F i))) rfl rfl rfl ?_
  refine hil_new (on_buildSlice (res := secC (secOf F i)) rfl rfl (fill_sec1 _)) rfl rfl rfl (fun bs2 => ?_)
  refine hil_new (on_appendR (A := A2) (news := secC (secOf F i)) rfl rfl (SrcIs.blk (b := bs2)) Z57 (secC_one _) Z63 Z64) rfl rfl rfl (fun q2 => ?_)
  refine hil_u0 (on_storeN rfl rfl rfl rfl rfl) rfl rfl <| hil_nil <| hix_block_normal <| ?_
  rw [hsn]
  exact hix_end (Ent.trans (b := loopP lp dp rec .busy :: blk bs 108 [.slice A n c] :: blk bn 3 [.int .i64 63] :: ([blk b4 53 [.slice q2.1 (i + 1) q2.2], row q2.1 61 64 (i + 1) q2.2 ((secsTo F (i + 1)).flatMap secC)] ++ [row A 5 1 n c (F.map u8v)])) Z8 (Ent.cons (Ent.cons (Ent.cons (Ent.exS (L := fun q : Option Addr × Nat => [blk b4 53 [.slice q.1 (i + 1) q.2], row q.1 61 64 (i + 1) q.2 ((secsTo F (i + 1)).flatMap secC)]) q2)))))
 intro dp
 refine HXi.ent (l' := exS (fun q : Option Addr × Nat => [blk b4 53 [.slice q.1 ((n + 62) / 63) q.2], row q.1 61 64 ((n + 62) / 63) q.2 ((secsTo F ((n + 62) / 63)).flatMap secC)]) :: ob dp (.deferred (some [])) :: blk bs 108 [.slice A n c] :: blk bn 3 [.int .i64 63] :: row A 5 1 n c (F.map u8v) :: []) (show Ent (ob dp (.deferred (some [])) :: blk bs 108 [.slice A n c] :: blk bn 3 [.int .i64 63] :: exS (fun q : Option Addr × Nat => [blk b4 53 [.slice q.1 ((n + 62) / 63) q.2], row q.1 61 64 ((n + 62) / 63) q.2 ((secsTo F ((n + 62) / 63)).flatMap secC)]) :: row A 5 1 n c (F.map u8v) :: []) _ from Z8) ?_
 refine HXi.exs ?_
 rintro ⟨A2, c2⟩
 dsimp only [List.cons_append, List.nil_append]
 refine hix_block_normal <| hix_then_normalW <| hic_seq <| hic_region <| hil_val (zw rfl rfl) rfl rfl rfl <| hil_val (ov_assign rfl) rfl rfl rfl <| ?_
 refine hil_val (ov_assign rfl) rfl rfl rfl <| hil_nil <| hix_then_normal <| hic_ret <| ?_
 exact resultsM_2 (.inr rfl) rfl rfl rfl fun w' H' => ⟨(A2, c2), rfl, H'.ent Z8⟩
theorem repL_secs : ∀ {S : List Sec} {cs : List Value} {h : Heap}, repL S cs h ↔ cs = S.flatMap secC
 | [], cs, h => Iff.rfl
 | s :: r, cs, h => by
  constructor
  ·rintro ⟨c1, c2, rfl, h1, h2⟩
   rw [show c1 = secC s from repL_bytes.1 h1, repL_secs.1 h2, List.flatMap_cons]
  ·rintro rfl
   exact ⟨secC s, _, List.flatMap_cons, repL_bytes.2 rfl, repL_secs.2 rfl⟩
theorem _root_.Slk.Old.openS {D : Nat → Prop} {w0 : World} {S : List Sec} {v : Value} (k : Old D w0 (Rep.rep S [v])) :
  ∃ A cap, v = .slice A S.length cap ∧ S.length ≤ cap ∧ cap ≤ 9223372036854775807 ∧ OldS D w0 A (S.flatMap secC) ∧ Old D w0 (rdA A (S.flatMap secC)) := by
 obtain ⟨h, hh, A, cap, e, h1, h2, ecs, k1, k2⟩ := k
 have := repL_secs.1 k1
 subst this
 exact ⟨A, cap, by simpa using e, h1, h2, OldS.of_old ⟨h, hh, k2⟩, ⟨h, hh, k2⟩⟩
theorem flat_isA {S : List Sec} {D : Nat → Prop} {w0 : World} {A : Option Addr} (HS : OldS D w0 A (S.flatMap secC)) {k : Nat} (hk : k < S.length) : isA A := HS.isA (by
 intro h
 have := congrArg List.length h
 rw [List.length_flatMap] at this
 cases S with
 | nil => simp at hk
 | cons s r => simp at this)
theorem cells_sec {S : List Sec} {D : Nat → Prop} {w0 : World} {A : Option Addr} (HS : OldS D w0 A (S.flatMap secC)) {k : Nat} (hk : k < S.length) (l : List HProp) : CellsAre D w0 l (ab A) (ao A + k * 64) (secC S[k]) :=
 CellsAre.sub ((SrcIs.old (l := l) HS).cells (by
  intro h
  have := congrArg List.length h
  cases S with
  | nil => simp at hk
  | cons s r => simp at this)) fun i v hv => by
  have : i < 64 := by
   rcases Nat.lt_or_ge i 64 with h | h
   ·exact h
   ·rw [List.getElem?_eq_none (by simpa using h)] at hv; cases hv
  rw [flat_at secC_len S k i hk this]; exact hv
theorem cell_sec {S : List Sec} {D : Nat → Prop} {w0 : World} {A : Option Addr} (HS : OldS D w0 A (S.flatMap secC)) {k j : Nat} (hk : k < S.length) (hj : j < 64) (l : List HProp) : CellIs D w0 l (ab A) (ao A + k * 64 + j) (.int .u8 ((S[k])[j].toNat : Int)) :=
 (cells_sec HS hk l).cell (i := j) (secC_at S[k] hj)
theorem Equal_spec (D : Nat → Prop) (w : World) (v1 v2 : Value) (S T : List Sec) (HA : Old D w (Rep.rep S [v1])) (HB : Old D w (Rep.rep T [v2])) :
  Calls Tryz.prog 124 #[v1, v2] w fun e w' => e = .returned (.bool (decide (S = T))) ∧ Own D w w' [] := by
 obtain ⟨A, c1, rfl, hA1, hA2, HS, _⟩ := HA.openS
 obtain ⟨B, c2, rfl, hB1, hB2, HT, _⟩ := HB.openS
 refine hc_enter (vs := [.slice A S.length c1, .slice B T.length c2]) Tryz.func124 rfl _ Tryz.ntmps124 rfl (Own.start D w) ?_
 simp only [argSlots, Nat.zero_add]
 refine zg <| zs rfl <| zn <| hc_seq <| zg <| zm rfl <| zv Z25 <| ?_
 refine zm rfl <| zv Z25 <| ?_
 refine zv (ov_neq rfl rfl) <| zn <| hc_cond rfl (fun h => ?_) (fun h => ?_)
 ·have hne : ¬ S = T := fun e => by subst e; exact h rfl
  refine zg <| zs rfl <| zn <| zq <| zr <| ?_
  exact zz rfl rfl fun w' H' => ⟨by rw [decide_eq_false hne], H'⟩
 have hl : S.length = T.length := by omega
 refine zk <| hc_seq <| zg <| zm rfl <| zv Z25 <| ?_
 refine zm rfl <| zn <| hc_block <| hc_loops1 (σ := Nat) [0, 1, 12] rfl 13 (fun k => .int .i64 (k : Int)) (fun k => k ≤ S.length ∧ S.take k = T.take k) (fun k => S.length - k) (0) (⟨Nat.zero_le _, by simp⟩) rfl ?_
 rintro k ⟨hk, hkt⟩ K1 hK1
 refine zg <| zv (ov_lss rfl rfl) <| zn <| hc_seq <| hc_cond rfl (fun h2 => ?_) (fun h2 => ?_)
 ·have hlt : k < S.length := by omega
  have hlt2 : k < T.length := by omega
  have hA := flat_isA HS hlt
  have hB := flat_isA HT hlt2
  have hc1 := cells_sec HS hlt []
  have hc2 := cells_sec HT hlt2 []
  have hs1 := List.take_succ_eq_append_getElem hlt
  have hs2 := List.take_succ_eq_append_getElem hlt2
  have hat : S = T → S[k] = T[k] := fun e => by subst e; rfl
  generalize S[k] = s at *
  generalize T[k] = t at *
  refine zk <| hc_seq <| hc_block <| zg <| zm rfl <| zs rfl <| zn <| hc_seq <| hc_quiet mixed Z61 <| ?_
  refine hq_v (ov_move rfl) rfl <| hq_v (ov_move rfl) rfl <| hq_v (ov_idxS rfl Z62 rfl _ rfl Z64) rfl <| ?_
  refine hq_v (ov_loadG (cs := secC s) rfl (secC_len _) hc1) rfl ?_
  refine hq_v (ov_move rfl) rfl <| hq_v (ov_move rfl) rfl <| hq_v (ov_idxS rfl Z62 rfl _ rfl Z64) rfl <| ?_
  refine hq_v (ov_loadG (cs := secC t) rfl (secC_len _) hc2) rfl ?_
  refine hq_v (ov_neqSec rfl rfl) rfl ?_
  refine hq_nil <| zt <| ?_
  refine hc_cond rfl (fun h3 => ?_) (fun h3 => ?_)
  ·have hne : ¬ S = T := fun e => h3 (hat e)
   refine zg <| zs rfl <| zn <| zq <| hx_block_ret <| zr <| zr <| hx_block_ret <| zr <| ?_
   exact zz rfl rfl fun w' H' => ⟨by rw [decide_eq_false hne], H'⟩
  have hst : s = t := Classical.not_not.1 h3
  refine hc_skip <| zb <| zt <| hc_region <| zv (ov_add rfl rfl Z28) <| ?_
  refine zm rfl <| hl_nil <| hx_next hK1 (k + 1) (⟨hlt, by rw [hs1, hs2, hkt, hst]⟩) Z64 Z16 Z10
 have hk' : k = S.length := by omega
 have he : S = T := by rw [← List.take_length (l := S), ← hk', hkt, hk', hl, List.take_length]
 refine hc_exit <| ze <| ze <| hx_block_out <| zt <| hc_seq <| hc_region <| zs rfl <| zn <| zq <| ?_
 exact zz rfl rfl fun w' H' => ⟨by rw [decide_eq_true he], H'⟩
def needM (m : Nat) : Nat := if 4000 < m then 0 else (m + 77) / 63
theorem Need_nat (D : Nat → Prop) (w : World) (m N : Nat) (hN : needM m = N) : Calls Tryz.prog 97 #[.int .i64 (m : Int)] w fun e w' => e = .returned (.int .i64 (N : Int)) ∧ Own D w w' [] := by
 subst hN
 refine (Need_spec D w m).mono fun e w' ⟨he, H'⟩ => ⟨?_, H'⟩
 rw [he]
 have : needN (m : Int) = ((needM m : Nat) : Int) := by
  unfold needN needM
  split <;> split <;> omega
 rw [this]
def numAt (s : Sec) (lo m : Nat) : Nat := numE ((s.toList.drop lo).take m)
theorem numAt_lt2 (s : Sec) (lo : Nat) (h : lo + 2 ≤ 64) : numAt s lo 2 < 65536 := by
 have hl : ((s.toList.drop lo).take 2).length = 2 := by simp; omega
 have := numE_lt ((s.toList.drop lo).take 2) 2 Z64
 rw [List.take_of_length_le Z64] at this
 exact this
theorem numAt_lt4 (s : Sec) (lo : Nat) (h : lo + 4 ≤ 64) : numAt s lo 4 < 4294967296 := by
 have hl : ((s.toList.drop lo).take 4).length = 4 := by simp; omega
 have := numE_lt ((s.toList.drop lo).take 4) 4 Z64
 rw [List.take_of_length_le Z64] at this
 exact this
def bodyS (S : List Sec) : List UInt8 := S.flatMap (fun s => s.toList.drop 1)
theorem bodyS_length (S : List Sec) : (bodyS S).length = 63 * S.length := by
 induction S with
 | nil => rfl
 | cons s r ih =>
  unfold bodyS at ih ⊢
  rw [List.flatMap_cons, List.length_append, ih, List.length_cons]; simp; omega
abbrev EntT := Nat × Nat × Nat × List UInt8
def encE (e : EntT) : List Sec := encS (fullB e.1 e.2.1 e.2.2.1 e.2.2.2)
def candE (S : List Sec) (s : Sec) : EntT := (s[1].toNat, numAt s 2 4, numAt s 6 4, ((bodyS (S.take (needM (numAt s 10 2)))).drop 11).take (numAt s 10 2))
def decS : List Sec → Option (EntT × Nat)
 | [] => none
 | s :: r => if s[0].toNat = 87 ∧ needM (numAt s 10 2) ≠ 0 ∧ needM (numAt s 10 2) ≤ (s :: r).length ∧ encE (candE (s :: r) s) = (s :: r).take (needM (numAt s 10 2)) then some (candE (s :: r) s, needM (numAt s 10 2)) else none
theorem SrcIs.blkAt {D : Nat → Prop} {w0 : World} {l : List HProp} {b : Nat} {t : TypeId} {cs : List Value} {r : List HProp} [h : PickB l b t cs r] (off : Nat) {news : List Value} (hn : ∀ i v, news[i]? = some v → cs[off + i]? = some v) : SrcIs D w0 l (some ⟨b, off, none⟩) news :=
 ⟨fun _ => rfl, fun _ => show CellsAre D w0 l b off news from CellsAre.blk hn⟩
theorem ov_sliceE {P : Program} {D : Nat → Prop} {w0 : World} {env : Slots} {l : List HProp} {dst : Option Tmp} {ty : TypeId} {pos : String} {after : Array Edge} {g : Option (Nat × Bool)} {t e : TypeId} {s bb : Nat} {z : List Value} [h : TySlice P t e] [hs : TyI P e s bb z] {x : Operand} {ol oh : Option Operand} {A : Option Addr} {n cap : Nat} (hx : evalO env x = some (.slice A n cap)) (lo hi : Nat)
  (hl : (ol = none ∧ lo = 0) ∨ ∃ o k, ol = some o ∧ evalO env o = some (.int k lo)) (hh : (oh = none ∧ hi = n) ∨ ∃ o k, oh = some o ∧ evalO env o = some (.int k hi)) (h1 : lo ≤ hi) (h2 : hi ≤ cap) {R : Value} (hR : Value.slice (if cap = lo then A else A.map (·.add (lo * s))) (hi - lo) (cap - lo) = R) :
  OpVal P D w0 env l ⟨dst, .slice t x ol oh none, ty, pos, after, g⟩ R := hR ▸ ov_slice hx lo hi hl hh h1 h2
theorem old_sec_bytes {D : Nat → Prop} {w : World} {S : List Sec} {A : Option Addr} (HR : Old D w (rdA A (S.flatMap secC))) {i lo m cap : Nat} (hi : i < S.length) (h : lo + m ≤ 64) (h0 : 0 < m) (hc : m ≤ cap) (hc2 : cap ≤ 9223372036854775807) {A' : Option Addr} (hA' : A' = some ⟨ab A, ao A + i * 64 + lo, none⟩) :
  Old D w (Rep.rep ((S[i].toList.drop lo).take m) [.slice A' m cap]) := by
 have hl : ((S[i].toList.drop lo).take m).length = m := by simp; omega
 refine HR.imp fun x hx => ⟨A', cap, by rw [hl], by rw [hl]; exact hc, hc2, _, repL_bytes.2 rfl, ?_⟩
 have hat : ∀ j v, (((S[i].toList.drop lo).take m).map u8v)[j]? = some v → (S.flatMap secC)[i * 64 + (lo + j)]? = some v := fun j v hv => by
  have hj : j < m := by
   rcases Nat.lt_or_ge j m with h | h
   ·exact h
   ·rw [List.getElem?_eq_none Z58] at hv; cases hv
  rw [flat_at secC_len S i (lo + j) hi Z64]
  rw [List.getElem?_map, List.getElem?_take_of_lt hj, List.getElem?_drop] at hv
  unfold secC
  rw [List.getElem?_map]; exact hv
 rcases hx with hx | ⟨b, off, t, cs0, fr, rfl, h1, h2⟩
 ·have := hat 0 (u8v (S[i][lo]'(by omega))) (by
   rw [List.getElem?_map, List.getElem?_take_of_lt h0, List.getElem?_drop, Vector.getElem?_toList, Vector.getElem?_eq_getElem Z64]; rfl)
  rw [hx] at this; simp at this
 refine .inr ⟨b, off + i * 64 + lo, t, cs0, fr, hA', h1, fun j v hv => ?_⟩
 have := h2 _ _ (hat j v hv)
 rw [show off + i * 64 + lo + j = off + (i * 64 + (lo + j)) by omega]
 exact this
theorem number_at (D : Nat → Prop) (w : World) {s : Sec} {r : List Sec} {A : Option Addr} (HR : Old D w (rdA A ((s :: r).flatMap secC))) (lo m cap N : Nat) (hN : numAt s lo m = N) (h : lo + m ≤ 64) (h0 : 0 < m) (hm : m ≤ 4) (hc : m ≤ cap) (hc2 : cap ≤ 9223372036854775807) {A' : Option Addr} (hA' : A' = some ⟨ab A, ao A + 0 * 64 + lo, none⟩) :
  Calls Tryz.prog 123 #[.slice A' m cap] w fun e w' => e = .returned (.int .u32 (N : Int)) ∧ Own D w w' [] :=
 hN ▸ number_spec D w _ ((s.toList.drop lo).take m) Z58 (old_sec_bytes HR (i := 0) (by simp) h h0 hc hc2 hA')
def DecPost (D : Nat → Prop) (w : World) (S : List Sec) (e : Ending) (w' : World) : Prop :=
 (decS S = none ∧ e = .returned (.tuple #[.agg #[.int .i64 0, .int .u32 0, .int .u32 0, .slice none 0 0], .int .i64 0, .int .i64 11]) ∧ Own D w w' []) ∨
 (∃ (x : EntT) (n : Nat) (q : Option Addr × Nat), decS S = some (x, n) ∧ e = .returned (.tuple #[.agg #[.int .i64 x.1, .int .u32 x.2.1, .int .u32 x.2.2.1, .slice q.1 x.2.2.2.length q.2], .int .i64 n, .int .i64 0]) ∧ Own D w w' [row q.1 5 1 x.2.2.2.length q.2 (x.2.2.2.map u8v)])
theorem Decode_spec (D : Nat → Prop) (w : World) (v : Value) (S : List Sec) (HA : Old D w (Rep.rep S [v])) :
  Calls Tryz.prog 79 #[v] w fun e w' => DecPost D w S e w' := by
 obtain ⟨A, cap, rfl, hA1, hA2, HS, HR⟩ := HA.openS
 cases S with
 | nil =>
  have hno : decS [] = none := rfl
  refine hc_enter (vs := [.slice A ([] : List Sec).length cap]) Tryz.func79 rfl _ Tryz.ntmps79 rfl (Own.start D w) ?_
  simp only [argSlots, Nat.zero_add]
  refine zg <| hl_new (on_alloc) rfl rfl rfl fun b2 =>
   zs rfl <| zs rfl <| hl_nil <| ?_
  refine zt <| hc_seq <| zg <| zm rfl <| zv Z25 <| ?_
  refine zv (ov_eql rfl rfl) <| zm rfl <| hl_partT (t := 16) rfl (rfl) <| zo rfl rfl <| zo rfl rfl <| zo rfl rfl <| zo rfl rfl <| zo rfl rfl <| zv (ov_pickT rfl rfl) <| zn <| hc_cond_true rfl <| zg <| zv (ov_buildSN rfl rfl) <| ?_
  refine hl_u0 (on_storeGN rfl rfl rfl rfl rfl rfl) rfl rfl <| zs rfl <| zs rfl <| zn <| zq <| ?_
  refine zr <| ?_
  exact results_ctt (.inr rfl) rfl rfl (by simp) rfl rfl fun w' H' => .inl ⟨hno, rfl, H'.ent (Ent.nil _)⟩
 | cons s r =>
  have hA := flat_isA HS (k := 0) (by simp)
  have h00 := cell_sec HS (k := 0) (j := 0) (by simp) Z63
  have h01 := cell_sec HS (k := 0) (j := 1) (by simp) Z63
  simp only [List.getElem_cons_zero] at h00 h01
  have hlen1 : 0 < (s :: r).length := by simp
  have hk1 := s[1].toNat_lt
  have hb10 := numAt_lt2 s 10 Z63
  have hb2 := numAt_lt4 s 2 Z63
  have hb6 := numAt_lt4 s 6 Z63
  obtain ⟨kk, hkk⟩ : ∃ m, m = s[1].toNat := ⟨_, rfl⟩
  obtain ⟨size, hsz⟩ : ∃ m, numAt s 10 2 = m := ⟨_, rfl⟩
  obtain ⟨n, hn⟩ : ∃ m, needM size = m := ⟨_, rfl⟩
  obtain ⟨a, hna⟩ : ∃ m, numAt s 2 4 = m := ⟨_, rfl⟩
  obtain ⟨b, hnb⟩ : ∃ m, numAt s 6 4 = m := ⟨_, rfl⟩
  rw [← hkk] at hk1 h01
  rw [hsz] at hb10
  rw [hna] at hb2
  rw [hnb] at hb6
  have hdec : decS (s :: r) = if s[0].toNat = 87 ∧ n ≠ 0 ∧ n ≤ (s :: r).length ∧ encE (candE (s :: r) s) = (s :: r).take n then some (candE (s :: r) s, n) else none := by
   rw [← hn, ← hsz]; rfl
  have hcand : candE (s :: r) s = (kk, a, b, ((bodyS ((s :: r).take n)).drop 11).take size) := by
   rw [← hn, ← hsz, ← hna, ← hnb, hkk]; rfl
  rw [hcand] at hdec
  refine hc_enter (vs := [.slice A (s :: r).length cap]) Tryz.func79 rfl _ Tryz.ntmps79 rfl (Own.start D w) ?_
  simp only [argSlots, Nat.zero_add]
  refine zg <| hl_new (on_alloc) rfl rfl rfl fun b2 =>
   zs rfl <| zs rfl <| hl_nil <| ?_
  refine zt <| hc_seq <| zg <| zm rfl <| zv Z25 <| ?_
  refine zv (ov_eql rfl rfl) <| zm rfl <| hl_partF (t := 16) rfl (Z58) ?_
  refine hl_on rfl rfl <| zm rfl <| hl_on rfl rfl <| zv (ov_idxSc rfl Z62 rfl rfl Z64) <| hl_on rfl rfl <| zv (ov_idxPc rfl rfl rfl rfl rfl) <| ?_
  refine hl_on rfl rfl <| hl_v (ov_load rfl (h00 _)) rfl <| hl_on rfl rfl <| zv (ov_neq rfl rfl) <| zv (ov_pickF rfl rfl) <| zn <| hc_cond rfl (fun h87 => ?_) (fun h87 => ?_)
  ·have hno : decS (s :: r) = none := by rw [hdec, if_neg]; rintro ⟨h, _⟩; omega
   refine zg <| zv (ov_buildSN rfl rfl) <| ?_
   refine hl_u0 (on_storeGN rfl rfl rfl rfl rfl rfl) rfl rfl <| zs rfl <| zs rfl <| zn <| zq <| ?_
   refine zr <| ?_
   exact results_ctt (.inr rfl) rfl rfl (by simp) rfl rfl fun w' H' => .inl ⟨hno, rfl, H'.ent (Ent.nil _)⟩
  ·have h87' : s[0].toNat = 87 := by omega
   refine zk <| zg <| zm rfl <| zv (ov_idxSc rfl Z62 rfl rfl Z64) <| ?_
   refine hl_v (ov_sliceP rfl 10 12 (.inr ⟨_, _, rfl, rfl⟩) (.inr ⟨_, _, rfl, rfl⟩) Z63 Z63 Z63) rfl ?_
   refine hl_c Tryz.call123 rfl rfl (fun w1 => zun fun D' hold _ _ => number_at D' w1 (hold _ HR) 10 2 54 size hsz Z63 Z63 Z63 Z63 Z63 rfl) ?_
   refine zv (ov_conv rfl Z28) <| ?_
   refine zs rfl <| zn <| zg <| zm rfl <| hl_c Tryz.call97 rfl rfl (fun w1 => zun fun D' _ _ _ => Need_nat D' w1 size n hn) ?_
   refine zs rfl <| zn <| hc_seq <| zg <| zm rfl <| zv (ov_eql rfl rfl) <| zm rfl <| hl_part (t := 33) rfl (fun hz => ?_) (fun hz => ?_)
   ·have hno : decS (s :: r) = none := by rw [hdec, if_neg]; rintro ⟨_, h, _⟩; omega
    refine zo rfl rfl <| zo rfl rfl <| zo rfl rfl <| zo rfl rfl <| zv (ov_pickT rfl rfl) <| hl_nil <| zt <| hc_cond_true rfl <| zg <| zv (ov_buildSN rfl rfl) <| ?_
    refine hl_u0 (on_storeGN rfl rfl rfl rfl rfl rfl) rfl rfl <| zs rfl <| zs rfl <| zn <| zq <| ?_
    refine zr <| ?_
    exact results_ctt (.inr rfl) rfl rfl (by simp) rfl rfl fun w' H' => .inl ⟨hno, rfl, H'.ent (Ent.nil _)⟩
   ·refine hl_on rfl rfl <| zm rfl <| hl_on rfl rfl <| zm rfl <| hl_on rfl rfl <| zv Z25 <| ?_
    refine hl_on rfl rfl <| zv (ov_gtr rfl rfl) <| zv (ov_pickF rfl rfl) <| zn <| hc_cond rfl (fun hgt => ?_) (fun hgt => ?_)
    ·have hno : decS (s :: r) = none := by rw [hdec, if_neg]; rintro ⟨_, _, h, _⟩; omega
     refine zg <| zv (ov_buildSN rfl rfl) <| ?_
     refine hl_u0 (on_storeGN rfl rfl rfl rfl rfl rfl) rfl rfl <| zs rfl <| zs rfl <| zn <| zq <| ?_
     refine zr <| ?_
     exact results_ctt (.inr rfl) rfl rfl (by simp) rfl rfl fun w' H' => .inl ⟨hno, rfl, H'.ent (Ent.nil _)⟩
    ·have hnl : n ≤ (s :: r).length := by omega
     have hs4 : size ≤ 4000 ∧ n = (size + 77) / 63 := by
      unfold needM at hn
      split at hn <;> omega
     refine zk <| hc_seq <| hc_cutK1 (σ := Nat) [0, 2, 5, 6] rfl 7 (fun g => .pointer (some ⟨g, 0, none⟩)) (fun g => [blk g 172 [.int .i64 (kk : Int), .int .u32 (a : Int), .int .u32 (b : Int), .slice none 0 0], blk b2 172 [.int .i64 0, .int .u32 0, .int .u32 0, .slice none 0 0]]) (fun K1 hK1 => ?_) (fun g => ?_)
     ·refine hc_any [blk b2 172 [.int .i64 0, .int .u32 0, .int .u32 0, .slice none 0 0]] mixed 16 rfl ?_
      refine ha_v 0 rfl (ov_move rfl) rfl <| ha_v 1 rfl (ov_idxSc rfl Z62 rfl rfl Z64) rfl <| ?_
      refine ha_v 2 rfl (ov_idxPc rfl rfl rfl rfl rfl) rfl <| ha_v 5 rfl (ov_move rfl) rfl <| ha_v 6 rfl (ov_idxSc rfl Z62 rfl rfl Z64) rfl <| ?_
      refine ha_v 3 rfl (ov_load rfl (h01 _)) rfl <| ha_v 4 rfl (ov_conv rfl Z28) rfl <| ?_
      refine ha_v 7 rfl (ov_sliceP rfl 2 6 (.inr ⟨_, _, rfl, rfl⟩) (.inr ⟨_, _, rfl, rfl⟩) Z63 Z63 Z63) rfl ?_
      refine ha_v 9 rfl (ov_move rfl) rfl <| ha_v 10 rfl (ov_idxSc rfl Z62 rfl rfl Z64) rfl <| ?_
      refine ha_v 11 rfl (ov_sliceP rfl 6 10 (.inr ⟨_, _, rfl, rfl⟩) (.inr ⟨_, _, rfl, rfl⟩) Z63 Z63 Z63) rfl ?_
      refine ha_two 8 14 Z61 ?_ ?_
      ·skip
       refine ho_k rfl Tryz.call123 rfl (fun w1 => zun fun D' hold _ _ => number_at D' w1 (hold _ HR) 2 4 62 a hna Z63 Z63 Z63 Z63 Z63 rfl) ?_
       refine ha_two 12 14 Z61 ?_ ?_
       ·skip
        refine ho_k rfl Tryz.call123 rfl (fun w1 => zun fun D' hold _ _ => number_at D' w1 (hold _ HR) 6 4 58 b hnb Z63 Z63 Z63 Z63 Z63 rfl) ?_
        refine ha_v 13 rfl (ov_buildSN rfl rfl) rfl <| ?_
        refine ha_one 14 Z61 <| ho_n rfl (on_alloc) rfl (fun b7 => ?_)
        refine ha_one 15 Z61 <| ho_w0 rfl (on_storeW (vs := [.int .i64 (kk : Int), .int .u32 (a : Int), .int .u32 (b : Int), .slice none 0 0]) rfl rfl (by simp) (by simp) Z49) rfl ?_
        refine ha_done Z61 <| ?_
        refine hx_cut hK1 (b7) Z16 Z10
       ·skip
        refine ho_n rfl (on_alloc) rfl (fun b7 => ?_)
        refine ha_one 12 Z61 <| ho_k rfl Tryz.call123 rfl (fun w1 => zun fun D' hold _ _ => number_at D' w1 (hold _ HR) 6 4 58 b hnb Z63 Z63 Z63 Z63 Z63 rfl) ?_
        refine ha_v 13 rfl (ov_buildSN rfl rfl) rfl <| ?_
        refine ha_one 15 Z61 <| ho_w0 rfl (on_storeW (vs := [.int .i64 (kk : Int), .int .u32 (a : Int), .int .u32 (b : Int), .slice none 0 0]) rfl rfl (by simp) (by simp) Z49) rfl ?_
        refine ha_done Z61 <| ?_
        refine hx_cut hK1 (b7) Z16 Z10
      ·skip
       refine ho_n rfl (on_alloc) rfl (fun b7 => ?_)
       refine ha_one 8 Z61 <| ho_k rfl Tryz.call123 rfl (fun w1 => zun fun D' hold _ _ => number_at D' w1 (hold _ HR) 2 4 62 a hna Z63 Z63 Z63 Z63 Z63 rfl) ?_
       refine ha_one 12 Z61 <| ho_k rfl Tryz.call123 rfl (fun w1 => zun fun D' hold _ _ => number_at D' w1 (hold _ HR) 6 4 58 b hnb Z63 Z63 Z63 Z63 Z63 rfl) ?_
       refine ha_v 13 rfl (ov_buildSN rfl rfl) rfl <| ?_
       refine ha_one 15 Z61 <| ho_w0 rfl (on_storeW (vs := [.int .i64 (kk : Int), .int .u32 (a : Int), .int .u32 (b : Int), .slice none 0 0]) rfl rfl (by simp) (by simp) Z49) rfl ?_
       refine ha_done Z61 <| ?_
       refine hx_cut hK1 (b7) Z16 Z10
     ·refine zt <| zg <| zs rfl <| zn <| hc_seq <| zg <| zm rfl <| zm rfl <| hl_v (ov_sliceE rfl 0 n (.inl ⟨rfl, rfl⟩) (.inr ⟨_, _, rfl, rfl⟩) (Nat.zero_le _) Z64 (R := .slice A n cap) (by rw [cut_zeroE]; rfl)) rfl ?_
      refine zv Z25 <| ?_
      refine zm rfl <| zn <| hc_block <| hc_loopK2 (σ := Nat × Nat × List Value × Option Addr × Nat) [0, 2, 5, 6, 7, 56, 57] rfl 58 (fun q => .int .i64 (q.1 : Int)) 8 (fun q => .slice q.2.2.2.1 q.2.1 q.2.2.2.2) (fun q => [row q.2.2.2.1 5 1 q.2.1 q.2.2.2.2 q.2.2.1, blk g 172 [.int .i64 (kk : Int), .int .u32 (a : Int), .int .u32 (b : Int), .slice none 0 0], blk b2 172 [.int .i64 0, .int .u32 0, .int .u32 0, .slice none 0 0]]) (fun q => q.1 ≤ n ∧ q.2.1 = 63 * q.1 ∧ q.2.2.1 = (bodyS ((s :: r).take q.1)).map u8v) (fun q => n - q.1) ((0, 0, [], none, 0)) (⟨Nat.zero_le _, rfl, rfl⟩) rfl rfl (Ent.nil_row _ _) ?_
      rintro ⟨k, m, cs, A2, c2⟩ hj_ K2 hK2
      dsimp only at hj_ ⊢
      obtain ⟨hk, hm, hcs⟩ := hj_
      refine zg <| zv (ov_lss rfl rfl) <| zn <| hc_seq <| hc_cond rfl (fun hlt => ?_) (fun hlt => ?_)
      ·have hlt1 : k < n := by omega
       have hlt2 : k < (s :: r).length := by omega
       have hcx := cells_sec HS hlt2
       have hs1 : bodyS ((s :: r).take (k + 1)) = bodyS ((s :: r).take k) ++ ((s :: r)[k]).toList.drop 1 := by
        unfold bodyS
        rw [List.take_succ_eq_append_getElem hlt2, List.flatMap_append, List.flatMap_singleton]
       generalize (s :: r)[k] = x at *
       have hdrop : ∀ i v, ((x.toList.drop 1).map u8v)[i]? = some v → (secC x)[0 + 1 * 1 + i]? = some v := fun i v hv => by
        unfold secC
        rw [List.map_drop, List.getElem?_drop] at hv
        exact hv
       refine zk <| hc_seq <| hc_block <| zg <| zv (ov_idxS rfl Z62 rfl _ rfl Z64) <| ?_
       refine hl_v (ov_loadG (cs := secC x) rfl (secC_len _) (hcx _)) rfl <| hl_new (on_alloc) rfl rfl rfl fun b10 =>  ?_
       refine hl_u0 (on_storeW (vs := secC x) rfl rfl (secC_len _) (by simp) (secC_one _)) rfl rfl ?_
       refine zn <| hc_region <| zm rfl <| hl_v (ov_sliceP rfl 1 64 (.inr ⟨_, _, rfl, rfl⟩) (.inl ⟨rfl, rfl⟩) Z63 Z63 Z63) rfl ?_
       refine hl_new (on_appendR (A := A2) (news := (x.toList.drop 1).map u8v) rfl rfl (SrcIs.blkAt (b := b10) (0 + 1 * 1) hdrop) (by simp) (u8_one _) Z63 Z64) rfl rfl rfl (fun q2 => ?_)
       refine zs rfl <| hl_nil <| zb <| zt <| hc_region <| zv (ov_add rfl rfl Z28) <| ?_
       refine zm rfl <| hl_nil <| ?_
       have e1 : m + (64 - 1) = 63 * (k + 1) := by omega
       have e2 : cs ++ (x.toList.drop 1).map u8v = (bodyS ((s :: r).take (k + 1))).map u8v := by rw [hcs, hs1, List.map_append]
       have e3 : n - (k + 1) < n - k := by omega
       refine hx_next hK2 ((k + 1, m + (64 - 1), cs ++ (x.toList.drop 1).map u8v, q2)) (⟨hlt1, e1, e2⟩) (e3) Z16 Z10
      ·have hkn : k = n := by omega
       subst hkn
       refine HC.fact (fun w H => Own.factR A2 H) ?_
       rintro ⟨_, hmc, hcc2, _⟩
       obtain ⟨B, hB⟩ : ∃ B, B = bodyS ((s :: r).take k) := ⟨_, rfl⟩
       have hBl : B.length = m := by rw [hB, bodyS_length, List.length_take, Nat.min_eq_left hnl, hm]
       rw [← hB] at hcs hdec
       obtain ⟨X, hX⟩ : ∃ X, X = (B.drop 11).take (11 + size - 11) := ⟨_, rfl⟩
       have hXl : X.length = size := by rw [hX]; simp; omega
       rw [show (B.drop 11).take size = X by rw [hX]; congr 1; omega] at hdec
       refine hc_exit <| ze <| ze <| hx_block_out <| zt <| hc_seq <| hc_region <| zm rfl <| zm rfl <| hl_v (ov_add (m := ((11 + size : Nat) : Int)) rfl rfl Z36) rfl ?_
       refine zv (ov_slice rfl 11 _ (.inr ⟨_, _, rfl, rfl⟩) (.inr ⟨_, _, rfl, rfl⟩) Z64 Z64) <| ?_
       refine hl_call (σ := Option Addr × Nat) Tryz.call81 rfl rfl (fun w1 => zu fun D' _ hin _ => Clone_spec D' w1 _ X Z64 (hin _ fun h hs ho => (by rw [hX]; exact rep_cut (rep_row (A := A2) hs B hBl.symm (repL_bytes.2 hcs)) 11 (11 + size) Z64 Z64))) ?_
       intro q
       try rw [List.nil_append]
       refine zf rfl <| ?_
       refine hl_u0 (on_storeE [.int .i64 (kk : Int), .int .u32 (a : Int), .int .u32 (b : Int), .slice q.1 X.length q.2] rfl rfl (by simp) rfl rfl) rfl rfl ?_
       refine zn <| hc_seq <| zg <| zv Z17 <| ?_
       refine hl_call (σ := Option Addr × Nat) Tryz.call99 rfl rfl (fun w1 => zu fun D' _ hin _ => Encode_ok D' w1 kk a b _ X Z64 hb2 hb6 Z64 (hin _ fun h hs ho => rep_row (A := q.1) hs X rfl (repL_bytes.2 rfl))) ?_
       intro q3
       try rw [List.nil_append]
       have hEl : (encS (fullB kk a b X)).length = (15 + X.length + 62) / 63 := by rw [encS, secsTo_len, fullB_length]
       refine zm rfl <| zx rfl rfl <| zx rfl rfl <| zs rfl <| zs rfl <| hl_nil <| zt <| zg <| zm rfl <| zv (ov_neq rfl rfl) <| zm rfl <| hl_partF (t := 79) rfl ((by simp)) ?_
       refine hl_on rfl rfl <| zm rfl <| hl_on rfl rfl <| zm rfl <| hl_on rfl rfl <| zm rfl <| hl_on rfl rfl <| zv (ov_slice rfl _ _ (.inl ⟨rfl, rfl⟩) (.inr ⟨_, _, rfl, rfl⟩) Z64 Z64) <| ?_
       refine hl_on rfl rfl <| hl_c Tryz.call124 rfl rfl (fun w1 => zun fun D' _ hin _ => Equal_spec D' w1 _ _ (encS (fullB kk a b X)) (((s :: r).drop 0).take (k - 0)) (hin _ fun h hs ho => rep_row (A := q3.1) hs _ hEl.symm (repL_secs.2 rfl)) (hin _ fun h hs ho => rep_cut (rep_old ho HA) 0 k (Nat.zero_le _) hnl)) ?_
       by_cases heq : encS (fullB kk a b X) = ((s :: r).drop 0).take (k - 0)
       ·have hyes : decS (s :: r) = some ((kk, a, b, X), k) := by
         rw [hdec, if_pos]
         exact ⟨h87', by omega, hnl, heq⟩
        rw [decide_eq_true heq]
        refine hl_on rfl rfl <| zv (ov_not rfl) <| zv (ov_pickF rfl rfl) <| zn <| hc_cond_false rfl <| hc_skip <| zt <| zg <| zv Z17 <| ?_
        refine zm rfl <| hl_u0 (on_storeGN rfl rfl rfl rfl rfl rfl) rfl rfl <| zs rfl <| zs rfl <| zn <| ?_
        refine zq <| ?_
        exact results_ctt (.inr rfl) rfl rfl (by simp) rfl rfl fun w' H' => .inr ⟨(kk, a, b, X), k, q, hyes, rfl, H'.ent Z8⟩
       ·have hno : decS (s :: r) = none := by
         rw [hdec, if_neg]
         rintro ⟨_, _, _, h⟩
         exact heq h
        rw [decide_eq_false heq]
        refine hl_on rfl rfl <| zv (ov_not rfl) <| zv (ov_pickF rfl rfl) <| zn <| hc_cond_true rfl <| hc_seq <| hc_region <| zv (ov_buildSN rfl rfl) <| ?_
        refine hl_u0 (on_storeGN rfl rfl rfl rfl rfl rfl) rfl rfl <| zs rfl <| zs rfl <| zn <| zq <| ?_
        refine zr <| ?_
        exact results_ctt (.inr rfl) rfl rfl (by simp) rfl rfl fun w' H' => .inl ⟨hno, rfl, H'.ent (Ent.nil _)⟩
theorem numB_four (a : Nat) (h : a < 4294967296) : numE (fourB a) = a := by
 simp only [numE, fourB, List.foldl_cons, List.foldl_nil, UInt8.toNat_ofNat']
 omega
theorem numB_two (n : Nat) (h : n < 65536) : numE [UInt8.ofNat (n / 256), UInt8.ofNat n] = n := by
 simp only [numE, List.foldl_cons, List.foldl_nil, UInt8.toNat_ofNat']
 omega
theorem secOf_list (F : List UInt8) (k : Nat) : (secOf F k).toList = markK k :: (piece F k ++ List.replicate (63 - (piece F k).length) 0) := by
 show (secL (markK k) (piece F k)).toArray.toList = _
 simp [secL]
theorem secOf_mark (F : List UInt8) (k : Nat) : (secOf F k)[0] = markK k := by
 have h : (secOf F k).toList[0]? = some (markK k) := by rw [secOf_list]; rfl
 rw [Vector.getElem?_toList, Vector.getElem?_eq_getElem Z63] at h
 simpa using h
theorem bodyS_secsTo (F : List UInt8) (k : Nat) : bodyS (secsTo F k) = F.take (63 * k) ++ List.replicate (63 * k - F.length) 0 := by
 induction k with
 | zero => simp [secsTo, bodyS]
 | succ k ih =>
  have h1 : bodyS (secsTo F (k + 1)) = bodyS (secsTo F k) ++ (piece F k ++ List.replicate (63 - (piece F k).length) 0) := by
   rw [secsTo_snoc]
   unfold bodyS
   rw [List.flatMap_append, List.flatMap_singleton, secOf_list]; rfl
  rw [h1, ih, piece_length]
  unfold piece
  rcases Nat.lt_or_ge (63 * k) F.length with h | h
  ·rw [show 63 * k - F.length = 0 by omega, List.replicate_zero, List.append_nil, ← List.append_assoc]
   have h2 : F.take (63 * k) ++ (F.drop (63 * k)).take 63 = F.take (63 * (k + 1)) := by
    rw [show 63 * (k + 1) = 63 * k + 63 by omega, List.take_add]
   rw [h2, show 63 - min 63 (F.length - 63 * k) = 63 * (k + 1) - F.length by omega]
  ·rw [List.take_of_length_le h, List.take_of_length_le (show F.length ≤ 63 * (k + 1) by omega), List.drop_eq_nil_of_le h]
   rw [show min 63 (F.length - 63 * k) = 0 by omega]
   simp only [List.take_nil, List.nil_append, Nat.sub_zero]
   rw [List.append_assoc, List.replicate_append_replicate, show 63 * k - F.length + 63 = 63 * (k + 1) - F.length by omega]
theorem bodyS_enc (F : List UInt8) : bodyS (encS F) = F ++ List.replicate (63 * ((F.length + 62) / 63) - F.length) 0 := by
 rw [encS, bodyS_secsTo, List.take_of_length_le Z64]
theorem encS_len (F : List UInt8) : (encS F).length = (F.length + 62) / 63 := by rw [encS, secsTo_len]
def okE (e : EntT) : Prop := e.1 < 256 ∧ e.2.1 < 4294967296 ∧ e.2.2.1 < 4294967296 ∧ e.2.2.2.length ≤ 4000
theorem encE_len (e : EntT) (h : e.2.2.2.length ≤ 4000) : (encE e).length = needM e.2.2.2.length := by
 rw [encE, encS_len, fullB_length, needM, if_neg Z64]; omega
theorem encS_cons (F : List UInt8) (h : 0 < F.length) : ∃ r, encS F = secOf F 0 :: r := by
 unfold encS secsTo
 obtain ⟨m, hm⟩ : ∃ m, (F.length + 62) / 63 = m + 1 := ⟨(F.length + 62) / 63 - 1, by omega⟩
 rw [hm, List.range_succ_eq_map]
 exact ⟨_, rfl⟩
theorem fullB_eq (e : EntT) : fullB e.1 e.2.1 e.2.2.1 e.2.2.2 = UInt8.ofNat e.1 :: (fourB e.2.1 ++ (fourB e.2.2.1 ++ (UInt8.ofNat (e.2.2.2.length / 256) :: UInt8.ofNat e.2.2.2.length :: (e.2.2.2 ++ fourB (Sm [preB e.1 e.2.1 e.2.2.1 e.2.2.2]))))) := by
 simp [fullB, preB, preL]
theorem head_list (e : EntT) : ∃ t, (secOf (fullB e.1 e.2.1 e.2.2.1 e.2.2.2) 0).toList = 87 :: UInt8.ofNat e.1 :: (fourB e.2.1 ++ (fourB e.2.2.1 ++ (UInt8.ofNat (e.2.2.2.length / 256) :: UInt8.ofNat e.2.2.2.length :: t))) := by
 rw [secOf_list, show markK 0 = 87 from rfl]
 unfold piece
 rw [Nat.mul_zero, List.drop_zero, fullB_eq]
 refine ⟨(e.2.2.2 ++ fourB (Sm [preB e.1 e.2.1 e.2.2.1 e.2.2.2])).take 52 ++ List.replicate (63 - ((UInt8.ofNat e.1 :: (fourB e.2.1 ++ (fourB e.2.2.1 ++ (UInt8.ofNat (e.2.2.2.length / 256) :: UInt8.ofNat e.2.2.2.length :: (e.2.2.2 ++ fourB (Sm [preB e.1 e.2.1 e.2.2.1 e.2.2.2])))))).take 63).length) 0, ?_⟩
 generalize 63 - _ = q
 simp [fourB]
theorem get_of_list {s : Sec} {j : Nat} (hj : j < 64) {v : UInt8} (h : s.toList[j]? = some v) : s[j] = v := by
 rw [Vector.getElem?_toList, Vector.getElem?_eq_getElem hj] at h
 simpa using h
theorem decS_enc (e : EntT) (h : okE e) (rest : List Sec) : decS (encE e ++ rest) = some (e, needM e.2.2.2.length) := by
 obtain ⟨h1, h2, h3, h4⟩ := h
 obtain ⟨r, hr⟩ := encS_cons (fullB e.1 e.2.1 e.2.2.1 e.2.2.2) (by rw [fullB_length]; omega)
 obtain ⟨t, ht⟩ := head_list e
 have hlen := encE_len e h4
 have hE : encE e = encS (fullB e.1 e.2.1 e.2.2.1 e.2.2.2) := rfl
 have hbody := bodyS_enc (fullB e.1 e.2.1 e.2.2.1 e.2.2.2)
 rw [← hE] at hr hbody
 generalize hs : secOf (fullB e.1 e.2.1 e.2.2.1 e.2.2.2) 0 = s at *
 have n10 : numAt s 10 2 = e.2.2.2.length := by
  unfold numAt; rw [ht]
  show numE [UInt8.ofNat (e.2.2.2.length / 256), UInt8.ofNat e.2.2.2.length] = _
  exact numB_two _ Z64
 have n2 : numAt s 2 4 = e.2.1 := by
  unfold numAt; rw [ht]
  exact numB_four _ h2
 have n6 : numAt s 6 4 = e.2.2.1 := by
  unfold numAt; rw [ht]
  exact numB_four _ h3
 have n0 : s[0].toNat = 87 := by rw [get_of_list (v := 87) Z63 (by rw [ht]; rfl)]; rfl
 have n1 : s[1].toNat = e.1 := by
  rw [get_of_list (v := UInt8.ofNat e.1) Z63 (by rw [ht]; rfl)]
  simp only [UInt8.toNat_ofNat']; omega
 have htake : (s :: (r ++ rest)).take (needM e.2.2.2.length) = encE e := by
  rw [← List.cons_append, ← hr, ← hlen, List.take_left]
 have hcand : candE (s :: (r ++ rest)) s = e := by
  unfold candE
  rw [n10, htake, n1, n2, n6, hbody, fullB_eq]
  have : ((UInt8.ofNat e.1 :: (fourB e.2.1 ++ (fourB e.2.2.1 ++ (UInt8.ofNat (e.2.2.2.length / 256) :: UInt8.ofNat e.2.2.2.length :: (e.2.2.2 ++ fourB (Sm [preB e.1 e.2.1 e.2.2.1 e.2.2.2])))))) ++ List.replicate (63 * (((UInt8.ofNat e.1 :: (fourB e.2.1 ++ (fourB e.2.2.1 ++ (UInt8.ofNat (e.2.2.2.length / 256) :: UInt8.ofNat e.2.2.2.length :: (e.2.2.2 ++ fourB (Sm [preB e.1 e.2.1 e.2.2.1 e.2.2.2])))))).length + 62) / 63) - (UInt8.ofNat e.1 :: (fourB e.2.1 ++ (fourB e.2.2.1 ++ (UInt8.ofNat (e.2.2.2.length / 256) :: UInt8.ofNat e.2.2.2.length :: (e.2.2.2 ++ fourB (Sm [preB e.1 e.2.1 e.2.2.1 e.2.2.2])))))).length) 0).drop 11 = e.2.2.2 ++ (fourB (Sm [preB e.1 e.2.1 e.2.2.1 e.2.2.2]) ++ List.replicate (63 * (((UInt8.ofNat e.1 :: (fourB e.2.1 ++ (fourB e.2.2.1 ++ (UInt8.ofNat (e.2.2.2.length / 256) :: UInt8.ofNat e.2.2.2.length :: (e.2.2.2 ++ fourB (Sm [preB e.1 e.2.1 e.2.2.1 e.2.2.2])))))).length + 62) / 63) - (UInt8.ofNat e.1 :: (fourB e.2.1 ++ (fourB e.2.2.1 ++ (UInt8.ofNat (e.2.2.2.length / 256) :: UInt8.ofNat e.2.2.2.length :: (e.2.2.2 ++ fourB (Sm [preB e.1 e.2.1 e.2.2.1 e.2.2.2])))))).length) 0) := by
   generalize List.replicate _ _ = z
   generalize fourB (Sm _) = y
   simp [fourB]
  rw [this, List.take_left]
 rw [hr, List.cons_append]
 show (if s[0].toNat = 87 ∧ needM (numAt s 10 2) ≠ 0 ∧ needM (numAt s 10 2) ≤ (s :: (r ++ rest)).length ∧ encE (candE (s :: (r ++ rest)) s) = (s :: (r ++ rest)).take (needM (numAt s 10 2)) then some (candE (s :: (r ++ rest)) s, needM (numAt s 10 2)) else none) = _
 rw [hcand, n10, htake, if_pos]
 refine ⟨n0, ?_, ?_, rfl⟩
 ·unfold needM; rw [if_neg Z64]; omega
 ·rw [← hlen, hr]; simp
end Go.Proofs.YtjlolpmmpafjeaaGreat
set_option linter.unusedVariables false
namespace Go.Proofs.YtjlolpmmpafjeaaGreat
open Slk
def entV (x : EntT) (q : Option Addr × Nat) : List Value := [.int .i64 x.1, .int .u32 x.2.1, .int .u32 x.2.2.1, .slice q.1 x.2.2.2.length q.2]
theorem Decode_some (D : Nat → Prop) (w : World) (v : Value) (S : List Sec) (x : EntT) (n : Nat) (h : decS S = some (x, n)) (HA : Old D w (Rep.rep S [v])) :
  Calls Tryz.prog 79 #[v] w fun e w' => ∃ q : Option Addr × Nat, e = .returned (.tuple #[.agg (entV x q).toArray, .int .i64 n, .int .i64 0]) ∧ Own D w w' [row q.1 5 1 x.2.2.2.length q.2 (x.2.2.2.map u8v)] :=
 (Decode_spec D w v S HA).mono fun e w' hp => by
  rcases hp with ⟨h1, _⟩ | ⟨x', n', q, h1, he, H'⟩
  ·rw [h] at h1; cases h1
  ·rw [h] at h1; cases h1; exact ⟨q, he, H'⟩
theorem Decode_none (D : Nat → Prop) (w : World) (v : Value) (S : List Sec) (h : decS S = none) (HA : Old D w (Rep.rep S [v])) :
  Calls Tryz.prog 79 #[v] w fun e w' => e = .returned (.tuple #[.agg #[.int .i64 0, .int .u32 0, .int .u32 0, .slice none 0 0], .int .i64 0, .int .i64 11]) ∧ Own D w w' [] :=
 (Decode_spec D w v S HA).mono fun e w' hp => by
  rcases hp with ⟨_, he, H'⟩ | ⟨x', n', q, h1, _⟩
  ·exact ⟨he, H'⟩
  ·rw [h] at h1; cases h1
theorem Encode_ent (D : Nat → Prop) (w : World) (e : EntT) (h : okE e) (v : Value) (HA : Old D w (Rep.rep e.2.2.2 [v])) :
  Calls Tryz.prog 99 #[.agg #[.int .i64 e.1, .int .u32 e.2.1, .int .u32 e.2.2.1, v]] w fun r w' => ∃ q : Option Addr × Nat, r = .returned (.tuple #[.slice q.1 (encE e).length q.2, .int .i64 0]) ∧ Own D w w' [row q.1 61 64 (encE e).length q.2 ((encE e).flatMap secC)] := by
 have hl : (encE e).length = (15 + e.2.2.2.length + 62) / 63 := by rw [encE, encS_len, fullB_length]
 rw [hl]
 exact Encode_ok D w e.1 e.2.1 e.2.2.1 v e.2.2.2 h.1 h.2.1 h.2.2.1 h.2.2.2 HA
end Go.Proofs.YtjlolpmmpafjeaaGreat
