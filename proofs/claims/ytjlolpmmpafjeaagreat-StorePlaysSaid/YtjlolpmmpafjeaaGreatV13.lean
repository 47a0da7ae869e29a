import Derived.Test.YtjlolpmmpafjeaaGreatV12
set_option linter.unusedVariables false
set_option linter.unusedSimpArgs false
namespace Go.Proofs.YtjlolpmmpafjeaaGreat
open Slk
variable (D : Nat → Prop) (w : World)
def latC (p : Nat × Sec) : List Value := .int .i64 (p.1 : Int) :: secC p.2
@[simp] theorem latC_len (p : Nat × Sec) : (latC p).length = 65 := by simp [latC, secC_len]
theorem latC_one (p : Nat × Sec) : ∀ v ∈ latC p, v.oneCell' = true := fun v hv => by
 rcases List.mem_cons.1 hv with rfl | h
 ·rfl
 ·exact secC_one _ v h
def dskL (tD tL g : Nat) (S : List Sec) (P : List (Nat × Sec)) (q : (Option Addr × Nat) × (Option Addr × Nat)) : List HProp :=
 [blk g tD [.slice q.1.1 S.length q.1.2, .slice q.2.1 P.length q.2.2], row q.1.1 61 64 S.length q.1.2 (S.flatMap secC), row q.2.1 tL 65 P.length q.2.2 (P.flatMap latC)]
def dskT (tD tL g : Nat) (S : List Sec) (P : List (Nat × Sec)) : HProp := exS (dskL tD tL g S P)
abbrev dsk (g : Nat) (S : List Sec) (P : List (Nat × Sec)) : HProp := dskT 107 143 g S P
theorem dsk_mk {tD tL g : Nat} {S : List Sec} {P : List (Nat × Sec)} {A0 A1 : Option Addr} {c0 c1 : Nat} {l : List HProp} :
  Ent (blk g tD [.slice A0 S.length c0, .slice A1 P.length c1] :: row A0 61 64 S.length c0 (S.flatMap secC) :: row A1 tL 65 P.length c1 (P.flatMap latC) :: l) (dskT tD tL g S P :: l) :=
 Ent.exS (L := dskL tD tL g S P) (l := l) ((A0, c0), (A1, c1))
theorem zeros_sec (n : Nat) : zerosL (List.replicate 64 (Value.int .u8 0)) n = (List.replicate n zeroSec).flatMap secC := by
 rw [zerosL, List.flatMap_replicate, secC_zero]
theorem New_ok (n : Nat) (h1 : 1 ≤ n) (h2 : n ≤ 4096) :
  Calls Tryz.prog 15 #[.int .i64 n] w fun e w' => ∃ g : Nat, e = .returned (.tuple #[.pointer (some ⟨g, 0, none⟩), .int .i64 0]) ∧ Own D w w' [dsk g (List.replicate n zeroSec) []] := by
 refine hc_enter (vs := [.int .i64 n]) Tryz.func15 rfl _ Tryz.ntmps15 rfl (Own.start D w) ?_
 simp only [argSlots, Nat.zero_add]
 refine zg <| zs rfl <| zs rfl <| zn <| hc_seq <| zg <| zm rfl <| zv (ov_lss rfl rfl) <| zm rfl <| hl_partF (t := 6) rfl Z64 ?_
 refine hl_on rfl rfl <| zm rfl <| hl_on rfl rfl <| zv (ov_gtr rfl rfl) <| zv (ov_pickF rfl rfl) <| zn <| hc_cond_F rfl Z64 ?_
 refine zk <| zg <| zm rfl <| hl_new (on_make rfl rfl n rfl Z64 Z64) rfl rfl rfl (fun b => ?_)
 refine zv (ov_buildSN rfl rfl) <| ?_
 refine hl_new (on_boxN rfl rfl) rfl rfl rfl fun b13 =>  ?_
 refine zs rfl <| zs rfl <| zn <| zq <| results_2 (.inr rfl) rfl rfl rfl fun w' H' => ⟨_, rfl, H'.ent ?_⟩
 refine Ent.trans (b := [blk b13 107 [.slice (some ⟨b, 0, none⟩) (List.replicate n zeroSec).length n, .slice none ([] : List (Nat × Sec)).length 0], row (some ⟨b, 0, none⟩) 61 64 (List.replicate n zeroSec).length n ((List.replicate n zeroSec).flatMap secC), row none 143 65 0 0 []]) ?_ dsk_mk
 rw [List.length_replicate, ← zeros_sec]
 exact Ent.cons ((Ent.blk_row 64 n (by rw [zerosL_length]; simp) Z64).trans (Ent.cons (Ent.nil_row _ _)))
theorem New_no (n : Int) (h : n < 1 ∨ 4096 < n) :
  Calls Tryz.prog 15 #[.int .i64 n] w fun e w' => e = .returned (.tuple #[.pointer none, .int .i64 1]) ∧ Own D w w' [] := by
 refine hc_enter (vs := [.int .i64 n]) Tryz.func15 rfl _ Tryz.ntmps15 rfl (Own.start D w) ?_
 simp only [argSlots, Nat.zero_add]
 refine zg <| zs rfl <| zs rfl <| zn <| hc_seq <| zg <| zm rfl <| zv (ov_lss rfl rfl) <| zm rfl <| hl_part (t := 6) rfl (fun h1 => ?_) (fun h1 => ?_)
 ·refine zo rfl rfl <| zo rfl rfl <| zv (ov_pickT rfl rfl) <| zn <| hc_cond_true rfl <| zg <| zs rfl <| zs rfl <| zn <| zq <| zr <| ?_
  exact results_2 (.inr rfl) rfl rfl rfl fun w' H' => ⟨rfl, H'⟩
 refine hl_on rfl rfl <| zm rfl <| hl_on rfl rfl <| zv (ov_gtr rfl rfl) <| zv (ov_pickF rfl rfl) <| zn <| hc_cond_T rfl Z64 ?_
 refine zg <| zs rfl <| zs rfl <| zn <| zq <| zr <| ?_
 exact results_2 (.inr rfl) rfl rfl rfl fun w' H' => ⟨rfl, H'⟩
theorem has_spec (g : Nat) (i : Int) (A0 A1 : Option Addr) (n c0 m c1 : Nat) (H : Own D w w [blk g 107 [.slice A0 n c0, .slice A1 m c1]]) :
  Calls Tryz.prog 61 #[.pointer (some ⟨g, 0, none⟩), .int .i64 i] w fun e w' => e = .returned (.bool (decide (0 ≤ i ∧ i < n))) ∧ Own D w w' [blk g 107 [.slice A0 n c0, .slice A1 m c1]] := by
 refine hc_enter (vs := [.pointer (some ⟨g, 0, none⟩), .int .i64 i]) Tryz.func61 rfl _ Tryz.ntmps61 rfl H ?_
 simp only [argSlots, Nat.zero_add]
 refine zg <| zs rfl <| zn <| hc_seq <| hc_region <| zm rfl <| zv (ov_neqP rfl rfl) <| zm rfl <| hl_on rfl rfl <| zm rfl <| hl_on rfl rfl <| zv (ov_geq rfl rfl) <| zv (ov_pickT rfl rfl) <| zm rfl <| hl_part (t := 11) rfl (fun h1 => ?_) (fun h1 => ?_)
 ·refine hl_on rfl rfl <| zm rfl <| hl_on rfl rfl <| zm rfl <| hl_on rfl rfl <| zv (ov_nil rfl) <| hl_on rfl rfl <| zf rfl <| hl_on rfl rfl <| zl rfl rfl <| hl_on rfl rfl <| zv Z25 <| ?_
  refine hl_on rfl rfl <| zv (ov_lss rfl rfl) <| zv (ov_pickT rfl rfl) <| zs rfl <| zn <| zq <| ?_
  exact zz rfl rfl fun w' H' => ⟨by simp [h1], H'⟩
 refine zo rfl rfl <| zo rfl rfl <| zo rfl rfl <| zo rfl rfl <| zo rfl rfl <| zo rfl rfl <| zo rfl rfl <| zv (ov_pickF rfl rfl) <| zs rfl <| zn <| zq <| ?_
 exact zz rfl rfl fun w' H' => ⟨by simp [h1], H'⟩
theorem fill_lat (i : Nat) (s : Sec) : fillL (fun j => [(0, 1), (1, 64)][j]?) ([.int .i64 0] ++ List.replicate 64 (.int .u8 0)) [(0, .int .i64 (i : Int)), (1, .agg (secC s).toArray)] = some (latC (i, s)) := by
 have h : setSeg (.int .i64 (i : Int) :: List.replicate 64 (.int .u8 0)) 1 (secC s) = .int .i64 (i : Int) :: secC s := by
  have := setSeg_mid [.int .i64 (i : Int)] (List.replicate 64 (.int .u8 0)) [] (secC s) 1 rfl (by rw [secC_len]; simp)
  simpa using this
 simp only [fillL, Value.cells, List.getElem?_cons_zero, List.getElem?_cons_succ, List.size_toArray, secC_len]
 simp only [setSeg, List.length_cons, List.length_nil, List.cons_append, List.nil_append, List.length_replicate, List.set_cons_zero, h, and_self]
 simp [latC]
theorem fill_one (i : Nat) (s : Sec) : fillL (fun j => some (j * 65, 65)) (zerosL ([.int .i64 0] ++ List.replicate 64 (.int .u8 0)) 1) [(0, .agg (latC (i, s)).toArray)] = some (latC (i, s)) := by
 simp only [fillL, Value.cells, List.size_toArray, latC_len, Nat.zero_mul]
 rw [if_pos ⟨trivial, by rw [zerosL_length]; simp⟩, setSeg_all (by rw [latC_len, zerosL_length]; simp)]
theorem Write_ok (g : Nat) (i : Nat) (s : Sec) (S : List Sec) (P : List (Nat × Sec)) (hi : i < S.length) (hP : P.length ≤ 1000000) (H : Own D w w [dsk g S P]) :
  Calls Tryz.prog 23 #[.pointer (some ⟨g, 0, none⟩), .int .i64 i, .agg (secC s).toArray] w fun e w' => e = .returned (.int .i64 0) ∧ Own D w w' [dsk g S (P ++ [(i, s)])] := by
 refine hc_enter (vs := [.pointer (some ⟨g, 0, none⟩), .int .i64 i, .agg (secC s).toArray]) Tryz.func23 rfl _ Tryz.ntmps23 rfl H ?_
 simp only [argSlots, Nat.zero_add]
 refine HC.exs ?_
 rintro ⟨⟨A0, c0⟩, A1, c1⟩
 refine HC.ent (l' := [blk g 107 [.slice A0 S.length c0, .slice A1 P.length c1], row A0 61 64 S.length c0 (S.flatMap secC), row A1 143 65 P.length c1 (P.flatMap latC)]) (fun _ h => h) ?_
 refine zg <| hl_new (on_boxG (cs := secC s) rfl) rfl rfl rfl (fun b5 => ?_)
 refine zs rfl <| zn <| hc_seq <| zg <| zm rfl <| zm rfl <| hl_c Tryz.call61 rfl rfl (fun w1 => zp (blk g 107 [.slice A0 S.length c0, .slice A1 P.length c1]) fun D' _ _ H2 => has_spec D' w1 g i A0 A1 _ c0 _ c1 H2) ?_
 refine zv Z26 <| ?_
 refine zn <| hc_cond_F rfl (by simp [hi]) ?_
 refine zk <| hc_seq <| hc_cutK0 (σ := Option Addr × Nat) [] rfl  (fun q => [blk g 107 [.slice A0 S.length c0, .slice q.1 (P.length + 1) q.2], row A0 61 64 S.length c0 (S.flatMap secC), row q.1 143 65 (P.length + 1) q.2 ((P ++ [(i, s)]).flatMap latC)]) (fun K1 hK1 => ?_) (fun q => ?_)
 ·refine HC.ent (Ent.trans (b := [blk b5 61 (secC s), blk g 107 [.slice A0 S.length c0, .slice A1 P.length c1], row A0 61 64 S.length c0 (S.flatMap secC), row A1 143 65 P.length c1 (P.flatMap latC)]) Z8 (Ent.refl _)) ?_
  refine hc_any [blk b5 61 (secC s)] mixed 13 rfl ?_
  refine ha_v 0 rfl (ov_move rfl) rfl <| ha_v 1 rfl (ov_move rfl) rfl <| ha_v 2 rfl (ov_nil rfl) rfl <| ha_v 3 rfl (ov_fieldA rfl) rfl <| ha_v 5 rfl (ov_move rfl) rfl <| ha_v 6 rfl Z17 rfl <| ?_
  refine ha_v 7 rfl (ov_buildS (res := latC (i, s)) rfl (fill_lat i s)) rfl ?_
  refine ha_two 4 8 Z61 ?_ ?_
  ·skip
   refine ho_v rfl (zw rfl rfl) rfl <| ha_one 8 Z61 <| ho_n rfl (on_buildSlice (res := latC (i, s)) rfl rfl (fill_one i s)) rfl (fun b19 => ?_)
   refine ha_one 9 Z61 <| ho_n rfl (on_appendR (A := A1) (news := latC (i, s)) rfl rfl (SrcIs.blk (b := b19)) (by rw [latC_len]) (latC_one _) Z63 Z64) rfl ?_
   rintro ⟨B, cB⟩
   dsimp only
   refine ha_v 10 rfl (ov_nil rfl) rfl <| ha_v 11 rfl (ov_fieldA rfl) rfl <| ha_one 12 Z61 <| ho_w0 rfl (on_storeN rfl rfl rfl rfl rfl) rfl ?_
   refine ha_done Z61 <| ?_
   exact hx_cut hK1 ((B, cB)) Z16 Z2
  skip
  refine ho_n rfl (on_buildSlice (res := latC (i, s)) rfl rfl (fill_one i s)) rfl (fun b19 => ?_)
  refine ha_one 4 Z61 <| ho_v rfl (zw rfl rfl) rfl <| ha_one 9 Z61 <| ho_n rfl (on_appendR (A := A1) (news := latC (i, s)) rfl rfl (SrcIs.blk (b := b19)) (by rw [latC_len]) (latC_one _) Z63 Z64) rfl ?_
  rintro ⟨B, cB⟩
  dsimp only
  refine ha_v 10 rfl (ov_nil rfl) rfl <| ha_v 11 rfl (ov_fieldA rfl) rfl <| ha_one 12 Z61 <| ho_w0 rfl (on_storeN rfl rfl rfl rfl rfl) rfl ?_
  refine ha_done Z61 <| ?_
  exact hx_cut hK1 ((B, cB)) Z16 Z2
 refine zt <| zg <| zs rfl <| zn <| zq <| ?_
 exact zz rfl rfl fun w' H' => ⟨rfl, H'.ent (by have := dsk_mk (tD := 107) (tL := 143) (g := g) (S := S) (P := P ++ [(i, s)]) (A0 := A0) (c0 := c0) (A1 := q.1) (c1 := q.2) (l := []); rw [List.length_append] at this; exact this)⟩
def lastW (i : Nat) (P : List (Nat × Sec)) (s : Sec) : Sec := P.foldl (fun s p => if p.1 = i then p.2 else s) s
theorem lastW_snoc (i : Nat) (P : List (Nat × Sec)) (p : Nat × Sec) (s : Sec) : lastW i (P ++ [p]) s = if p.1 = i then p.2 else lastW i P s := by simp [lastW]
def settleL (kept : Nat → Bool) : Nat → List Sec → List (Nat × Sec) → List Sec
 | _, S, [] => S
 | k, S, p :: r => settleL kept (k + 1) (if kept k then S.set p.1 p.2 else S) r
theorem settleL_snoc (kept : Nat → Bool) : ∀ (P : List (Nat × Sec)) (k : Nat) (S : List Sec) (p : Nat × Sec), settleL kept k S (P ++ [p]) = if kept (k + P.length) then (settleL kept k S P).set p.1 p.2 else settleL kept k S P
 | [], k, S, p => by simp [settleL]
 | q :: r, k, S, p => by
  simp only [List.cons_append, settleL]
  rw [settleL_snoc kept r (k + 1)]
  simp only [List.length_cons]
  rw [show k + 1 + r.length = k + (r.length + 1) by omega]
theorem settleL_len (kept : Nat → Bool) : ∀ (P : List (Nat × Sec)) (k : Nat) (S : List Sec), (settleL kept k S P).length = S.length
 | [], _, _ => rfl
 | p :: r, k, S => by
  simp only [settleL]
  rw [settleL_len kept r]
  split <;> simp
theorem latC_at (p : Nat × Sec) (k : Nat) (v : Value) (h : (secC p.2)[k]? = some v) : (latC p)[0 + 1 + k]? = some v := by
 rw [show 0 + 1 + k = k + 1 by omega]
 exact h
theorem dsk_facts {D : Nat → Prop} {w0 w : World} {l r : List HProp} {A : Option Addr} {t : TypeId} {sz n cap : Nat} {cs : List Value} [h : PickR l A t sz n cap cs r] (H : Own D w0 w l) : n ≤ 9223372036854775807 ∧ (cs ≠ [] → isA A) := by
 have := Own.factR A H
 exact ⟨by omega, this.2.2.2⟩
theorem flat_ne {α : Type} {f : α → List Value} {sz : Nat} (hf : ∀ x, (f x).length = sz) (hz : 0 < sz) {xs : List α} (h : 0 < xs.length) : xs.flatMap f ≠ [] := by
 intro e
 have := flat_len hf xs
 rw [e, List.length_nil] at this
 have := Nat.mul_pos h hz
 omega
theorem Read_ok (g : Nat) (i : Nat) (S : List Sec) (P : List (Nat × Sec)) (hi : i < S.length) (H : Own D w w [dsk g S P]) :
  Calls Tryz.prog 35 #[.pointer (some ⟨g, 0, none⟩), .int .i64 i] w fun e w' => e = .returned (.tuple #[.agg (secC (lastW i P S[i])).toArray, .int .i64 0]) ∧ Own D w w' [dsk g S P] := by
 refine hc_enter (vs := [.pointer (some ⟨g, 0, none⟩), .int .i64 i]) Tryz.func35 rfl _ Tryz.ntmps35 rfl H ?_
 simp only [argSlots, Nat.zero_add]
 refine HC.exs ?_
 rintro ⟨⟨A0, c0⟩, A1, c1⟩
 refine HC.ent (l' := [blk g 107 [.slice A0 S.length c0, .slice A1 P.length c1], row A0 61 64 S.length c0 (S.flatMap secC), row A1 143 65 P.length c1 (P.flatMap latC)]) (fun _ h => h) ?_
 refine HC.fact (fun w H => dsk_facts (A := A0) H) (fun hf0 => ?_)
 refine HC.fact (fun w H => dsk_facts (A := A1) H) (fun hf1 => ?_)
 have hA0 : isA A0 := hf0.2 (flat_ne secC_len Z63 Z64)
 refine zg <| hl_new (on_alloc) rfl rfl rfl fun b4 =>
  zs rfl <| zn <| ?_
 refine hc_seq <| zg <| zm rfl <| zm rfl <| hl_c Tryz.call61 rfl rfl (fun w1 => zp (blk g 107 [.slice A0 S.length c0, .slice A1 P.length c1]) fun D' _ _ H2 => has_spec D' w1 g i A0 A1 _ c0 _ c1 H2) ?_
 refine zv Z26 <| ?_
 refine zn <| hc_cond_F rfl (by simp [hi]) ?_
 refine zk <| zg <| zm rfl <| zv (ov_nil rfl) <| zf rfl <| zl rfl rfl <| zm rfl <| zv (ov_idxS rfl Z62 rfl _ rfl Z64) <| ?_
 refine hl_v (ov_loadG (cs := secC S[i]) rfl (secC_len _) (CellsAre.flat secC_len hA0 hi)) rfl <| hl_new (on_alloc) rfl rfl rfl fun b6 =>  ?_
 refine hl_u0 (on_storeW rfl rfl (by simp) (by simp) (secC_one _)) rfl rfl ?_
 refine zn <| hc_seq <| zg <| zm rfl <| zv (ov_nil rfl) <| zf rfl <| zl rfl rfl <| zv Z25 <| ?_
 refine zm rfl <| zn <| hc_block <| hc_loopK1 (σ := Nat) [1, 4, 6, 24, 25] rfl 26 (fun j => .int .i64 j) (fun j => [blk b6 61 (secC (lastW i (P.take j) S[i])), blk b4 61 (List.replicate 64 (.int .u8 0)), blk g 107 [.slice A0 S.length c0, .slice A1 P.length c1], row A0 61 64 S.length c0 (S.flatMap secC), row A1 143 65 P.length c1 (P.flatMap latC)]) (fun j => j ≤ P.length) (fun j => P.length - j) (0) (Nat.zero_le _) rfl ((show Ent _ (blk b6 61 (secC S[i]) :: _) from Z8)) ?_
 rintro j hj K1 hK1
 refine zg <| zv (ov_lss rfl rfl) <| zn <| hc_seq <| hc_cond rfl (fun hlt => ?_) (fun hlt => ?_)
 ·have hlt : j < P.length := by omega
  have hA1 : isA A1 := hf1.2 (flat_ne latC_len Z63 Z64)
  have hsn := List.take_succ_eq_append_getElem hlt
  refine zk <| hc_seq <| hc_block <| zg <| zv (ov_idxS rfl Z62 rfl _ rfl Z64) <| ?_
  refine hl_v (ov_loadG (cs := latC P[j]) rfl (latC_len _) (CellsAre.flat latC_len hA1 hlt)) rfl <| hl_new (on_alloc) rfl rfl rfl fun b8 =>  ?_
  refine hl_u0 (on_storeW rfl rfl (by simp) (by simp) (latC_one _)) rfl rfl ?_
  refine zn <| zg <| zf rfl <| zl rfl rfl <| ?_
  refine zm rfl <| zv (ov_eql rfl rfl) <| zn <| hc_cutK0 (σ := Unit) [1, 4, 6, 24, 25, 26] rfl  (fun _u => [blk b6 61 (secC (lastW i (P.take (j + 1)) S[i])), blk b4 61 (List.replicate 64 (.int .u8 0)), blk g 107 [.slice A0 S.length c0, .slice A1 P.length c1], row A0 61 64 S.length c0 (S.flatMap secC), row A1 143 65 P.length c1 (P.flatMap latC)]) (fun K2 hK2 => ?_) (fun _u => ?_)
  ·rw [hsn, lastW_snoc] at hK2
   refine hc_cond rfl (fun he => ?_) (fun he => ?_)
   ·rw [if_pos Z64] at hK2
    refine hc_region <| zf rfl <| ?_
    refine hl_v (ov_loadG (cs := secC P[j].2) rfl (secC_len _) (CellsAre.blk (latC_at P[j]))) rfl <| hl_u0 (on_storeW rfl rfl (by simp) (by simp) (secC_one _)) rfl rfl ?_
    refine hl_nil <| hx_cut hK2 (()) Z16 Z10
   rw [if_neg Z64] at hK2
   refine hc_skip <| hx_cut hK2 (()) Z16 Z10
  refine zb <| zt <| hc_region <| zv (ov_add rfl rfl Z28) <| ?_
  refine zm rfl <| hl_nil <| hx_next hK1 (j + 1) (hlt) Z64 Z16 Z10
 have : j = P.length := by omega
 subst this
 rw [List.take_length]
 refine hc_exit <| ze <| ze <| hx_block_out <| zt <| hc_seq <| hc_region <| zv Z17 <| ?_
 refine hl_u0 (on_storeW rfl rfl (by simp) (by simp) (secC_one _)) rfl rfl ?_
 refine zs rfl <| zn <| zq <| ?_
 exact results_ct (.inr rfl) rfl rfl (by simp) rfl fun w' H' => ⟨rfl, H'.ent (Ent.trans Z8 (dsk_mk (A0 := A0) (c0 := c0) (A1 := A1) (c1 := c1)))⟩
theorem settle_spec (g f : Nat) (cap : List Value) (kept : Nat → Bool) (S : List Sec) (P : List (Nat × Sec)) (hP : ∀ p ∈ P, p.1 < S.length) (hcf : ∀ args w, (callFunc f args).run Tryz.prog w = .ok (.enter f args) w)
  (HK : ∀ D' w1, (∀ A, Old D w A → Old D' w1 A) → ∀ at' : Nat, at' < P.length → Calls Tryz.prog f ([Value.int .i64 (at' : Int)] ++ cap).toArray w1 fun e w' => e = .returned (.bool (kept at')) ∧ Own D' w1 w' []) (H : Own D w w [dsk g S P]) :
  Calls Tryz.prog 62 #[.pointer (some ⟨g, 0, none⟩), .func (.func f) #[] cap.toArray] w fun e w' => e = .returned (.tuple #[]) ∧ Own D w w' [dsk g (settleL kept 0 S P) []] := by
 refine hc_enter (vs := [.pointer (some ⟨g, 0, none⟩), .func (.func f) #[] cap.toArray]) Tryz.func62 rfl _ Tryz.ntmps62 rfl H ?_
 simp only [argSlots, Nat.zero_add]
 refine HC.exs ?_
 rintro ⟨⟨A0, c0⟩, A1, c1⟩
 refine HC.ent (l' := [blk g 107 [.slice A0 S.length c0, .slice A1 P.length c1], row A0 61 64 S.length c0 (S.flatMap secC), row A1 143 65 P.length c1 (P.flatMap latC)]) (fun _ h => h) ?_
 refine HC.fact (fun w H => dsk_facts (A := A0) H) (fun hf0 => ?_)
 refine HC.fact (fun w H => dsk_facts (A := A1) H) (fun hf1 => ?_)
 refine hc_seq <| zg <| zm rfl <| zv (ov_nil rfl) <| zf rfl <| ?_
 refine zl rfl rfl <| zv Z25 <| ?_
 refine zm rfl <| zn <| hc_block <| hc_loopK1 (σ := Nat) [0, 1, 9, 10] rfl 11 (fun j => .int .i64 j) (fun j => [blk g 107 [.slice A0 S.length c0, .slice A1 P.length c1], row A0 61 64 S.length c0 ((settleL kept 0 S (P.take j)).flatMap secC), row A1 143 65 P.length c1 (P.flatMap latC)]) (fun j => j ≤ P.length) (fun j => P.length - j) (0) (Nat.zero_le _) rfl (Ent.refl _) ?_
 rintro j hj K1 hK1
 refine zg <| zv (ov_lss rfl rfl) <| zn <| hc_seq <| hc_cond rfl (fun hlt => ?_) (fun hlt => ?_)
 ·have hlt : j < P.length := by omega
  have hA1 : isA A1 := hf1.2 (flat_ne latC_len Z63 Z64)
  have hsn := List.take_succ_eq_append_getElem hlt
  have hpj := hP _ (List.getElem_mem hlt)
  have hA0 : isA A0 := hf0.2 (flat_ne secC_len Z63 Z64)
  have hsl := settleL_len kept (P.take j) 0 S
  refine zk <| hc_seq <| hc_block <| zg <| zm rfl <| zv (ov_idxS rfl Z62 rfl _ rfl Z64) <| ?_
  refine hl_v (ov_loadG (cs := latC P[j]) rfl (latC_len _) (CellsAre.flat latC_len hA1 hlt)) rfl <| hl_new (on_alloc) rfl rfl rfl fun b5 =>
   zs rfl <| ?_
  refine hl_u0 (on_storeW rfl rfl (by simp) (by simp) (latC_one _)) rfl rfl ?_
  refine zn <| zg <| zm rfl <| zm rfl <| hl_cv rfl hcf rfl rfl (fun w1 => zun fun D' hold _ _ => HK D' w1 hold j hlt) ?_
  refine zn <| hc_cutK0 (σ := Unit) [0, 1, 9, 10, 11] rfl  (fun _u => [blk g 107 [.slice A0 S.length c0, .slice A1 P.length c1], row A0 61 64 S.length c0 ((settleL kept 0 S (P.take (j + 1))).flatMap secC), row A1 143 65 P.length c1 (P.flatMap latC)]) (fun K2 hK2 => ?_) (fun _u => ?_)
  ·rw [hsn, settleL_snoc, List.length_take, Nat.zero_add, Nat.min_eq_left Z64] at hK2
   refine hc_cond_bool rfl (fun hk => ?_) (fun hk => ?_)
   ·rw [if_pos hk] at hK2
    generalize settleL kept 0 S (P.take j) = T at *
    generalize P[j] = p at *
    refine hc_any [blk g 107 [.slice A0 S.length c0, .slice A1 P.length c1], blk b5 143 (latC p)] mixed 10 rfl ?_
    refine ha_v 0 rfl (ov_move rfl) rfl <| ha_v 1 rfl (ov_nil rfl) rfl <| ha_v 2 rfl (ov_fieldA rfl) rfl <| ha_v 3 rfl (zw rfl rfl) rfl <| ha_v 4 rfl (ov_fieldA rfl) rfl <| ha_v 5 rfl (zw rfl rfl) rfl <| ha_v 6 rfl (ov_fieldA rfl) rfl <| ha_one 7 Z61 <| ho_v rfl (ov_loadG (cs := secC p.2) rfl (secC_len _) (CellsAre.blk (latC_at p))) rfl <| ha_v 8 rfl (ov_idxS rfl Z62 rfl _ rfl Z64) rfl <| ?_
    refine ha_one 9 Z61 <| ho_w0 rfl (on_storeRG (A := A0) (vs := secC p.2) rfl rfl (secC_len _) (by rw [flat_len secC_len]; omega) (by rw [flat_len secC_len, secC_len, ← Nat.succ_mul]; exact Nat.mul_le_mul_right _ Z64) (secC_one _)) rfl ?_
    rw [flat_set secC_len T p.1 p.2 Z64]
    refine ha_done Z61 <| ?_
    refine hx_cut hK2 (()) Z16 Z10
   rw [if_neg (by simp [hk])] at hK2
   refine hc_skip <| hx_cut hK2 (()) Z16 Z10
  refine zb <| zt <| hc_region <| zv (ov_add rfl rfl Z28) <| ?_
  refine zm rfl <| hl_nil <| hx_next hK1 (j + 1) (hlt) Z64 Z16 Z10
 have : j = P.length := by omega
 subst this
 rw [List.take_length]
 have hsl := settleL_len kept P 0 S
 refine hc_exit <| ze <| ze <| hx_block_out <| zt <| hc_region <| zm rfl <| zv (ov_nil rfl) <| zf rfl <| hl_u0 (on_storeN rfl rfl rfl rfl rfl) rfl rfl <| hl_nil <| ?_
 refine results_0 (.inl rfl) rfl fun w' H' => ⟨rfl, H'.ent ?_⟩
 have hd := dsk_mk (tD := 107) (tL := 143) (g := g) (S := settleL kept 0 S P) (P := []) (A0 := A0) (c0 := c0) (A1 := none) (c1 := 0) (l := [])
 rw [hsl] at hd
 exact Ent.trans (Ent.cons (Ent.cons ((Ent.nil _).trans (Ent.nil_row _ _)))) hd
theorem Flush1_spec (i : Int) : Calls Tryz.prog 63 #[.int .i64 i] w fun e w' => e = .returned (.bool true) ∧ Own D w w' [] := by
 refine hc_enter (vs := [.int .i64 i]) Tryz.func63 rfl _ Tryz.ntmps63 rfl (Own.start D w) ?_
 simp only [argSlots, Nat.zero_add]
 refine zg <| zs rfl <| zn <| hc_seq <| hc_region <| zs rfl <| zn <| zq <| ?_
 exact zz rfl rfl fun w' H' => ⟨rfl, H'⟩
theorem Flush_spec (g : Nat) (S : List Sec) (P : List (Nat × Sec)) (hP : ∀ p ∈ P, p.1 < S.length) (H : Own D w w [dsk g S P]) :
  Calls Tryz.prog 24 #[.pointer (some ⟨g, 0, none⟩)] w fun e w' => e = .returned (.int .i64 0) ∧ Own D w w' [dsk g (settleL (fun _ => true) 0 S P) []] := by
 refine hc_enter (vs := [.pointer (some ⟨g, 0, none⟩)]) Tryz.func24 rfl _ Tryz.ntmps24 rfl H ?_
 simp only [argSlots, Nat.zero_add]
 refine zg <| zs rfl <| zn <| hc_seq <| zg <| zm rfl <| zv (ov_eqlP rfl rfl) <| zn <| hc_cond_false rfl <| zk <| zg <| zm rfl <| hl_c Tryz.call62 rfl rfl (fun w1 => zp (dsk g S P) fun D' _ _ H2 => settle_spec D' w1 g 63 [] (fun _ => true) S P hP Tryz.call63 (fun D2 w2 _ k _ => Flush1_spec D2 w2 k) H2) ?_
 refine zn <| zg <| zs rfl <| hl_nil <| zt <| zq <| ?_
 exact zz rfl rfl fun w' H' => ⟨rfl, H'⟩
theorem Crash1_spec (i b : Nat) (v : Value) (keep : List Bool) (h1 : Old D w (blk b 24 [v])) (h2 : Old D w (Rep.rep keep [v])) :
  Calls Tryz.prog 64 #[.int .i64 i, .pointer (some ⟨b, 0, none⟩)] w fun e w' => e = .returned (.bool (keep.getD i false)) ∧ Own D w w' [] := by
 obtain ⟨A, cap, rfl, hc1, hc2, hel⟩ := h2.openE rfl
 have hb : ∀ l, CellIs D w l b 0 (.slice A keep.length cap) := fun l => CellIs.old (Old.blk h1)
 refine hc_enter (vs := [.int .i64 i, .pointer (some ⟨b, 0, none⟩)]) Tryz.func64 rfl _ Tryz.ntmps64 rfl (Own.start D w) ?_
 simp only [argSlots, Nat.zero_add]
 refine zg <| zs rfl <| zn <| hc_seq <| hc_region <| zm rfl <| hl_v (ov_load rfl (hb _)) rfl <| zv Z25 <| ?_
 refine zv (ov_lss rfl rfl) <| zm rfl <| hl_part (t := 8) rfl (fun hlt => ?_) (fun hlt => ?_)
 ·have hlt : i < keep.length := by omega
  obtain ⟨hA, u, hu, hcl⟩ := hel i hlt
  have hu := hu.pure
  simp only [List.cons.injEq, and_true] at hu
  subst hu
  refine hl_on rfl rfl <| hl_v (ov_load rfl (hb _)) rfl <| hl_on rfl rfl <| zm rfl <| hl_on rfl rfl <| zv (ov_idxS rfl Z62 rfl _ rfl Z64) <| hl_on rfl rfl <| zv Z9 <| ?_
  refine zv (ov_pickT rfl rfl) <| zs rfl <| zn <| zq <| ?_
  exact zz rfl rfl fun w' H' => ⟨by simp [List.getD_eq_getElem?_getD, List.getElem?_eq_getElem hlt], H'⟩
 refine zo rfl rfl <| zo rfl rfl <| zo rfl rfl <| zo rfl rfl <| zv (ov_pickF rfl rfl) <| zs rfl <| zn <| zq <| ?_
 exact zz rfl rfl fun w' H' => ⟨by rw [List.getD_eq_getElem?_getD, List.getElem?_eq_none Z64]; rfl, H'⟩
theorem Crash_spec (g : Nat) (S : List Sec) (P : List (Nat × Sec)) (v : Value) (keep : List Bool) (hP : ∀ p ∈ P, p.1 < S.length) (hv : Old D w (Rep.rep keep [v])) (H : Own D w w [dsk g S P]) :
  Calls Tryz.prog 25 #[.pointer (some ⟨g, 0, none⟩), v] w fun e w' => e = .returned (.tuple #[]) ∧ Own D w w' [dsk g (settleL (fun k => keep.getD k false) 0 S P) []] := by
 obtain ⟨A, cap, rfl, hc1, hc2, _⟩ := hv.openE rfl
 refine hc_enter (vs := [.pointer (some ⟨g, 0, none⟩), .slice A keep.length cap]) Tryz.func25 rfl _ Tryz.ntmps25 rfl H ?_
 simp only [argSlots, Nat.zero_add]
 refine zg <| hl_new (on_boxN rfl rfl) rfl rfl rfl fun b3 =>  ?_
 refine zn <| zg <| zm rfl <| zv (ov_neqP rfl rfl) <| zn <| hc_cond_true rfl <| hc_region <| zm rfl <| hl_v (ov_func (first := []) (captured := [.tmp 3]) rfl rfl) rfl ?_
 refine hl_c Tryz.call62 rfl rfl (fun w1 => zp (dsk g S P) fun D' hold hin H2 => settle_spec D' w1 g 64 [.pointer (some ⟨b3, 0, none⟩)] (fun k => keep.getD k false) S P hP Tryz.call64 (fun D2 w2 ho k _ => Crash1_spec D2 w2 k b3 (.slice A keep.length cap) keep (ho _ (hin _ fun h hs _ => stars_blk hs)) (ho _ (hold _ hv))) H2) ?_
 refine hl_nil <| ?_
 exact results_0 (.inl rfl) rfl fun w' H' => ⟨rfl, H'.ent Z8⟩
theorem Pending_spec (g : Nat) (S : List Sec) (P : List (Nat × Sec)) (H : Own D w w [dsk g S P]) : Calls Tryz.prog 34 #[.pointer (some ⟨g, 0, none⟩)] w fun e w' => e = .returned (.int .i64 P.length) ∧ Own D w w' [dsk g S P] := by
 refine hc_enter (vs := [.pointer (some ⟨g, 0, none⟩)]) Tryz.func34 rfl _ Tryz.ntmps34 rfl H ?_
 simp only [argSlots, Nat.zero_add]
 refine HC.exs ?_
 rintro ⟨⟨A0, c0⟩, A1, c1⟩
 refine HC.ent (l' := [blk g 107 [.slice A0 S.length c0, .slice A1 P.length c1], row A0 61 64 S.length c0 (S.flatMap secC), row A1 143 65 P.length c1 (P.flatMap latC)]) (fun _ h => h) ?_
 refine zg <| zs rfl <| zn <| hc_seq <| zg <| zm rfl <| zv (ov_eqlP rfl rfl) <| zn <| hc_cond_false rfl <| zk <| zg <| zm rfl <| zv (ov_nil rfl) <| zf rfl <| zl rfl rfl <| zv Z25 <| ?_
 refine zs rfl <| zn <| zq <| ?_
 exact zz rfl rfl fun w' H' => ⟨rfl, H'.ent (Ent.trans Z8 (dsk_mk (A0 := A0) (c0 := c0) (A1 := A1) (c1 := c1)))⟩
theorem Len_nil : Calls Tryz.prog 44 #[.pointer none] w fun e w' => e = .returned (.int .i64 0) ∧ Own D w w' [] := by
 refine hc_enter (vs := [.pointer none]) Tryz.func44 rfl _ Tryz.ntmps44 rfl (Own.start D w) ?_
 simp only [argSlots, Nat.zero_add]
 refine zg <| zs rfl <| zn <| hc_seq <| zg <| zm rfl <| zv (ov_eqlP rfl rfl) <| zn <| hc_cond_true rfl <| zg <| zs rfl <| zn <| zq <| zr <| ?_
 exact zz rfl rfl fun w' H' => ⟨rfl, H'⟩
theorem Len_spec (g : Nat) (S : List Sec) (P : List (Nat × Sec)) (H : Own D w w [dsk g S P]) : Calls Tryz.prog 44 #[.pointer (some ⟨g, 0, none⟩)] w fun e w' => e = .returned (.int .i64 S.length) ∧ Own D w w' [dsk g S P] := by
 refine hc_enter (vs := [.pointer (some ⟨g, 0, none⟩)]) Tryz.func44 rfl _ Tryz.ntmps44 rfl H ?_
 simp only [argSlots, Nat.zero_add]
 refine HC.exs ?_
 rintro ⟨⟨A0, c0⟩, A1, c1⟩
 refine HC.ent (l' := [blk g 107 [.slice A0 S.length c0, .slice A1 P.length c1], row A0 61 64 S.length c0 (S.flatMap secC), row A1 143 65 P.length c1 (P.flatMap latC)]) (fun _ h => h) ?_
 refine zg <| zs rfl <| zn <| hc_seq <| zg <| zm rfl <| zv (ov_eqlP rfl rfl) <| zn <| hc_cond_false rfl <| zk <| zg <| zm rfl <| zv (ov_nil rfl) <| zf rfl <| zl rfl rfl <| zv Z25 <| ?_
 refine zs rfl <| zn <| zq <| ?_
 exact zz rfl rfl fun w' H' => ⟨rfl, H'.ent (Ent.trans Z8 (dsk_mk (A0 := A0) (c0 := c0) (A1 := A1) (c1 := c1)))⟩
def lookS (S : List Sec) (at_ : Nat) : Option EntT :=
 match decS ((S.drop at_).take 16) with
 | some (e, _) => if e.1 = 2 ∧ e.2.2.1 = 0 then some e else none
 | none => none
def pickS (b : Option (EntT × Nat)) (at_ : Nat) (x : Option EntT) : Option (EntT × Nat) :=
 match x with
 | none => b
 | some e => match b with
  | none => some (e, at_)
  | some y => if y.1.2.1 < e.2.1 then some (e, at_) else b
def bestS (S : List Sec) : Nat → Option (EntT × Nat)
 | 0 => none
 | j + 1 => pickS (bestS S j) (16 * j) (lookS S (16 * j))
def newS (S : List Sec) : Option (EntT × Nat) := bestS S 2
def putS (S : List Sec) (at_ : Nat) (l : List Sec) : List Sec := S.take at_ ++ l ++ S.drop (at_ + l.length)
theorem putS_len {S : List Sec} {at_ : Nat} {l : List Sec} (h : at_ + l.length ≤ S.length) : (putS S at_ l).length = S.length := by
 unfold putS; simp only [List.length_append, List.length_take, List.length_drop]; omega
theorem putS_get {S : List Sec} {at_ : Nat} {l : List Sec} (h : at_ + l.length ≤ S.length) (i : Nat) : (putS S at_ l)[i]? = if i < at_ then S[i]? else if i < at_ + l.length then l[i - at_]? else S[i]? := by
 unfold putS
 rw [List.append_assoc]
 rcases Nat.lt_or_ge i at_ with h1 | h1
 ·rw [if_pos h1, List.getElem?_append_left Z39, List.getElem?_take_of_lt h1]
 ·rw [if_neg Z64, List.getElem?_append_right Z39, List.length_take, Nat.min_eq_left Z64]
  rcases Nat.lt_or_ge i (at_ + l.length) with h2 | h2
  ·rw [if_pos h2, List.getElem?_append_left Z64]
  ·rw [if_neg Z64, List.getElem?_append_right Z64, List.getElem?_drop]
   congr 1; omega
theorem settle_true : ∀ (P : List (Nat × Sec)) (k : Nat) (S : List Sec), settleL (fun _ => true) k S P = P.foldl (fun s p => s.set p.1 p.2) S
 | [], _, _ => rfl
 | p :: r, k, S => by
  show settleL (fun _ => true) (k + 1) (if true = true then S.set p.1 p.2 else S) r = _
  rw [if_pos rfl, settle_true r (k + 1)]; rfl
theorem foldl_row (l : List Sec) : ∀ (at_ : Nat) (S : List Sec), at_ + l.length ≤ S.length → (l.zipIdx.map fun p => (at_ + p.2, p.1)).foldl (fun s p => s.set p.1 p.2) S = putS S at_ l := by
 induction l with
 | nil => intro at_ S h; simp [putS]
 | cons x r ih =>
  intro at_ S h
  rw [List.length_cons] at h
  rw [List.zipIdx_cons, List.map_cons, List.foldl_cons]
  have e : (r.zipIdx (0 + 1)).map (fun p => (at_ + p.2, p.1)) = r.zipIdx.map (fun p => (at_ + 1 + p.2, p.1)) := by
   rw [List.zipIdx_succ, List.map_map]
   refine List.map_congr_left fun p _ => ?_
   show (at_ + (p.2 + 1), p.1) = _
   rw [show at_ + (p.2 + 1) = at_ + 1 + p.2 by omega]
  rw [e, ih (at_ + 1) _ (by rw [List.length_set]; omega)]
  refine List.ext_getElem? fun i => ?_
  rw [putS_get (by rw [List.length_set]; omega), putS_get (by rw [List.length_cons]; omega), List.getElem?_set]
  simp only [List.length_cons, Nat.add_zero]
  rcases Nat.lt_trichotomy i at_ with h1 | h1 | h1
  ·rw [if_pos Z64, if_neg Z64, if_pos h1]
  ·subst h1
   rw [if_pos Z64, if_pos rfl, if_pos Z64, if_neg Z64, if_pos Z64, Nat.sub_self]; rfl
  ·rw [if_neg Z64, if_neg (by omega : ¬ i < at_)]
   rcases Nat.lt_or_ge i (at_ + 1 + r.length) with h2 | h2
   ·rw [if_pos h2, if_pos Z64, show i - at_ = (i - (at_ + 1)) + 1 by omega, List.getElem?_cons_succ]
   ·rw [if_neg Z64, if_neg Z64, if_neg Z64]
def PW (at_ : Nat) (l : List Sec) (i : Nat) : List (Nat × Sec) := ((l.take i).zipIdx).map fun p => (at_ + p.2, p.1)
theorem PW_succ {at_ : Nat} {l : List Sec} {i : Nat} (h : i < l.length) : PW at_ l (i + 1) = PW at_ l i ++ [(at_ + i, l[i])] := by
 unfold PW
 rw [List.take_succ_eq_append_getElem h, List.zipIdx_append, List.map_append]
 congr 1
 simp only [List.zipIdx_cons, List.zipIdx_nil, List.map_cons, List.map_nil, List.length_take]
 rw [Nat.min_eq_left Z64, Nat.zero_add]
theorem PW_len {at_ : Nat} {l : List Sec} {i : Nat} : (PW at_ l i).length ≤ l.length := by
 unfold PW; rw [List.length_map, List.length_zipIdx, List.length_take]; omega
theorem PW_lt {at_ : Nat} {l : List Sec} {i n : Nat} (h : at_ + l.length ≤ n) : ∀ p ∈ PW at_ l i, p.1 < n := fun p hp => by
 obtain ⟨⟨x, k⟩, hx, rfl⟩ := List.mem_map.1 hp
 have := List.snd_lt_of_mem_zipIdx hx
 rw [List.length_take] at this
 show at_ + k < n
 omega
theorem PW_done {at_ : Nat} {l : List Sec} {S : List Sec} (h : at_ + l.length ≤ S.length) : settleL (fun _ => true) 0 S (PW at_ l l.length) = putS S at_ l := by
 rw [settle_true]
 unfold PW
 rw [List.take_length]
 exact foldl_row l at_ S h
theorem put_first {S : List Sec} {at_ : Nat} {x : Sec} {r : List Sec} (h : at_ + (x :: r).length ≤ S.length) : (putS S (at_ + 1) r).set at_ x = putS S at_ (x :: r) := by
 rw [List.length_cons] at h
 refine List.ext_getElem? fun i => ?_
 have hl : (putS S (at_ + 1) r).length = S.length := putS_len Z64
 rw [List.getElem?_set, putS_get Z64, putS_get (by rw [List.length_cons]; omega), hl]
 simp only [List.length_cons]
 rcases Nat.lt_trichotomy i at_ with h1 | h1 | h1
 ·rw [if_neg Z64, if_pos Z64, if_pos h1]
 ·subst h1
  rw [if_pos rfl, if_pos Z64, if_neg Z64, if_pos Z64, Nat.sub_self]; rfl
 ·rw [if_neg Z64, if_neg Z64, if_neg (by omega : ¬ i < at_)]
  rcases Nat.lt_or_ge i (at_ + 1 + r.length) with h2 | h2
  ·rw [if_pos h2, if_pos Z64, show i - at_ = (i - (at_ + 1)) + 1 by omega, List.getElem?_cons_succ]
  ·rw [if_neg Z64, if_neg Z64]
theorem bytes_open {D : Nat → Prop} {w0 : World} {xs : List UInt8} {cs : List Value} (k : Old D w0 (Rep.rep xs cs)) : ∃ B cb, cs = [.slice B xs.length cb] ∧ Old D w0 (Rep.rep xs [.slice B xs.length cb]) := by
 obtain ⟨h, hh, B, cb, e, r⟩ := k
 subst e
 exact ⟨B, cb, rfl, h, hh, B, cb, rfl, r⟩
def entsF (ep : Nat) : Nat → Nat → List Sec → List (List UInt8) × Nat
 | 0, _, _ => ([], 0)
 | f + 1, seq, l => match decS l with
  | none => ([], 0)
  | some (e, n) => if e.1 = 1 ∧ e.2.1 = ep ∧ e.2.2.1 = seq then (e.2.2.2 :: (entsF ep f (seq + 1) (l.drop n)).1, n + (entsF ep f (seq + 1) (l.drop n)).2) else ([], 0)
abbrev jouE (ep seq : Nat) (xs : List UInt8) : EntT := (1, ep, seq, xs)
def jencS (ep : Nat) : Nat → List (List UInt8) → List Sec
 | _, [] => []
 | seq, x :: r => encE (jouE ep seq x) ++ jencS ep (seq + 1) r
theorem jenc_snoc (ep : Nat) (xss : List (List UInt8)) : ∀ (seq : Nat) (x : List UInt8), jencS ep seq (xss ++ [x]) = jencS ep seq xss ++ encE (jouE ep (seq + xss.length) x) := by
 induction xss with
 | nil => intro seq x; simp [jencS]
 | cons y r ih =>
  intro seq x
  rw [List.cons_append, jencS, ih (seq + 1) x, jencS, List.append_assoc]
  rw [List.length_cons, show seq + (r.length + 1) = seq + 1 + r.length by omega]
theorem ents_enc (ep : Nat) (hep : ep < 4294967296) : ∀ (xss : List (List UInt8)) (f seq : Nat) (rest : List Sec), xss.length ≤ f → seq + xss.length < 4294967296 → (∀ x ∈ xss, x.length ≤ 4000) →
  entsF ep f seq (jencS ep seq xss ++ rest) = (xss ++ (entsF ep (f - xss.length) (seq + xss.length) rest).1, (jencS ep seq xss).length + (entsF ep (f - xss.length) (seq + xss.length) rest).2)
 | [], f, seq, rest, _, _, _ => by simp [jencS]
 | x :: r, 0, seq, rest, h, _, _ => by simp at h
 | x :: r, f + 1, seq, rest, h, hs, hx => by
  rw [List.length_cons] at h hs
  have hok : okE (jouE ep seq x) := ⟨show 1 < 256 by decide, hep, show seq < _ by omega, hx x (by simp)⟩
  have hl := encE_len (jouE ep seq x) (hx x (by simp))
  have ih := ents_enc ep hep r f (seq + 1) rest Z64 Z64 (fun y hy => hx y (by simp [hy]))
  rw [jencS, List.append_assoc, entsF, decS_enc _ hok]
  dsimp only
  rw [if_pos ⟨rfl, rfl, rfl⟩, List.drop_left' hl, ih]
  rw [List.length_append, hl, List.length_cons, show f + 1 - (r.length + 1) = f - r.length by omega, show seq + (r.length + 1) = seq + 1 + r.length by omega]
  simp only [List.cons_append, Prod.mk.injEq, true_and]
  omega
def headOf (ep : Nat) (s : Sec) : Prop := s[0] = 87 ∧ numAt s 2 4 = ep
def noHead (ep : Nat) (l : List Sec) : Prop := ∀ s ∈ l, ¬ headOf ep s
theorem decS_head {s : Sec} {r : List Sec} {e : EntT} {n : Nat} (h : decS (s :: r) = some (e, n)) : headOf e.2.1 s ∧ 1 ≤ n ∧ n ≤ (s :: r).length := by
 have h' : (if s[0].toNat = 87 ∧ needM (numAt s 10 2) ≠ 0 ∧ needM (numAt s 10 2) ≤ (s :: r).length ∧ encE (candE (s :: r) s) = (s :: r).take (needM (numAt s 10 2)) then some (candE (s :: r) s, needM (numAt s 10 2)) else none) = some (e, n) := h
 by_cases hh : s[0].toNat = 87 ∧ needM (numAt s 10 2) ≠ 0 ∧ needM (numAt s 10 2) ≤ (s :: r).length ∧ encE (candE (s :: r) s) = (s :: r).take (needM (numAt s 10 2))
 ·rw [if_pos hh] at h'
  injection h' with h'
  injection h' with h1 h2
  subst h1; subst h2
  exact ⟨⟨UInt8.toNat_inj.1 hh.1, rfl⟩, by omega, hh.2.2.1⟩
 ·rw [if_neg hh] at h'; cases h'
theorem ents_none {ep : Nat} {l : List Sec} (h : ∀ s, l[0]? = some s → ¬ headOf ep s) (f seq : Nat) : entsF ep f seq l = ([], 0) := by
 cases f with
 | zero => rfl
 | succ f =>
  rw [entsF]
  cases l with
  | nil => rfl
  | cons s r =>
   rcases hd : decS (s :: r) with _ | ⟨e, n⟩
   ·rfl
   ·dsimp only
    rw [if_neg]
    rintro ⟨_, h2, _⟩
    have := (decS_head hd).1
    rw [h2] at this
    exact h s rfl this
theorem encE_nth' (e : EntT) (i : Nat) (h : i < (encE e).length) : (encE e)[i] = secOf (fullB e.1 e.2.1 e.2.2.1 e.2.2.2) i := by
 have : (encE e)[i]? = some (secOf (fullB e.1 e.2.1 e.2.2.1 e.2.2.2) i) := by
  unfold encE encS secsTo
  rw [List.getElem?_map, List.getElem?_range (by simpa [encE, encS, secsTo] using h)]; rfl
 rw [List.getElem?_eq_getElem h] at this
 simpa using this
theorem enc_mark (e : EntT) (i : Nat) (h : i < (encE e).length) : (encE e)[i][0] = if i = 0 then 87 else 119 := by
 rw [encE_nth' e i h, secOf_mark]; rfl
theorem enc_pos (e : EntT) : 1 ≤ (encE e).length := by
 rw [encE, encS_len, fullB_length]; omega
theorem enc_epoch (e : EntT) (h2 : e.2.1 < 4294967296) : numAt ((encE e)[0]'(enc_pos e)) 2 4 = e.2.1 := by
 rw [encE_nth' e 0 (enc_pos e)]
 obtain ⟨t, ht⟩ := head_list e
 unfold numAt; rw [ht]
 exact numB_four _ h2
theorem noHead_enc {ep : Nat} (e : EntT) (h2 : e.2.1 < 4294967296) (h : e.2.1 ≠ ep) : noHead ep (encE e) := by
 intro s hs ⟨h87, hep⟩
 obtain ⟨i, hi, rfl⟩ := List.mem_iff_getElem.1 hs
 rw [enc_mark e i hi] at h87
 by_cases h0 : i = 0
 ·subst h0
  rw [enc_epoch e h2] at hep
  exact h hep
 ·rw [if_neg h0] at h87
  exact absurd h87 Z63
theorem noHead_zero {ep n : Nat} : noHead ep (List.replicate n zeroSec) := by
 intro s hs ⟨h87, _⟩
 obtain ⟨_, rfl⟩ := List.mem_replicate.1 hs
 exact absurd h87 Z63
theorem noHead_app {ep : Nat} {a b : List Sec} : noHead ep (a ++ b) ↔ noHead ep a ∧ noHead ep b := by
 unfold noHead
 constructor
 ·exact fun h => ⟨fun s hs => h s (List.mem_append.2 (.inl hs)), fun s hs => h s (List.mem_append.2 (.inr hs))⟩
 ·rintro ⟨h1, h2⟩ s hs
  rcases List.mem_append.1 hs with h | h
  ·exact h1 s h
  ·exact h2 s h
theorem noHead_sub {ep : Nat} {a b : List Sec} (h : noHead ep b) (hs : ∀ s ∈ a, s ∈ b) : noHead ep a := fun s m => h s (hs s m)
theorem noHead_put {ep at_ : Nat} {S l : List Sec} (h : noHead ep S) (hl : noHead ep l) : noHead ep (putS S at_ l) := by
 unfold putS
 rw [noHead_app, noHead_app]
 exact ⟨⟨noHead_sub h fun s m => List.mem_of_mem_take m, hl⟩, noHead_sub h fun s m => List.mem_of_mem_drop m⟩
structure JI (T : List Sec) (ep : Nat) (L : List (List UInt8)) (k : Nat) : Prop where
 kle : k ≤ T.length
 eq : T.take k = jencS ep 0 L
 small : ∀ x ∈ L, x.length ≤ 4000
 rest : noHead ep (T.drop k)
theorem jenc_ge (ep : Nat) : ∀ (L : List (List UInt8)) (seq : Nat), L.length ≤ (jencS ep seq L).length
 | [], _ => Nat.le_refl _
 | x :: r, seq => by
  rw [jencS, List.length_append, List.length_cons]
  have := jenc_ge ep r (seq + 1)
  have := enc_pos (jouE ep seq x)
  omega
section
variable {T : List Sec} {ep k : Nat} {L : List (List UInt8)}
theorem JI.len (h : JI T ep L k) : (jencS ep 0 L).length = k := by rw [← h.eq, List.length_take, Nat.min_eq_left h.kle]
theorem JI.many (h : JI T ep L k) : L.length ≤ k := by have := jenc_ge ep L 0; rw [h.len] at this; exact this
theorem JI.open (h : JI T ep L k) (hep : ep < 4294967296) (hT : T.length < 4294967296) : entsF ep T.length 0 T = (L, k) := by
 have hm := h.many
 have hk := h.kle
 have e := ents_enc ep hep L T.length 0 (T.drop k) Z64 Z64 h.small
 rw [← h.eq, List.take_append_drop] at e
 rw [e, ents_none (fun s hs => h.rest s (List.mem_of_getElem? hs)), List.append_nil, h.eq, h.len]; rfl
theorem JI.append (h : JI T ep L k) {x : List UInt8} (hx : x.length ≤ 4000) {e : EntT} (he : e = jouE ep L.length x) (hl : k + (encE e).length ≤ T.length) : JI (putS T k (encE e)) ep (L ++ [x]) (k + (encE e).length) := by
 have hk := h.kle
 have hlen : (T.take k ++ encE e).length = k + (encE e).length := by rw [List.length_append, List.length_take, Nat.min_eq_left hk]
 refine ⟨by rw [putS_len hl]; exact hl, ?_, ?_, ?_⟩
 ·unfold putS
  rw [List.take_left' hlen, jenc_snoc, h.eq, he, Nat.zero_add]
 ·intro y hy
  rcases List.mem_append.1 hy with hy | hy
  ·exact h.small y hy
  ·obtain rfl := List.mem_singleton.1 hy; exact hx
 ·unfold putS
  rw [List.drop_left' hlen]
  refine noHead_sub h.rest fun s m => ?_
  rw [← List.drop_drop] at m
  exact List.mem_of_mem_drop m
theorem JI.begin (h : noHead ep T) : JI T ep [] 0 := ⟨Nat.zero_le _, by rw [List.take_zero]; rfl, (fun x hx => by cases hx), h⟩
end
abbrev fndL (y : EntT × Nat) (f : Nat) (q : Option Addr × Nat) : List HProp := [blk f 223 [.int .i64 y.1.1, .int .u32 y.1.2.1, .int .u32 y.1.2.2.1, .slice q.1 y.1.2.2.2.length q.2, .int .i64 (y.2 : Int)], row q.1 5 1 y.1.2.2.2.length q.2 (y.1.2.2.2.map u8v)]
def fndO (b : Option (EntT × Nat)) (f : Nat) (q : Option Addr × Nat) : List HProp := match b with
 | none => []
 | some y => fndL y f q
def fndP (b : Option (EntT × Nat)) (f : Nat) : Value := match b with
 | none => .pointer none
 | some _ => .pointer (some ⟨f, 0, none⟩)
set_option maxHeartbeats 1000000 in
theorem look_spec (g pb : Nat) (S : List Sec) (hS : 32 ≤ S.length) (HP : Old D w (blk pb 3 [.int .i64 0, .int .i64 16])) (H : Own D w w [dsk g S []]) :
  Calls Tryz.prog 143 #[.pointer (some ⟨g, 0, none⟩), .slice (some ⟨pb, 0, none⟩) 2 2] w fun e w' => ∃ s : Nat × Option Addr × Nat, e = .returned (fndP (newS S) s.1) ∧ Own D w w' (dsk g S [] :: fndO (newS S) s.1 s.2) := by
 have hcell : ∀ (j : Nat) (hj : j < 2) l, CellIs D w l pb (0 + j * 1) (.int .i64 ((16 * j : Nat) : Int)) := fun j hj l => by
  rw [Nat.mul_one]
  refine (CellsAre.old (Old.blk HP)).cell (i := j) ?_
  rcases (show j = 0 ∨ j = 1 by omega) with rfl | rfl <;> rfl
 refine hc_enter (vs := [.pointer (some ⟨g, 0, none⟩), .slice (some ⟨pb, 0, none⟩) 2 2]) Tryz.func143 rfl _ Tryz.ntmps143 rfl H ?_
 simp only [argSlots, Nat.zero_add]
 refine zg <| zs rfl <| zn <| hc_seq <| hc_region <| zs rfl <| zn <| hc_seq <| hc_seq <| hc_region <| zm rfl <| zv Z25 <| ?_
 refine zm rfl <| zn <| hc_block <| hc_loopK2 (σ := Nat × Option (EntT × Nat) × Nat × Option Addr × Nat) [0, 15, 16] rfl 17 (fun s => .int .i64 (s.1 : Int)) 5 (fun s => fndP s.2.1 s.2.2.1) (fun s => [stars (fndO s.2.1 s.2.2.1 s.2.2.2), dsk g S []]) (fun s => s.1 ≤ 2 ∧ s.2.1 = bestS S s.1) (fun s => 2 - s.1) ((0, none, 0, none, 0)) (⟨by decide, rfl⟩) rfl rfl (Ent.trans (b := [] ++ [dsk g S []]) Z8 (Ent.fold (L := []))) ?_
 rintro ⟨j, b, f, q⟩ hj_ K1 hK1
 dsimp only at hj_ ⊢
 obtain ⟨hj2, hb⟩ := hj_
 refine zg <| zv (ov_lss rfl rfl) <| zn <| hc_seq <| hc_cond rfl (fun h => ?_) (fun h => ?_)
 ·have hj : j < 2 := by omega
  have hj1 : j + 1 ≤ 2 := by omega
  have hbs : bestS S (j + 1) = pickS b (16 * j) (lookS S (16 * j)) := by rw [hb]; rfl
  refine zk <| hc_seq <| hc_block <| zg <| hl_v (ov_idxA rfl rfl j rfl hj) rfl <| hl_v (ov_load rfl (hcell j hj _)) rfl <| zs rfl <| zn <| zg <| zs rfl <| zn <| hc_seq <| zg <| zm rfl <| zn <| hc_block <| hc_loopK2 (σ := Nat × Option Addr × Nat) [0, 5, 7, 15, 16, 17] rfl 21 (fun s => .int .i64 (s.1 : Int)) 8 (fun s => .slice s.2.1 s.1 s.2.2) (fun s => [row s.2.1 61 64 s.1 s.2.2 (((S.drop (16 * j)).take s.1).flatMap secC), dsk g S [], stars (fndO b f q)]) (fun s => s.1 ≤ 16) (fun s => 16 - s.1) ((0, none, 0)) Z63 rfl rfl (Ent.trans (Ent.nil_row 61 64) Z3) ?_
  rintro ⟨k, ql⟩ hk16 K2 hK2
  dsimp only at hk16 ⊢
  refine zg <| zv (ov_lss rfl rfl) <| zn <| hc_seq <| hc_cond rfl (fun h2 => ?_) (fun h2 => ?_)
  ·have hk : k < 16 := by omega
   have hi : 16 * j + k < S.length := by omega
   have hst : (S.drop (16 * j)).take (k + 1) = (S.drop (16 * j)).take k ++ [S[16 * j + k]] := by
    rw [List.take_succ_eq_append_getElem Z40, List.getElem_drop]
   obtain ⟨s, hs⟩ : ∃ s, s = S[16 * j + k] := ⟨_, rfl⟩
   rw [← hs] at hst
   refine zk <| hc_seq <| hc_block <| zg <| zm rfl <| zs rfl <| zn <| zg <| zm rfl <| zm rfl <| zm rfl <| hl_v (ov_add (m := ((16 * j + k : Nat) : Int)) rfl rfl ((wrap_i64 Z64).trans Z64)) rfl ?_
   refine hl_c Tryz.call35 rfl rfl (fun w1 => zp (dsk g S []) fun D' _ _ H2 => (Read_ok D' w1 g (16 * j + k) S [] hi H2).mono fun e w' ⟨he, H'⟩ => ⟨show e = Ending.returned (.tuple #[.agg (secC s).toArray, .int .i64 0]) by rw [he, hs]; rfl, H'⟩) ?_
   refine zm rfl <| zx rfl rfl <| zx rfl rfl <| hl_new (on_alloc) rfl rfl rfl fun b10 =>  ?_
   refine hl_u0 (on_storeW (vs := secC s) rfl rfl Z56 Z56 (secC_one s)) rfl rfl ?_
   refine zs rfl <| zn <| hc_seq <| zg <| zm rfl <| zv (ov_neq rfl rfl) <| zn <| hc_cond_F rfl ((fun h => h rfl)) <| zk <| hc_region <| zm rfl <| hl_v (ov_loadW rfl (secC_len s)) rfl <| hl_new (on_buildSlice (res := secC s) rfl rfl (fill_sec1 _)) rfl rfl rfl (fun b37 => ?_)
   refine hl_new (on_appendR (A := ql.1) (news := secC s) rfl rfl (SrcIs.blk (b := b37)) Z57 (secC_one _) Z63 Z64) rfl rfl rfl (fun qm => ?_)
   rw [show ((S.drop (16 * j)).take k).flatMap secC ++ secC s = ((S.drop (16 * j)).take (k + 1)).flatMap secC by rw [hst, List.flatMap_append, List.flatMap_singleton]]
   refine zs rfl <| hl_nil <| zb <| zt <| hc_region <| zv (ov_add rfl rfl Z28) <| ?_
   refine zm rfl <| hl_nil <| hx_next hK2 ((k + 1, qm)) (hk) Z64 Z16 Z10
  obtain rfl : k = 16 := by omega
  obtain ⟨T, hT⟩ : ∃ T, T = (S.drop (16 * j)).take 16 := ⟨_, rfl⟩
  have hTl : T.length = 16 := by rw [hT, List.length_take, List.length_drop]; omega
  rw [← hT]
  rcases hd : decS T with _ | ⟨x, n⟩
  ·have hkeep : b = bestS S (j + 1) := by rw [hbs]; unfold lookS; rw [← hT, hd]; rfl
   refine hc_exit <| ze <| ze <| hx_block_out <| zt <| hc_seq <| hc_region <| zm rfl <| hl_c Tryz.call79 rfl rfl (fun w1 => zun fun D' _ hin _ => Decode_none D' w1 _ T hd (hin _ fun h hs ho => rep_row (A := ql.1) hs T hTl.symm (repL_secs.2 rfl))) ?_
   refine zm rfl <| zx rfl rfl <| zx rfl rfl <| zx rfl rfl <| hl_new (on_alloc) rfl rfl rfl fun b12 =>  ?_
   refine hl_u0 (on_storeW (vs := [.int .i64 0, .int .u32 0, .int .u32 0, .slice none 0 0]) rfl rfl (by simp) (by simp) Z49) rfl rfl ?_
   refine zs rfl <| zs rfl <| zn <| hc_seq <| hc_quiet mixed Z61 <| ?_
   refine hq_v (ov_move rfl) rfl <| hq_v (ov_eql rfl rfl) rfl <| hq_v (ov_move rfl) rfl <| ?_
   refine hq_partF (t := 48) rfl (Z63) ?_
   refine hq_off rfl rfl rfl rfl rfl rfl <| hq_off rfl rfl rfl rfl rfl rfl <| hq_off rfl rfl rfl rfl rfl rfl <| hq_v (ov_pickF rfl rfl) rfl <| hq_v (ov_move rfl) rfl <| hq_off rfl rfl rfl rfl rfl rfl <| ?_
   refine hq_off rfl rfl rfl rfl rfl rfl <| hq_off rfl rfl rfl rfl rfl rfl <| hq_v (ov_pickF rfl rfl) rfl <| hq_v (ov_move rfl) rfl <| hq_off rfl rfl rfl rfl rfl rfl <| hq_off rfl rfl rfl rfl rfl rfl <| ?_
   refine hq_off rfl rfl rfl rfl rfl rfl <| hq_offU rfl rfl rfl rfl rfl <| hq_offU rfl rfl rfl rfl rfl <| hq_offU rfl rfl rfl rfl rfl <| hq_offU rfl rfl rfl rfl rfl <| hq_offU rfl rfl rfl rfl rfl <| ?_
   refine hq_offU rfl rfl rfl rfl rfl <| hq_offU rfl rfl rfl rfl rfl <| hq_offU rfl rfl rfl rfl rfl <| hq_off rfl rfl rfl rfl rfl rfl <| hq_v (ov_pickF rfl rfl) rfl <| hq_nil <| ?_
   refine zt <| hc_cond_false rfl <| hc_skip <| zb <| zt <| hc_region <| zv (ov_add rfl rfl Z28) <| ?_
   refine zm rfl <| hl_nil <| hx_next hK1 ((j + 1, b, f, q)) (⟨hj1, hkeep⟩) Z64 Z16 Z10
  refine hc_exit <| ze <| ze <| hx_block_out <| zt <| hc_seq <| hc_region <| zm rfl <| hl_call (σ := Option Addr × Nat) Tryz.call79 rfl rfl (fun w1 => zu fun D' _ hin _ => Decode_some D' w1 _ T x n hd (hin _ fun h hs ho => rep_row (A := ql.1) hs T hTl.symm (repL_secs.2 rfl))) ?_
  intro qx
  try rw [List.nil_append]
  refine zm rfl <| zx rfl rfl <| zx rfl rfl <| zx rfl rfl <| hl_new (on_alloc) rfl rfl rfl fun b12 =>  ?_
  refine hl_u0 (on_storeW (vs := entV x qx) rfl rfl (by simp [entV]) (by simp [entV]) (by simp [entV, Value.oneCell'])) rfl rfl ?_
  have hlk : lookS S (16 * j) = if x.1 = 2 ∧ x.2.2.1 = 0 then some x else none := by unfold lookS; rw [← hT, hd]
  refine zs rfl <| zs rfl <| zn <| hc_seq <| ?_
  rcases b with _ | y
  ·dsimp only [fndP]
   refine hc_quiet mixed Z61 <| hq_v (ov_move rfl) rfl <| hq_v (ov_eql rfl rfl) rfl <| hq_v (ov_move rfl) rfl <| ?_
   refine hq_partT (t := 48) rfl (rfl) ?_
   refine hq_on rfl rfl <| hq_v (ov_fieldA rfl) rfl <| hq_on rfl rfl <| hq_v (zw rfl rfl) rfl <| hq_on rfl rfl <| hq_v (ov_eql rfl rfl) rfl <| hq_v (ov_pickT rfl rfl) rfl <| hq_v (ov_move rfl) rfl <| ?_
   refine hq_part (t := 53) rfl (fun c1 => ?_) (fun c1 => ?_)
   ·have c1 : x.1 = 2 := by omega
    refine hq_on rfl rfl <| hq_v (ov_fieldA rfl) rfl <| hq_on rfl rfl <| hq_v (zw rfl rfl) rfl <| hq_on rfl rfl <| hq_v (ov_eql rfl rfl) rfl <| hq_v (ov_pickT rfl rfl) rfl <| hq_v (ov_move rfl) rfl <| ?_
    refine hq_part (t := 58) rfl (fun c2 => ?_) (fun c2 => ?_)
    ·have c2 : x.2.2.1 = 0 := by omega
     rw [hlk, if_pos ⟨c1, c2⟩] at hbs
     have hnew : some (x, 16 * j) = bestS S (j + 1) := hbs.symm
     refine hq_on rfl rfl <| hq_v (ov_move rfl) rfl <| hq_on rfl rfl <| hq_v (ov_eqlP rfl rfl) rfl <| hq_on rfl rfl <| hq_v (ov_move rfl) rfl <| ?_
     refine hq_off rfl rfl rfl rfl rfl rfl <| hq_off rfl rfl rfl rfl rfl rfl <| hq_off rfl rfl rfl rfl rfl rfl <| hq_off rfl rfl rfl rfl rfl rfl <| hq_off rfl rfl rfl rfl rfl rfl <| hq_off rfl rfl rfl rfl rfl rfl <| ?_
     refine hq_off rfl rfl rfl rfl rfl rfl <| hq_off rfl rfl rfl rfl rfl rfl <| hq_on rfl rfl <| hq_v (ov_pickT rfl rfl) rfl <| hq_v (ov_pickT rfl rfl) rfl <| hq_nil <| zt <| ?_
     refine hc_cond_true rfl <| hc_region <| zv Z17 <| ?_
     refine zm rfl <| zv (ov_buildSN rfl rfl) <| ?_
     refine hl_new (on_boxN rfl rfl) rfl rfl rfl fun b75 =>  ?_
     refine zs rfl <| hl_nil <| zb <| zt <| hc_region <| zv (ov_add rfl rfl Z28) <| ?_
     refine zm rfl <| hl_nil <| ?_
     exact hx_next hK1 ((j + 1, some (x, 16 * j), b75, qx)) (⟨hj1, hnew⟩) Z64 Z16 (Ent.trans (b := fndL (x, 16 * j) b75 qx ++ [dsk g S []]) Z8 Ent.fold)
    have hkeep : none = bestS S (j + 1) := by rw [hbs, hlk, if_neg Z64]; rfl
    refine hq_off rfl rfl rfl rfl rfl rfl <| hq_off rfl rfl rfl rfl rfl rfl <| hq_off rfl rfl rfl rfl rfl rfl <| hq_offU rfl rfl rfl rfl rfl <| hq_offU rfl rfl rfl rfl rfl <| hq_offU rfl rfl rfl rfl rfl <| ?_
    refine hq_offU rfl rfl rfl rfl rfl <| hq_offU rfl rfl rfl rfl rfl <| hq_offU rfl rfl rfl rfl rfl <| hq_offU rfl rfl rfl rfl rfl <| hq_offU rfl rfl rfl rfl rfl <| hq_off rfl rfl rfl rfl rfl rfl <| ?_
    refine hq_v (ov_pickF rfl rfl) rfl <| hq_nil <| zt <| hc_cond_false rfl <| hc_skip <| zb <| ?_
    refine zt <| hc_region <| zv (ov_add rfl rfl Z28) <| ?_
    refine zm rfl <| hl_nil <| ?_
    exact hx_next hK1 ((j + 1, none, f, q)) (⟨hj1, hkeep⟩) Z64 Z16 (Ent.trans (b := [] ++ [dsk g S []]) Z8 (Ent.fold (L := [])))
   have hkeep : none = bestS S (j + 1) := by rw [hbs, hlk, if_neg Z64]; rfl
   refine hq_off rfl rfl rfl rfl rfl rfl <| hq_off rfl rfl rfl rfl rfl rfl <| hq_off rfl rfl rfl rfl rfl rfl <| hq_v (ov_pickF rfl rfl) rfl <| hq_v (ov_move rfl) rfl <| hq_off rfl rfl rfl rfl rfl rfl <| ?_
   refine hq_off rfl rfl rfl rfl rfl rfl <| hq_off rfl rfl rfl rfl rfl rfl <| hq_offU rfl rfl rfl rfl rfl <| hq_offU rfl rfl rfl rfl rfl <| hq_offU rfl rfl rfl rfl rfl <| hq_offU rfl rfl rfl rfl rfl <| ?_
   refine hq_offU rfl rfl rfl rfl rfl <| hq_offU rfl rfl rfl rfl rfl <| hq_offU rfl rfl rfl rfl rfl <| hq_offU rfl rfl rfl rfl rfl <| hq_off rfl rfl rfl rfl rfl rfl <| hq_v (ov_pickF rfl rfl) rfl <| ?_
   refine hq_nil <| zt <| hc_cond_false rfl <| hc_skip <| zb <| zt <| ?_
   refine hc_region <| zv (ov_add rfl rfl Z28) <| ?_
   refine zm rfl <| hl_nil <| ?_
   exact hx_next hK1 ((j + 1, none, f, q)) (⟨hj1, hkeep⟩) Z64 Z16 (Ent.trans (b := [] ++ [dsk g S []]) Z8 (Ent.fold (L := [])))
  dsimp only [fndP, fndO]
  refine HC.ent (Ent.trans (b := stars (fndL y f q) :: [dsk g S [], blk b12 172 (entV x qx), row qx.1 5 1 x.2.2.2.length qx.2 (x.2.2.2.map u8v)]) Z8 Ent.flat) ?_
  refine hc_quiet mixed Z61 <| hq_v (ov_move rfl) rfl <| hq_v (ov_eql rfl rfl) rfl <| hq_v (ov_move rfl) rfl <| ?_
  refine hq_partT (t := 48) rfl (rfl) ?_
  refine hq_on rfl rfl <| hq_v (ov_fieldA rfl) rfl <| hq_on rfl rfl <| hq_v (zw rfl rfl) rfl <| hq_on rfl rfl <| hq_v (ov_eql rfl rfl) rfl <| hq_v (ov_pickT rfl rfl) rfl <| hq_v (ov_move rfl) rfl <| ?_
  refine hq_part (t := 53) rfl (fun c1 => ?_) (fun c1 => ?_)
  ·have c1 : x.1 = 2 := by omega
   refine hq_on rfl rfl <| hq_v (ov_fieldA rfl) rfl <| hq_on rfl rfl <| hq_v (zw rfl rfl) rfl <| hq_on rfl rfl <| hq_v (ov_eql rfl rfl) rfl <| hq_v (ov_pickT rfl rfl) rfl <| hq_v (ov_move rfl) rfl <| ?_
   refine hq_part (t := 58) rfl (fun c2 => ?_) (fun c2 => ?_)
   ·have c2 : x.2.2.1 = 0 := by omega
    rw [hlk, if_pos ⟨c1, c2⟩] at hbs
    have hbs : bestS S (j + 1) = if y.1.2.1 < x.2.1 then some (x, 16 * j) else some y := hbs
    refine hq_on rfl rfl <| hq_v (ov_move rfl) rfl <| hq_on rfl rfl <| hq_v (ov_eqlP rfl rfl) rfl <| hq_on rfl rfl <| hq_v (ov_move rfl) rfl <| ?_
    refine hq_on rfl rfl <| hq_v (ov_fieldA rfl) rfl <| hq_on rfl rfl <| hq_v (zw rfl rfl) rfl <| hq_on rfl rfl <| hq_v (ov_move rfl) rfl <| hq_on rfl rfl <| hq_v (ov_nil rfl) rfl <| hq_on rfl rfl <| hq_v (ov_fieldA rfl) rfl <| hq_on rfl rfl <| hq_v (ov_fieldA rfl) rfl <| ?_
    refine hq_on rfl rfl <| hq_v (zw rfl rfl) rfl <| hq_on rfl rfl <| hq_v (ov_gtr rfl rfl) rfl <| hq_on rfl rfl <| hq_v (ov_pickF rfl rfl) rfl <| hq_v (ov_pickT rfl rfl) rfl <| hq_nil <| zt <| ?_
    refine hc_cond rfl (fun c3 => ?_) (fun c3 => ?_)
    ·have hnew : some (x, 16 * j) = bestS S (j + 1) := by rw [hbs, if_pos Z64]
     refine hc_region <| zv Z17 <| ?_
     refine zm rfl <| zv (ov_buildSN rfl rfl) <| ?_
     refine hl_new (on_boxN rfl rfl) rfl rfl rfl fun b75 =>  ?_
     refine zs rfl <| hl_nil <| zb <| zt <| hc_region <| zv (ov_add rfl rfl Z28) <| ?_
     refine zm rfl <| hl_nil <| ?_
     exact hx_next hK1 ((j + 1, some (x, 16 * j), b75, qx)) (⟨hj1, hnew⟩) Z64 Z16 (Ent.trans (b := fndL (x, 16 * j) b75 qx ++ [dsk g S []]) Z8 Ent.fold)
    have hkeep : some y = bestS S (j + 1) := by rw [hbs, if_neg Z64]
    refine hc_skip <| zb <| zt <| hc_region <| zv (ov_add rfl rfl Z28) <| ?_
    refine zm rfl <| hl_nil <| ?_
    exact hx_next hK1 ((j + 1, some y, f, q)) (⟨hj1, hkeep⟩) Z64 Z16 (Ent.trans (b := fndL y f q ++ [dsk g S []]) Z8 Ent.fold)
   have hkeep : some y = bestS S (j + 1) := by rw [hbs, hlk, if_neg Z64]; rfl
   refine hq_off rfl rfl rfl rfl rfl rfl <| hq_off rfl rfl rfl rfl rfl rfl <| hq_off rfl rfl rfl rfl rfl rfl <| hq_offU rfl rfl rfl rfl rfl <| hq_offU rfl rfl rfl rfl rfl <| hq_offU rfl rfl rfl rfl rfl <| ?_
   refine hq_offU rfl rfl rfl rfl rfl <| hq_offU rfl rfl rfl rfl rfl <| hq_offU rfl rfl rfl rfl rfl <| hq_offU rfl rfl rfl rfl rfl <| hq_offU rfl rfl rfl rfl rfl <| hq_off rfl rfl rfl rfl rfl rfl <| ?_
   refine hq_v (ov_pickF rfl rfl) rfl <| hq_nil <| zt <| hc_cond_false rfl <| hc_skip <| zb <| ?_
   refine zt <| hc_region <| zv (ov_add rfl rfl Z28) <| ?_
   refine zm rfl <| hl_nil <| ?_
   exact hx_next hK1 ((j + 1, some y, f, q)) (⟨hj1, hkeep⟩) Z64 Z16 (Ent.trans (b := fndL y f q ++ [dsk g S []]) Z8 Ent.fold)
  have hkeep : some y = bestS S (j + 1) := by rw [hbs, hlk, if_neg Z64]; rfl
  refine hq_off rfl rfl rfl rfl rfl rfl <| hq_off rfl rfl rfl rfl rfl rfl <| hq_off rfl rfl rfl rfl rfl rfl <| hq_v (ov_pickF rfl rfl) rfl <| hq_v (ov_move rfl) rfl <| hq_off rfl rfl rfl rfl rfl rfl <| ?_
  refine hq_off rfl rfl rfl rfl rfl rfl <| hq_off rfl rfl rfl rfl rfl rfl <| hq_offU rfl rfl rfl rfl rfl <| hq_offU rfl rfl rfl rfl rfl <| hq_offU rfl rfl rfl rfl rfl <| hq_offU rfl rfl rfl rfl rfl <| ?_
  refine hq_offU rfl rfl rfl rfl rfl <| hq_offU rfl rfl rfl rfl rfl <| hq_offU rfl rfl rfl rfl rfl <| hq_offU rfl rfl rfl rfl rfl <| hq_off rfl rfl rfl rfl rfl rfl <| hq_v (ov_pickF rfl rfl) rfl <| ?_
  refine hq_nil <| zt <| hc_cond_false rfl <| hc_skip <| zb <| zt <| ?_
  refine hc_region <| zv (ov_add rfl rfl Z28) <| ?_
  refine zm rfl <| hl_nil <| ?_
  exact hx_next hK1 ((j + 1, some y, f, q)) (⟨hj1, hkeep⟩) Z64 Z16 (Ent.trans (b := fndL y f q ++ [dsk g S []]) Z8 Ent.fold)
 obtain rfl : j = 2 := by omega
 refine hc_exit <| ze <| ze <| hx_block_out <| zt <| hc_seq <| hc_region <| zm rfl <| zs rfl <| zn <| zq <| ?_
 exact zz rfl rfl fun w' H' => ⟨(f, q), by rw [hb]; rfl, H'.ent (Ent.trans (b := stars (fndO (newS S) f q) :: [dsk g S []]) (by rw [hb]; exact Z8) (Ent.trans Ent.flat (Ent.perm List.perm_append_comm)))⟩
end Go.Proofs.YtjlolpmmpafjeaaGreat
