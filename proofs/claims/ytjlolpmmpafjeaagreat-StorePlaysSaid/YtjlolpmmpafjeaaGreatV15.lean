import Derived.Test.YtjlolpmmpafjeaaGreatV14
set_option linter.unusedVariables false
set_option linter.unusedSimpArgs false
namespace Go.Proofs.YtjlolpmmpafjeaaGreat
open Slk
variable (D : Nat → Prop) (w : World)
abbrev jouB (jb g from_ to_ ep end_ n : Nat) (q : Option Addr × Nat) : HProp := blk jb 169 [.pointer (some ⟨g, 0, none⟩), .int .i64 (from_ : Int), .int .i64 (to_ : Int), .int .u32 (ep : Int), .int .i64 (end_ : Int), .slice q.1 n q.2]
def jouL (jb g from_ to_ ep end_ : Nat) (L : List (List UInt8)) (q : Option Addr × Nat × List Value) : List HProp :=
 [jouB jb g from_ to_ ep end_ L.length (q.1, q.2.1), row q.1 108 1 L.length q.2.1 q.2.2, rowsB 5 L q.2.2]
def jou (jb g from_ to_ ep end_ : Nat) (L : List (List UInt8)) : HProp := exS (jouL jb g from_ to_ ep end_ L)
section
variable {jb g from_ to_ ep end_ : Nat} {L : List (List UInt8)} {l : List HProp}
theorem jou_mk {A : Option Addr} {cap : Nat} {cs : List Value} : Ent (jouB jb g from_ to_ ep end_ L.length (A, cap) :: row A 108 1 L.length cap cs :: rowsB 5 L cs :: l) (jou jb g from_ to_ ep end_ L :: l) :=
 Ent.exS (L := jouL jb g from_ to_ ep end_ L) (l := l) (A, cap, cs)
theorem jou_mk0 : Ent (jouB jb g from_ to_ ep end_ 0 (none, 0) :: l) (jou jb g from_ to_ ep end_ [] :: l) :=
 Ent.trans (Ent.cons (rowsB_nil.trans (Ent.nil_row 108 1))) (jou_mk (L := []) (A := none) (cap := 0) (cs := []))
end
theorem Room_spec (jb g from_ to_ ep end_ : Nat) (L : List (List UInt8)) (hle : end_ ≤ to_) (hto : to_ ≤ 100000) (H : Own D w w [jou jb g from_ to_ ep end_ L]) :
  Calls Tryz.prog 98 #[.pointer (some ⟨jb, 0, none⟩)] w fun e w' => e = .returned (.int .i64 ((to_ - end_ : Nat) : Int)) ∧ Own D w w' [jou jb g from_ to_ ep end_ L] := by
 refine hc_enter (vs := [.pointer (some ⟨jb, 0, none⟩)]) Tryz.func98 rfl _ Tryz.ntmps98 rfl H ?_
 simp only [argSlots, Nat.zero_add]
 refine HC.exs ?_
 rintro ⟨A, cap, cs⟩
 refine HC.ent (l' := jouB jb g from_ to_ ep end_ L.length (A, cap) :: row A 108 1 L.length cap cs :: rowsB 5 L cs :: []) (fun _ h => h) ?_
 refine zg <| zs rfl <| zn <| hc_seq <| zg <| zm rfl <| zv (ov_eqlP rfl rfl) <| zn <| hc_cond_false rfl <| zk <| hc_seq <| hc_quiet mixed Z61 <| hq_v (ov_move rfl) rfl <| hq_v (ov_nil rfl) rfl <| ?_
 refine hq_v (ov_fieldA rfl) rfl <| hq_v (ov_fieldA rfl) rfl <| hq_v (zw rfl rfl) rfl <| hq_v (ov_move rfl) rfl <| hq_v (ov_nil rfl) rfl <| hq_v (ov_fieldA rfl) rfl <| ?_
 refine hq_v (zw rfl rfl) rfl <| ?_
 refine hq_v (ov_sub (m := ((to_ - end_ : Nat) : Int)) rfl rfl ((wrap_i64 Z64).trans Z64)) rfl ?_
 refine hq_v (ov_assign rfl) rfl <| hq_nil <| zt <| zq <| ?_
 exact zz rfl rfl fun w' H' => ⟨rfl, H'.ent jou_mk⟩
theorem Next_spec (jb g from_ to_ ep end_ : Nat) (L : List (List UInt8)) (ep' : Nat) (H : Own D w w [jou jb g from_ to_ ep end_ L]) :
  Calls Tryz.prog 70 #[.pointer (some ⟨jb, 0, none⟩), .int .u32 (ep' : Int)] w fun e w' => e = .returned (.tuple #[]) ∧ Own D w w' [jou jb g from_ to_ ep' from_ []] := by
 refine hc_enter (vs := [.pointer (some ⟨jb, 0, none⟩), .int .u32 (ep' : Int)]) Tryz.func70 rfl _ Tryz.ntmps70 rfl H ?_
 simp only [argSlots, Nat.zero_add]
 refine HC.exs ?_
 rintro ⟨A, cap, cs⟩
 refine HC.ent (l' := jouB jb g from_ to_ ep end_ L.length (A, cap) :: row A 108 1 L.length cap cs :: rowsB 5 L cs :: []) (fun _ h => h) ?_
 refine zg <| zm rfl <| zv (ov_neqP rfl rfl) <| zn <| hc_cond_true rfl <| hc_region <| zm rfl <| zm rfl <| zm rfl <| zm rfl <| zm rfl <| zv (ov_nil rfl) <| zf rfl <| zf rfl <| zl rfl rfl <| zv (ov_nil rfl) <| zf rfl <| ?_
 refine hl_u0 (on_storeN rfl rfl rfl rfl rfl) rfl rfl <| zv (ov_nil rfl) <| zf rfl <| hl_u0 (on_storeN rfl rfl rfl rfl rfl) rfl rfl <| zv (ov_nil rfl) <| zf rfl <| ?_
 refine hl_u0 (on_storeN rfl rfl rfl rfl rfl) rfl rfl <| hl_nil <| ?_
 exact results_0 (.inl rfl) rfl fun w' H' => ⟨rfl, H'.ent (Ent.trans (b := [jouB jb g from_ to_ ep' from_ 0 (none, 0)]) Z8 jou_mk0)⟩
set_option maxHeartbeats 1000000 in
theorem All_spec (jb g from_ to_ ep end_ : Nat) (L : List (List UInt8)) (hl : L.length ≤ 1000000) (hx : ∀ x ∈ L, x.length ≤ 1000000) (H : Own D w w [jou jb g from_ to_ ep end_ L]) :
  Calls Tryz.prog 49 #[.pointer (some ⟨jb, 0, none⟩)] w fun e w' => ∃ q : Option Addr × Nat × List Value, e = .returned (.slice q.1 L.length q.2.1) ∧ Own D w w' [row q.1 108 1 L.length q.2.1 q.2.2, rowsB 5 L q.2.2, jou jb g from_ to_ ep end_ L] := by
 refine hc_enter (vs := [.pointer (some ⟨jb, 0, none⟩)]) Tryz.func49 rfl _ Tryz.ntmps49 rfl H ?_
 simp only [argSlots, Nat.zero_add]
 refine HC.exs ?_
 rintro ⟨A, cap, cs⟩
 refine HC.ent (l' := jouB jb g from_ to_ ep end_ L.length (A, cap) :: row A 108 1 L.length cap cs :: rowsB 5 L cs :: []) (fun _ h => h) ?_
 refine HC.fact (fun w H => Own.factR A H) (fun hf => ?_)
 obtain ⟨hcl0, hcap, hcap2, hA⟩ := hf
 refine zg <| zs rfl <| zn <| hc_seq <| zg <| zm rfl <| zv (ov_eqlP rfl rfl) <| zn <| hc_cond_false rfl <| zk <| zg <| zs rfl <| hl_nil <| zt <| hc_seq <| zg <| zm rfl <| zv (ov_nil rfl) <| zf rfl <| zl rfl rfl <| zv Z25 <| ?_
 refine zm rfl <| zn <| hc_block <| hc_loopK2 (σ := Nat × Option Addr × Nat × List Value) [11, 12] rfl 13 (fun s => .int .i64 (s.1 : Int)) 3 (fun s => .slice s.2.1 s.1 s.2.2.1) (fun s => [row s.2.1 108 1 s.1 s.2.2.1 s.2.2.2, rowsB 5 (L.take s.1) s.2.2.2, jouB jb g from_ to_ ep end_ L.length (A, cap), row A 108 1 L.length cap cs, rowsB 5 L cs]) (fun s => s.1 ≤ L.length) (fun s => L.length - s.1) ((0, none, 0, [])) (Nat.zero_le _) rfl rfl (fun h hh => Ent.nil_row _ _ h (rowsB_nil h hh)) ?_
 rintro ⟨j, B, capB, ds⟩ hj K1 hK1
 dsimp only at hj ⊢
 refine zg <| zv (ov_lss rfl rfl) <| zn <| hc_seq <| hc_cond rfl (fun hlt => ?_) (fun hlt => ?_)
 ·have hlt : j < L.length := by omega
  have hlt2 : j < cs.length := by omega
  have hA0 : isA A := hA (by intro h; rw [h] at hlt2; simp at hlt2)
  have hlx := hx _ (List.getElem_mem hlt)
  have hsn := List.take_succ_eq_append_getElem hlt
  refine zk <| hc_seq <| hc_block <| zg <| zv (ov_idxS rfl Z62 rfl _ rfl Z64) <| ?_
  refine hl_v (ov_load rfl (CellIs.row (A := A) (i := j * 1) hA0 (by rw [Nat.mul_one]; exact List.getElem?_eq_getElem hlt2))) rfl ?_
  refine zs rfl <| zn <| hc_region <| zm rfl <| zm rfl <| hl_call (σ := Option Addr × Nat) Tryz.call81 rfl rfl (fun w1 => zu fun D' _ hin _ => Clone_spec D' w1 cs[j] L[j] hlx (hin _ fun h hh ho => repL_get (stars_rowsB (t := 5) (xs := L) (cs := cs) hh) rfl j hlt hlt2)) ?_
  rintro ⟨C, capC⟩
  try rw [List.nil_append]
  dsimp only
  generalize L[j] = xs at *
  refine hl_new (on_buildSliceN rfl rfl rfl) rfl rfl rfl fun b20 =>  ?_
  refine hl_new (on_appendR (A := B) (news := [.slice C xs.length capC]) rfl rfl (SrcIs.blk (b := b20)) rfl Z49 Z63 Z64) rfl rfl rfl ?_
  rintro ⟨B', capB'⟩
  dsimp only
  refine zs rfl <| hl_nil <| zb <| zt <| hc_region <| zv (ov_add rfl rfl Z28) <| ?_
  refine zm rfl <| hl_nil <| ?_
  exact hx_next hK1 ((j + 1, B', capB', ds ++ [.slice C xs.length capC])) (hlt) Z64 Z16 (Ent.trans (b := [rowsB 5 (L.take j) ds, row C 5 1 xs.length capC (xs.map u8v), row B' 108 1 (j + 1) capB' (ds ++ [.slice C xs.length capC]), jouB jb g from_ to_ ep end_ L.length (A, cap), row A 108 1 L.length cap cs, rowsB 5 L cs]) Z8 (by dsimp only; rw [hsn]; exact rowsB_snoc.trans (Ent.perm (List.Perm.swap _ _ _))))
 have : j = L.length := by omega
 subst this
 rw [List.take_length]
 refine hc_exit <| ze <| ze <| hx_block_out <| zt <| hc_seq <| hc_region <| zm rfl <| zs rfl <| zn <| zq <| ?_
 exact zz rfl rfl fun w' H' => ⟨(B, capB, ds), rfl, H'.ent (Ent.cons (Ent.cons jou_mk))⟩
theorem Encode_at (x : EntT) (v : Value) (W : List Sec) (n : Nat) (hW : W = encE x) (hn : W.length = n) (h : okE x) (HA : Old D w (Rep.rep x.2.2.2 [v])) :
  Calls Tryz.prog 99 #[.agg #[.int .i64 x.1, .int .u32 x.2.1, .int .u32 x.2.2.1, v]] w fun e w' => ∃ q : Option Addr × Nat, e = .returned (.tuple #[.slice q.1 n q.2, .int .i64 0]) ∧ Own D w w' [row q.1 61 64 n q.2 (W.flatMap secC)] := by
 subst hn; subst hW
 exact Encode_ent D w x h v HA
theorem Append_full (jb g from_ to_ ep end_ : Nat) (L ps : List (List UInt8)) (v : Value) (hle : end_ ≤ to_) (hto : to_ ≤ 100000) (hp : ps.flatten.length ≤ 4000) (hfull : to_ - end_ < needM ps.flatten.length) (HA : Old D w (Rep.rep ps [v])) (H : Own D w w [jou jb g from_ to_ ep end_ L]) :
  Calls Tryz.prog 58 #[.pointer (some ⟨jb, 0, none⟩), v] w fun e w' => e = .returned (.int .i64 12) ∧ Own D w w' [jou jb g from_ to_ ep end_ L] := by
 obtain ⟨n, hn⟩ : ∃ n, needM ps.flatten.length = n := ⟨_, rfl⟩
 refine hc_enter (vs := [.pointer (some ⟨jb, 0, none⟩), v]) Tryz.func58 rfl _ Tryz.ntmps58 rfl H ?_
 simp only [argSlots, Nat.zero_add]
 refine zg <| zs rfl <| zn <| hc_seq <| zg <| zm rfl <| zv (ov_eqlP rfl rfl) <| zn <| hc_cond_false rfl <| zk <| zg <| zm rfl <| hl_call (σ := Option Addr × Nat) Tryz.call96 rfl rfl (fun w1 => zu fun D' hold _ _ => Concat_spec D' w1 v ps Z64 (hold _ HA)) ?_
 intro q
 try rw [List.nil_append]
 refine zs rfl <| zn <| hc_seq <| hc_block <| hc_seq <| hc_region <| zm rfl <| zv Z25 <| ?_
 refine zv (ov_gtr rfl rfl) <| zs rfl <| zn <| hc_cond_F rfl (Z64) ?_
 refine zg <| zm rfl <| zv Z25 <| ?_
 refine hl_c Tryz.call97 rfl rfl (fun w1 => zun fun D' _ _ _ => Need_nat D' w1 _ n hn) ?_
 refine zm rfl <| hl_c Tryz.call98 rfl rfl (fun w1 => zp (jou jb g from_ to_ ep end_ L) fun D' _ _ H2 => Room_spec D' w1 jb g from_ to_ ep end_ L hle hto H2) ?_
 refine zv (ov_gtr rfl rfl) <| zs rfl <| zn <| hc_cond_T rfl (Z64) ?_
 refine zg <| zs rfl <| zn <| zq <| hx_block_ret <| zr <| ?_
 exact zz rfl rfl fun w' H' => ⟨rfl, H'.ent Z8⟩
set_option maxHeartbeats 1000000 in
theorem Append_ok (jb g from_ to_ ep end_ : Nat) (L ps : List (List UInt8)) (v : Value) (S : List Sec) (x : List UInt8) (hx : x = ps.flatten) (E : List Sec) (hE : E = encE (jouE ep L.length x)) (n : Nat) (hn : needM x.length = n) (hle : end_ ≤ to_) (hto : to_ ≤ S.length) (hS : S.length ≤ 100000) (hp : x.length ≤ 4000) (hfit : n ≤ to_ - end_) (hep : ep < 4294967296) (hL : L.length ≤ 1000000) (HA : Old D w (Rep.rep ps [v])) (H : Own D w w [jou jb g from_ to_ ep end_ L, dsk g S []]) :
  Calls Tryz.prog 58 #[.pointer (some ⟨jb, 0, none⟩), v] w fun e w' => e = .returned (.int .i64 0) ∧ Own D w w' [jou jb g from_ to_ ep (end_ + n) (L ++ [x]), dsk g (putS S end_ E) []] := by
 have hEl : E.length = n := by rw [hE, encE_len _ hp, hn]
 have hpos := enc_pos (jouE ep L.length x)
 rw [← hE] at hpos
 refine hc_enter (vs := [.pointer (some ⟨jb, 0, none⟩), v]) Tryz.func58 rfl _ Tryz.ntmps58 rfl H ?_
 simp only [argSlots, Nat.zero_add]
 refine zg <| zs rfl <| zn <| hc_seq <| zg <| zm rfl <| zv (ov_eqlP rfl rfl) <| zn <| hc_cond_false rfl <| zk <| zg <| zm rfl <| hl_call (σ := Option Addr × Nat) Tryz.call96 rfl rfl (fun w1 => zu fun D' hold _ _ => (hx ▸ Concat_spec D' w1 v ps (by rw [← hx]; omega) (hold _ HA))) ?_
 intro qb
 try rw [List.nil_append]
 refine zs rfl <| zn <| hc_seq <| hc_block <| hc_seq <| hc_region <| zm rfl <| zv Z25 <| ?_
 refine zv (ov_gtr rfl rfl) <| zs rfl <| zn <| hc_cond_F rfl (Z64) ?_
 refine zg <| zm rfl <| zv Z25 <| ?_
 refine hl_c Tryz.call97 rfl rfl (fun w1 => zun fun D' _ _ _ => Need_nat D' w1 _ n hn) ?_
 refine zm rfl <| hl_c Tryz.call98 rfl rfl (fun w1 => zp (jou jb g from_ to_ ep end_ L) fun D' _ _ H2 => Room_spec D' w1 jb g from_ to_ ep end_ L hle Z64 H2) ?_
 refine zv (ov_gtr rfl rfl) <| zs rfl <| zn <| hc_cond_F rfl (Z64) ?_
 refine hc_skip <| zb <| zt <| hc_seq <| HC.ent (Ent.trans (b := jou jb g from_ to_ ep end_ L :: [dsk g S [], row qb.1 5 1 x.length qb.2 (x.map u8v)]) Z8 (Ent.refl _)) ?_
 refine HC.exs ?_
 rintro ⟨A, cap, cs⟩
 refine HC.ent (l' := jouB jb g from_ to_ ep end_ L.length (A, cap) :: row A 108 1 L.length cap cs :: rowsB 5 L cs :: [dsk g S [], row qb.1 5 1 x.length qb.2 (x.map u8v)]) (fun _ h => h) ?_
 refine hc_any [jouB jb g from_ to_ ep end_ L.length (A, cap)] mixed 18 rfl ?_
 refine ha_v 0 rfl (ov_move rfl) rfl <| ha_v 1 rfl (ov_nil rfl) rfl <| ha_v 2 rfl (ov_fieldA rfl) rfl <| ha_v 3 rfl (zw rfl rfl) rfl <| ha_v 4 rfl (ov_move rfl) rfl <| ha_v 5 rfl (ov_nil rfl) rfl <| ha_v 6 rfl (ov_fieldA rfl) rfl <| ha_v 7 rfl (zw rfl rfl) rfl <| ha_v 8 rfl Z25 rfl <| ?_
 refine ha_v 10 rfl (ov_move rfl) rfl <| ha_one 9 Z61 <| ho_v rfl (ov_conv (m := ((L.length : Nat) : Int)) rfl (wrap_u32 Z64)) rfl ?_
 refine ha_v 11 rfl (ov_buildSN rfl rfl) rfl <| ?_
 refine ha_one 12 Z61 <| ho_kx (σ := Option Addr × Nat) rfl Tryz.call99 rfl (fun w1 => zu fun D' _ hin _ => Encode_at D' w1 (jouE ep L.length x) (.slice qb.1 x.length qb.2) E n hE hEl ⟨show 1 < 256 by decide, hep, show L.length < 4294967296 by omega, hp⟩ (hin _ fun h hs ho => rep_row (A := qb.1) hs x rfl (repL_bytes.2 rfl))) ?_
 intro qe
 try rw [List.nil_append]
 refine ha_v 13 rfl (ov_move rfl) rfl <| ha_v 14 rfl (ov_extract rfl rfl) rfl <| ha_v 15 rfl (ov_extract rfl rfl) rfl <| ha_v 16 rfl (ov_assign rfl) rfl <| ha_v 17 rfl (ov_assign rfl) rfl <| ha_done Z61 <| zt <| hc_seq <| zg <| zm rfl <| ?_
 refine zv (ov_neq rfl rfl) <| zn <| hc_cond_F rfl ((fun h => h rfl)) <| zk <| hc_seq <| hc_seq <| hc_tail 9 mixed Z61 ?_
 refine ht_v (ov_move rfl) rfl <| ht_v (ov_nil rfl) rfl <| ht_v (ov_fieldA rfl) rfl <| ?_
 refine ht_v (ov_loadGB rfl rfl) rfl ?_
 refine ht_v (ov_move rfl) rfl <| ht_v (ov_nil rfl) rfl <| ht_v (ov_fieldA rfl) rfl <| ht_v (zw rfl rfl) rfl <| ht_v (ov_move rfl) rfl <| ht_nil <| ?_
 refine hl_c Tryz.call100 rfl rfl (fun w1 => zp (dsk g S []) fun D' _ hin H2 => jput_spec D' w1 g from_ to_ end_ n S E _ hS Z64 hEl.symm Z64 (hin _ fun h hs ho => rep_row (A := qe.1) hs E hEl.symm (repL_secs.2 rfl)) H2) ?_
 refine zs rfl <| zn <| zg <| zm rfl <| zv (ov_neq rfl rfl) <| zn <| hc_cond_F rfl ((fun h => h rfl)) <| zk <| zg <| zm rfl <| zm rfl <| zv (ov_nil rfl) <| zf rfl <| zl rfl rfl <| zm rfl <| hl_new (on_buildSliceN rfl rfl rfl) rfl rfl rfl fun b62 =>  ?_
 refine hl_new (on_appendR (A := A) (news := [.slice qb.1 x.length qb.2]) rfl rfl (SrcIs.blk (b := b62)) rfl Z49 Z63 Z64) rfl rfl rfl ?_
 rintro ⟨A', cap'⟩
 dsimp only
 refine zv (ov_nil rfl) <| zf rfl <| hl_u0 (on_storeN rfl rfl rfl rfl rfl) rfl rfl <| zn <| hc_seq <| ?_
 refine hc_region <| zm rfl <| zv (ov_nil rfl) <| zf rfl <| zl rfl rfl <| zm rfl <| ?_
 refine zv Z25 <| ?_
 refine hl_v (ov_add (m := ((end_ + n : Nat) : Int)) rfl rfl ((wrap_i64 Z64).trans Z64)) rfl ?_
 refine zv (ov_nil rfl) <| zf rfl <| hl_u0 (on_storeN rfl rfl rfl rfl rfl) rfl rfl <| zn <| hc_seq <| ?_
 refine hc_region <| zs rfl <| zn <| zq <| ?_
 exact zz rfl rfl fun w' H' => ⟨rfl, H'.ent (Ent.trans (b := rowsB 5 L cs :: row qb.1 5 1 x.length qb.2 (x.map u8v) :: [jouB jb g from_ to_ ep (end_ + n) (L.length + 1) (A', cap'), row A' 108 1 (L.length + 1) cap' (cs ++ [.slice qb.1 x.length qb.2]), dsk g (putS S end_ E) []]) Z8 (Ent.trans rowsB_snoc (by have hj := jou_mk (jb := jb) (g := g) (from_ := from_) (to_ := to_) (ep := ep) (end_ := end_ + n) (L := L ++ [x]) (A := A') (cap := cap') (cs := cs ++ [.slice qb.1 x.length qb.2]) (l := [dsk g (putS S end_ E) []]); rw [List.length_append] at hj; exact Ent.trans Z8 hj)))⟩
set_option maxHeartbeats 2000000 in
theorem JOpen_ok (g : Nat) (S : List Sec) (from_ to_ N : Nat) (T : List Sec) (ep : Nat) (hto : to_ ≤ S.length) (hS : S.length ≤ 100000) (hN : from_ + N = to_) (hN0 : 0 < N) (hT : T = (S.drop from_).take N) (H : Own D w w [dsk g S []]) :
  Calls Tryz.prog 47 #[.pointer (some ⟨g, 0, none⟩), .int .i64 (from_ : Int), .int .i64 (to_ : Int), .int .u32 (ep : Int)] w fun e w' => ∃ jb : Nat, e = .returned (.tuple #[.pointer (some ⟨jb, 0, none⟩), .int .i64 0]) ∧ Own D w w' [jou jb g from_ to_ ep (from_ + (entsF ep N 0 T).2) (entsF ep N 0 T).1, dsk g S []] := by
 have hTl : T.length = N := by rw [hT, List.length_take, List.length_drop]; omega
 refine hc_enter (vs := [.pointer (some ⟨g, 0, none⟩), .int .i64 (from_ : Int), .int .i64 (to_ : Int), .int .u32 (ep : Int)]) Tryz.func47 rfl _ Tryz.ntmps47 rfl H ?_
 simp only [argSlots, Nat.zero_add]
 refine zg <| zs rfl <| zs rfl <| zn <| hc_seq <| zg <| zm rfl <| zv (ov_eqlP rfl rfl) <| zm rfl <| hl_on rfl rfl <| zm rfl <| hl_on rfl rfl <| zv (ov_lss rfl rfl) <| zv (ov_pickF rfl rfl) <| zm rfl <| hl_partF (t := 21) rfl (Z64) ?_
 refine hl_on rfl rfl <| zm rfl <| hl_on rfl rfl <| zm rfl <| hl_on rfl rfl <| zv (ov_geq rfl rfl) <| zv (ov_pickF rfl rfl) <| zm rfl <| hl_partF (t := 26) rfl (Z64) ?_
 refine hl_on rfl rfl <| zm rfl <| hl_on rfl rfl <| zm rfl <| hl_on rfl rfl <| hl_c Tryz.call44 rfl rfl (fun w1 => zp (dsk g S []) fun D' _ _ H2 => Len_spec D' w1 g S [] H2) ?_
 refine hl_on rfl rfl <| zv (ov_gtr rfl rfl) <| zv (ov_pickF rfl rfl) <| zn <| hc_cond_F rfl (Z64) ?_
 refine zk <| zg <| zm rfl <| zm rfl <| zm rfl <| zv (ov_buildSN rfl rfl) <| ?_
 refine zm rfl <| zm rfl <| zv (ov_buildSN rfl rfl) <| ?_
 refine hl_new (on_boxN rfl rfl) rfl rfl rfl fun b39 =>  ?_
 refine zs rfl <| zn <| zg <| zm rfl <| zv (ov_nil rfl) <| zf rfl <| ?_
 refine hl_v (ov_loadGB rfl rfl) rfl <| zm rfl <| hl_call (σ := Option Addr × Nat) Tryz.call78 rfl rfl (fun w1 => zpx (dsk g S []) fun D' _ _ H2 => sectors_spec D' w1 g from_ to_ from_ N S T hto hS hN hT H2) ?_
 rintro ⟨A, cap⟩
 dsimp only
 refine HL.fact (fun w H => Own.factR A H) ?_
 rintro ⟨_, hcap, hcap2, _⟩
 refine zs rfl <| zn <| hc_seq <| hc_block <| hc_loopK1 (σ := Nat × List (List UInt8) × (Option Addr × Nat × List Value) × (Option Addr × Nat)) [3, 10] rfl 11 (fun s => .slice s.2.2.2.1 (N - s.1) s.2.2.2.2) (fun s => [jouB b39 g from_ to_ ep (from_ + s.1) s.2.1.length (s.2.2.1.1, s.2.2.1.2.1), row s.2.2.1.1 108 1 s.2.1.length s.2.2.1.2.1 s.2.2.1.2.2, rowsB 5 s.2.1 s.2.2.1.2.2, row A 61 64 N cap (T.flatMap secC), dsk g S []]) (fun s => s.1 ≤ N ∧ s.2.1.length ≤ s.1 ∧ N - s.1 ≤ s.2.2.2.2 ∧ (∀ h, Rep.rep T [.slice A N cap] h → Rep.rep (T.drop s.1) [.slice s.2.2.2.1 (N - s.1) s.2.2.2.2] h) ∧ entsF ep N 0 T = (s.2.1 ++ (entsF ep (N - s.2.1.length) s.2.1.length (T.drop s.1)).1, s.1 + (entsF ep (N - s.2.1.length) s.2.1.length (T.drop s.1)).2)) (fun s => N - s.1) ((0, [], (none, 0, []), (A, cap))) (⟨Nat.zero_le _, Nat.le_refl _, hcap, fun _ h => h, by simp⟩) rfl (Ent.trans (b := jouB b39 g from_ to_ ep from_ 0 (none, 0) :: [row A 61 64 N cap (T.flatMap secC), dsk g S []]) Z8 (Ent.cons (rowsB_nil.trans (Ent.nil_row 108 1)))) ?_
 rintro ⟨k, LL, ⟨qa, qc, ds⟩, A2, cp2⟩ hj_ K1 hK1
 dsimp only at hj_ ⊢
 obtain ⟨hkN, hLk, hc2, hrep, hent⟩ := hj_
 refine hc_seq <| zg <| zm rfl <| zv Z25 <| ?_
 refine zv (ov_gtr rfl rfl) <| zn <| hc_cond rfl (fun hgo => ?_) (fun hgo => ?_)
 ·have hk : k < N := by omega
  obtain ⟨f, hf⟩ : ∃ f, N - LL.length = f + 1 := ⟨N - LL.length - 1, by omega⟩
  rw [hf] at hent
  rw [entsF] at hent
  rcases hd : decS (T.drop k) with _ | ⟨x, n⟩
  ·have hfin : entsF ep N 0 T = (LL, k) := by rw [hent, hd]; simp
   refine zk <| hc_block <| zg <| zm rfl <| hl_c Tryz.call79 rfl rfl (fun w1 => zun fun D' _ hin _ => Decode_none D' w1 _ (T.drop k) hd (hin _ fun h hs ho => hrep _ (rep_row (A := A) hs T hTl.symm (repL_secs.2 rfl)))) ?_
   refine zm rfl <| zx rfl rfl <| zx rfl rfl <| zx rfl rfl <| hl_new (on_alloc) rfl rfl rfl fun b12 =>  ?_
   refine hl_u0 (on_storeW (vs := [.int .i64 0, .int .u32 0, .int .u32 0, .slice none 0 0]) rfl rfl (by simp) (by simp) Z49) rfl rfl ?_
   refine zs rfl <| zs rfl <| zn <| hc_seq <| hc_seq <| hc_quiet mixed Z61 <| hq_v (ov_move rfl) rfl <| hq_v (ov_neq rfl rfl) rfl <| hq_v (ov_move rfl) rfl <| ?_
   refine hq_partT (t := 57) rfl (Z63) ?_
   refine hq_off rfl rfl rfl rfl rfl rfl <| hq_off rfl rfl rfl rfl rfl rfl <| hq_off rfl rfl rfl rfl rfl rfl <| hq_v (ov_pickT rfl rfl) rfl <| hq_v (ov_move rfl) rfl <| hq_off rfl rfl rfl rfl rfl rfl <| ?_
   refine hq_off rfl rfl rfl rfl rfl rfl <| hq_off rfl rfl rfl rfl rfl rfl <| hq_off rfl rfl rfl rfl rfl rfl <| hq_v (ov_pickT rfl rfl) rfl <| hq_v (ov_move rfl) rfl <| hq_off rfl rfl rfl rfl rfl rfl <| ?_
   refine hq_off rfl rfl rfl rfl rfl rfl <| hq_off rfl rfl rfl rfl rfl rfl <| hq_off rfl rfl rfl rfl rfl rfl <| hq_off rfl rfl rfl rfl rfl rfl <| hq_off rfl rfl rfl rfl rfl rfl <| hq_off rfl rfl rfl rfl rfl rfl <| ?_
   refine hq_off rfl rfl rfl rfl rfl rfl <| hq_off rfl rfl rfl rfl rfl rfl <| hq_v (ov_pickT rfl rfl) rfl <| hq_nil <| zt <| hc_cond_true rfl <| ?_
   refine hc_exit <| ze <| hx_block_on rfl <| ze <| hx_block_out <| zt <| zg <| zm rfl <| zs rfl <| zs rfl <| hl_nil <| zt <| zq <| ?_
   exact results_2 (.inr rfl) rfl rfl rfl fun w' H' => ⟨b39, rfl, H'.ent (Ent.trans (b := jouB b39 g from_ to_ ep (from_ + k) LL.length (qa, qc) :: row qa 108 1 LL.length qc ds :: rowsB 5 LL ds :: [dsk g S []]) Z8 Z47)⟩
  rw [hd] at hent
  dsimp only at hent
  have hnk : 1 ≤ n ∧ n ≤ (T.drop k).length := by
   rcases hTk : T.drop k with _ | ⟨s, r⟩
   ·have := congrArg List.length hTk
    rw [List.length_drop, List.length_nil] at this; omega
   ·rw [hTk] at hd; exact (decS_head hd).2
  rw [List.length_drop] at hnk
  refine zk <| hc_block <| zg <| zm rfl <| hl_call (σ := Option Addr × Nat) Tryz.call79 rfl rfl (fun w1 => zu fun D' _ hin _ => Decode_some D' w1 _ (T.drop k) x n hd (hin _ fun h hs ho => hrep _ (rep_row (A := A) hs T hTl.symm (repL_secs.2 rfl)))) ?_
  intro qx
  try rw [List.nil_append]
  refine zm rfl <| zx rfl rfl <| zx rfl rfl <| zx rfl rfl <| hl_new (on_alloc) rfl rfl rfl fun b12 =>  ?_
  refine hl_u0 (on_storeW (vs := entV x qx) rfl rfl (by simp [entV]) (by simp [entV]) (by simp [entV, Value.oneCell'])) rfl rfl ?_
  refine zs rfl <| zs rfl <| zn <| hc_seq <| hc_seq <| hc_quiet mixed Z61 <| hq_v (ov_move rfl) rfl <| hq_v (ov_neq rfl rfl) rfl <| hq_v (ov_move rfl) rfl <| ?_
  refine hq_partF (t := 57) rfl ((fun h => h rfl)) ?_
  refine hq_on rfl rfl <| hq_v (ov_fieldA rfl) rfl <| hq_on rfl rfl <| hq_v (zw rfl rfl) rfl <| hq_on rfl rfl <| hq_v (ov_neq rfl rfl) rfl <| hq_v (ov_pickF rfl rfl) rfl <| hq_v (ov_move rfl) rfl <| ?_
  refine hq_part (t := 62) rfl (fun c1 => ?_) (fun c1 => ?_)
  ·have hfin : entsF ep N 0 T = (LL, k) := by rw [hent, if_neg Z64]; simp
   refine hq_off rfl rfl rfl rfl rfl rfl <| hq_off rfl rfl rfl rfl rfl rfl <| hq_off rfl rfl rfl rfl rfl rfl <| hq_off rfl rfl rfl rfl rfl rfl <| hq_v (ov_pickT rfl rfl) rfl <| hq_v (ov_move rfl) rfl <| ?_
   refine hq_off rfl rfl rfl rfl rfl rfl <| hq_off rfl rfl rfl rfl rfl rfl <| hq_off rfl rfl rfl rfl rfl rfl <| hq_off rfl rfl rfl rfl rfl rfl <| hq_off rfl rfl rfl rfl rfl rfl <| hq_off rfl rfl rfl rfl rfl rfl <| ?_
   refine hq_off rfl rfl rfl rfl rfl rfl <| hq_off rfl rfl rfl rfl rfl rfl <| hq_off rfl rfl rfl rfl rfl rfl <| hq_v (ov_pickT rfl rfl) rfl <| hq_nil <| zt <| ?_
   refine hc_cond_true rfl <| hc_exit <| ze <| hx_block_on rfl <| ze <| hx_block_out <| zt <| zg <| zm rfl <| zs rfl <| zs rfl <| zn <| zq <| ?_
   exact results_2 (.inr rfl) rfl rfl rfl fun w' H' => ⟨b39, rfl, H'.ent (Ent.trans (b := jouB b39 g from_ to_ ep (from_ + k) LL.length (qa, qc) :: row qa 108 1 LL.length qc ds :: rowsB 5 LL ds :: [dsk g S []]) Z8 Z47)⟩
  refine hq_on rfl rfl <| hq_v (ov_fieldA rfl) rfl <| hq_on rfl rfl <| hq_v (zw rfl rfl) rfl <| hq_on rfl rfl <| hq_v (ov_move rfl) rfl <| hq_on rfl rfl <| hq_v (ov_neq rfl rfl) rfl <| hq_v (ov_pickF rfl rfl) rfl <| hq_v (ov_move rfl) rfl <| ?_
  refine hq_part (t := 68) rfl (fun c2 => ?_) (fun c2 => ?_)
  ·have hfin : entsF ep N 0 T = (LL, k) := by rw [hent, if_neg Z64]; simp
   refine hq_off rfl rfl rfl rfl rfl rfl <| hq_off rfl rfl rfl rfl rfl rfl <| hq_off rfl rfl rfl rfl rfl rfl <| hq_off rfl rfl rfl rfl rfl rfl <| hq_off rfl rfl rfl rfl rfl rfl <| hq_off rfl rfl rfl rfl rfl rfl <| ?_
   refine hq_off rfl rfl rfl rfl rfl rfl <| hq_off rfl rfl rfl rfl rfl rfl <| hq_off rfl rfl rfl rfl rfl rfl <| hq_v (ov_pickT rfl rfl) rfl <| hq_nil <| zt <| ?_
   refine hc_cond_true rfl <| hc_exit <| ze <| hx_block_on rfl <| ze <| hx_block_out <| zt <| zg <| zm rfl <| zs rfl <| zs rfl <| zn <| zq <| ?_
   exact results_2 (.inr rfl) rfl rfl rfl fun w' H' => ⟨b39, rfl, H'.ent (Ent.trans (b := jouB b39 g from_ to_ ep (from_ + k) LL.length (qa, qc) :: row qa 108 1 LL.length qc ds :: rowsB 5 LL ds :: [dsk g S []]) Z8 Z47)⟩
  refine hq_on rfl rfl <| hq_v (ov_fieldA rfl) rfl <| hq_on rfl rfl <| hq_v (zw rfl rfl) rfl <| hq_on rfl rfl <| hq_v (ov_move rfl) rfl <| hq_on rfl rfl <| hq_v (ov_nil rfl) rfl <| hq_on rfl rfl <| hq_v (ov_fieldA rfl) rfl <| hq_on rfl rfl <| hq_v (zw rfl rfl) rfl <| ?_
  refine hq_on rfl rfl <| hq_v Z25 rfl <| ?_
  refine hq_on rfl rfl <| hq_v (ov_conv (m := ((LL.length : Nat) : Int)) rfl (wrap_u32 Z64)) rfl ?_
  refine hq_on rfl rfl <| hq_v (ov_neq rfl rfl) rfl <| hq_v (ov_pickF rfl rfl) rfl <| hq_nil <| zt <| ?_
  refine hc_cond rfl (fun c3 => ?_) (fun c3 => ?_)
  ·have hfin : entsF ep N 0 T = (LL, k) := by rw [hent, if_neg Z64]; simp
   refine hc_exit <| ze <| hx_block_on rfl <| ze <| hx_block_out <| zt <| zg <| zm rfl <| zs rfl <| zs rfl <| hl_nil <| zt <| zq <| ?_
   exact results_2 (.inr rfl) rfl rfl rfl fun w' H' => ⟨b39, rfl, H'.ent (Ent.trans (b := jouB b39 g from_ to_ ep (from_ + k) LL.length (qa, qc) :: row qa 108 1 LL.length qc ds :: rowsB 5 LL ds :: [dsk g S []]) Z8 Z47)⟩
  rw [if_pos ⟨by omega, by omega, by omega⟩] at hent
  have hLx : (LL ++ [x.2.2.2]).length = LL.length + 1 := by simp
  obtain ⟨A3, hA3⟩ : ∃ A3 : Option Addr, A3 = if cp2 = n then A2 else A2.map (·.add (n * 64)) := ⟨_, rfl⟩
  have hrep2 : ∀ h, Rep.rep T [.slice A N cap] h → Rep.rep (T.drop (k + n)) [.slice A3 (N - (k + n)) (cp2 - n)] h := fun h hh => by
   have := rep_cut (hrep h hh) n (N - k) Z64 Z40
   rw [List.drop_drop, List.take_of_length_le Z40, Nat.sub_sub] at this
   rw [hA3]; exact this
  have hent2 : entsF ep N 0 T = ((LL ++ [x.2.2.2]) ++ (entsF ep (N - (LL ++ [x.2.2.2]).length) (LL ++ [x.2.2.2]).length (T.drop (k + n))).1, (k + n) + (entsF ep (N - (LL ++ [x.2.2.2]).length) (LL ++ [x.2.2.2]).length (T.drop (k + n))).2) := by
   rw [hent, hLx, show N - (LL.length + 1) = f by omega, List.drop_drop, List.append_assoc, Nat.add_assoc]; rfl
  refine zk <| hc_seq <| hc_any [blk b12 172 (entV x qx)] mixed 12 rfl ?_
  refine ha_v 0 rfl (ov_move rfl) rfl <| ha_v 1 rfl (ov_move rfl) rfl <| ha_v 2 rfl (ov_nil rfl) rfl <| ha_v 3 rfl (ov_fieldA rfl) rfl <| ha_v 5 rfl (ov_fieldA rfl) rfl <| ha_v 6 rfl (zw rfl rfl) rfl <| ha_two 4 7 Z61 ?_ ?_
  ·skip
   refine ho_v rfl (zw rfl rfl) rfl <| ha_one 7 Z61 <| ho_n rfl (on_buildSliceN rfl rfl rfl) rfl (fun b86 => ?_)
   refine ha_one 8 Z61 <| ho_n rfl (on_appendR (A := qa) (news := [.slice qx.1 x.2.2.2.length qx.2]) rfl rfl (SrcIs.blk (b := b86)) rfl Z49 Z63 Z64) rfl ?_
   rintro ⟨A', cap'⟩
   dsimp only
   refine ha_v 9 rfl (ov_nil rfl) rfl <| ha_v 10 rfl (ov_fieldA rfl) rfl <| ha_one 11 Z61 <| ho_w0 rfl (on_storeN rfl rfl rfl rfl rfl) rfl ?_
   refine ha_done Z61 <| ?_
   refine zt <| zg <| zm rfl <| zv (ov_nil rfl) <| zf rfl <| ?_
   refine zl rfl rfl <| zm rfl <| hl_v (ov_add (m := ((from_ + (k + n) : Nat) : Int)) rfl rfl ((wrap_i64 Z64).trans Z64)) rfl ?_
   refine zv (ov_nil rfl) <| zf rfl <| hl_u0 (on_storeN rfl rfl rfl rfl rfl) rfl rfl <| zn <| hc_region <| ?_
   refine zm rfl <| zm rfl <| hl_v (ov_sl (.slice A3 (N - (k + n)) (cp2 - n)) rfl n (N - k) (.inr ⟨_, _, rfl, rfl⟩) (.inl ⟨rfl, rfl⟩) Z64 Z64 (by rw [hA3, Nat.sub_sub])) rfl ?_
   refine zs rfl <| hl_nil <| zb <| ?_
   exact hx_next hK1 ((k + n, LL ++ [x.2.2.2], (A', cap', ds ++ [.slice qx.1 x.2.2.2.length qx.2]), (A3, cp2 - n))) (⟨by show k + n ≤ N; omega, by show (LL ++ [x.2.2.2]).length ≤ k + n; omega, by show N - (k + n) ≤ cp2 - n; omega, hrep2, hent2⟩) Z37 Z16 (Ent.trans (b := rowsB 5 LL ds :: row qx.1 5 1 x.2.2.2.length qx.2 (x.2.2.2.map u8v) :: [jouB b39 g from_ to_ ep (from_ + (k + n)) (LL.length + 1) (A', cap'), row A' 108 1 (LL.length + 1) cap' (ds ++ [.slice qx.1 x.2.2.2.length qx.2]), row A 61 64 N cap (T.flatMap secC), dsk g S []]) Z8 (Ent.trans rowsB_snoc Z4))
  skip
  refine ho_n rfl (on_buildSliceN rfl rfl rfl) rfl (fun b86 => ?_)
  refine ha_one 4 Z61 <| ho_v rfl (zw rfl rfl) rfl <| ha_one 8 Z61 <| ho_n rfl (on_appendR (A := qa) (news := [.slice qx.1 x.2.2.2.length qx.2]) rfl rfl (SrcIs.blk (b := b86)) rfl Z49 Z63 Z64) rfl ?_
  rintro ⟨A', cap'⟩
  dsimp only
  refine ha_v 9 rfl (ov_nil rfl) rfl <| ha_v 10 rfl (ov_fieldA rfl) rfl <| ha_one 11 Z61 <| ho_w0 rfl (on_storeN rfl rfl rfl rfl rfl) rfl ?_
  refine ha_done Z61 <| ?_
  refine zt <| zg <| zm rfl <| zv (ov_nil rfl) <| zf rfl <| ?_
  refine zl rfl rfl <| zm rfl <| hl_v (ov_add (m := ((from_ + (k + n) : Nat) : Int)) rfl rfl ((wrap_i64 Z64).trans Z64)) rfl ?_
  refine zv (ov_nil rfl) <| zf rfl <| hl_u0 (on_storeN rfl rfl rfl rfl rfl) rfl rfl <| zn <| hc_region <| ?_
  refine zm rfl <| zm rfl <| hl_v (ov_sl (.slice A3 (N - (k + n)) (cp2 - n)) rfl n (N - k) (.inr ⟨_, _, rfl, rfl⟩) (.inl ⟨rfl, rfl⟩) Z64 Z64 (by rw [hA3, Nat.sub_sub])) rfl ?_
  refine zs rfl <| hl_nil <| zb <| ?_
  exact hx_next hK1 ((k + n, LL ++ [x.2.2.2], (A', cap', ds ++ [.slice qx.1 x.2.2.2.length qx.2]), (A3, cp2 - n))) (⟨by show k + n ≤ N; omega, by show (LL ++ [x.2.2.2]).length ≤ k + n; omega, by show N - (k + n) ≤ cp2 - n; omega, hrep2, hent2⟩) Z37 Z16 (Ent.trans (b := rowsB 5 LL ds :: row qx.1 5 1 x.2.2.2.length qx.2 (x.2.2.2.map u8v) :: [jouB b39 g from_ to_ ep (from_ + (k + n)) (LL.length + 1) (A', cap'), row A' 108 1 (LL.length + 1) cap' (ds ++ [.slice qx.1 x.2.2.2.length qx.2]), row A 61 64 N cap (T.flatMap secC), dsk g S []]) Z8 (Ent.trans rowsB_snoc Z4))
 have hk : k = N := by omega
 have hfin : entsF ep N 0 T = (LL, k) := by
  rw [hent, List.drop_of_length_le Z64]
  rw [ents_none (fun s hs => by simp at hs), List.append_nil]; rfl
 refine hc_exit <| ze <| ze <| hx_block_out <| zt <| hc_seq <| hc_region <| zm rfl <| zs rfl <| zs rfl <| zn <| zq <| ?_
 exact results_2 (.inr rfl) rfl rfl rfl fun w' H' => ⟨b39, rfl, H'.ent (Ent.trans (b := jouB b39 g from_ to_ ep (from_ + k) LL.length (qa, qc) :: row qa 108 1 LL.length qc ds :: rowsB 5 LL ds :: [dsk g S []]) Z8 Z47)⟩
theorem Config_g (c : ConfC) (vp vv vs : Value) (hg : goodP c) (H : ConfOld D w c vp vv vs) :
  Calls Tryz.prog 110 #[.agg (cfgV c vp vv vs).toArray] w fun e w' => ∃ q : Option Addr × Nat, e = .returned (.tuple #[.slice q.1 (cfgB c).length q.2, .int .i64 0]) ∧ Own D w w' [row q.1 5 1 (cfgB c).length q.2 ((cfgB c).map u8v)] :=
 (Config_spec D w c vp vv vs H).mono fun e w' hp => by
  rcases hp with ⟨h, _⟩ | ⟨_, h⟩
  ·exact absurd hg h
  ·exact h
theorem Parse_g (v : Value) (c : ConfC) (hg : goodP c) (HA : Old D w (Rep.rep (cfgB c) [v])) :
  Calls Tryz.prog 46 #[v] w fun e w' => ∃ q : Three, e = .returned (.tuple #[.agg (cfgA c q).toArray, .int .i64 0]) ∧ Own D w w' (cfgR c q) :=
 (Parse_spec D w v (cfgB c) HA).mono fun e w' ⟨⟨⟨q, d, er⟩, hr⟩, he, H'⟩ => by
  obtain ⟨h1, h2⟩ := parse_of (xs := cfgB c) v hg rfl
  rcases hr with ⟨k, _⟩ | ⟨_, k2, k3⟩
  ·exact absurd h1 k
  ·have k2 : d = c := k2.trans h2
   have k3 : er = 0 := k3
   subst k2; subst k3
   exact ⟨q, he, H'⟩
theorem List_g (v : Value) (l : List EditC) (hl : okEds l) (HA : Old D w (Rep.rep (edsB l) [v])) :
  Calls Tryz.prog 80 #[v] w fun e w' => ∃ q : Option Addr × Nat, e = .returned (.tuple #[.slice q.1 l.length q.2, .int .i64 0]) ∧ Own D w w' [row q.1 81 7 l.length q.2 (l.flatMap editV)] :=
 (List_spec D w v (edsB l) HA).mono fun e w' ⟨⟨⟨q, d, er⟩, hr⟩, he, H'⟩ => by
  obtain ⟨h1, h2⟩ := list_of (l := l) v hl
  rcases hr with ⟨k, _⟩ | ⟨_, k2, k3⟩
  ·exact absurd h1 k
  ·have k2 : d = l := k2.trans h2
   have k3 : er = 0 := k3
   subst k2; subst k3
   exact ⟨q, he, H'⟩
theorem Edits_g (v : Value) (l : List EditC) (hl : okEds l) (HA : Old D w (Rep.rep l [v])) :
  Calls Tryz.prog 57 #[v] w fun e w' => ∃ q : Option Addr × Nat, e = .returned (.tuple #[.slice q.1 (edsB l).length q.2, .int .i64 0]) ∧ Own D w w' [row q.1 5 1 (edsB l).length q.2 ((edsB l).map u8v)] :=
 (Edits_spec D w v l (by have := hl.1; omega) HA).mono fun e w' hp => by
  rcases hp with ⟨h, _⟩ | ⟨_, ⟨i, hi, hb⟩, _⟩ | ⟨_, _, h⟩
  ·exact absurd hl.1 Z64
  ·exact absurd (hl.2 i hi) hb
  ·exact h
theorem Edits_b (v : Value) (l : List EditC) (h32 : l.length ≤ 32) (hl : ¬ okEds l) (HA : Old D w (Rep.rep l [v])) :
  Calls Tryz.prog 57 #[v] w fun e w' => e = .returned (.tuple #[.slice none 0 0, .int .i64 11]) ∧ Own D w w' [] :=
 (Edits_spec D w v l Z64 HA).mono fun e w' hp => by
  rcases hp with ⟨h, _⟩ | ⟨_, _, h⟩ | ⟨h1, h2, _⟩
  ·omega
  ·exact h
  ·exact absurd ⟨h1, h2⟩ hl
theorem Edit_is (c : ConfC) (vp vv vs v1 : Value) (l : List EditC) (d : ConfC) (er : Int) (hr : edF c l = (d, er)) (hll : l.length ≤ 1000000) (HC0 : ConfOld D w c vp vv vs) (HE : Old D w (Rep.rep l [v1])) :
  Calls Tryz.prog 56 #[.agg (cfgV c vp vv vs).toArray, v1] w fun e w' => ∃ q : Three, e = .returned (.tuple #[.agg (cfgA d q).toArray, .int .i64 er]) ∧ Own D w w' (cfgR d q) :=
 (Edit_spec D w c vp vv vs v1 l hll HC0 HE).mono fun e w' ⟨⟨⟨q, d', er'⟩, hR⟩, he, H'⟩ => by
  have h := (edF_of hR).trans hr
  injection h with h1 h2
  subst h1; subst h2
  exact ⟨q, he, H'⟩
theorem First_is (n : Nat) (h1 : 1 ≤ n) (h2 : n ≤ 8) :
  Calls Tryz.prog 74 #[.int .i64 n] w fun e w' => ∃ q : Three, e = .returned (.tuple #[.agg (cfgA (firstC n) q).toArray, .int .i64 0]) ∧ Own D w w' (cfgR (firstC n) q) :=
 (First_spec D w n h1 h2).mono fun e w' ⟨q, he, H'⟩ => by
  have hl : (firstC n).2.2.2.1.length = n := List.length_replicate
  refine ⟨(q.1, (some ⟨q.2, 0, none⟩, 1), (none, 0)), ?_, ?_⟩
  ·rw [he]; simp only [cfgA, hl]; rfl
  ·refine H'.ent ?_
   simp only [cfgR, hl]
   exact Ent.cons (Ent.cons ((Ent.nil _).trans (Ent.nil_row 149 3)))
theorem save_spec (g ep : Nat) (S : List Sec) (c : ConfC) (vp vv vs : Value) (hS : 32 ≤ S.length) (hg : goodP c) (hep : ep < 4294967296) (HC : ConfOld D w c vp vv vs) (H : Own D w w [dsk g S []]) :
  Calls Tryz.prog 69 #[.pointer (some ⟨g, 0, none⟩), .int .u32 (ep : Int), .agg (cfgV c vp vv vs).toArray] w fun e w' => e = .returned (.int .i64 0) ∧ Own D w w' [dsk g (saveS S ep (cfgB c)) []] := by
 have hsm := cfgB_small hg
 refine hc_enter (vs := [.pointer (some ⟨g, 0, none⟩), .int .u32 (ep : Int), .agg (cfgV c vp vv vs).toArray]) Tryz.func69 rfl _ Tryz.ntmps69 rfl H ?_
 simp only [argSlots, Nat.zero_add]
 refine zg <| hl_new (on_boxG (cs := cfgV c vp vv vs) rfl) rfl rfl rfl (fun b5 => ?_)
 refine zs rfl <| zn <| zg <| hl_v (ov_loadW rfl rfl) rfl <| hl_call (σ := Option Addr × Nat) Tryz.call110 rfl rfl (fun w1 => zu fun D' hold _ _ => Config_g D' w1 c vp vv vs hg (HC.hold hold)) ?_
 intro q
 try rw [List.nil_append]
 refine zm rfl <| zx rfl rfl <| zx rfl rfl <| zs rfl <| zs rfl <| hl_nil <| zt <| hc_seq <| zg <| zm rfl <| zv (ov_neq rfl rfl) <| zn <| hc_cond_F rfl ((fun h => h rfl)) <| zk <| zg <| zm rfl <| zm rfl <| zm rfl <| hl_c Tryz.call111 rfl rfl (fun w1 => zp (dsk g S []) fun D' _ hin H2 => Save_ok D' w1 g S ep _ (cfgB c) hS hep hsm (hin _ fun h hs ho => rep_row (A := q.1) hs (cfgB c) rfl (repL_bytes.2 rfl)) H2) ?_
 refine zs rfl <| zn <| zq <| ?_
 exact zz rfl rfl fun w' H' => ⟨rfl, H'.ent Z8⟩
theorem begin_old (g : Nat) (p : Int) (S : List Sec) (ep : Nat) (xs : List UInt8) (hS : 32 ≤ S.length) (hL : loadE S = (ep, xs, 0)) (H : Own D w w [dsk g S []]) :
  Calls Tryz.prog 45 #[.pointer (some ⟨g, 0, none⟩), .int .i64 p] w fun e w' => ∃ q : Option Addr × Nat, e = .returned (.tuple #[.int .u32 (ep : Int), .slice q.1 xs.length q.2, .int .i64 0]) ∧ Own D w w' [dsk g S [], row q.1 5 1 xs.length q.2 (xs.map u8v)] := by
 refine hc_enter (vs := [.pointer (some ⟨g, 0, none⟩), .int .i64 p]) Tryz.func45 rfl _ Tryz.ntmps45 rfl H ?_
 simp only [argSlots, Nat.zero_add]
 refine zg <| zs rfl <| zs rfl <| zs rfl <| hl_nil <| zt <| zg <| zm rfl <| hl_call (σ := Option Addr × Nat) Tryz.call73 rfl rfl (fun w1 => zpx (dsk g S []) fun D' _ _ H2 => Load_is D' w1 g S ep xs 0 hL hS H2) ?_
 intro q
 refine zm rfl <| zx rfl rfl <| zx rfl rfl <| zx rfl rfl <| zs rfl <| zs rfl <| zs rfl <| zn <| hc_seq <| zg <| zm rfl <| zv (ov_neq rfl rfl) <| zn <| hc_cond_T rfl (Z63) ?_
 refine zg <| zm rfl <| zm rfl <| zm rfl <| zs rfl <| zs rfl <| zs rfl <| zn <| zq <| zr <| ?_
 exact results_3 (.inr rfl) rfl rfl rfl rfl fun w' H' => ⟨q, rfl, H'⟩
theorem begin_new (g p : Nat) (S S1 : List Sec) (hS : 32 ≤ S.length) (hp1 : 1 ≤ p) (hp8 : p ≤ 8) (hL : loadE S = (0, [], 13)) (hS1 : S1 = saveS S 1 (cfgB (firstC p))) (hL1 : loadE S1 = (1, cfgB (firstC p), 0)) (H : Own D w w [dsk g S []]) :
  Calls Tryz.prog 45 #[.pointer (some ⟨g, 0, none⟩), .int .i64 (p : Int)] w fun e w' => ∃ q : Option Addr × Nat, e = .returned (.tuple #[.int .u32 1, .slice q.1 (cfgB (firstC p)).length q.2, .int .i64 0]) ∧ Own D w w' [dsk g S1 [], row q.1 5 1 (cfgB (firstC p)).length q.2 ((cfgB (firstC p)).map u8v)] := by
 have hg := firstC_good p hp1 hp8
 have hl1 : S1.length = S.length := by rw [hS1]; exact save_len hS (cfgB_small hg)
 refine hc_enter (vs := [.pointer (some ⟨g, 0, none⟩), .int .i64 (p : Int)]) Tryz.func45 rfl _ Tryz.ntmps45 rfl H ?_
 simp only [argSlots, Nat.zero_add]
 refine zg <| zs rfl <| zs rfl <| zs rfl <| hl_nil <| zt <| zg <| zm rfl <| hl_call (σ := Option Addr × Nat) Tryz.call73 rfl rfl (fun w1 => zpx (dsk g S []) fun D' _ _ H2 => Load_is D' w1 g S 0 [] 13 hL hS H2) ?_
 intro q0
 refine zm rfl <| zx rfl rfl <| zx rfl rfl <| zx rfl rfl <| zs rfl <| zs rfl <| zs rfl <| zn <| hc_seq <| zg <| zm rfl <| zv (ov_neq rfl rfl) <| zn <| hc_cond_F rfl ((fun h => h rfl)) <| zk <| zg <| zm rfl <| hl_call (σ := Three) Tryz.call74 rfl rfl (fun w1 => zu fun D' _ _ _ => First_is D' w1 p hp1 hp8) ?_
 intro qc
 try rw [List.nil_append]
 refine zm rfl <| zx rfl rfl <| zx rfl rfl <| hl_new (on_alloc) rfl rfl rfl fun b10 =>  ?_
 refine hl_u0 (on_storeW (vs := cfgA (firstC p) qc) rfl rfl rfl (by simp) Z49) rfl rfl ?_
 refine zs rfl <| zn <| hc_seq <| zg <| zm rfl <| zv (ov_neq rfl rfl) <| zn <| hc_cond_F rfl ((fun h => h rfl)) <| zk <| hc_seq <| zg <| zm rfl <| hl_v (ov_loadW rfl rfl) rfl <| hl_c Tryz.call69 rfl rfl (fun w1 => zp (dsk g S []) fun D' _ hin H2 => (save_spec D' w1 g 1 S (firstC p) _ _ _ hS hg Z63 (ConfOld.rows (q := qc) (firstC_ok p hp8) hin) H2).mono fun e w' ⟨he, H'⟩ => ⟨he, show Own D' w1 w' [dsk g S1 []] by rw [hS1]; exact H'⟩) ?_
 refine zs rfl <| zn <| zg <| zm rfl <| zv (ov_neq rfl rfl) <| zn <| hc_cond_F rfl ((fun h => h rfl)) <| zk <| zg <| zm rfl <| hl_call (σ := Option Addr × Nat) Tryz.call73 rfl rfl (fun w1 => zpx (dsk g S1 []) fun D' _ _ H2 => Load_is D' w1 g S1 1 (cfgB (firstC p)) 0 hL1 Z64 H2) ?_
 intro q2
 refine zx rfl rfl <| zx rfl rfl <| zx rfl rfl <| zs rfl <| zs rfl <| zs rfl <| zn <| zq <| ?_
 exact results_3 (.inr rfl) rfl rfl rfl rfl fun w' H' => ⟨q2, rfl, H'.ent Z8⟩
set_option maxHeartbeats 1000000 in
theorem replay_spec (c : ConfC) (q : Three) (v : Value) (Ls : List (List EditC)) (d : ConfC) (hok : OkC c) (hr : replF c Ls = some d) (hLs : ∀ l ∈ Ls, okEds l ∧ ∀ x ∈ l, Flat.ok x) (HA : Old D w (Rep.rep (Ls.map edsB) [v])) (H : Own D w w (cfgR c q)) :
  Calls Tryz.prog 48 #[.agg (cfgA c q).toArray, v] w fun e w' => ∃ q' : Three, e = .returned (.tuple #[.agg (cfgA d q').toArray, .int .i64 0]) ∧ Own D w w' (cfgR d q') := by
 obtain ⟨A, cap, rfl, hc1, hc2, hel⟩ := HA.openX Z63
 have hml : (Ls.map edsB).length = Ls.length := List.length_map _
 have hst : ∀ i, i ≤ Ls.length → ∃ ci, replF c (Ls.take i) = some ci ∧ replF ci (Ls.drop i) = some d ∧ OkC ci := by
  intro i
  induction i with
  | zero => exact fun _ => ⟨c, rfl, hr, hok⟩
  | succ i ih =>
   intro hi
   obtain ⟨ci, h1, h2, h3⟩ := ih Z64
   rw [List.drop_eq_getElem_cons Z64] at h2
   have h2 : (if (edF ci Ls[i]).2 = 0 then replF (edF ci Ls[i]).1 (Ls.drop (i + 1)) else none) = some d := h2
   split at h2
   ·rename_i h0
    refine ⟨_, ?_, h2, editR_ok (edF_R ci Ls[i]) h3 (hLs _ (List.getElem_mem Z64)).2⟩
    rw [List.take_succ_eq_append_getElem Z64]
    exact replF_snoc _ _ _ _ h1 h0
   ·cases h2
 refine hc_enter (vs := [.agg (cfgA c q).toArray, .slice A (Ls.map edsB).length cap]) Tryz.func48 rfl _ Tryz.ntmps48 rfl H ?_
 simp only [argSlots, Nat.zero_add]
 refine zg <| hl_new (on_boxG (cs := cfgA c q) rfl) rfl rfl rfl (fun b2 => ?_)
 refine hl_new (on_alloc) rfl rfl rfl fun b4 => 
  zs rfl <| zn <| hc_seq <| hc_seq <| ?_
 refine hc_region <| zm rfl <| zv Z25 <| ?_
 refine zm rfl <| zn <| hc_block <| hc_loopK1 (σ := Nat × ConfC) [2, 4, 10, 11] rfl 12 (fun s => .int .i64 (s.1 : Int)) (fun s => [cfgO b2 s.2, blk b4 49 [.int .i64 0, .int .i64 0, .int .i64 0, .slice none 0 0, .slice none 0 0, .slice none 0 0]]) (fun s => s.1 ≤ Ls.length ∧ replF s.2 (Ls.drop s.1) = some d ∧ OkC s.2) (fun s => Ls.length - s.1) ((0, c)) (⟨Nat.zero_le _, hr, hok⟩) rfl (Ent.trans (b := cfgQ b2 c q ++ [blk b4 49 [.int .i64 0, .int .i64 0, .int .i64 0, .slice none 0 0, .slice none 0 0, .slice none 0 0]]) Z8 (cfgO_mk q)) ?_
 rintro ⟨i, ci⟩ hj_ K1 hK1
 dsimp only at hj_ ⊢
 obtain ⟨hi, hrc, hoc⟩ := hj_
 refine zg <| zv (ov_lss rfl rfl) <| zn <| hc_seq <| hc_cond rfl (fun h => ?_) (fun h => ?_)
 ·have hlt : i < Ls.length := by omega
  obtain ⟨hA, cs, hxo, hcs⟩ := hel i Z64
  obtain ⟨B, cb, rfl, hxo⟩ := bytes_open hxo
  have hcell : ∀ l', CellIs D w l' (ab A) (ao A + i * 1) (.slice B (Ls.map edsB)[i].length cb) := fun l' => hcs 0 _ rfl l'
  have hli : (Ls.map edsB)[i] = edsB Ls[i] := by rw [List.getElem_map]
  rw [hli] at hcell hxo
  obtain ⟨hle, hlf⟩ := hLs _ (List.getElem_mem hlt)
  rw [List.drop_eq_getElem_cons hlt] at hrc
  obtain ⟨l, hl⟩ : ∃ l, l = Ls[i] := ⟨_, rfl⟩
  rw [← hl] at hcell hxo hle hlf hrc
  have hrc : (if (edF ci l).2 = 0 then replF (edF ci l).1 (Ls.drop (i + 1)) else none) = some d := hrc
  split at hrc
  ·rename_i h0
   obtain ⟨c2, hc2e⟩ : ∃ c2, c2 = (edF ci l).1 := ⟨_, rfl⟩
   have hed : edF ci l = (c2, 0) := Prod.ext hc2e.symm h0
   have hoc2 : OkC c2 := by rw [hc2e]; exact editR_ok (edF_R ci l) hoc hlf
   rw [← hc2e] at hrc
   refine zk <| hc_seq <| hc_block <| zg <| zv (ov_idxS rfl Z62 rfl _ rfl Z64) <| ?_
   refine hl_v (ov_load rfl (hcell _)) rfl <| zs rfl <| zn <| zg <| zm rfl <| hl_call (σ := Option Addr × Nat) Tryz.call80 rfl rfl (fun w1 => zu fun D' hold _ _ => List_g D' w1 _ l hle (hold _ hxo)) ?_
   intro qe
   try rw [List.nil_append]
   refine zm rfl <| zx rfl rfl <| zx rfl rfl <| zs rfl <| zs rfl <| hl_nil <| zt <| hc_seq <| zg <| zm rfl <| zv (ov_neq rfl rfl) <| zn <| hc_cond_F rfl ((fun h => h rfl)) <| HC.ent (Ent.trans (b := cfgO b2 ci :: [row qe.1 81 7 l.length qe.2 (l.flatMap editV), blk b4 49 [.int .i64 0, .int .i64 0, .int .i64 0, .slice none 0 0, .slice none 0 0, .slice none 0 0]]) Z8 (Ent.refl _)) ?_
   refine HC.exs ?_
   intro q2
   refine HC.ent (l' := cfgQ b2 ci q2 ++ [row qe.1 81 7 l.length qe.2 (l.flatMap editV), blk b4 49 [.int .i64 0, .int .i64 0, .int .i64 0, .slice none 0 0, .slice none 0 0, .slice none 0 0]]) (fun _ h => h) ?_
   refine zk <| zg <| hl_v (ov_loadW rfl rfl) rfl <| zm rfl <| hl_call (σ := Three) Tryz.call56 rfl rfl (fun w1 => zu fun D' _ hin _ => Edit_is D' w1 ci _ _ _ _ l c2 0 hed (by have := hle.1; omega) (ConfOld.rows (q := q2) hoc hin) (hin _ fun h hs ho => rep_row (A := qe.1) hs l rfl (repL_F.2 ⟨rfl, hlf⟩))) ?_
   intro q3
   try rw [List.nil_append]
   refine zm rfl <| zx rfl rfl <| zx rfl rfl <| hl_u0 (on_storeW (vs := cfgA c2 q3) rfl rfl rfl (by simp) Z49) rfl rfl ?_
   refine zs rfl <| zn <| zg <| zm rfl <| zv (ov_neq rfl rfl) <| zn <| hc_cond_F rfl ((fun h => h rfl)) <| hc_skip <| zb <| zt <| hc_region <| zv (ov_add rfl rfl Z28) <| ?_
   refine zm rfl <| hl_nil <| ?_
   exact hx_next hK1 ((i + 1, c2)) (⟨hlt, hrc, hoc2⟩) (by show Ls.length - (i + 1) < Ls.length - i; omega) Z16 (Ent.trans (b := cfgQ b2 c2 q3 ++ [blk b4 49 [.int .i64 0, .int .i64 0, .int .i64 0, .slice none 0 0, .slice none 0 0, .slice none 0 0]]) Z8 (cfgO_mk q3))
  cases hrc
 have hil : i = Ls.length := by omega
 rw [hil, List.drop_length] at hrc
 have hrc : some ci = some d := hrc
 injection hrc with hrc
 subst hrc
 refine HC.exs ?_
 intro q2
 refine HC.ent (l' := cfgQ b2 ci q2 ++ [blk b4 49 [.int .i64 0, .int .i64 0, .int .i64 0, .slice none 0 0, .slice none 0 0, .slice none 0 0]]) (fun _ h => h) ?_
 refine hc_exit <| ze <| ze <| hx_block_out <| zt <| hc_seq <| hc_region <| hl_v (ov_loadW rfl rfl) rfl <| hl_u0 (on_storeW (vs := cfgA ci q2) rfl rfl rfl (by simp) Z49) rfl rfl ?_
 refine zs rfl <| zn <| zq <| ?_
 exact results_ct (.inr rfl) rfl rfl (by simp) rfl fun w' H' => ⟨q2, rfl, H'.ent Z8⟩
theorem JOpen_is (g : Nat) (S : List Sec) (from_ to_ N : Nat) (T : List Sec) (ep : Nat) (L : List (List UInt8)) (k end_ : Nat) (hE : entsF ep N 0 T = (L, k)) (he : end_ = from_ + k) (hto : to_ ≤ S.length) (hS : S.length ≤ 100000) (hN : from_ + N = to_) (hN0 : 0 < N) (hT : T = (S.drop from_).take N) (H : Own D w w [dsk g S []]) :
  Calls Tryz.prog 47 #[.pointer (some ⟨g, 0, none⟩), .int .i64 (from_ : Int), .int .i64 (to_ : Int), .int .u32 (ep : Int)] w fun e w' => ∃ jb : Nat, e = .returned (.tuple #[.pointer (some ⟨jb, 0, none⟩), .int .i64 0]) ∧ Own D w w' [jou jb g from_ to_ ep end_ L, dsk g S []] := by
 have h := JOpen_ok D w g S from_ to_ N T ep hto hS hN hN0 hT H
 rw [hE] at h
 subst he
 exact h
theorem Append_is (jb g from_ to_ ep end_ : Nat) (L ps : List (List UInt8)) (v : Value) (S : List Sec) (x : List UInt8) (n end' : Nat) (L' : List (List UInt8)) (S' : List Sec) (hx : x = ps.flatten) (hn : needM x.length = n) (he : end' = end_ + n) (hL' : L' = L ++ [x]) (hS' : S' = putS S end_ (encE (jouE ep L.length x))) (hle : end_ ≤ to_) (hto : to_ ≤ S.length) (hS : S.length ≤ 100000) (hp : x.length ≤ 4000) (hfit : n ≤ to_ - end_) (hep : ep < 4294967296) (hL : L.length ≤ 1000000) (HA : Old D w (Rep.rep ps [v])) (H : Own D w w [jou jb g from_ to_ ep end_ L, dsk g S []]) :
  Calls Tryz.prog 58 #[.pointer (some ⟨jb, 0, none⟩), v] w fun e w' => e = .returned (.int .i64 0) ∧ Own D w w' [jou jb g from_ to_ ep end' L', dsk g S' []] := by
 subst he; subst hL'; subst hS'
 exact Append_ok D w jb g from_ to_ ep end_ L ps v S x hx _ rfl n hn hle hto hS hp hfit hep hL HA H
end Go.Proofs.YtjlolpmmpafjeaaGreat
