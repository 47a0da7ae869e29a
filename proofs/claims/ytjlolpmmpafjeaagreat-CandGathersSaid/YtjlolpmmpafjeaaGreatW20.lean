import Derived.Test.YtjlolpmmpafjeaaGreatW19
set_option linter.unusedVariables false
set_option linter.unusedSimpArgs false
namespace Go.Proofs.YtjlolpmmpafjeaaGreat
open Slk
abbrev jouB (jb g from_ to_ ep end_ n : Nat) (q : Option Addr × Nat) : HProp := blk jb 169 [.pointer (some ⟨g, 0, none⟩), .int .i64 (from_ : Int), .int .i64 (to_ : Int), .int .u32 (ep : Int), .int .i64 (end_ : Int), .slice q.1 n q.2]
def jouL (jb g from_ to_ ep end_ : Nat) (L : List (List UInt8)) (q : Option Addr × Nat × List Value) : List HProp :=
  [jouB jb g from_ to_ ep end_ L.length (q.1, q.2.1), row q.1 108 1 L.length q.2.1 q.2.2, rowsB 5 L q.2.2]
def jou (jb g from_ to_ ep end_ : Nat) (L : List (List UInt8)) : HProp := exS (jouL jb g from_ to_ ep end_ L)
section
variable {jb g from_ to_ ep end_ : Nat} {L : List (List UInt8)} {l : List HProp}
theorem jou_mk {A : Option Addr} {cap : Nat} {cs : List Value} : Ent (jouB jb g from_ to_ ep end_ L.length (A, cap) :: row A 108 1 L.length cap cs :: rowsB 5 L cs :: l) (jou jb g from_ to_ ep end_ L :: l) :=
  Ent.exS (L := jouL jb g from_ to_ ep end_ L) (l := l) (A, cap, cs)
theorem jou_mk0 : Ent (jouB jb g from_ to_ ep end_ 0 (none, 0) :: l) (jou jb g from_ to_ ep end_ [] :: l) :=
  Ent.trans (Ent.cons (rowsB_nil.trans (Ent.nil_row 108 1))) (jou_mk (L := []) (A := none) (cap := 0) (cs := []))
end
theorem Room_spec (D : Nat → Prop) (w : World) (jb g from_ to_ ep end_ : Nat) (L : List (List UInt8)) (hle : end_ ≤ to_) (hto : to_ ≤ 100000) (H : Own D w w [jou jb g from_ to_ ep end_ L]) :
    Calls Tryz.prog 98 #[.pointer (some ⟨jb, 0, none⟩)] w fun e w' => e = .returned (.int .i64 ((to_ - end_ : Nat) : Int)) ∧ Own D w w' [jou jb g from_ to_ ep end_ L] := by
  refine hc_enter (vs := [.pointer (some ⟨jb, 0, none⟩)]) Tryz.func98 rfl _ Tryz.ntmps98 rfl H ?_
  simp only [argSlots, Nat.zero_add]
  refine HC.exs ?_
  rintro ⟨A, cap, cs⟩
  refine HC.ent (l' := jouB jb g from_ to_ ep end_ L.length (A, cap) :: row A 108 1 L.length cap cs :: rowsB 5 L cs :: []) (fun _ h => h) ?_
  refine zg <| hl_v (ov_assign rfl) rfl <| zn <| hc_seq <| ?_
  refine zg <| hl_v (ov_move rfl) rfl <| hl_v (ov_eqlP rfl rfl) rfl <| zn <| ?_
  refine hc_cond_false rfl ?_
  refine zk <| hc_seq <| hc_quiet mixed (by kernel_rfl) <| hq_v (ov_move rfl) rfl <| hq_v (ov_nil rfl) rfl <| ?_
  refine hq_v (ov_fieldA rfl) rfl <| hq_v (ov_fieldA rfl) rfl <| hq_v (ov_load rfl (CellIs.blk rfl)) rfl <| hq_v (ov_move rfl) rfl <| hq_v (ov_nil rfl) rfl <| hq_v (ov_fieldA rfl) rfl <| ?_
  refine hq_v (ov_load rfl (CellIs.blk rfl)) rfl <| ?_
  refine hq_v (ov_sub (m := ((to_ - end_ : Nat) : Int)) rfl rfl ((wrap_i64 (by omega)).trans (by omega))) rfl ?_
  refine hq_v (ov_assign rfl) rfl <| hq_nil <| hx_then_normal <| hc_ret <| ?_
  exact results_1 (.inr rfl) rfl rfl fun w' H' => ⟨rfl, H'.ent jou_mk⟩
theorem Next_spec (D : Nat → Prop) (w : World) (jb g from_ to_ ep end_ : Nat) (L : List (List UInt8)) (ep' : Nat) (H : Own D w w [jou jb g from_ to_ ep end_ L]) :
    Calls Tryz.prog 70 #[.pointer (some ⟨jb, 0, none⟩), .int .u32 (ep' : Int)] w fun e w' => e = .returned (.tuple #[]) ∧ Own D w w' [jou jb g from_ to_ ep' from_ []] := by
  refine hc_enter (vs := [.pointer (some ⟨jb, 0, none⟩), .int .u32 (ep' : Int)]) Tryz.func70 rfl _ Tryz.ntmps70 rfl H ?_
  simp only [argSlots, Nat.zero_add]
  refine HC.exs ?_
  rintro ⟨A, cap, cs⟩
  refine HC.ent (l' := jouB jb g from_ to_ ep end_ L.length (A, cap) :: row A 108 1 L.length cap cs :: rowsB 5 L cs :: []) (fun _ h => h) ?_
  refine zg <| hl_v (ov_move rfl) rfl <| hl_v (ov_neqP rfl rfl) rfl <| zn <| ?_
  refine hc_cond_true rfl ?_
  refine hc_region <| hl_v (ov_move rfl) rfl <| hl_v (ov_move rfl) rfl <| hl_v (ov_move rfl) rfl <| hl_v (ov_move rfl) rfl <| hl_v (ov_move rfl) rfl <| ?_
  refine hl_v (ov_nil rfl) rfl <| hl_v (ov_fieldA rfl) rfl <| hl_v (ov_fieldA rfl) rfl <| hl_v (ov_load rfl (CellIs.blk rfl)) rfl <| hl_v (ov_nil rfl) rfl <| hl_v (ov_fieldA rfl) rfl <| ?_
  refine hl_u0 (on_storeN rfl rfl rfl rfl rfl) rfl rfl <| hl_v (ov_nil rfl) rfl <| hl_v (ov_fieldA rfl) rfl <| hl_u0 (on_storeN rfl rfl rfl rfl rfl) rfl rfl <| hl_v (ov_nil rfl) rfl <| hl_v (ov_fieldA rfl) rfl <| ?_
  refine hl_u0 (on_storeN rfl rfl rfl rfl rfl) rfl rfl <| hl_nil <| ?_
  exact results_0 (.inl rfl) rfl fun w' H' => ⟨rfl, H'.ent (Ent.trans (b := [jouB jb g from_ to_ ep' from_ 0 (none, 0)]) za4 jou_mk0)⟩
set_option maxHeartbeats 1000000 in
theorem All_spec (D : Nat → Prop) (w : World) (jb g from_ to_ ep end_ : Nat) (L : List (List UInt8)) (hl : L.length ≤ 1000000) (hx : ∀ x ∈ L, x.length ≤ 1000000) (H : Own D w w [jou jb g from_ to_ ep end_ L]) :
    Calls Tryz.prog 49 #[.pointer (some ⟨jb, 0, none⟩)] w fun e w' => ∃ q : Option Addr × Nat × List Value, e = .returned (.slice q.1 L.length q.2.1) ∧ Own D w w' [row q.1 108 1 L.length q.2.1 q.2.2, rowsB 5 L q.2.2, jou jb g from_ to_ ep end_ L] := by
  refine hc_enter (vs := [.pointer (some ⟨jb, 0, none⟩)]) Tryz.func49 rfl _ Tryz.ntmps49 rfl H ?_
  simp only [argSlots, Nat.zero_add]
  refine HC.exs ?_
  rintro ⟨A, cap, cs⟩
  refine HC.ent (l' := jouB jb g from_ to_ ep end_ L.length (A, cap) :: row A 108 1 L.length cap cs :: rowsB 5 L cs :: []) (fun _ h => h) ?_
  refine HC.fact (fun w H => Own.factR A H) (fun hf => ?_)
  obtain ⟨hcl0, hcap, hcap2, hA⟩ := hf
  refine zg <| hl_v (ov_assign rfl) rfl <| zn <| hc_seq <| ?_
  refine zg <| hl_v (ov_move rfl) rfl <| hl_v (ov_eqlP rfl rfl) rfl <| zn <| ?_
  refine hc_cond_false rfl ?_
  refine zk <| zg <| hl_v (ov_assign rfl) rfl <| hl_nil <| ?_
  refine hx_then_normal <| hc_seq <| zg <| hl_v (ov_move rfl) rfl <| hl_v (ov_nil rfl) rfl <| ?_
  refine hl_v (ov_fieldA rfl) rfl <| hl_v (ov_load rfl (CellIs.blk rfl)) rfl <| hl_v za15 rfl <| ?_
  refine hl_v (ov_move rfl) rfl <| zn <| hc_block <| ?_
  refine hc_loopK2 (σ := Nat × Option Addr × Nat × List Value) [11, 12] rfl 13 (fun s => .int .i64 (s.1 : Int)) 3 (fun s => .slice s.2.1 s.1 s.2.2.1) (fun s => [row s.2.1 108 1 s.1 s.2.2.1 s.2.2.2, rowsB 5 (L.take s.1) s.2.2.2, jouB jb g from_ to_ ep end_ L.length (A, cap), row A 108 1 L.length cap cs, rowsB 5 L cs]) (fun s => s.1 ≤ L.length) (fun s => L.length - s.1) ((0, none, 0, [])) (Nat.zero_le _) rfl rfl (fun h hh => Ent.nil_row _ _ h (rowsB_nil h hh)) ?_
  rintro ⟨j, B, capB, ds⟩ hj K1 hK1
  dsimp only at hj ⊢
  refine zg <| hl_v (ov_lss rfl rfl) rfl <| zn <| hc_seq <| ?_
  refine hc_cond rfl (fun hlt => ?_) (fun hlt => ?_)
  · have hlt : j < L.length := by omega
    have hlt2 : j < cs.length := by omega
    have hA0 : isA A := hA (by intro h; rw [h] at hlt2; simp at hlt2)
    have hlx := hx _ (List.getElem_mem hlt)
    have hsn := List.take_succ_eq_append_getElem hlt
    refine zk <| hc_seq <| hc_block <| zg <| ?_
    refine hl_v (ov_idxS rfl (by assumption) rfl _ rfl (by omega)) rfl <| ?_
    refine hl_v (ov_load rfl (CellIs.row (A := A) (i := j * 1) hA0 (by rw [Nat.mul_one]; exact List.getElem?_eq_getElem hlt2))) rfl ?_
    refine hl_v (ov_assign rfl) rfl <| zn <| hc_region <| hl_v (ov_move rfl) rfl <| hl_v (ov_move rfl) rfl <| ?_
    refine hl_call (σ := Option Addr × Nat) Tryz.call81 rfl rfl (fun w1 H1 => Own.callx0 H1 fun D' hold hin H2 => Clone_spec D' w1 cs[j] L[j] hlx (hin _ fun h hh ho => repL_get (stars_rowsB (t := 5) (xs := L) (cs := cs) hh) rfl j hlt hlt2)) ?_
    rintro ⟨C, capC⟩
    try rw [List.nil_append]
    dsimp only
    generalize L[j] = xs at *
    refine hl_new (on_buildSliceN rfl rfl rfl) rfl rfl rfl fun b20 =>  ?_
    refine hl_new (on_appendR (A := B) (news := [.slice C xs.length capC]) rfl rfl (SrcIs.blk (b := b20)) rfl za33 (by decide) (by omega)) rfl rfl rfl ?_
    rintro ⟨B', capB'⟩
    dsimp only
    refine hl_v (ov_assign rfl) rfl <| hl_nil <| hx_block_normal <| hx_then_normal <| hc_region <| hl_v (ov_add rfl rfl za18) rfl <| ?_
    refine hl_v (ov_move rfl) rfl <| hl_nil <| ?_
    exact hx_next hK1 ((j + 1, B', capB', ds ++ [.slice C xs.length capC])) (hlt) (by omega) za9 (Ent.trans (b := [rowsB 5 (L.take j) ds, row C 5 1 xs.length capC (xs.map u8v), row B' 108 1 (j + 1) capB' (ds ++ [.slice C xs.length capC]), jouB jb g from_ to_ ep end_ L.length (A, cap), row A 108 1 L.length cap cs, rowsB 5 L cs]) za4 (by dsimp only; rw [hsn]; exact rowsB_snoc.trans (Ent.perm (List.Perm.swap _ _ _))))
  have : j = L.length := by omega
  subst this
  rw [List.take_length]
  refine hc_exit <| hx_then_exit <| hx_then_exit <| hx_block_out <| hx_then_normal <| hc_seq <| ?_
  refine hc_region <| hl_v (ov_move rfl) rfl <| hl_v (ov_assign rfl) rfl <| zn <| hc_ret <| ?_
  exact results_1 (.inr rfl) rfl rfl fun w' H' => ⟨(B, capB, ds), rfl, H'.ent (Ent.cons (Ent.cons jou_mk))⟩
theorem Encode_at (D : Nat → Prop) (w : World) (x : EntT) (v : Value) (W : List Sec) (n : Nat) (hW : W = encE x) (hn : W.length = n) (h : okE x) (HA : Old D w (Rep.rep x.2.2.2 [v])) :
    Calls Tryz.prog 99 #[.agg #[.int .i64 x.1, .int .u32 x.2.1, .int .u32 x.2.2.1, v]] w fun e w' => ∃ q : Option Addr × Nat, e = .returned (.tuple #[.slice q.1 n q.2, .int .i64 0]) ∧ Own D w w' [row q.1 61 64 n q.2 (W.flatMap secC)] := by
  subst hn; subst hW
  exact Encode_ent D w x h v HA
theorem Append_full (D : Nat → Prop) (w : World) (jb g from_ to_ ep end_ : Nat) (L ps : List (List UInt8)) (v : Value) (hle : end_ ≤ to_) (hto : to_ ≤ 100000) (hp : ps.flatten.length ≤ 4000) (hfull : to_ - end_ < needM ps.flatten.length) (HA : Old D w (Rep.rep ps [v])) (H : Own D w w [jou jb g from_ to_ ep end_ L]) :
    Calls Tryz.prog 58 #[.pointer (some ⟨jb, 0, none⟩), v] w fun e w' => e = .returned (.int .i64 12) ∧ Own D w w' [jou jb g from_ to_ ep end_ L] := by
  obtain ⟨n, hn⟩ : ∃ n, needM ps.flatten.length = n := ⟨_, rfl⟩
  refine hc_enter (vs := [.pointer (some ⟨jb, 0, none⟩), v]) Tryz.func58 rfl _ Tryz.ntmps58 rfl H ?_
  simp only [argSlots, Nat.zero_add]
  refine zg <| hl_v (ov_assign rfl) rfl <| zn <| hc_seq <| ?_
  refine zg <| hl_v (ov_move rfl) rfl <| hl_v (ov_eqlP rfl rfl) rfl <| zn <| ?_
  refine hc_cond_false rfl ?_
  refine zk <| zg <| hl_v (ov_move rfl) rfl <| ?_
  refine hl_call (σ := Option Addr × Nat) Tryz.call96 rfl rfl (fun w1 H1 => Own.callx0 H1 fun D' hold hin H2 => Concat_spec D' w1 v ps (by omega) (hold _ HA)) ?_
  intro q
  try rw [List.nil_append]
  refine hl_v (ov_assign rfl) rfl <| zn <| hc_seq <| hc_block <| hc_seq <| ?_
  refine hc_region <| hl_v (ov_move rfl) rfl <| hl_v za15 rfl <| ?_
  refine hl_v (ov_gtr rfl rfl) rfl <| hl_v (ov_assign rfl) rfl <| zn <| ?_
  refine hc_cond_F rfl ((by omega)) ?_
  refine zg <| hl_v (ov_move rfl) rfl <| hl_v za15 rfl <| ?_
  refine hl_c Tryz.call97 rfl rfl (fun w1 H1 => Own.calln H1 fun D' hold hin H2 => Need_nat D' w1 _ n hn) ?_
  refine hl_v (ov_move rfl) rfl <| ?_
  refine hl_c Tryz.call98 rfl rfl (fun w1 H1 => Own.callp (jou jb g from_ to_ ep end_ L) H1 fun D' hold hin H2 => Room_spec D' w1 jb g from_ to_ ep end_ L hle hto H2) ?_
  refine hl_v (ov_gtr rfl rfl) rfl <| hl_v (ov_assign rfl) rfl <| zn <| ?_
  refine hc_cond_T rfl ((by omega)) ?_
  refine zg <| hl_v (ov_assign rfl) rfl <| zn <| hc_ret <| ?_
  refine hx_block_ret <| hx_then_ret <| ?_
  exact results_1 (.inr rfl) rfl rfl fun w' H' => ⟨rfl, H'.ent za4⟩
set_option maxHeartbeats 1000000 in
theorem Append_ok (D : Nat → Prop) (w : World) (jb g from_ to_ ep end_ : Nat) (L ps : List (List UInt8)) (v : Value) (S : List Sec) (x : List UInt8) (hx : x = ps.flatten) (E : List Sec) (hE : E = encE (jouE ep L.length x)) (n : Nat) (hn : needM x.length = n) (hle : end_ ≤ to_) (hto : to_ ≤ S.length) (hS : S.length ≤ 100000) (hp : x.length ≤ 4000) (hfit : n ≤ to_ - end_) (hep : ep < 4294967296) (hL : L.length ≤ 1000000) (HA : Old D w (Rep.rep ps [v])) (H : Own D w w [jou jb g from_ to_ ep end_ L, dsk g S []]) :
    Calls Tryz.prog 58 #[.pointer (some ⟨jb, 0, none⟩), v] w fun e w' => e = .returned (.int .i64 0) ∧ Own D w w' [jou jb g from_ to_ ep (end_ + n) (L ++ [x]), dsk g (putS S end_ E) []] := by
  have hEl : E.length = n := by rw [hE, encE_len _ hp, hn]
  have hpos := enc_pos (jouE ep L.length x)
  rw [← hE] at hpos
  refine hc_enter (vs := [.pointer (some ⟨jb, 0, none⟩), v]) Tryz.func58 rfl _ Tryz.ntmps58 rfl H ?_
  simp only [argSlots, Nat.zero_add]
  refine zg <| hl_v (ov_assign rfl) rfl <| zn <| hc_seq <| ?_
  refine zg <| hl_v (ov_move rfl) rfl <| hl_v (ov_eqlP rfl rfl) rfl <| zn <| ?_
  refine hc_cond_false rfl ?_
  refine zk <| zg <| hl_v (ov_move rfl) rfl <| ?_
  refine hl_call (σ := Option Addr × Nat) Tryz.call96 rfl rfl (fun w1 H1 => Own.callx0 H1 fun D' hold hin H2 => (hx ▸ Concat_spec D' w1 v ps (by rw [← hx]; omega) (hold _ HA))) ?_
  intro qb
  try rw [List.nil_append]
  refine hl_v (ov_assign rfl) rfl <| zn <| hc_seq <| hc_block <| hc_seq <| ?_
  refine hc_region <| hl_v (ov_move rfl) rfl <| hl_v za15 rfl <| ?_
  refine hl_v (ov_gtr rfl rfl) rfl <| hl_v (ov_assign rfl) rfl <| zn <| ?_
  refine hc_cond_F rfl ((by omega)) ?_
  refine zg <| hl_v (ov_move rfl) rfl <| hl_v za15 rfl <| ?_
  refine hl_c Tryz.call97 rfl rfl (fun w1 H1 => Own.calln H1 fun D' hold hin H2 => Need_nat D' w1 _ n hn) ?_
  refine hl_v (ov_move rfl) rfl <| ?_
  refine hl_c Tryz.call98 rfl rfl (fun w1 H1 => Own.callp (jou jb g from_ to_ ep end_ L) H1 fun D' hold hin H2 => Room_spec D' w1 jb g from_ to_ ep end_ L hle (by omega) H2) ?_
  refine hl_v (ov_gtr rfl rfl) rfl <| hl_v (ov_assign rfl) rfl <| zn <| ?_
  refine hc_cond_F rfl ((by omega)) ?_
  refine hc_skip <| hx_block_normal <| hx_then_normal <| hc_seq <| ?_
  refine HC.ent (Ent.trans (b := jou jb g from_ to_ ep end_ L :: [dsk g S [], row qb.1 5 1 x.length qb.2 (x.map u8v)]) za4 (Ent.refl _)) ?_
  refine HC.exs ?_
  rintro ⟨A, cap, cs⟩
  refine HC.ent (l' := jouB jb g from_ to_ ep end_ L.length (A, cap) :: row A 108 1 L.length cap cs :: rowsB 5 L cs :: [dsk g S [], row qb.1 5 1 x.length qb.2 (x.map u8v)]) (fun _ h => h) ?_
  refine hc_any [jouB jb g from_ to_ ep end_ L.length (A, cap)] mixed 18 rfl ?_
  refine ha_v 0 rfl (ov_move rfl) rfl <| ?_
  refine ha_v 1 rfl (ov_nil rfl) rfl <| ?_
  refine ha_v 2 rfl (ov_fieldA rfl) rfl <| ?_
  refine ha_v 3 rfl (ov_load rfl (CellIs.blk rfl)) rfl <| ?_
  refine ha_v 4 rfl (ov_move rfl) rfl <| ?_
  refine ha_v 5 rfl (ov_nil rfl) rfl <| ?_
  refine ha_v 6 rfl (ov_fieldA rfl) rfl <| ?_
  refine ha_v 7 rfl (ov_load rfl (CellIs.blk rfl)) rfl <| ?_
  refine ha_v 8 rfl za15 rfl <| ?_
  refine ha_v 10 rfl (ov_move rfl) rfl <| ?_
  refine ha_one 9 (by kernel_rfl) <| ?_
  refine ho_v rfl (ov_conv (m := ((L.length : Nat) : Int)) rfl (wrap_u32 (by omega))) rfl ?_
  refine ha_v 11 rfl (ov_buildSN rfl rfl) rfl <| ?_
  refine ha_one 12 (by kernel_rfl) <| ?_
  refine ho_kx (σ := Option Addr × Nat) rfl Tryz.call99 rfl (fun w1 H1 => Own.callx0 H1 fun D' hold hin H2 => Encode_at D' w1 (jouE ep L.length x) (.slice qb.1 x.length qb.2) E n hE hEl ⟨show 1 < 256 by decide, hep, show L.length < 4294967296 by omega, hp⟩ (hin _ fun h hs ho => rep_row (A := qb.1) hs x rfl (repL_bytes.2 rfl))) ?_
  intro qe
  try rw [List.nil_append]
  refine ha_v 13 rfl (ov_move rfl) rfl <| ?_
  refine ha_v 14 rfl (ov_extract rfl rfl) rfl <| ?_
  refine ha_v 15 rfl (ov_extract rfl rfl) rfl <| ?_
  refine ha_v 16 rfl (ov_assign rfl) rfl <| ?_
  refine ha_v 17 rfl (ov_assign rfl) rfl <| ?_
  refine ha_done (by kernel_rfl) <| hx_then_normal <| hc_seq <| zg <| hl_v (ov_move rfl) rfl <| ?_
  refine hl_v (ov_neq rfl rfl) rfl <| zn <| ?_
  refine hc_cond_F rfl ((fun h => h rfl)) ?_
  refine zk <| hc_seq <| hc_seq <| ?_
  refine hc_tail 9 mixed (by kernel_rfl) ?_
  refine ht_v (ov_move rfl) rfl <| ht_v (ov_nil rfl) rfl <| ht_v (ov_fieldA rfl) rfl <| ?_
  refine ht_v (ov_loadGB rfl rfl) rfl ?_
  refine ht_v (ov_move rfl) rfl <| ht_v (ov_nil rfl) rfl <| ht_v (ov_fieldA rfl) rfl <| ht_v (ov_load rfl (CellIs.blk rfl)) rfl <| ht_v (ov_move rfl) rfl <| ht_nil <| ?_
  refine hl_c Tryz.call100 rfl rfl (fun w1 H1 => Own.callp (dsk g S []) H1 fun D' hold hin H2 => jput_spec D' w1 g from_ to_ end_ n S E _ hS (by omega) hEl.symm (by omega) (hin _ fun h hs ho => rep_row (A := qe.1) hs E hEl.symm (repL_secs.2 rfl)) H2) ?_
  refine hl_v (ov_assign rfl) rfl <| zn <| zg <| hl_v (ov_move rfl) rfl <| ?_
  refine hl_v (ov_neq rfl rfl) rfl <| zn <| ?_
  refine hc_cond_F rfl ((fun h => h rfl)) ?_
  refine zk <| zg <| hl_v (ov_move rfl) rfl <| hl_v (ov_move rfl) rfl <| ?_
  refine hl_v (ov_nil rfl) rfl <| hl_v (ov_fieldA rfl) rfl <| hl_v (ov_load rfl (CellIs.blk rfl)) rfl <| hl_v (ov_move rfl) rfl <| hl_new (on_buildSliceN rfl rfl rfl) rfl rfl rfl fun b62 =>  ?_
  refine hl_new (on_appendR (A := A) (news := [.slice qb.1 x.length qb.2]) rfl rfl (SrcIs.blk (b := b62)) rfl za33 (by decide) (by omega)) rfl rfl rfl ?_
  rintro ⟨A', cap'⟩
  dsimp only
  refine hl_v (ov_nil rfl) rfl <| hl_v (ov_fieldA rfl) rfl <| hl_u0 (on_storeN rfl rfl rfl rfl rfl) rfl rfl <| zn <| hc_seq <| ?_
  refine hc_region <| hl_v (ov_move rfl) rfl <| hl_v (ov_nil rfl) rfl <| hl_v (ov_fieldA rfl) rfl <| hl_v (ov_load rfl (CellIs.blk rfl)) rfl <| hl_v (ov_move rfl) rfl <| ?_
  refine hl_v za15 rfl <| ?_
  refine hl_v (ov_add (m := ((end_ + n : Nat) : Int)) rfl rfl ((wrap_i64 (by omega)).trans (by omega))) rfl ?_
  refine hl_v (ov_nil rfl) rfl <| hl_v (ov_fieldA rfl) rfl <| hl_u0 (on_storeN rfl rfl rfl rfl rfl) rfl rfl <| zn <| hc_seq <| ?_
  refine hc_region <| hl_v (ov_assign rfl) rfl <| zn <| hc_ret <| ?_
  exact results_1 (.inr rfl) rfl rfl fun w' H' => ⟨rfl, H'.ent (Ent.trans (b := rowsB 5 L cs :: row qb.1 5 1 x.length qb.2 (x.map u8v) :: [jouB jb g from_ to_ ep (end_ + n) (L.length + 1) (A', cap'), row A' 108 1 (L.length + 1) cap' (cs ++ [.slice qb.1 x.length qb.2]), dsk g (putS S end_ E) []]) za4 (Ent.trans rowsB_snoc (by have hj := jou_mk (jb := jb) (g := g) (from_ := from_) (to_ := to_) (ep := ep) (end_ := end_ + n) (L := L ++ [x]) (A := A') (cap := cap') (cs := cs ++ [.slice qb.1 x.length qb.2]) (l := [dsk g (putS S end_ E) []]); rw [List.length_append] at hj; exact Ent.trans za4 hj)))⟩
end Go.Proofs.YtjlolpmmpafjeaaGreat
set_option linter.unusedVariables false
set_option linter.unusedSimpArgs false
namespace Go.Proofs.YtjlolpmmpafjeaaGreat
open Slk
set_option maxHeartbeats 2000000 in
theorem JOpen_ok (D : Nat → Prop) (w : World) (g : Nat) (S : List Sec) (from_ to_ N : Nat) (T : List Sec) (ep : Nat) (hto : to_ ≤ S.length) (hS : S.length ≤ 100000) (hN : from_ + N = to_) (hN0 : 0 < N) (hT : T = (S.drop from_).take N) (H : Own D w w [dsk g S []]) :
    Calls Tryz.prog 47 #[.pointer (some ⟨g, 0, none⟩), .int .i64 (from_ : Int), .int .i64 (to_ : Int), .int .u32 (ep : Int)] w fun e w' => ∃ jb : Nat, e = .returned (.tuple #[.pointer (some ⟨jb, 0, none⟩), .int .i64 0]) ∧ Own D w w' [jou jb g from_ to_ ep (from_ + (entsF ep N 0 T).2) (entsF ep N 0 T).1, dsk g S []] := by
  have hTl : T.length = N := by rw [hT, List.length_take, List.length_drop]; omega
  refine hc_enter (vs := [.pointer (some ⟨g, 0, none⟩), .int .i64 (from_ : Int), .int .i64 (to_ : Int), .int .u32 (ep : Int)]) Tryz.func47 rfl _ Tryz.ntmps47 rfl H ?_
  simp only [argSlots, Nat.zero_add]
  refine zg <| hl_v (ov_assign rfl) rfl <| hl_v (ov_assign rfl) rfl <| zn <| ?_
  refine hc_seq <| zg <| hl_v (ov_move rfl) rfl <| hl_v (ov_eqlP rfl rfl) rfl <| hl_v (ov_move rfl) rfl <| ?_
  refine hl_on rfl rfl <| hl_v (ov_move rfl) rfl <| hl_on rfl rfl <| hl_v (ov_lss rfl rfl) rfl <| hl_v (ov_pickF rfl rfl) rfl <| hl_v (ov_move rfl) rfl <| ?_
  refine hl_partF (t := 21) rfl ((by omega)) ?_
  refine hl_on rfl rfl <| hl_v (ov_move rfl) rfl <| hl_on rfl rfl <| hl_v (ov_move rfl) rfl <| hl_on rfl rfl <| hl_v (ov_geq rfl rfl) rfl <| hl_v (ov_pickF rfl rfl) rfl <| hl_v (ov_move rfl) rfl <| ?_
  refine hl_partF (t := 26) rfl ((by omega)) ?_
  refine hl_on rfl rfl <| hl_v (ov_move rfl) rfl <| hl_on rfl rfl <| hl_v (ov_move rfl) rfl <| ?_
  refine hl_on rfl rfl <| hl_c Tryz.call44 rfl rfl (fun w1 H1 => Own.callp (dsk g S []) H1 fun D' hold hin H2 => Len_spec D' w1 g S [] H2) ?_
  refine hl_on rfl rfl <| hl_v (ov_gtr rfl rfl) rfl <| hl_v (ov_pickF rfl rfl) rfl <| zn <| ?_
  refine hc_cond_F rfl ((by omega)) ?_
  refine zk <| zg <| hl_v (ov_move rfl) rfl <| hl_v (ov_move rfl) rfl <| ?_
  refine hl_v (ov_move rfl) rfl <| hl_v (ov_buildSN rfl rfl) rfl <| ?_
  refine hl_v (ov_move rfl) rfl <| hl_v (ov_move rfl) rfl <| hl_v (ov_buildSN rfl rfl) rfl <| ?_
  refine hl_new (on_boxN rfl rfl) rfl rfl rfl fun b39 =>  ?_
  refine hl_v (ov_assign rfl) rfl <| zn <| zg <| hl_v (ov_move rfl) rfl <| ?_
  refine hl_v (ov_nil rfl) rfl <| hl_v (ov_fieldA rfl) rfl <| ?_
  refine hl_v (ov_loadGB rfl rfl) rfl ?_
  refine hl_v (ov_move rfl) rfl <| ?_
  refine hl_call (σ := Option Addr × Nat) Tryz.call78 rfl rfl (fun w1 H1 => Own.callpx (dsk g S []) H1 fun D' hold hin H2 => sectors_spec D' w1 g from_ to_ from_ N S T hto hS hN hT H2) ?_
  rintro ⟨A, cap⟩
  dsimp only
  refine HL.fact (fun w H => Own.factR A H) ?_
  rintro ⟨_, hcap, hcap2, _⟩
  refine hl_v (ov_assign rfl) rfl <| zn <| hc_seq <| hc_block <| ?_
  refine hc_loopK1 (σ := Nat × List (List UInt8) × (Option Addr × Nat × List Value) × (Option Addr × Nat)) [3, 10] rfl 11 (fun s => .slice s.2.2.2.1 (N - s.1) s.2.2.2.2) (fun s => [jouB b39 g from_ to_ ep (from_ + s.1) s.2.1.length (s.2.2.1.1, s.2.2.1.2.1), row s.2.2.1.1 108 1 s.2.1.length s.2.2.1.2.1 s.2.2.1.2.2, rowsB 5 s.2.1 s.2.2.1.2.2, row A 61 64 N cap (T.flatMap secC), dsk g S []]) (fun s => s.1 ≤ N ∧ s.2.1.length ≤ s.1 ∧ N - s.1 ≤ s.2.2.2.2 ∧ (∀ h, Rep.rep T [.slice A N cap] h → Rep.rep (T.drop s.1) [.slice s.2.2.2.1 (N - s.1) s.2.2.2.2] h) ∧ entsF ep N 0 T = (s.2.1 ++ (entsF ep (N - s.2.1.length) s.2.1.length (T.drop s.1)).1, s.1 + (entsF ep (N - s.2.1.length) s.2.1.length (T.drop s.1)).2)) (fun s => N - s.1) ((0, [], (none, 0, []), (A, cap))) (⟨Nat.zero_le _, Nat.le_refl _, hcap, fun _ h => h, by simp⟩) rfl (Ent.trans (b := jouB b39 g from_ to_ ep from_ 0 (none, 0) :: [row A 61 64 N cap (T.flatMap secC), dsk g S []]) za4 (Ent.cons (rowsB_nil.trans (Ent.nil_row 108 1)))) ?_
  rintro ⟨k, LL, ⟨qa, qc, ds⟩, A2, cp2⟩ hj_ K1 hK1
  dsimp only at hj_ ⊢
  obtain ⟨hkN, hLk, hc2, hrep, hent⟩ := hj_
  refine hc_seq <| zg <| hl_v (ov_move rfl) rfl <| hl_v za15 rfl <| ?_
  refine hl_v (ov_gtr rfl rfl) rfl <| zn <| ?_
  refine hc_cond rfl (fun hgo => ?_) (fun hgo => ?_)
  · have hk : k < N := by omega
    obtain ⟨f, hf⟩ : ∃ f, N - LL.length = f + 1 := ⟨N - LL.length - 1, by omega⟩
    rw [hf] at hent
    rw [entsF] at hent
    rcases hd : decS (T.drop k) with _ | ⟨x, n⟩
    · have hfin : entsF ep N 0 T = (LL, k) := by rw [hent, hd]; simp
      refine zk <| hc_block <| zg <| hl_v (ov_move rfl) rfl <| ?_
      refine hl_c Tryz.call79 rfl rfl (fun w1 H1 => Own.calln H1 fun D' hold hin H2 => Decode_none D' w1 _ (T.drop k) hd (hin _ fun h hs ho => hrep _ (rep_row (A := A) hs T hTl.symm (repL_secs.2 rfl)))) ?_
      refine hl_v (ov_move rfl) rfl <| hl_v (ov_extract rfl rfl) rfl <| hl_v (ov_extract rfl rfl) rfl <| hl_v (ov_extract rfl rfl) rfl <| hl_new (on_alloc) rfl rfl rfl fun b12 =>  ?_
      refine hl_u0 (on_storeW (vs := [.int .i64 0, .int .u32 0, .int .u32 0, .slice none 0 0]) rfl rfl (by simp) (by simp) za33) rfl rfl ?_
      refine hl_v (ov_assign rfl) rfl <| hl_v (ov_assign rfl) rfl <| zn <| hc_seq <| hc_seq <| ?_
      refine hc_quiet mixed (by kernel_rfl) <| hq_v (ov_move rfl) rfl <| hq_v (ov_neq rfl rfl) rfl <| hq_v (ov_move rfl) rfl <| ?_
      refine hq_partT (t := 57) rfl ((by decide)) ?_
      refine hq_off rfl rfl rfl rfl rfl rfl <| hq_off rfl rfl rfl rfl rfl rfl <| hq_off rfl rfl rfl rfl rfl rfl <| hq_v (ov_pickT rfl rfl) rfl <| hq_v (ov_move rfl) rfl <| hq_off rfl rfl rfl rfl rfl rfl <| ?_
      refine hq_off rfl rfl rfl rfl rfl rfl <| hq_off rfl rfl rfl rfl rfl rfl <| hq_off rfl rfl rfl rfl rfl rfl <| hq_v (ov_pickT rfl rfl) rfl <| hq_v (ov_move rfl) rfl <| hq_off rfl rfl rfl rfl rfl rfl <| ?_
      refine hq_off rfl rfl rfl rfl rfl rfl <| hq_off rfl rfl rfl rfl rfl rfl <| hq_off rfl rfl rfl rfl rfl rfl <| hq_off rfl rfl rfl rfl rfl rfl <| hq_off rfl rfl rfl rfl rfl rfl <| hq_off rfl rfl rfl rfl rfl rfl <| ?_
      refine hq_off rfl rfl rfl rfl rfl rfl <| hq_off rfl rfl rfl rfl rfl rfl <| hq_v (ov_pickT rfl rfl) rfl <| hq_nil <| hx_then_normal <| hc_cond_true rfl <| ?_
      refine hc_exit <| hx_then_exit <| hx_block_on rfl <| hx_then_exit <| hx_block_out <| hx_then_normal <| ?_
      refine zg <| hl_v (ov_move rfl) rfl <| hl_v (ov_assign rfl) rfl <| hl_v (ov_assign rfl) rfl <| hl_nil <| ?_
      refine hx_then_normal <| hc_ret <| ?_
      exact results_2 (.inr rfl) rfl rfl rfl fun w' H' => ⟨b39, rfl, H'.ent (Ent.trans (b := jouB b39 g from_ to_ ep (from_ + k) LL.length (qa, qc) :: row qa 108 1 LL.length qc ds :: rowsB 5 LL ds :: [dsk g S []]) za4 za32)⟩
    rw [hd] at hent
    dsimp only at hent
    have hnk : 1 ≤ n ∧ n ≤ (T.drop k).length := by
      rcases hTk : T.drop k with _ | ⟨s, r⟩
      · have := congrArg List.length hTk
        rw [List.length_drop, List.length_nil] at this; omega
      · rw [hTk] at hd; exact (decS_head hd).2
    rw [List.length_drop] at hnk
    refine zk <| hc_block <| zg <| hl_v (ov_move rfl) rfl <| ?_
    refine hl_call (σ := Option Addr × Nat) Tryz.call79 rfl rfl (fun w1 H1 => Own.callx0 H1 fun D' hold hin H2 => Decode_some D' w1 _ (T.drop k) x n hd (hin _ fun h hs ho => hrep _ (rep_row (A := A) hs T hTl.symm (repL_secs.2 rfl)))) ?_
    intro qx
    try rw [List.nil_append]
    refine hl_v (ov_move rfl) rfl <| hl_v (ov_extract rfl rfl) rfl <| hl_v (ov_extract rfl rfl) rfl <| hl_v (ov_extract rfl rfl) rfl <| hl_new (on_alloc) rfl rfl rfl fun b12 =>  ?_
    refine hl_u0 (on_storeW (vs := entV x qx) rfl rfl (by simp [entV]) (by simp [entV]) (by simp [entV, Value.oneCell'])) rfl rfl ?_
    refine hl_v (ov_assign rfl) rfl <| hl_v (ov_assign rfl) rfl <| zn <| hc_seq <| hc_seq <| ?_
    refine hc_quiet mixed (by kernel_rfl) <| hq_v (ov_move rfl) rfl <| hq_v (ov_neq rfl rfl) rfl <| hq_v (ov_move rfl) rfl <| ?_
    refine hq_partF (t := 57) rfl ((fun h => h rfl)) ?_
    refine hq_on rfl rfl <| hq_v (ov_fieldA rfl) rfl <| hq_on rfl rfl <| hq_v (ov_load rfl (CellIs.blk rfl)) rfl <| hq_on rfl rfl <| hq_v (ov_neq rfl rfl) rfl <| hq_v (ov_pickF rfl rfl) rfl <| hq_v (ov_move rfl) rfl <| ?_
    refine hq_part (t := 62) rfl (fun c1 => ?_) (fun c1 => ?_)
    · have hfin : entsF ep N 0 T = (LL, k) := by rw [hent, if_neg (by omega)]; simp
      refine hq_off rfl rfl rfl rfl rfl rfl <| hq_off rfl rfl rfl rfl rfl rfl <| hq_off rfl rfl rfl rfl rfl rfl <| hq_off rfl rfl rfl rfl rfl rfl <| hq_v (ov_pickT rfl rfl) rfl <| hq_v (ov_move rfl) rfl <| ?_
      refine hq_off rfl rfl rfl rfl rfl rfl <| hq_off rfl rfl rfl rfl rfl rfl <| hq_off rfl rfl rfl rfl rfl rfl <| hq_off rfl rfl rfl rfl rfl rfl <| hq_off rfl rfl rfl rfl rfl rfl <| hq_off rfl rfl rfl rfl rfl rfl <| ?_
      refine hq_off rfl rfl rfl rfl rfl rfl <| hq_off rfl rfl rfl rfl rfl rfl <| hq_off rfl rfl rfl rfl rfl rfl <| hq_v (ov_pickT rfl rfl) rfl <| hq_nil <| hx_then_normal <| ?_
      refine hc_cond_true rfl <| hc_exit <| hx_then_exit <| hx_block_on rfl <| hx_then_exit <| hx_block_out <| ?_
      refine hx_then_normal <| zg <| hl_v (ov_move rfl) rfl <| hl_v (ov_assign rfl) rfl <| hl_v (ov_assign rfl) rfl <| ?_
      refine zn <| hc_ret <| ?_
      exact results_2 (.inr rfl) rfl rfl rfl fun w' H' => ⟨b39, rfl, H'.ent (Ent.trans (b := jouB b39 g from_ to_ ep (from_ + k) LL.length (qa, qc) :: row qa 108 1 LL.length qc ds :: rowsB 5 LL ds :: [dsk g S []]) za4 za32)⟩
    refine hq_on rfl rfl <| hq_v (ov_fieldA rfl) rfl <| hq_on rfl rfl <| hq_v (ov_load rfl (CellIs.blk rfl)) rfl <| hq_on rfl rfl <| hq_v (ov_move rfl) rfl <| hq_on rfl rfl <| hq_v (ov_neq rfl rfl) rfl <| hq_v (ov_pickF rfl rfl) rfl <| hq_v (ov_move rfl) rfl <| ?_
    refine hq_part (t := 68) rfl (fun c2 => ?_) (fun c2 => ?_)
    · have hfin : entsF ep N 0 T = (LL, k) := by rw [hent, if_neg (by omega)]; simp
      refine hq_off rfl rfl rfl rfl rfl rfl <| hq_off rfl rfl rfl rfl rfl rfl <| hq_off rfl rfl rfl rfl rfl rfl <| hq_off rfl rfl rfl rfl rfl rfl <| hq_off rfl rfl rfl rfl rfl rfl <| hq_off rfl rfl rfl rfl rfl rfl <| ?_
      refine hq_off rfl rfl rfl rfl rfl rfl <| hq_off rfl rfl rfl rfl rfl rfl <| hq_off rfl rfl rfl rfl rfl rfl <| hq_v (ov_pickT rfl rfl) rfl <| hq_nil <| hx_then_normal <| ?_
      refine hc_cond_true rfl <| hc_exit <| hx_then_exit <| hx_block_on rfl <| hx_then_exit <| hx_block_out <| ?_
      refine hx_then_normal <| zg <| hl_v (ov_move rfl) rfl <| hl_v (ov_assign rfl) rfl <| hl_v (ov_assign rfl) rfl <| ?_
      refine zn <| hc_ret <| ?_
      exact results_2 (.inr rfl) rfl rfl rfl fun w' H' => ⟨b39, rfl, H'.ent (Ent.trans (b := jouB b39 g from_ to_ ep (from_ + k) LL.length (qa, qc) :: row qa 108 1 LL.length qc ds :: rowsB 5 LL ds :: [dsk g S []]) za4 za32)⟩
    refine hq_on rfl rfl <| hq_v (ov_fieldA rfl) rfl <| hq_on rfl rfl <| hq_v (ov_load rfl (CellIs.blk rfl)) rfl <| hq_on rfl rfl <| hq_v (ov_move rfl) rfl <| hq_on rfl rfl <| hq_v (ov_nil rfl) rfl <| hq_on rfl rfl <| hq_v (ov_fieldA rfl) rfl <| hq_on rfl rfl <| hq_v (ov_load rfl (CellIs.blk rfl)) rfl <| ?_
    refine hq_on rfl rfl <| hq_v za15 rfl <| ?_
    refine hq_on rfl rfl <| hq_v (ov_conv (m := ((LL.length : Nat) : Int)) rfl (wrap_u32 (by omega))) rfl ?_
    refine hq_on rfl rfl <| hq_v (ov_neq rfl rfl) rfl <| hq_v (ov_pickF rfl rfl) rfl <| hq_nil <| hx_then_normal <| ?_
    refine hc_cond rfl (fun c3 => ?_) (fun c3 => ?_)
    · have hfin : entsF ep N 0 T = (LL, k) := by rw [hent, if_neg (by omega)]; simp
      refine hc_exit <| hx_then_exit <| hx_block_on rfl <| hx_then_exit <| hx_block_out <| hx_then_normal <| ?_
      refine zg <| hl_v (ov_move rfl) rfl <| hl_v (ov_assign rfl) rfl <| hl_v (ov_assign rfl) rfl <| hl_nil <| ?_
      refine hx_then_normal <| hc_ret <| ?_
      exact results_2 (.inr rfl) rfl rfl rfl fun w' H' => ⟨b39, rfl, H'.ent (Ent.trans (b := jouB b39 g from_ to_ ep (from_ + k) LL.length (qa, qc) :: row qa 108 1 LL.length qc ds :: rowsB 5 LL ds :: [dsk g S []]) za4 za32)⟩
    rw [if_pos ⟨by omega, by omega, by omega⟩] at hent
    have hLx : (LL ++ [x.2.2.2]).length = LL.length + 1 := by simp
    obtain ⟨A3, hA3⟩ : ∃ A3 : Option Addr, A3 = if cp2 = n then A2 else A2.map (·.add (n * 64)) := ⟨_, rfl⟩
    have hrep2 : ∀ h, Rep.rep T [.slice A N cap] h → Rep.rep (T.drop (k + n)) [.slice A3 (N - (k + n)) (cp2 - n)] h := fun h hh => by
      have := rep_cut (hrep h hh) n (N - k) (by omega) za27
      rw [List.drop_drop, List.take_of_length_le za27, Nat.sub_sub] at this
      rw [hA3]; exact this
    have hent2 : entsF ep N 0 T = ((LL ++ [x.2.2.2]) ++ (entsF ep (N - (LL ++ [x.2.2.2]).length) (LL ++ [x.2.2.2]).length (T.drop (k + n))).1, (k + n) + (entsF ep (N - (LL ++ [x.2.2.2]).length) (LL ++ [x.2.2.2]).length (T.drop (k + n))).2) := by
      rw [hent, hLx, show N - (LL.length + 1) = f by omega, List.drop_drop, List.append_assoc, Nat.add_assoc]; rfl
    refine zk <| hc_seq <| ?_
    refine hc_any [blk b12 172 (entV x qx)] mixed 12 rfl ?_
    refine ha_v 0 rfl (ov_move rfl) rfl <| ?_
    refine ha_v 1 rfl (ov_move rfl) rfl <| ?_
    refine ha_v 2 rfl (ov_nil rfl) rfl <| ?_
    refine ha_v 3 rfl (ov_fieldA rfl) rfl <| ?_
    refine ha_v 5 rfl (ov_fieldA rfl) rfl <| ?_
    refine ha_v 6 rfl (ov_load rfl (CellIs.blk rfl)) rfl <| ?_
    refine ha_two 4 7 (by kernel_rfl) ?_ ?_
    · skip
      refine ho_v rfl (ov_load rfl (CellIs.blk rfl)) rfl ?_
      refine ha_one 7 (by kernel_rfl) <| ?_
      refine ho_n rfl (on_buildSliceN rfl rfl rfl) rfl (fun b86 => ?_)
      refine ha_one 8 (by kernel_rfl) <| ?_
      refine ho_n rfl (on_appendR (A := qa) (news := [.slice qx.1 x.2.2.2.length qx.2]) rfl rfl (SrcIs.blk (b := b86)) rfl za33 (by decide) (by omega)) rfl ?_
      rintro ⟨A', cap'⟩
      dsimp only
      refine ha_v 9 rfl (ov_nil rfl) rfl <| ?_
      refine ha_v 10 rfl (ov_fieldA rfl) rfl <| ?_
      refine ha_one 11 (by kernel_rfl) <| ?_
      refine ho_w0 rfl (on_storeN rfl rfl rfl rfl rfl) rfl ?_
      refine ha_done (by kernel_rfl) <| ?_
      refine hx_then_normal <| zg <| hl_v (ov_move rfl) rfl <| hl_v (ov_nil rfl) rfl <| hl_v (ov_fieldA rfl) rfl <| ?_
      refine hl_v (ov_load rfl (CellIs.blk rfl)) rfl <| hl_v (ov_move rfl) rfl <| ?_
      refine hl_v (ov_add (m := ((from_ + (k + n) : Nat) : Int)) rfl rfl ((wrap_i64 (by omega)).trans (by omega))) rfl ?_
      refine hl_v (ov_nil rfl) rfl <| hl_v (ov_fieldA rfl) rfl <| hl_u0 (on_storeN rfl rfl rfl rfl rfl) rfl rfl <| zn <| hc_region <| ?_
      refine hl_v (ov_move rfl) rfl <| hl_v (ov_move rfl) rfl <| ?_
      refine hl_v (ov_sl (.slice A3 (N - (k + n)) (cp2 - n)) rfl n (N - k) (.inr ⟨_, _, rfl, rfl⟩) (.inl ⟨rfl, rfl⟩) (by omega) (by omega) (by rw [hA3, Nat.sub_sub])) rfl ?_
      refine hl_v (ov_assign rfl) rfl <| hl_nil <| hx_block_normal <| ?_
      exact hx_next hK1 ((k + n, LL ++ [x.2.2.2], (A', cap', ds ++ [.slice qx.1 x.2.2.2.length qx.2]), (A3, cp2 - n))) (⟨by show k + n ≤ N; omega, by show (LL ++ [x.2.2.2]).length ≤ k + n; omega, by show N - (k + n) ≤ cp2 - n; omega, hrep2, hent2⟩) (by show N - (k + n) < N - k; omega) za9 (Ent.trans (b := rowsB 5 LL ds :: row qx.1 5 1 x.2.2.2.length qx.2 (x.2.2.2.map u8v) :: [jouB b39 g from_ to_ ep (from_ + (k + n)) (LL.length + 1) (A', cap'), row A' 108 1 (LL.length + 1) cap' (ds ++ [.slice qx.1 x.2.2.2.length qx.2]), row A 61 64 N cap (T.flatMap secC), dsk g S []]) za4 (Ent.trans rowsB_snoc (by dsimp only; rw [hLx]; exact za4)))
    skip
    refine ho_n rfl (on_buildSliceN rfl rfl rfl) rfl (fun b86 => ?_)
    refine ha_one 4 (by kernel_rfl) <| ?_
    refine ho_v rfl (ov_load rfl (CellIs.blk rfl)) rfl ?_
    refine ha_one 8 (by kernel_rfl) <| ?_
    refine ho_n rfl (on_appendR (A := qa) (news := [.slice qx.1 x.2.2.2.length qx.2]) rfl rfl (SrcIs.blk (b := b86)) rfl za33 (by decide) (by omega)) rfl ?_
    rintro ⟨A', cap'⟩
    dsimp only
    refine ha_v 9 rfl (ov_nil rfl) rfl <| ?_
    refine ha_v 10 rfl (ov_fieldA rfl) rfl <| ?_
    refine ha_one 11 (by kernel_rfl) <| ?_
    refine ho_w0 rfl (on_storeN rfl rfl rfl rfl rfl) rfl ?_
    refine ha_done (by kernel_rfl) <| ?_
    refine hx_then_normal <| zg <| hl_v (ov_move rfl) rfl <| hl_v (ov_nil rfl) rfl <| hl_v (ov_fieldA rfl) rfl <| ?_
    refine hl_v (ov_load rfl (CellIs.blk rfl)) rfl <| hl_v (ov_move rfl) rfl <| ?_
    refine hl_v (ov_add (m := ((from_ + (k + n) : Nat) : Int)) rfl rfl ((wrap_i64 (by omega)).trans (by omega))) rfl ?_
    refine hl_v (ov_nil rfl) rfl <| hl_v (ov_fieldA rfl) rfl <| hl_u0 (on_storeN rfl rfl rfl rfl rfl) rfl rfl <| zn <| hc_region <| ?_
    refine hl_v (ov_move rfl) rfl <| hl_v (ov_move rfl) rfl <| ?_
    refine hl_v (ov_sl (.slice A3 (N - (k + n)) (cp2 - n)) rfl n (N - k) (.inr ⟨_, _, rfl, rfl⟩) (.inl ⟨rfl, rfl⟩) (by omega) (by omega) (by rw [hA3, Nat.sub_sub])) rfl ?_
    refine hl_v (ov_assign rfl) rfl <| hl_nil <| hx_block_normal <| ?_
    exact hx_next hK1 ((k + n, LL ++ [x.2.2.2], (A', cap', ds ++ [.slice qx.1 x.2.2.2.length qx.2]), (A3, cp2 - n))) (⟨by show k + n ≤ N; omega, by show (LL ++ [x.2.2.2]).length ≤ k + n; omega, by show N - (k + n) ≤ cp2 - n; omega, hrep2, hent2⟩) (by show N - (k + n) < N - k; omega) za9 (Ent.trans (b := rowsB 5 LL ds :: row qx.1 5 1 x.2.2.2.length qx.2 (x.2.2.2.map u8v) :: [jouB b39 g from_ to_ ep (from_ + (k + n)) (LL.length + 1) (A', cap'), row A' 108 1 (LL.length + 1) cap' (ds ++ [.slice qx.1 x.2.2.2.length qx.2]), row A 61 64 N cap (T.flatMap secC), dsk g S []]) za4 (Ent.trans rowsB_snoc (by dsimp only; rw [hLx]; exact za4)))
  have hk : k = N := by omega
  have hfin : entsF ep N 0 T = (LL, k) := by
    rw [hent, List.drop_of_length_le (by omega)]
    rw [ents_none (fun s hs => by simp at hs), List.append_nil]; rfl
  refine hc_exit <| hx_then_exit <| hx_then_exit <| hx_block_out <| hx_then_normal <| hc_seq <| ?_
  refine hc_region <| hl_v (ov_move rfl) rfl <| hl_v (ov_assign rfl) rfl <| hl_v (ov_assign rfl) rfl <| zn <| ?_
  refine hc_ret <| ?_
  exact results_2 (.inr rfl) rfl rfl rfl fun w' H' => ⟨b39, rfl, H'.ent (Ent.trans (b := jouB b39 g from_ to_ ep (from_ + k) LL.length (qa, qc) :: row qa 108 1 LL.length qc ds :: rowsB 5 LL ds :: [dsk g S []]) za4 za32)⟩
end Go.Proofs.YtjlolpmmpafjeaaGreat
