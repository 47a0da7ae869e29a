import Derived.Test.YtjlolpmmpafjeaaGreatV19
set_option linter.unusedVariables false
set_option linter.unusedSimpArgs false
namespace Go.Proofs.YtjlolpmmpafjeaaGreat
open Slk
theorem _root_.Slk.SrcIs.rowPre {D : Nat → Prop} {w0 : World} {l r : List HProp} {A : Option Addr} {t : TypeId} {sz n cap : Nat} {cs : List Value} [h : PickR l A t sz n cap cs r] (hA : Slk.isA A) (m : Nat) (hm : m ≤ n) (hl : cs.length = n * sz) (hc : n ≤ cap) {news : List Value} (hnew : news = (cs.drop (0 * sz)).take (m * sz)) : SrcIs D w0 l A news := by
 have h := SrcIs.rowCut (D := D) (w0 := w0) (h := h) hA 0 m Z64 hl hc hnew
 rw [cut0] at h; exact h
theorem capV {n : Nat} (h : n ≤ 4000) : n * 16 ≤ 140737488355328 := by omega
theorem eqV_iff {x y : VlanC} : eqK ltV x y = true ↔ y.1 = x.1 := by
 unfold eqK ltV
 rw [Bool.and_eq_true, Bool.not_eq_true', Bool.not_eq_true', decide_eq_false_iff_not, decide_eq_false_iff_not]
 omega
theorem del_at {V : List VlanC} {x : VlanC} {k : Nat} (hs : Asc ltV V) (hk : k < V.length) (he : V[k].1 = x.1) : hasL ltV x V = true ∧ delL ltV x V = V.take k ++ V.drop (k + 1) := by
 have hat : atL ltV V x k := ⟨by omega, fun j hj hjk => by
  have := of_decide_eq_true (hs.get j k hj hk hjk)
  exact decide_eq_true Z64, fun j hj hjk => by
  rcases Nat.lt_or_ge k j with h | h
  ·have := of_decide_eq_true (hs.get k j hk hj h)
   exact decide_eq_false Z64
  ·obtain rfl : j = k := by omega
   exact decide_eq_false Z64⟩
 have hh : hasL ltV x V = true := (has_at ordV hs hat).2 ⟨hk, decide_eq_false Z64⟩
 exact ⟨hh, (del_old ordV hs hat hh).2⟩
theorem no_has {V : List VlanC} {x : VlanC} (h : ∀ i (h : i < V.length), V[i].1 ≠ x.1) : ¬ hasL ltV x V = true := fun hh => by
 unfold hasL at hh
 obtain ⟨y, hy, hz⟩ := List.any_eq_true.1 hh
 obtain ⟨i, hi, rfl⟩ := List.getElem_of_mem hy
 exact h i hi (eqV_iff.1 (show eqK ltV x V[i] = true from hz))
set_option maxHeartbeats 4000000 in
theorem rone_spec (D : Nat → Prop) (w : World) (g : Nat) (c : ConfC) (e : EditC) (kk : Nat) (hkk : kk ≤ 40) (hm : Mid c kk) (he : Flat.ok e) (H : Own D w w [cfgO g c]) :
  Calls Tryz.prog 68 #[.pointer (some ⟨g, 0, none⟩), .agg (editV e).toArray] w fun r w' => r = .returned (.int .i64 (oneC c e).2) ∧ Own D w w' [cfgO g (oneC c e).1] := by
 have he : inI64 e.1 ∧ inI64 e.2.1 ∧ inI64 e.2.2.1 ∧ inI64 e.2.2.2.1 := he
 have hlp := hm.lp
 have hlv := hm.lv
 have hls := hm.ls
 obtain ⟨q, H⟩ := Own.exs H
 refine hc_enter (vs := [.pointer (some ⟨g, 0, none⟩), .agg (editV e).toArray]) Tryz.func68 rfl _ Tryz.ntmps68 rfl H ?_
 simp only [argSlots, Nat.zero_add]
 refine HC.ent (l' := cfgQ g c q) (fun _ h => h) ?_
 refine zg <| hl_new (on_boxN rfl rfl) rfl rfl rfl fun b3 =>  ?_
 refine zs rfl <| zn <| hc_seq <| hc_seq <| hc_quiet mixed Z61 <| ?_
 refine hq_v (ov_fieldA rfl) rfl <| hq_v (zw rfl rfl) rfl <| hq_v (ov_geq rfl rfl) rfl <| hq_v (ov_move rfl) rfl <| ?_
 refine hq_part (t := 13) rfl (fun p1 => ?_) (fun p1 => ?_)
 ·refine hq_on rfl rfl <| hq_v (ov_fieldA rfl) rfl <| hq_on rfl rfl <| hq_v (zw rfl rfl) rfl <| hq_on rfl rfl <| hq_v (ov_leq rfl rfl) rfl <| hq_v (ov_pickT rfl rfl) rfl <| hq_v (ov_move rfl) rfl <| ?_
  refine hq_part (t := 18) rfl (fun p2 => ?_) (fun p2 => ?_)
  ·refine hq_on rfl rfl <| hq_v (ov_fieldA rfl) rfl <| hq_on rfl rfl <| hq_v (zw rfl rfl) rfl <| hq_on rfl rfl <| hq_v (ov_lss rfl rfl) rfl <| hq_on rfl rfl <| hq_v (ov_move rfl) rfl <| ?_
   refine hq_part (t := 22) rfl (fun p4 => ?_) (fun p4 => ?_)
   ·have hpc : portC c e = (c, 1) := by unfold portC; rw [if_pos (.inl p4)]
    have hres : oneC c e = (c, 1) := (oneC_port ⟨by omega, by omega⟩).trans hpc
    refine hq_off rfl rfl rfl rfl rfl rfl <| hq_off rfl rfl rfl rfl rfl rfl <| hq_off rfl rfl rfl rfl rfl rfl <| hq_off rfl rfl rfl rfl rfl rfl <| hq_off rfl rfl rfl rfl rfl rfl <| hq_off rfl rfl rfl rfl rfl rfl <| ?_
    refine hq_off rfl rfl rfl rfl rfl rfl <| hq_off rfl rfl rfl rfl rfl rfl <| hq_on rfl rfl <| hq_v (ov_pickT rfl rfl) rfl <| hq_v (ov_pickT rfl rfl) rfl <| hq_nil <| zt <| ?_
    refine hc_cond_true rfl <| zg <| zs rfl <| zn <| zq <| zr <| ?_
    exact zz rfl rfl fun w' H' => ⟨by rw [hres], H'.ent (Ent.trans (b := cfgQ g (oneC c e).1 q) Z6 (cfgO_mk (l := []) q))⟩
   refine hq_on rfl rfl <| hq_v (ov_fieldA rfl) rfl <| hq_on rfl rfl <| hq_v (zw rfl rfl) rfl <| hq_on rfl rfl <| hq_v (ov_move rfl) rfl <| hq_on rfl rfl <| hq_v (ov_nil rfl) rfl <| hq_on rfl rfl <| hq_v (ov_fieldA rfl) rfl <| hq_on rfl rfl <| hq_v (zw rfl rfl) rfl <| ?_
   refine hq_on rfl rfl <| hq_v Z25 rfl <| ?_
   refine hq_on rfl rfl <| hq_v (ov_geq rfl rfl) rfl <| hq_on rfl rfl <| hq_v (ov_pickF rfl rfl) rfl <| hq_v (ov_pickT rfl rfl) rfl <| hq_nil <| zt <| ?_
   refine hc_cond rfl (fun p5 => ?_) (fun p5 => ?_)
   ·have hpc : portC c e = (c, 1) := by unfold portC; rw [if_pos (.inr Z64)]
    have hres : oneC c e = (c, 1) := (oneC_port ⟨by omega, by omega⟩).trans hpc
    refine zg <| zs rfl <| zn <| zq <| zr <| ?_
    exact zz rfl rfl fun w' H' => ⟨by rw [hres], H'.ent (Ent.trans (b := cfgQ g (oneC c e).1 q) Z6 (cfgO_mk (l := []) q))⟩
   have hlt : e.2.1.toNat < c.2.2.2.1.length := by omega
   refine HC.fact (fun w H => Own.factR q.1.1 H) ?_
   rintro ⟨hpl, hpc, _, hA⟩
   have hA : isA q.1.1 := hA Z11
   obtain ⟨i, hi⟩ : ∃ i, i = e.2.1.toNat := ⟨_, rfl⟩
   have hii : (i : Int) = e.2.1 := by omega
   rw [← hi] at hlt
   have hgd : c.2.2.2.1.getD i (false, 0, 0) = c.2.2.2.1[i] := by rw [List.getD_eq_getElem?_getD, List.getElem?_eq_getElem hlt]; rfl
   have hfl := flat_len (f := portV) (sz := 3) (fun _ => rfl) c.2.2.2.1
   have hop : oneC c e = portC c e := oneC_port ⟨by omega, by omega⟩
   refine zk <| hc_seq <| zg <| zf rfl <| ?_
   refine zl rfl rfl <| zn <| hc_block <| zg <| zv (ov_eql rfl rfl) <| zs rfl <| zn <| hc_cond_F rfl ((show ¬ e.1 = 1 by omega)) ?_
   refine zg <| zv (ov_eql rfl rfl) <| zs rfl <| zn <| hc_cond_F rfl ((show ¬ e.1 = 2 by omega)) ?_
   refine zg <| zv (ov_eql rfl rfl) <| zs rfl <| zn <| hc_cond_F rfl ((show ¬ e.1 = 3 by omega)) ?_
   refine zg <| zv (ov_eql rfl rfl) <| zs rfl <| zn <| hc_cond rfl (fun k4 => ?_) (fun k4 => ?_)
   ·have k4 : e.1 = 4 := k4
    have hok4 : (e.2.2.1 = 0 ∨ e.2.2.1 = 1) → oneC c e = ((c.1, c.2.1, c.2.2.1, c.2.2.2.1.set i (decide (e.2.2.1 = 1), c.2.2.2.1[i].2), c.2.2.2.2), 0) := fun hh => by rw [hop]; unfold portC; rw [if_neg Z64, if_pos k4, if_neg Z64, ← hi]; dsimp only; rw [hgd]
    refine hc_seq <| zg <| zf rfl <| zl rfl rfl <| zv (ov_neq rfl rfl) <| ?_
    refine zm rfl <| hl_part (t := 61) rfl (fun z1 => ?_) (fun z1 => ?_)
    ·refine hl_on rfl rfl <| zf rfl <| hl_on rfl rfl <| zl rfl rfl <| hl_on rfl rfl <| zv (ov_neq rfl rfl) <| zv (ov_pickT rfl rfl) <| zn <| ?_
     refine hc_cond rfl (fun z2 => ?_) (fun z2 => ?_)
     ·have hpc : portC c e = (c, 1) := by unfold portC; rw [if_neg Z64, if_pos k4, if_pos ⟨z1, z2⟩]
      have hres : oneC c e = (c, 1) := (oneC_port ⟨by omega, by omega⟩).trans hpc
      refine zg <| zs rfl <| zn <| zq <| zr <| hx_block_ret <| zr <| ?_
      exact zz rfl rfl fun w' H' => ⟨by rw [hres], H'.ent (Ent.trans (b := cfgQ g (oneC c e).1 q) Z6 (cfgO_mk (l := []) q))⟩
     have hres := hok4 (.inr Z64)
     refine zk <| hc_tail 11 mixed Z61 ?_
     refine ht_v (ov_move rfl) rfl <| ht_v (ov_nil rfl) rfl <| ht_v (ov_fieldA rfl) rfl <| ht_v (zw rfl rfl) rfl <| ht_v (ov_fieldA rfl) rfl <| ht_v (zw rfl rfl) rfl <| ?_
     refine ht_v (ov_fieldA rfl) rfl <| ht_v (zw rfl rfl) rfl <| ht_v (ov_eql rfl rfl) rfl <| ?_
     refine ht_v (ov_idxS rfl hA rfl i Z64 Z64) rfl ?_
     refine ht_v (ov_fieldA rfl) rfl <| ht_nil <| ?_
     refine hl_u0 (on_storeRX (A := q.1.1) (i * 3 + 0) ((c.2.2.2.1.set i (decide (e.2.2.1 = 1), c.2.2.2.1[i].2)).flatMap portV) rfl rfl Z64 Z55 rfl (flat_set1 (f := portV) (sz := 3) (fun _ => rfl) _ i 0 _ _ hlt Z63 rfl)) rfl rfl ?_
     refine hl_nil <| zb <| zt <| zg <| zs rfl <| zn <| zq <| ?_
     exact zz rfl rfl fun w' H' => ⟨by rw [hres], H'.ent (Ent.trans (b := cfgQ g (oneC c e).1 q) Z1 (cfgO_mk (l := []) q))⟩
    have hres := hok4 (.inl Z64)
    refine zo rfl rfl <| zo rfl rfl <| zo rfl rfl <| zv (ov_pickF rfl rfl) <| zn <| hc_cond_false rfl <| zk <| hc_tail 11 mixed Z61 ?_
    refine ht_v (ov_move rfl) rfl <| ht_v (ov_nil rfl) rfl <| ht_v (ov_fieldA rfl) rfl <| ht_v (zw rfl rfl) rfl <| ht_v (ov_fieldA rfl) rfl <| ht_v (zw rfl rfl) rfl <| ?_
    refine ht_v (ov_fieldA rfl) rfl <| ht_v (zw rfl rfl) rfl <| ht_v (ov_eql rfl rfl) rfl <| ?_
    refine ht_v (ov_idxS rfl hA rfl i Z64 Z64) rfl ?_
    refine ht_v (ov_fieldA rfl) rfl <| ht_nil <| ?_
    refine hl_u0 (on_storeRX (A := q.1.1) (i * 3 + 0) ((c.2.2.2.1.set i (decide (e.2.2.1 = 1), c.2.2.2.1[i].2)).flatMap portV) rfl rfl Z64 Z55 rfl (flat_set1 (f := portV) (sz := 3) (fun _ => rfl) _ i 0 _ _ hlt Z63 rfl)) rfl rfl ?_
    refine hl_nil <| zb <| zt <| zg <| zs rfl <| zn <| zq <| ?_
    exact zz rfl rfl fun w' H' => ⟨by rw [hres], H'.ent (Ent.trans (b := cfgQ g (oneC c e).1 q) Z1 (cfgO_mk (l := []) q))⟩
   refine zg <| zv (ov_eql rfl rfl) <| zs rfl <| zn <| hc_cond rfl (fun k5 => ?_) (fun k5 => ?_)
   ·have k5 : e.1 = 5 := k5
    refine hc_seq <| zg <| zf rfl <| zl rfl rfl <| zv (ov_lss rfl rfl) <| ?_
    refine zm rfl <| hl_part (t := 82) rfl (fun z3 => ?_) (fun z3 => ?_)
    ·have hpc : portC c e = (c, 1) := by unfold portC; rw [if_neg Z64, if_neg Z64, if_pos k5, if_pos (.inl z3)]
     have hres : oneC c e = (c, 1) := (oneC_port ⟨by omega, by omega⟩).trans hpc
     refine zo rfl rfl <| zo rfl rfl <| zo rfl rfl <| zv (ov_pickT rfl rfl) <| zn <| hc_cond_true rfl <| zg <| zs rfl <| zn <| zq <| zr <| hx_block_ret <| zr <| ?_
     exact zz rfl rfl fun w' H' => ⟨by rw [hres], H'.ent (Ent.trans (b := cfgQ g (oneC c e).1 q) Z6 (cfgO_mk (l := []) q))⟩
    refine hl_on rfl rfl <| zf rfl <| hl_on rfl rfl <| zl rfl rfl <| hl_on rfl rfl <| zv (ov_geq rfl rfl) <| zv (ov_pickF rfl rfl) <| zn <| ?_
    refine hc_cond rfl (fun z4 => ?_) (fun z4 => ?_)
    ·have hpc : portC c e = (c, 1) := by unfold portC; rw [if_neg Z64, if_neg Z64, if_pos k5, if_pos (.inr Z64)]
     have hres : oneC c e = (c, 1) := (oneC_port ⟨by omega, by omega⟩).trans hpc
     refine zg <| zs rfl <| zn <| zq <| zr <| hx_block_ret <| zr <| ?_
     exact zz rfl rfl fun w' H' => ⟨by rw [hres], H'.ent (Ent.trans (b := cfgQ g (oneC c e).1 q) Z6 (cfgO_mk (l := []) q))⟩
    have hres : oneC c e = ((c.1, c.2.1, c.2.2.1, c.2.2.2.1.set i (c.2.2.2.1[i].1, UInt32.ofNat e.2.2.1.toNat, c.2.2.2.1[i].2.2), c.2.2.2.2), 0) := by rw [hop]; unfold portC; rw [if_neg Z64, if_neg Z64, if_pos k5, if_neg Z64, ← hi]; dsimp only; rw [hgd]
    have hu : ((UInt32.ofNat e.2.2.1.toNat).toNat : Int) = e.2.2.1 := by rw [UInt32.toNat_ofNat']; omega
    refine zk <| hc_tail 11 mixed Z61 ?_
    refine ht_v (ov_move rfl) rfl <| ht_v (ov_nil rfl) rfl <| ht_v (ov_fieldA rfl) rfl <| ht_v (zw rfl rfl) rfl <| ht_v (ov_fieldA rfl) rfl <| ht_v (zw rfl rfl) rfl <| ?_
    refine ht_v (ov_fieldA rfl) rfl <| ht_v (zw rfl rfl) rfl <| ?_
    refine ht_v (ov_conv (m := e.2.2.1) rfl (wrap_u32 Z64)) rfl ?_
    refine ht_v (ov_idxS rfl hA rfl i Z64 Z64) rfl ?_
    refine ht_v (ov_fieldA rfl) rfl <| ht_nil <| ?_
    refine hl_u0 (on_storeRX (A := q.1.1) (i * 3 + 1) ((c.2.2.2.1.set i (c.2.2.2.1[i].1, UInt32.ofNat e.2.2.1.toNat, c.2.2.2.1[i].2.2)).flatMap portV) rfl rfl Z64 Z55 rfl (flat_set1 (f := portV) (sz := 3) (fun _ => rfl) _ i 1 _ _ hlt Z63 (by show [_, Value.int .u32 ((UInt32.ofNat e.2.2.1.toNat).toNat : Int), _] = _; rw [hu]; rfl))) rfl rfl ?_
    refine hl_nil <| zb <| zt <| zg <| zs rfl <| zn <| zq <| ?_
    exact zz rfl rfl fun w' H' => ⟨by rw [hres], H'.ent (Ent.trans (b := cfgQ g (oneC c e).1 q) Z1 (cfgO_mk (l := []) q))⟩
   refine zg <| zv (ov_eql rfl rfl) <| zs rfl <| zn <| hc_cond_T rfl ((show e.1 = 6 by omega)) ?_
   have hres : oneC c e = ((c.1, c.2.1, c.2.2.1, c.2.2.2.1.set i (c.2.2.2.1[i].1, c.2.2.2.1[i].2.1, e.2.2.1), c.2.2.2.2), 0) := by rw [hop]; unfold portC; rw [if_neg Z64, if_neg Z64, if_neg Z64, ← hi]; dsimp only; rw [hgd]
   refine hc_tail 10 mixed Z61 ?_
   refine ht_v (ov_move rfl) rfl <| ht_v (ov_nil rfl) rfl <| ht_v (ov_fieldA rfl) rfl <| ht_v (zw rfl rfl) rfl <| ht_v (ov_fieldA rfl) rfl <| ht_v (zw rfl rfl) rfl <| ?_
   refine ht_v (ov_fieldA rfl) rfl <| ht_v (zw rfl rfl) rfl <| ?_
   refine ht_v (ov_idxS rfl hA rfl i Z64 Z64) rfl ?_
   refine ht_v (ov_fieldA rfl) rfl <| ht_nil <| ?_
   refine hl_u0 (on_storeRX (A := q.1.1) (i * 3 + 2) ((c.2.2.2.1.set i (c.2.2.2.1[i].1, c.2.2.2.1[i].2.1, e.2.2.1)).flatMap portV) rfl rfl Z64 Z55 rfl (flat_set1 (f := portV) (sz := 3) (fun _ => rfl) _ i 2 _ _ hlt Z63 rfl)) rfl rfl ?_
   refine hl_nil <| zb <| zt <| zg <| zs rfl <| zn <| zq <| ?_
   exact zz rfl rfl fun w' H' => ⟨by rw [hres], H'.ent (Ent.trans (b := cfgQ g (oneC c e).1 q) Z1 (cfgO_mk (l := []) q))⟩
  have p6 : 6 < e.1 := by omega
  have h46 : ¬ (4 ≤ e.1 ∧ e.1 ≤ 6) := by omega
  refine hq_off rfl rfl rfl rfl rfl rfl <| hq_off rfl rfl rfl rfl rfl rfl <| hq_off rfl rfl rfl rfl rfl rfl <| hq_off rfl rfl rfl rfl rfl rfl <| hq_offU rfl rfl rfl rfl rfl <| hq_offU rfl rfl rfl rfl rfl <| ?_
  refine hq_offU rfl rfl rfl rfl rfl <| hq_offU rfl rfl rfl rfl rfl <| hq_offU rfl rfl rfl rfl rfl <| hq_offU rfl rfl rfl rfl rfl <| hq_offU rfl rfl rfl rfl rfl <| hq_offU rfl rfl rfl rfl rfl <| ?_
  refine hq_off rfl rfl rfl rfl rfl rfl <| hq_v (ov_pickF rfl rfl) rfl <| hq_nil <| zt <| hc_cond_false rfl <| hc_skip <| ?_
  refine zt <| hc_seq <| zg <| zf rfl <| zl rfl rfl <| ?_
  refine zn <| hc_block <| zg <| zv (ov_eql rfl rfl) <| zs rfl <| zn <| hc_cond_F rfl ((show ¬ e.1 = 1 by omega)) ?_
  refine zg <| zv (ov_eql rfl rfl) <| zs rfl <| zn <| hc_cond_F rfl ((show ¬ e.1 = 2 by omega)) ?_
  refine zg <| zv (ov_eql rfl rfl) <| zs rfl <| zn <| hc_cond_F rfl ((show ¬ e.1 = 3 by omega)) ?_
  refine zg <| zv (ov_eql rfl rfl) <| zs rfl <| zn <| hc_cond_F rfl ((show ¬ e.1 = 4 by omega)) ?_
  refine zg <| zv (ov_eql rfl rfl) <| zs rfl <| zn <| hc_cond_F rfl ((show ¬ e.1 = 5 by omega)) ?_
  refine zg <| zv (ov_eql rfl rfl) <| zs rfl <| zn <| hc_cond_F rfl ((show ¬ e.1 = 6 by omega)) ?_
  refine zg <| zv (ov_eql rfl rfl) <| zs rfl <| zn <| hc_cond rfl (fun k7 => ?_) (fun k7 => ?_)
  ·obtain ⟨x, hx⟩ : ∃ x : VlanC, x = (e.2.2.2.1, e.2.2.2.2.1, e.2.2.2.2.2.1) := ⟨_, rfl⟩
   have hx3 : vlanV x = [.int .i64 e.2.2.2.1, u8v e.2.2.2.2.1, u8v e.2.2.2.2.2.1] := by rw [hx]
   have hres : oneC c e = ((c.1, c.2.1, c.2.2.1, c.2.2.2.1, setL ltV x c.2.2.2.2.1, c.2.2.2.2.2), 0) := by unfold oneC; rw [if_neg Z64, if_neg Z64, if_neg Z64, if_neg h46, if_pos k7, hx]
   have has := hm.av
   have holen := fun i => outI_len (x := x) (d := false) (l := c.2.2.2.2.1) ordV i
   refine zg <| zf rfl <| zl rfl rfl <| zf rfl <| zl rfl rfl <| ?_
   refine zf rfl <| zl rfl rfl <| zv (ov_buildSN rfl rfl) <| ?_
   refine hl_new (on_alloc) rfl rfl rfl fun b5 =>  ?_
   refine hl_u0 (on_storeW (vs := vlanV x) rfl (by rw [hx3]; rfl) rfl (by simp) (vlanV_one x)) rfl rfl ?_
   refine zn <| zg <| zs rfl <| hl_nil <| zt <| zg <| zs rfl <| zn <| hc_seq <| zg <| zs rfl <| zn <| hc_block <| hc_loopK3 (σ := Nat × List VlanC × Bool × Option Addr × Nat) [0, 5] rfl 8 (fun s => .int .i64 (s.1 : Int)) 6 (fun s => .slice s.2.2.2.1 s.2.1.length s.2.2.2.2) 7 (fun s => .bool s.2.2.1) (fun s => [row s.2.2.2.1 147 3 s.2.1.length s.2.2.2.2 (s.2.1.flatMap vlanV), blk b5 147 (vlanV x), blk b3 81 (editV e), blk g 49 (cfgA c q), row q.1.1 83 3 c.2.2.2.1.length q.1.2 (c.2.2.2.1.flatMap portV), row q.2.1.1 147 3 c.2.2.2.2.1.length q.2.1.2 (c.2.2.2.2.1.flatMap vlanV), row q.2.2.1 149 3 c.2.2.2.2.2.length q.2.2.2 (c.2.2.2.2.2.flatMap statV)]) (fun s => s.1 ≤ c.2.2.2.2.1.length ∧ s.2.1 = outI ltV x false c.2.2.2.2.1 s.1 ∧ s.2.2.1 = putI ltV x false c.2.2.2.2.1 s.1) (fun s => c.2.2.2.2.1.length - s.1) ((0, [], false, none, 0)) (⟨Nat.zero_le _, rfl, rfl⟩) rfl rfl rfl (Ent.trans (Ent.nil_row 147 3) Z8) ?_
   rintro ⟨i, O, pu, q2⟩ hj_ K1 hK1
   dsimp only at hj_ ⊢
   obtain ⟨hi, hO, hpu⟩ := hj_
   refine hc_seq <| zg <| zm rfl <| zm rfl <| zv (ov_nil rfl) <| zf rfl <| zl rfl rfl <| zv Z25 <| ?_
   refine zv (ov_lss rfl rfl) <| zn <| hc_cond rfl (fun h => ?_) (fun h => ?_)
   ·have hlt : i < c.2.2.2.2.1.length := by omega
    refine HC.fact (fun w H => Own.factR q.2.1.1 H) ?_
    rintro ⟨hSl, _, _, hA⟩
    have hA : isA q.2.1.1 := hA (by intro h; have := congrArg List.length h; rw [hSl] at this; simp only [List.length_nil] at this; omega)
    have hcell : (c.2.2.2.2.1.flatMap vlanV)[i * 3 + 0]? = some (.int .i64 c.2.2.2.2.1[i].1) := by rw [flat_at (f := vlanV) (sz := 3) (fun _ => rfl) _ i 0 hlt Z63]; rfl
    obtain ⟨y, hy⟩ : ∃ y, c.2.2.2.2.1[i] = y := ⟨_, rfl⟩
    have hme : c.2.2.2.2.1.length - (i + 1) < c.2.2.2.2.1.length - i := by omega
    have hst := outI_step ordV (x := x) (d := false) has hlt
    have hps := putI_step (lt := ltV) (x := x) (d := false) hlt
    rw [hy] at hst hps hcell
    rw [← hO] at hst
    rw [← hpu] at hst hps
    have hol := holen i
    rw [← hO] at hol
    have hoz : (O.length + 1) * 16 ≤ 140737488355328 := capV Z64
    have hoz1 : (O.length + 1 + 1) * 16 ≤ 140737488355328 := capV Z64
    refine zk <| hc_seq <| hc_block <| hc_seq <| hc_seq <| hc_quiet mixed Z61 <| hq_v (ov_move rfl) rfl <| hq_v Z26 rfl <| ?_
    refine hq_v (ov_move rfl) rfl <| ?_
    refine hq_partb (t := 130) rfl (fun g1 => ?_) (fun g1 => ?_)
    ·have hpf : pu = false := by simpa using g1
     refine hq_on rfl rfl <| hq_v (ov_fieldA rfl) rfl <| hq_on rfl rfl <| hq_v (zw rfl rfl) rfl <| hq_on rfl rfl <| hq_v (ov_move rfl) rfl <| hq_on rfl rfl <| hq_v (ov_nil rfl) rfl <| hq_on rfl rfl <| hq_v (ov_fieldA rfl) rfl <| hq_on rfl rfl <| hq_v (zw rfl rfl) rfl <| ?_
     refine hq_on rfl rfl <| hq_v (ov_move rfl) rfl <| ?_
     refine hq_on rfl rfl <| hq_v (ov_idxS rfl hA rfl i rfl hlt) rfl ?_
     refine hq_on rfl rfl <| hq_v (ov_fieldA rfl) rfl <| ?_
     refine hq_on rfl rfl <| hq_v (ov_load rfl (CellIs.row (A := q.2.1.1) hA (i := i * 3 + 0) hcell)) rfl ?_
     refine hq_on rfl rfl <| hq_v (ov_leq rfl rfl) rfl <| hq_v (ov_pickT rfl rfl) rfl <| hq_nil <| zt <| ?_
     refine hc_cond rfl (fun g2 => ?_) (fun g2 => ?_)
     ·have hyx : ltV y x = false := decide_eq_false Z64
      have hput1 : true = putI ltV x false c.2.2.2.2.1 (i + 1) := by rw [hps, hyx]; simp
      refine hc_region <| zm rfl <| zv Z17 <| ?_
      refine hl_new (on_buildSlice (res := vlanV x) rfl rfl Z61) rfl rfl rfl (fun b145 => ?_)
      refine hl_new (on_appendR (A := q2.1) (news := vlanV x) rfl rfl (SrcIs.blk (b := b145)) rfl (vlanV_one x) Z63 hoz) rfl rfl rfl (fun q1 => ?_)
      obtain ⟨O1, hO1⟩ : ∃ l, l = O ++ [x] := ⟨_, rfl⟩
      have hst1 : outI ltV x false c.2.2.2.2.1 (i + 1) = O1 ++ (if eqK ltV x y = false then [y] else []) := by rw [hst, if_pos ⟨hpf, hyx⟩, hO1]
      have hO1l : (O1.length + 1) * 16 ≤ 140737488355328 := by rw [hO1, List.length_append, List.length_singleton]; exact hoz1
      rw [show O.flatMap vlanV ++ vlanV x = O1.flatMap vlanV by rw [hO1, List.flatMap_append, List.flatMap_singleton], show O.length + 1 = O1.length by rw [hO1, List.length_append, List.length_singleton]]
      refine zs rfl <| zs rfl <| zn <| hc_seq <| hc_quiet mixed Z61 <| ?_
      refine hq_v (ov_move rfl) rfl <| hq_v (ov_nil rfl) rfl <| hq_v (ov_fieldA rfl) rfl <| hq_v (zw rfl rfl) rfl <| hq_v (ov_move rfl) rfl <| ?_
      refine hq_v (ov_idxS rfl hA rfl i rfl hlt) rfl ?_
      refine hq_v (ov_fieldA rfl) rfl <| ?_
      refine hq_v (ov_load rfl (CellIs.row (A := q.2.1.1) hA (i := i * 3 + 0) hcell)) rfl ?_
      refine hq_v (ov_fieldA rfl) rfl <| hq_v (zw rfl rfl) rfl <| hq_v (ov_neq rfl rfl) rfl <| hq_nil <| zt <| ?_
      refine hc_cond rfl (fun p3 => ?_) (fun p3 => ?_)
      ·have he : eqK ltV x y = false := by
        cases h : eqK ltV x y with
        | false => rfl
        | true => exact absurd (eqV_iff.1 h) p3
       have hst2 : outI ltV x false c.2.2.2.2.1 (i + 1) = O1 ++ [y] := by rw [hst1, if_pos he]
       refine hc_region <| zm rfl <| zm rfl <| zv (ov_nil rfl) <| zf rfl <| zl rfl rfl <| ?_
       refine zm rfl <| hl_v (ov_idxS rfl hA rfl i rfl hlt) rfl <| hl_v (ov_loadG (cs := vlanV y) rfl rfl Z13) rfl ?_
       refine hl_new (on_buildSlice (res := vlanV y) rfl rfl Z61) rfl rfl rfl (fun b166 => ?_)
       refine hl_new (on_appendR (A := q1.1) (news := vlanV y) rfl rfl (SrcIs.blk (b := b166)) rfl (vlanV_one y) Z63 hO1l) rfl rfl rfl (fun q3 => ?_)
       obtain ⟨O2, hO2⟩ : ∃ l, l = O1 ++ [y] := ⟨_, rfl⟩
       rw [show O1.flatMap vlanV ++ vlanV y = O2.flatMap vlanV by rw [hO2, List.flatMap_append, List.flatMap_singleton], show O1.length + 1 = O2.length by rw [hO2, List.length_append, List.length_singleton]]
       rw [← hO2] at hst2
       refine zs rfl <| hl_nil <| zb <| zt <| hc_region <| zm rfl <| zv (ov_add rfl rfl Z28) <| ?_
       refine zs rfl <| hl_nil <| hx_next hK1 ((i + 1, O2, true, q3)) (⟨hlt, hst2.symm, hput1⟩) (hme) Z16 Z10
      have he : eqK ltV x y = true := eqV_iff.2 (Classical.not_not.1 p3)
      have hst2 : outI ltV x false c.2.2.2.2.1 (i + 1) = O1 := by rw [hst1, if_neg Z54, List.append_nil]
      refine hc_skip <| zb <| zt <| hc_region <| zm rfl <| zv (ov_add rfl rfl Z28) <| ?_
      refine zs rfl <| hl_nil <| hx_next hK1 ((i + 1, O1, true, q1)) (⟨hlt, hst2.symm, hput1⟩) (hme) Z16 Z10
     have hyx : ltV y x = true := decide_eq_true Z64
     have hput1 : pu = putI ltV x false c.2.2.2.2.1 (i + 1) := by rw [hps, hyx]; simp
     obtain ⟨O1, hO1⟩ : ∃ l, l = O := ⟨_, rfl⟩
     obtain ⟨q1, hq1⟩ : ∃ l, l = q2 := ⟨_, rfl⟩
     have hst1 : outI ltV x false c.2.2.2.2.1 (i + 1) = O1 ++ (if eqK ltV x y = false then [y] else []) := by rw [hst, if_neg (by rintro ⟨_, h⟩; rw [hyx] at h; cases h), hO1, List.append_nil]
     have hO1l : (O1.length + 1) * 16 ≤ 140737488355328 := by rw [hO1]; exact hoz
     rw [← hO1, ← hq1]
     refine zk <| hc_seq <| hc_quiet mixed Z61 <| hq_v (ov_move rfl) rfl <| hq_v (ov_nil rfl) rfl <| ?_
     refine hq_v (ov_fieldA rfl) rfl <| hq_v (zw rfl rfl) rfl <| hq_v (ov_move rfl) rfl <| ?_
     refine hq_v (ov_idxS rfl hA rfl i rfl hlt) rfl ?_
     refine hq_v (ov_fieldA rfl) rfl <| ?_
     refine hq_v (ov_load rfl (CellIs.row (A := q.2.1.1) hA (i := i * 3 + 0) hcell)) rfl ?_
     refine hq_v (ov_fieldA rfl) rfl <| hq_v (zw rfl rfl) rfl <| hq_v (ov_neq rfl rfl) rfl <| hq_nil <| zt <| ?_
     refine hc_cond rfl (fun p3 => ?_) (fun p3 => ?_)
     ·have he : eqK ltV x y = false := by
       cases h : eqK ltV x y with
       | false => rfl
       | true => exact absurd (eqV_iff.1 h) p3
      have hst2 : outI ltV x false c.2.2.2.2.1 (i + 1) = O1 ++ [y] := by rw [hst1, if_pos he]
      refine hc_region <| zm rfl <| zm rfl <| zv (ov_nil rfl) <| zf rfl <| zl rfl rfl <| ?_
      refine zm rfl <| hl_v (ov_idxS rfl hA rfl i rfl hlt) rfl <| hl_v (ov_loadG (cs := vlanV y) rfl rfl Z13) rfl ?_
      refine hl_new (on_buildSlice (res := vlanV y) rfl rfl Z61) rfl rfl rfl (fun b166 => ?_)
      refine hl_new (on_appendR (A := q1.1) (news := vlanV y) rfl rfl (SrcIs.blk (b := b166)) rfl (vlanV_one y) Z63 hO1l) rfl rfl rfl (fun q3 => ?_)
      obtain ⟨O2, hO2⟩ : ∃ l, l = O1 ++ [y] := ⟨_, rfl⟩
      rw [show O1.flatMap vlanV ++ vlanV y = O2.flatMap vlanV by rw [hO2, List.flatMap_append, List.flatMap_singleton], show O1.length + 1 = O2.length by rw [hO2, List.length_append, List.length_singleton]]
      rw [← hO2] at hst2
      refine zs rfl <| hl_nil <| zb <| zt <| hc_region <| zm rfl <| zv (ov_add rfl rfl Z28) <| ?_
      refine zs rfl <| hl_nil <| hx_next hK1 ((i + 1, O2, pu, q3)) (⟨hlt, hst2.symm, hput1⟩) (hme) Z16 Z10
     have he : eqK ltV x y = true := eqV_iff.2 (Classical.not_not.1 p3)
     have hst2 : outI ltV x false c.2.2.2.2.1 (i + 1) = O1 := by rw [hst1, if_neg Z54, List.append_nil]
     refine hc_skip <| zb <| zt <| hc_region <| zm rfl <| zv (ov_add rfl rfl Z28) <| ?_
     refine zs rfl <| hl_nil <| hx_next hK1 ((i + 1, O1, pu, q1)) (⟨hlt, hst2.symm, hput1⟩) (hme) Z16 Z10
    have hpf : pu = true := by simpa using g1
    have hput1 : pu = putI ltV x false c.2.2.2.2.1 (i + 1) := by rw [hps, hpf]; rfl
    obtain ⟨O1, hO1⟩ : ∃ l, l = O := ⟨_, rfl⟩
    obtain ⟨q1, hq1⟩ : ∃ l, l = q2 := ⟨_, rfl⟩
    have hst1 : outI ltV x false c.2.2.2.2.1 (i + 1) = O1 ++ (if eqK ltV x y = false then [y] else []) := by rw [hst, if_neg (by rintro ⟨h, _⟩; rw [hpf] at h; cases h), hO1, List.append_nil]
    have hO1l : (O1.length + 1) * 16 ≤ 140737488355328 := by rw [hO1]; exact hoz
    rw [← hO1, ← hq1]
    refine hq_off rfl rfl rfl rfl rfl rfl <| hq_off rfl rfl rfl rfl rfl rfl <| hq_off rfl rfl rfl rfl rfl rfl <| hq_off rfl rfl rfl rfl rfl rfl <| hq_off rfl rfl rfl rfl rfl rfl <| hq_off rfl rfl rfl rfl rfl rfl <| ?_
    refine hq_off rfl rfl rfl rfl rfl rfl <| hq_off rfl rfl rfl rfl rfl rfl <| hq_off rfl rfl rfl rfl rfl rfl <| hq_off rfl rfl rfl rfl rfl rfl <| hq_off rfl rfl rfl rfl rfl rfl <| hq_v (ov_pickF rfl rfl) rfl <| ?_
    refine hq_nil <| zt <| hc_cond_false rfl <| zk <| hc_seq <| ?_
    refine hc_quiet mixed Z61 <| hq_v (ov_move rfl) rfl <| hq_v (ov_nil rfl) rfl <| hq_v (ov_fieldA rfl) rfl <| hq_v (zw rfl rfl) rfl <| hq_v (ov_move rfl) rfl <| ?_
    refine hq_v (ov_idxS rfl hA rfl i rfl hlt) rfl ?_
    refine hq_v (ov_fieldA rfl) rfl <| ?_
    refine hq_v (ov_load rfl (CellIs.row (A := q.2.1.1) hA (i := i * 3 + 0) hcell)) rfl ?_
    refine hq_v (ov_fieldA rfl) rfl <| hq_v (zw rfl rfl) rfl <| hq_v (ov_neq rfl rfl) rfl <| hq_nil <| zt <| ?_
    refine hc_cond rfl (fun p3 => ?_) (fun p3 => ?_)
    ·have he : eqK ltV x y = false := by
      cases h : eqK ltV x y with
      | false => rfl
      | true => exact absurd (eqV_iff.1 h) p3
     have hst2 : outI ltV x false c.2.2.2.2.1 (i + 1) = O1 ++ [y] := by rw [hst1, if_pos he]
     refine hc_region <| zm rfl <| zm rfl <| zv (ov_nil rfl) <| zf rfl <| zl rfl rfl <| ?_
     refine zm rfl <| hl_v (ov_idxS rfl hA rfl i rfl hlt) rfl <| hl_v (ov_loadG (cs := vlanV y) rfl rfl Z13) rfl ?_
     refine hl_new (on_buildSlice (res := vlanV y) rfl rfl Z61) rfl rfl rfl (fun b166 => ?_)
     refine hl_new (on_appendR (A := q1.1) (news := vlanV y) rfl rfl (SrcIs.blk (b := b166)) rfl (vlanV_one y) Z63 hO1l) rfl rfl rfl (fun q3 => ?_)
     obtain ⟨O2, hO2⟩ : ∃ l, l = O1 ++ [y] := ⟨_, rfl⟩
     rw [show O1.flatMap vlanV ++ vlanV y = O2.flatMap vlanV by rw [hO2, List.flatMap_append, List.flatMap_singleton], show O1.length + 1 = O2.length by rw [hO2, List.length_append, List.length_singleton]]
     rw [← hO2] at hst2
     refine zs rfl <| hl_nil <| zb <| zt <| hc_region <| zm rfl <| zv (ov_add rfl rfl Z28) <| ?_
     refine zs rfl <| hl_nil <| hx_next hK1 ((i + 1, O2, pu, q3)) (⟨hlt, hst2.symm, hput1⟩) (hme) Z16 Z10
    have he : eqK ltV x y = true := eqV_iff.2 (Classical.not_not.1 p3)
    have hst2 : outI ltV x false c.2.2.2.2.1 (i + 1) = O1 := by rw [hst1, if_neg Z54, List.append_nil]
    refine hc_skip <| zb <| zt <| hc_region <| zm rfl <| zv (ov_add rfl rfl Z28) <| ?_
    refine zs rfl <| hl_nil <| hx_next hK1 ((i + 1, O1, pu, q1)) (⟨hlt, hst2.symm, hput1⟩) (hme) Z16 Z10
   have hie : i = c.2.2.2.2.1.length := by omega
   subst hie
   have hol := holen c.2.2.2.2.1.length
   rw [← hO] at hol
   have hoz : (O.length + 1) * 16 ≤ 140737488355328 := capV Z64
   have hend := outI_end ordV (x := x) (l := c.2.2.2.2.1)
   rw [← hO, ← hpu] at hend
   refine hc_exit <| ze <| ze <| hx_block_out <| zt <| hc_seq <| zg <| zm rfl <| zv Z26 <| ?_
   refine zn <| hc_cond_bool rfl (fun v1 => ?_) (fun v1 => ?_)
   ·have hpf : pu = false := by simpa using v1
    obtain ⟨OF, hOF⟩ : ∃ l, l = O ++ [x] := ⟨_, rfl⟩
    have hof : setL ltV x c.2.2.2.2.1 = OF := by rw [← hend, if_pos hpf, hOF]
    refine hc_region <| zm rfl <| zv Z17 <| ?_
    refine hl_new (on_buildSlice (res := vlanV x) rfl rfl Z61) rfl rfl rfl (fun b172 => ?_)
    refine hl_new (on_appendR (A := q2.1) (news := vlanV x) rfl rfl (SrcIs.blk (b := b172)) rfl (vlanV_one x) Z63 hoz) rfl rfl rfl (fun qF => ?_)
    rw [show O.flatMap vlanV ++ vlanV x = OF.flatMap vlanV by rw [hOF, List.flatMap_append, List.flatMap_singleton], show O.length + 1 = OF.length by rw [hOF, List.length_append, List.length_singleton]]
    refine zs rfl <| zn <| hc_region <| zm rfl <| zm rfl <| zv (ov_nil rfl) <| zf rfl <| ?_
    refine hl_u0 (on_storeE (cfgA (c.1, c.2.1, c.2.2.1, c.2.2.2.1, OF, c.2.2.2.2.2) (q.1, qF, q.2.2)) rfl rfl (by simp) rfl rfl) rfl rfl ?_
    refine hl_nil <| zb <| zt <| zg <| zs rfl <| zn <| zq <| ?_
    obtain ⟨q', hq'⟩ : ∃ x : Three, x = (q.1, qF, q.2.2) := ⟨_, rfl⟩
    exact zz rfl rfl fun w' H' => ⟨by rw [hres], H'.ent (Ent.trans (b := cfgQ g (oneC c e).1 q') (by rw [hres, hof, hq']; exact Z8) (cfgO_mk (l := []) q'))⟩
   have hpf : pu = true := by simpa using v1
   obtain ⟨OF, hOF⟩ : ∃ l, l = O := ⟨_, rfl⟩
   obtain ⟨qF, hqF⟩ : ∃ l, l = q2 := ⟨_, rfl⟩
   have hof : setL ltV x c.2.2.2.2.1 = OF := by rw [← hend, if_neg (by rw [hpf]; decide), hOF, List.append_nil]
   rw [← hOF, ← hqF]
   refine zk <| hc_region <| zm rfl <| zm rfl <| zv (ov_nil rfl) <| zf rfl <| ?_
   refine hl_u0 (on_storeE (cfgA (c.1, c.2.1, c.2.2.1, c.2.2.2.1, OF, c.2.2.2.2.2) (q.1, qF, q.2.2)) rfl rfl (by simp) rfl rfl) rfl rfl ?_
   refine hl_nil <| zb <| zt <| zg <| zs rfl <| zn <| zq <| ?_
   obtain ⟨q', hq'⟩ : ∃ x : Three, x = (q.1, qF, q.2.2) := ⟨_, rfl⟩
   exact zz rfl rfl fun w' H' => ⟨by rw [hres], H'.ent (Ent.trans (b := cfgQ g (oneC c e).1 q') (by rw [hres, hof, hq']; exact Z8) (cfgO_mk (l := []) q'))⟩
  have k7 : ¬ e.1 = 7 := k7
  refine zg <| zv (ov_eql rfl rfl) <| zs rfl <| zn <| hc_cond rfl (fun k8 => ?_) (fun k8 => ?_)
  ·have k8 : e.1 = 8 := k8
   refine hc_seq <| HC.fact (fun w H => Own.factR q.2.1.1 H) ?_
   rintro ⟨hpl, hcapV, _, hA0⟩
   refine hc_any [blk b3 81 (editV e), blk g 49 (cfgA c q)] mixed 7 rfl ?_
   refine ha_v 0 rfl (ov_move rfl) rfl <| ha_v 1 rfl (ov_nil rfl) rfl <| ha_v 2 rfl Z17 rfl <| ?_
   refine ha_v 3 rfl (ov_fieldA rfl) rfl <| ha_v 4 rfl (zw rfl rfl) rfl <| ha_one 5 Z61 <| ho_kx (σ := VlanT c.2.2.2.2.1 e.2.2.2.1) rfl Tryz.call107 rfl (fun w1 => zu fun D' _ hin _ => RVlan_spec D' w1 c _ _ _ e.2.2.2.1 c.2.2.2.2.1 rfl Z64 (hin _ fun h hs ho => rep_row (A := q.2.1.1) hs c.2.2.2.2.1 rfl (repL_F.2 ⟨rfl, hm.v⟩))) ?_
   intro kv
   try rw [List.nil_append]
   obtain ⟨x, hx⟩ : ∃ x : VlanC, x = (e.2.2.2.1, 0, 0) := ⟨_, rfl⟩
   have hx1 : x.1 = e.2.2.2.1 := by rw [hx]
   have hone : oneC c e = if hasL ltV x c.2.2.2.2.1 = true then ((c.1, c.2.1, c.2.2.1, c.2.2.2.1, delL ltV x c.2.2.2.2.1, c.2.2.2.2.2), 0) else (c, 13) := by
    unfold oneC
    rw [if_neg Z64, if_neg Z64, if_neg Z64, if_neg h46, if_neg k7, if_neg Z64, if_pos k8, hx]
   obtain ⟨r, hr⟩ := kv
   dsimp only
   rcases hr with ⟨rfl, hno⟩ | ⟨k, hkV, rfl, hke⟩
   ·have hres : oneC c e = (c, 13) := by rw [hone, if_neg (no_has (fun i hi => by rw [hx1]; exact hno i hi))]
    refine ha_v 6 rfl (ov_assign rfl) rfl <| ha_done Z61 <| zt <| hc_seq <| zg <| zm rfl <| ?_
    refine zv (ov_lss rfl rfl) <| zn <| hc_cond_T rfl (Z63) ?_
    refine zg <| zs rfl <| zn <| zq <| zr <| hx_block_ret <| zr <| ?_
    exact zz rfl rfl fun w' H' => ⟨by rw [hres], H'.ent (Ent.trans (b := cfgQ g (oneC c e).1 q) Z6 (cfgO_mk (l := []) q))⟩
   obtain ⟨hhas, hdel⟩ := del_at (x := x) hm.av hkV (by rw [hx1]; exact hke)
   have hres : oneC c e = ((c.1, c.2.1, c.2.2.1, c.2.2.2.1, delL ltV x c.2.2.2.2.1, c.2.2.2.2.2), 0) := by rw [hone, if_pos hhas]
   have hkl : k + 1 ≤ c.2.2.2.2.1.length := hkV
   have hfl := flat_len (f := vlanV) (sz := 3) (fun _ => rfl) c.2.2.2.2.1
   have hnew1 : (c.2.2.2.2.1.take k).flatMap vlanV = ((c.2.2.2.2.1.flatMap vlanV).drop (0 * 3)).take (k * 3) := by rw [Nat.zero_mul, List.drop_zero, flat_take (f := vlanV) (sz := 3) (fun _ => rfl)]
   have hnew2 : (c.2.2.2.2.1.drop (k + 1)).flatMap vlanV = ((c.2.2.2.2.1.flatMap vlanV).drop ((k + 1) * 3)).take ((c.2.2.2.2.1.length - (k + 1)) * 3) := by
    rw [flat_drop (f := vlanV) (sz := 3) (fun _ => rfl), List.take_of_length_le (by rw [flat_len (f := vlanV) (sz := 3) (fun _ => rfl), List.length_drop]; exact Nat.le_refl _)]
   have hlen1 : ((c.2.2.2.2.1.take k).flatMap vlanV).length = k * 3 := by rw [flat_len (f := vlanV) (sz := 3) (fun _ => rfl), List.length_take, Nat.min_eq_left Z64]
   have hlen2 : ((c.2.2.2.2.1.drop (k + 1)).flatMap vlanV).length = (c.2.2.2.2.1.length - (k + 1)) * 3 := by rw [flat_len (f := vlanV) (sz := 3) (fun _ => rfl), List.length_drop]
   have hcat : (c.2.2.2.2.1.take k).flatMap vlanV ++ (c.2.2.2.2.1.drop (k + 1)).flatMap vlanV = (delL ltV x c.2.2.2.2.1).flatMap vlanV := by rw [hdel, List.flatMap_append]
   have hlen3 : k + (c.2.2.2.2.1.length - (k + 1)) = (delL ltV x c.2.2.2.2.1).length := by rw [hdel, List.length_append, List.length_take, List.length_drop, Nat.min_eq_left Z64]
   have hA : isA q.2.1.1 := hA0 Z11
   refine ha_v 6 rfl (ov_assign rfl) rfl <| ha_done Z61 <| zt <| hc_seq <| zg <| zm rfl <| ?_
   refine zv (ov_lss rfl rfl) <| zn <| hc_cond_F rfl (Z64) ?_
   refine zk <| hc_any [] mixed 20 rfl ?_
   refine ha_v 0 rfl (ov_move rfl) rfl <| ha_v 2 rfl (ov_move rfl) rfl <| ha_v 3 rfl (ov_nil rfl) rfl <| ha_v 4 rfl (ov_fieldA rfl) rfl <| ha_v 6 rfl (ov_move rfl) rfl <| ha_v 9 rfl (ov_move rfl) rfl <| ha_v 10 rfl (ov_nil rfl) rfl <| ha_v 11 rfl (ov_fieldA rfl) rfl <| ha_v 13 rfl (ov_move rfl) rfl <| ha_v 14 rfl (ov_add (m := ((k + 1 : Nat) : Int)) rfl rfl Z36) rfl ?_
   refine ha_three 1 5 12 Z61 ?_ ?_ ?_
   ·skip
    refine ho_n rfl (on_buildSliceN rfl rfl rfl) rfl fun b189 =>  ?_
    refine ha_two 5 12 Z61 ?_ ?_
    ·skip
     refine ho_v rfl (zw rfl rfl) rfl <| ha_v 7 rfl (ov_slTo rfl k rfl Z64) rfl ?_
     refine ha_two 8 12 Z61 ?_ ?_
     ·skip
      refine ho_ent (Ent.blk_row (b := b189) 3 0 rfl Z63) ?_
      refine ho_n rfl (on_appendR (A := some ⟨b189, 0, none⟩) (news := (c.2.2.2.2.1.take k).flatMap vlanV) rfl rfl (SrcIs.rowPre (A := q.2.1.1) (t := 147) (sz := 3) (n := c.2.2.2.2.1.length) (cap := q.2.1.2) (cs := c.2.2.2.2.1.flatMap vlanV) hA k Z64 hfl hcapV hnew1) hlen1 (flat_one vlanV_one _) Z63 (capV Z64)) rfl (fun qA => ?_)
      rw [List.nil_append, Nat.zero_add]
      refine ha_one 12 Z61 <| ho_v rfl (zw rfl rfl) rfl <| ha_v 15 rfl (ov_slice rfl (k + 1) c.2.2.2.2.1.length (.inr ⟨_, _, rfl, rfl⟩) (.inl ⟨rfl, rfl⟩) hkl Z64) rfl ?_
      refine ha_one 16 Z61 <| ho_n rfl (on_appendR (A := qA.1) (news := (c.2.2.2.2.1.drop (k + 1)).flatMap vlanV) rfl rfl (SrcIs.rowCut (A := q.2.1.1) (t := 147) (sz := 3) (n := c.2.2.2.2.1.length) (cap := q.2.1.2) (cs := c.2.2.2.2.1.flatMap vlanV) hA (k + 1) (c.2.2.2.2.1.length - (k + 1)) Z64 hfl hcapV hnew2) hlen2 (flat_one vlanV_one _) Z63 (capV Z64)) rfl (fun qB => ?_)
      rw [hcat, hlen3]
      refine ha_v 17 rfl (ov_nil rfl) rfl <| ha_v 18 rfl (ov_fieldA rfl) rfl <| ha_one 19 Z61 <| ho_w0 rfl (on_storeE (cfgA (c.1, c.2.1, c.2.2.1, c.2.2.2.1, delL ltV x c.2.2.2.2.1, c.2.2.2.2.2) (q.1, qB, q.2.2)) rfl rfl (by simp) rfl rfl) rfl ?_
      refine ha_done Z61 <| zb <| zt <| zg <| zs rfl <| ?_
      refine zn <| zq <| ?_
      obtain ⟨q', hq'⟩ : ∃ x : Three, x = (q.1, qB, q.2.2) := ⟨_, rfl⟩
      exact zz rfl rfl fun w' H' => ⟨by rw [hres], H'.ent (Ent.trans (b := cfgQ g (oneC c e).1 q') Z5 (cfgO_mk (l := []) q'))⟩
     skip
     refine ho_v rfl (zw rfl rfl) rfl <| ha_v 15 rfl (ov_slice rfl (k + 1) c.2.2.2.2.1.length (.inr ⟨_, _, rfl, rfl⟩) (.inl ⟨rfl, rfl⟩) hkl Z64) rfl ?_
     refine ha_one 8 Z61 <| ho_ent (Ent.blk_row (b := b189) 3 0 rfl Z63) ?_
     refine ho_n rfl (on_appendR (A := some ⟨b189, 0, none⟩) (news := (c.2.2.2.2.1.take k).flatMap vlanV) rfl rfl (SrcIs.rowPre (A := q.2.1.1) (t := 147) (sz := 3) (n := c.2.2.2.2.1.length) (cap := q.2.1.2) (cs := c.2.2.2.2.1.flatMap vlanV) hA k Z64 hfl hcapV hnew1) hlen1 (flat_one vlanV_one _) Z63 (capV Z64)) rfl (fun qA => ?_)
     rw [List.nil_append, Nat.zero_add]
     refine ha_one 16 Z61 <| ho_n rfl (on_appendR (A := qA.1) (news := (c.2.2.2.2.1.drop (k + 1)).flatMap vlanV) rfl rfl (SrcIs.rowCut (A := q.2.1.1) (t := 147) (sz := 3) (n := c.2.2.2.2.1.length) (cap := q.2.1.2) (cs := c.2.2.2.2.1.flatMap vlanV) hA (k + 1) (c.2.2.2.2.1.length - (k + 1)) Z64 hfl hcapV hnew2) hlen2 (flat_one vlanV_one _) Z63 (capV Z64)) rfl (fun qB => ?_)
     rw [hcat, hlen3]
     refine ha_v 17 rfl (ov_nil rfl) rfl <| ha_v 18 rfl (ov_fieldA rfl) rfl <| ha_one 19 Z61 <| ho_w0 rfl (on_storeE (cfgA (c.1, c.2.1, c.2.2.1, c.2.2.2.1, delL ltV x c.2.2.2.2.1, c.2.2.2.2.2) (q.1, qB, q.2.2)) rfl rfl (by simp) rfl rfl) rfl ?_
     refine ha_done Z61 <| zb <| zt <| zg <| zs rfl <| ?_
     refine zn <| zq <| ?_
     obtain ⟨q', hq'⟩ : ∃ x : Three, x = (q.1, qB, q.2.2) := ⟨_, rfl⟩
     exact zz rfl rfl fun w' H' => ⟨by rw [hres], H'.ent (Ent.trans (b := cfgQ g (oneC c e).1 q') Z5 (cfgO_mk (l := []) q'))⟩
    skip
    refine ho_v rfl (zw rfl rfl) rfl <| ha_v 15 rfl (ov_slice rfl (k + 1) c.2.2.2.2.1.length (.inr ⟨_, _, rfl, rfl⟩) (.inl ⟨rfl, rfl⟩) hkl Z64) rfl ?_
    refine ha_one 5 Z61 <| ho_v rfl (zw rfl rfl) rfl <| ha_v 7 rfl (ov_slTo rfl k rfl Z64) rfl ?_
    refine ha_one 8 Z61 <| ho_ent (Ent.blk_row (b := b189) 3 0 rfl Z63) ?_
    refine ho_n rfl (on_appendR (A := some ⟨b189, 0, none⟩) (news := (c.2.2.2.2.1.take k).flatMap vlanV) rfl rfl (SrcIs.rowPre (A := q.2.1.1) (t := 147) (sz := 3) (n := c.2.2.2.2.1.length) (cap := q.2.1.2) (cs := c.2.2.2.2.1.flatMap vlanV) hA k Z64 hfl hcapV hnew1) hlen1 (flat_one vlanV_one _) Z63 (capV Z64)) rfl (fun qA => ?_)
    rw [List.nil_append, Nat.zero_add]
    refine ha_one 16 Z61 <| ho_n rfl (on_appendR (A := qA.1) (news := (c.2.2.2.2.1.drop (k + 1)).flatMap vlanV) rfl rfl (SrcIs.rowCut (A := q.2.1.1) (t := 147) (sz := 3) (n := c.2.2.2.2.1.length) (cap := q.2.1.2) (cs := c.2.2.2.2.1.flatMap vlanV) hA (k + 1) (c.2.2.2.2.1.length - (k + 1)) Z64 hfl hcapV hnew2) hlen2 (flat_one vlanV_one _) Z63 (capV Z64)) rfl (fun qB => ?_)
    rw [hcat, hlen3]
    refine ha_v 17 rfl (ov_nil rfl) rfl <| ha_v 18 rfl (ov_fieldA rfl) rfl <| ha_one 19 Z61 <| ho_w0 rfl (on_storeE (cfgA (c.1, c.2.1, c.2.2.1, c.2.2.2.1, delL ltV x c.2.2.2.2.1, c.2.2.2.2.2) (q.1, qB, q.2.2)) rfl rfl (by simp) rfl rfl) rfl ?_
    refine ha_done Z61 <| zb <| zt <| zg <| zs rfl <| ?_
    refine zn <| zq <| ?_
    obtain ⟨q', hq'⟩ : ∃ x : Three, x = (q.1, qB, q.2.2) := ⟨_, rfl⟩
    exact zz rfl rfl fun w' H' => ⟨by rw [hres], H'.ent (Ent.trans (b := cfgQ g (oneC c e).1 q') Z5 (cfgO_mk (l := []) q'))⟩
   ·skip
    refine ho_v rfl (zw rfl rfl) rfl <| ha_v 7 rfl (ov_slTo rfl k rfl Z64) rfl ?_
    refine ha_two 1 12 Z61 ?_ ?_
    ·skip
     refine ho_n rfl (on_buildSliceN rfl rfl rfl) rfl fun b189 =>  ?_
     refine ha_two 8 12 Z61 ?_ ?_
     ·skip
      refine ho_ent (Ent.blk_row (b := b189) 3 0 rfl Z63) ?_
      refine ho_n rfl (on_appendR (A := some ⟨b189, 0, none⟩) (news := (c.2.2.2.2.1.take k).flatMap vlanV) rfl rfl (SrcIs.rowPre (A := q.2.1.1) (t := 147) (sz := 3) (n := c.2.2.2.2.1.length) (cap := q.2.1.2) (cs := c.2.2.2.2.1.flatMap vlanV) hA k Z64 hfl hcapV hnew1) hlen1 (flat_one vlanV_one _) Z63 (capV Z64)) rfl (fun qA => ?_)
      rw [List.nil_append, Nat.zero_add]
      refine ha_one 12 Z61 <| ho_v rfl (zw rfl rfl) rfl <| ha_v 15 rfl (ov_slice rfl (k + 1) c.2.2.2.2.1.length (.inr ⟨_, _, rfl, rfl⟩) (.inl ⟨rfl, rfl⟩) hkl Z64) rfl ?_
      refine ha_one 16 Z61 <| ho_n rfl (on_appendR (A := qA.1) (news := (c.2.2.2.2.1.drop (k + 1)).flatMap vlanV) rfl rfl (SrcIs.rowCut (A := q.2.1.1) (t := 147) (sz := 3) (n := c.2.2.2.2.1.length) (cap := q.2.1.2) (cs := c.2.2.2.2.1.flatMap vlanV) hA (k + 1) (c.2.2.2.2.1.length - (k + 1)) Z64 hfl hcapV hnew2) hlen2 (flat_one vlanV_one _) Z63 (capV Z64)) rfl (fun qB => ?_)
      rw [hcat, hlen3]
      refine ha_v 17 rfl (ov_nil rfl) rfl <| ha_v 18 rfl (ov_fieldA rfl) rfl <| ha_one 19 Z61 <| ho_w0 rfl (on_storeE (cfgA (c.1, c.2.1, c.2.2.1, c.2.2.2.1, delL ltV x c.2.2.2.2.1, c.2.2.2.2.2) (q.1, qB, q.2.2)) rfl rfl (by simp) rfl rfl) rfl ?_
      refine ha_done Z61 <| zb <| zt <| zg <| zs rfl <| ?_
      refine zn <| zq <| ?_
      obtain ⟨q', hq'⟩ : ∃ x : Three, x = (q.1, qB, q.2.2) := ⟨_, rfl⟩
      exact zz rfl rfl fun w' H' => ⟨by rw [hres], H'.ent (Ent.trans (b := cfgQ g (oneC c e).1 q') Z5 (cfgO_mk (l := []) q'))⟩
     skip
     refine ho_v rfl (zw rfl rfl) rfl <| ha_v 15 rfl (ov_slice rfl (k + 1) c.2.2.2.2.1.length (.inr ⟨_, _, rfl, rfl⟩) (.inl ⟨rfl, rfl⟩) hkl Z64) rfl ?_
     refine ha_one 8 Z61 <| ho_ent (Ent.blk_row (b := b189) 3 0 rfl Z63) ?_
     refine ho_n rfl (on_appendR (A := some ⟨b189, 0, none⟩) (news := (c.2.2.2.2.1.take k).flatMap vlanV) rfl rfl (SrcIs.rowPre (A := q.2.1.1) (t := 147) (sz := 3) (n := c.2.2.2.2.1.length) (cap := q.2.1.2) (cs := c.2.2.2.2.1.flatMap vlanV) hA k Z64 hfl hcapV hnew1) hlen1 (flat_one vlanV_one _) Z63 (capV Z64)) rfl (fun qA => ?_)
     rw [List.nil_append, Nat.zero_add]
     refine ha_one 16 Z61 <| ho_n rfl (on_appendR (A := qA.1) (news := (c.2.2.2.2.1.drop (k + 1)).flatMap vlanV) rfl rfl (SrcIs.rowCut (A := q.2.1.1) (t := 147) (sz := 3) (n := c.2.2.2.2.1.length) (cap := q.2.1.2) (cs := c.2.2.2.2.1.flatMap vlanV) hA (k + 1) (c.2.2.2.2.1.length - (k + 1)) Z64 hfl hcapV hnew2) hlen2 (flat_one vlanV_one _) Z63 (capV Z64)) rfl (fun qB => ?_)
     rw [hcat, hlen3]
     refine ha_v 17 rfl (ov_nil rfl) rfl <| ha_v 18 rfl (ov_fieldA rfl) rfl <| ha_one 19 Z61 <| ho_w0 rfl (on_storeE (cfgA (c.1, c.2.1, c.2.2.1, c.2.2.2.1, delL ltV x c.2.2.2.2.1, c.2.2.2.2.2) (q.1, qB, q.2.2)) rfl rfl (by simp) rfl rfl) rfl ?_
     refine ha_done Z61 <| zb <| zt <| zg <| zs rfl <| ?_
     refine zn <| zq <| ?_
     obtain ⟨q', hq'⟩ : ∃ x : Three, x = (q.1, qB, q.2.2) := ⟨_, rfl⟩
     exact zz rfl rfl fun w' H' => ⟨by rw [hres], H'.ent (Ent.trans (b := cfgQ g (oneC c e).1 q') Z5 (cfgO_mk (l := []) q'))⟩
    skip
    refine ho_v rfl (zw rfl rfl) rfl <| ha_v 15 rfl (ov_slice rfl (k + 1) c.2.2.2.2.1.length (.inr ⟨_, _, rfl, rfl⟩) (.inl ⟨rfl, rfl⟩) hkl Z64) rfl ?_
    refine ha_one 1 Z61 <| ho_n rfl (on_buildSliceN rfl rfl rfl) rfl fun b189 =>  ?_
    refine ha_one 8 Z61 <| ho_ent (Ent.blk_row (b := b189) 3 0 rfl Z63) ?_
    refine ho_n rfl (on_appendR (A := some ⟨b189, 0, none⟩) (news := (c.2.2.2.2.1.take k).flatMap vlanV) rfl rfl (SrcIs.rowPre (A := q.2.1.1) (t := 147) (sz := 3) (n := c.2.2.2.2.1.length) (cap := q.2.1.2) (cs := c.2.2.2.2.1.flatMap vlanV) hA k Z64 hfl hcapV hnew1) hlen1 (flat_one vlanV_one _) Z63 (capV Z64)) rfl (fun qA => ?_)
    rw [List.nil_append, Nat.zero_add]
    refine ha_one 16 Z61 <| ho_n rfl (on_appendR (A := qA.1) (news := (c.2.2.2.2.1.drop (k + 1)).flatMap vlanV) rfl rfl (SrcIs.rowCut (A := q.2.1.1) (t := 147) (sz := 3) (n := c.2.2.2.2.1.length) (cap := q.2.1.2) (cs := c.2.2.2.2.1.flatMap vlanV) hA (k + 1) (c.2.2.2.2.1.length - (k + 1)) Z64 hfl hcapV hnew2) hlen2 (flat_one vlanV_one _) Z63 (capV Z64)) rfl (fun qB => ?_)
    rw [hcat, hlen3]
    refine ha_v 17 rfl (ov_nil rfl) rfl <| ha_v 18 rfl (ov_fieldA rfl) rfl <| ha_one 19 Z61 <| ho_w0 rfl (on_storeE (cfgA (c.1, c.2.1, c.2.2.1, c.2.2.2.1, delL ltV x c.2.2.2.2.1, c.2.2.2.2.2) (q.1, qB, q.2.2)) rfl rfl (by simp) rfl rfl) rfl ?_
    refine ha_done Z61 <| zb <| zt <| zg <| zs rfl <| ?_
    refine zn <| zq <| ?_
    obtain ⟨q', hq'⟩ : ∃ x : Three, x = (q.1, qB, q.2.2) := ⟨_, rfl⟩
    exact zz rfl rfl fun w' H' => ⟨by rw [hres], H'.ent (Ent.trans (b := cfgQ g (oneC c e).1 q') Z5 (cfgO_mk (l := []) q'))⟩
   skip
   refine ho_v rfl (zw rfl rfl) rfl <| ha_v 15 rfl (ov_slice rfl (k + 1) c.2.2.2.2.1.length (.inr ⟨_, _, rfl, rfl⟩) (.inl ⟨rfl, rfl⟩) hkl Z64) rfl ?_
   refine ha_two 1 5 Z61 ?_ ?_
   ·skip
    refine ho_n rfl (on_buildSliceN rfl rfl rfl) rfl fun b189 =>  ?_
    refine ha_one 5 Z61 <| ho_v rfl (zw rfl rfl) rfl <| ha_v 7 rfl (ov_slTo rfl k rfl Z64) rfl ?_
    refine ha_one 8 Z61 <| ho_ent (Ent.blk_row (b := b189) 3 0 rfl Z63) ?_
    refine ho_n rfl (on_appendR (A := some ⟨b189, 0, none⟩) (news := (c.2.2.2.2.1.take k).flatMap vlanV) rfl rfl (SrcIs.rowPre (A := q.2.1.1) (t := 147) (sz := 3) (n := c.2.2.2.2.1.length) (cap := q.2.1.2) (cs := c.2.2.2.2.1.flatMap vlanV) hA k Z64 hfl hcapV hnew1) hlen1 (flat_one vlanV_one _) Z63 (capV Z64)) rfl (fun qA => ?_)
    rw [List.nil_append, Nat.zero_add]
    refine ha_one 16 Z61 <| ho_n rfl (on_appendR (A := qA.1) (news := (c.2.2.2.2.1.drop (k + 1)).flatMap vlanV) rfl rfl (SrcIs.rowCut (A := q.2.1.1) (t := 147) (sz := 3) (n := c.2.2.2.2.1.length) (cap := q.2.1.2) (cs := c.2.2.2.2.1.flatMap vlanV) hA (k + 1) (c.2.2.2.2.1.length - (k + 1)) Z64 hfl hcapV hnew2) hlen2 (flat_one vlanV_one _) Z63 (capV Z64)) rfl (fun qB => ?_)
    rw [hcat, hlen3]
    refine ha_v 17 rfl (ov_nil rfl) rfl <| ha_v 18 rfl (ov_fieldA rfl) rfl <| ha_one 19 Z61 <| ho_w0 rfl (on_storeE (cfgA (c.1, c.2.1, c.2.2.1, c.2.2.2.1, delL ltV x c.2.2.2.2.1, c.2.2.2.2.2) (q.1, qB, q.2.2)) rfl rfl (by simp) rfl rfl) rfl ?_
    refine ha_done Z61 <| zb <| zt <| zg <| zs rfl <| ?_
    refine zn <| zq <| ?_
    obtain ⟨q', hq'⟩ : ∃ x : Three, x = (q.1, qB, q.2.2) := ⟨_, rfl⟩
    exact zz rfl rfl fun w' H' => ⟨by rw [hres], H'.ent (Ent.trans (b := cfgQ g (oneC c e).1 q') Z5 (cfgO_mk (l := []) q'))⟩
   skip
   refine ho_v rfl (zw rfl rfl) rfl <| ha_v 7 rfl (ov_slTo rfl k rfl Z64) rfl ?_
   refine ha_one 1 Z61 <| ho_n rfl (on_buildSliceN rfl rfl rfl) rfl fun b189 =>  ?_
   refine ha_one 8 Z61 <| ho_ent (Ent.blk_row (b := b189) 3 0 rfl Z63) ?_
   refine ho_n rfl (on_appendR (A := some ⟨b189, 0, none⟩) (news := (c.2.2.2.2.1.take k).flatMap vlanV) rfl rfl (SrcIs.rowPre (A := q.2.1.1) (t := 147) (sz := 3) (n := c.2.2.2.2.1.length) (cap := q.2.1.2) (cs := c.2.2.2.2.1.flatMap vlanV) hA k Z64 hfl hcapV hnew1) hlen1 (flat_one vlanV_one _) Z63 (capV Z64)) rfl (fun qA => ?_)
   rw [List.nil_append, Nat.zero_add]
   refine ha_one 16 Z61 <| ho_n rfl (on_appendR (A := qA.1) (news := (c.2.2.2.2.1.drop (k + 1)).flatMap vlanV) rfl rfl (SrcIs.rowCut (A := q.2.1.1) (t := 147) (sz := 3) (n := c.2.2.2.2.1.length) (cap := q.2.1.2) (cs := c.2.2.2.2.1.flatMap vlanV) hA (k + 1) (c.2.2.2.2.1.length - (k + 1)) Z64 hfl hcapV hnew2) hlen2 (flat_one vlanV_one _) Z63 (capV Z64)) rfl (fun qB => ?_)
   rw [hcat, hlen3]
   refine ha_v 17 rfl (ov_nil rfl) rfl <| ha_v 18 rfl (ov_fieldA rfl) rfl <| ha_one 19 Z61 <| ho_w0 rfl (on_storeE (cfgA (c.1, c.2.1, c.2.2.1, c.2.2.2.1, delL ltV x c.2.2.2.2.1, c.2.2.2.2.2) (q.1, qB, q.2.2)) rfl rfl (by simp) rfl rfl) rfl ?_
   refine ha_done Z61 <| zb <| zt <| zg <| zs rfl <| ?_
   refine zn <| zq <| ?_
   obtain ⟨q', hq'⟩ : ∃ x : Three, x = (q.1, qB, q.2.2) := ⟨_, rfl⟩
   exact zz rfl rfl fun w' H' => ⟨by rw [hres], H'.ent (Ent.trans (b := cfgQ g (oneC c e).1 q') Z5 (cfgO_mk (l := []) q'))⟩
  have k8 : ¬ e.1 = 8 := k8
  refine hc_seq <| zg <| zv (ov_eql rfl rfl) <| zs rfl <| hl_nil <| zt <| hc_cond rfl (fun k9 => ?_) (fun k9 => ?_)
  ·have k9 : e.1 = 9 := k9
   refine zk <| hc_cond_T rfl (k9) <| zg <| zm rfl <| zv Z17 <| ?_
   refine HL.ent (Ent.trans (b := cfgQ g c q ++ []) Z8 (cfgO_mk q)) ?_
   refine hl_c Tryz.call109 rfl rfl (fun w1 => zp (cfgO g c) fun D' _ _ H2 => rstatic_spec D' w1 g c e kk hkk hm (.inl k9) H2) ?_
   refine zs rfl <| zn <| zq <| hx_block_ret <| zr <| ?_
   exact zz rfl rfl fun w' H' => ⟨rfl, H'⟩
  have k9 : ¬ e.1 = 9 := k9
  refine hc_region <| zv (ov_eql rfl rfl) <| zs rfl <| zn <| hc_cond rfl (fun k10 => ?_) (fun k10 => ?_)
  ·have k10 : e.1 = 10 := k10
   refine zg <| zm rfl <| zv Z17 <| ?_
   refine HL.ent (Ent.trans (b := cfgQ g c q ++ []) Z8 (cfgO_mk q)) ?_
   refine hl_c Tryz.call109 rfl rfl (fun w1 => zp (cfgO g c) fun D' _ _ H2 => rstatic_spec D' w1 g c e kk hkk hm (.inr k10) H2) ?_
   refine zs rfl <| zn <| zq <| hx_block_ret <| zr <| ?_
   exact zz rfl rfl fun w' H' => ⟨rfl, H'⟩
  have k10 : ¬ e.1 = 10 := k10
  have hres : oneC c e = (c, 11) := by
   unfold oneC
   rw [if_neg Z64, if_neg Z64, if_neg Z64, if_neg Z64, if_neg Z64, if_neg Z64, if_neg Z64, if_neg Z64]
  refine zg <| zs rfl <| zn <| zq <| hx_block_ret <| zr <| ?_
  exact zz rfl rfl fun w' H' => ⟨by rw [hres], H'.ent (Ent.trans (b := cfgQ g (oneC c e).1 q) Z6 (cfgO_mk (l := []) q))⟩
 have p0 : e.1 < 4 := by omega
 have h46 : ¬ (4 ≤ e.1 ∧ e.1 ≤ 6) := by omega
 refine hq_off rfl rfl rfl rfl rfl rfl <| hq_off rfl rfl rfl rfl rfl rfl <| hq_off rfl rfl rfl rfl rfl rfl <| hq_v (ov_pickF rfl rfl) rfl <| hq_v (ov_move rfl) rfl <| hq_off rfl rfl rfl rfl rfl rfl <| ?_
 refine hq_off rfl rfl rfl rfl rfl rfl <| hq_off rfl rfl rfl rfl rfl rfl <| hq_off rfl rfl rfl rfl rfl rfl <| hq_offU rfl rfl rfl rfl rfl <| hq_offU rfl rfl rfl rfl rfl <| hq_offU rfl rfl rfl rfl rfl <| ?_
 refine hq_offU rfl rfl rfl rfl rfl <| hq_offU rfl rfl rfl rfl rfl <| hq_offU rfl rfl rfl rfl rfl <| hq_offU rfl rfl rfl rfl rfl <| hq_offU rfl rfl rfl rfl rfl <| hq_off rfl rfl rfl rfl rfl rfl <| ?_
 refine hq_v (ov_pickF rfl rfl) rfl <| hq_nil <| zt <| hc_cond_false rfl <| zk <| ?_
 refine hc_seq <| zg <| zf rfl <| zl rfl rfl <| hl_nil <| ?_
 refine zt <| hc_block <| zg <| zv (ov_eql rfl rfl) <| zs rfl <| zn <| hc_cond rfl (fun k1 => ?_) (fun k1 => ?_)
 ·have hres : oneC c e = ((e.2.2.1, c.2), 0) := by unfold oneC; rw [if_pos k1]
  refine hc_region <| zm rfl <| zf rfl <| zl rfl rfl <| zv (ov_nil rfl) <| zf rfl <| ?_
  refine hl_u0 (on_storeE (cfgA (e.2.2.1, c.2) q) rfl rfl (by simp) rfl rfl) rfl rfl ?_
  refine hl_nil <| zb <| zt <| zg <| zs rfl <| zn <| zq <| ?_
  exact zz rfl rfl fun w' H' => ⟨by rw [hres], H'.ent (Ent.trans (b := cfgQ g (oneC c e).1 q) Z6 (cfgO_mk (l := []) q))⟩
 have k1 : ¬ e.1 = 1 := k1
 refine zg <| zv (ov_eql rfl rfl) <| zs rfl <| zn <| hc_cond rfl (fun k2 => ?_) (fun k2 => ?_)
 ·have hres : oneC c e = ((c.1, e.2.2.1, c.2.2), 0) := by unfold oneC; rw [if_neg k1, if_pos k2]
  refine hc_region <| zm rfl <| zf rfl <| zl rfl rfl <| zv (ov_nil rfl) <| zf rfl <| ?_
  refine hl_u0 (on_storeE (cfgA (c.1, e.2.2.1, c.2.2) q) rfl rfl (by simp) rfl rfl) rfl rfl ?_
  refine hl_nil <| zb <| zt <| zg <| zs rfl <| zn <| zq <| ?_
  exact zz rfl rfl fun w' H' => ⟨by rw [hres], H'.ent (Ent.trans (b := cfgQ g (oneC c e).1 q) Z6 (cfgO_mk (l := []) q))⟩
 have k2 : ¬ e.1 = 2 := k2
 refine zg <| zv (ov_eql rfl rfl) <| zs rfl <| zn <| hc_cond rfl (fun k3 => ?_) (fun k3 => ?_)
 ·have hres : oneC c e = ((c.1, c.2.1, e.2.2.1, c.2.2.2), 0) := by unfold oneC; rw [if_neg k1, if_neg k2, if_pos k3]
  refine hc_region <| zm rfl <| zf rfl <| zl rfl rfl <| zv (ov_nil rfl) <| zf rfl <| ?_
  refine hl_u0 (on_storeE (cfgA (c.1, c.2.1, e.2.2.1, c.2.2.2) q) rfl rfl (by simp) rfl rfl) rfl rfl ?_
  refine hl_nil <| zb <| zt <| zg <| zs rfl <| zn <| zq <| ?_
  exact zz rfl rfl fun w' H' => ⟨by rw [hres], H'.ent (Ent.trans (b := cfgQ g (oneC c e).1 q) Z6 (cfgO_mk (l := []) q))⟩
 have k3 : ¬ e.1 = 3 := k3
 refine zg <| zv (ov_eql rfl rfl) <| zs rfl <| zn <| hc_cond_F rfl ((show ¬ e.1 = 4 by omega)) ?_
 refine zg <| zv (ov_eql rfl rfl) <| zs rfl <| zn <| hc_cond_F rfl ((show ¬ e.1 = 5 by omega)) ?_
 refine zg <| zv (ov_eql rfl rfl) <| zs rfl <| zn <| hc_cond_F rfl ((show ¬ e.1 = 6 by omega)) ?_
 refine zg <| zv (ov_eql rfl rfl) <| zs rfl <| zn <| hc_cond_F rfl ((show ¬ e.1 = 7 by omega)) ?_
 refine zg <| zv (ov_eql rfl rfl) <| zs rfl <| zn <| hc_cond_F rfl ((show ¬ e.1 = 8 by omega)) ?_
 refine hc_seq <| zg <| zv (ov_eql rfl rfl) <| zs rfl <| hl_nil <| zt <| hc_cond_F rfl ((show ¬ e.1 = 9 by omega)) ?_
 refine hc_region <| zv (ov_eql rfl rfl) <| zs rfl <| zn <| hc_cond_F rfl ((show ¬ e.1 = 10 by omega)) ?_
 have hres : oneC c e = (c, 11) := by
  unfold oneC
  rw [if_neg Z64, if_neg Z64, if_neg Z64, if_neg Z64, if_neg Z64, if_neg Z64, if_neg Z64, if_neg Z64]
 refine zg <| zs rfl <| zn <| zq <| hx_block_ret <| zr <| ?_
 exact zz rfl rfl fun w' H' => ⟨by rw [hres], H'.ent (Ent.trans (b := cfgQ g (oneC c e).1 q) Z6 (cfgO_mk (l := []) q))⟩
end Go.Proofs.YtjlolpmmpafjeaaGreat
