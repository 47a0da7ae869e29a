import Derived.Test.YtjlolpmmpafjeaaGreatV06
set_option linter.unusedVariables false
set_option linter.unusedSimpArgs false
namespace Go.Proofs.YtjlolpmmpafjeaaGreat
open Slk
variable (D : Nat → Prop) (w : World)
theorem atV {l : List VlanC} {id : Int} {k : Nat} (h : atP l id k) (x : VlanC) (hx : x.1 = id) : atL ltV l x k :=
 ⟨h.1, fun q hq hlt => decide_eq_true (by rw [hx]; exact h.2.1 q hq hlt), fun q hq hle => decide_eq_false (by have := h.2.2 q hq hle; rw [hx]; omega)⟩
theorem hasV {l : List VlanC} {id : Int} {k : Nat} (hs : Asc ltV l) (h : atP l id k) (x : VlanC) (hx : x.1 = id) : (∃ h : k < l.length, l[k].1 = id) ↔ hasL ltV x l = true := by
 rw [has_at ordV hs (atV h x hx)]
 constructor
 ·rintro ⟨hk, e⟩
  exact ⟨hk, decide_eq_false (by rw [hx, e]; omega)⟩
 rintro ⟨hk, e⟩
 have h1 := h.2.2 k hk (Nat.le_refl _)
 have h2 := of_decide_eq_false e
 rw [hx] at h2
 exact ⟨hk, by omega⟩
section
variable {α : Type} {lt : α → α → Bool}
theorem set_old_len (o : Ord lt) {l : List α} {x : α} {k : Nat} (hs : Asc lt l) (h : atL lt l x k) (hn : hasL lt x l = true) : (setL lt x l).length = l.length := by
 obtain ⟨hk, e⟩ := set_old o hs h hn
 rw [e]; simp only [List.length_append, List.length_take, List.length_drop, List.length_singleton]; omega
theorem set_new_len (o : Ord lt) {l : List α} {x : α} {k : Nat} (hs : Asc lt l) (h : atL lt l x k) (hn : hasL lt x l = false) : (setL lt x l).length = l.length + 1 := by
 rw [set_new o hs h hn]; have := h.1; simp only [List.length_append, List.length_take, List.length_drop, List.length_singleton]; omega
theorem del_old_len (o : Ord lt) {l : List α} {x : α} {k : Nat} (hs : Asc lt l) (h : atL lt l x k) (hn : hasL lt x l = true) : (delL lt x l).length = l.length - 1 := by
 obtain ⟨hk, e⟩ := del_old o hs h hn
 rw [e]; simp only [List.length_append, List.length_take, List.length_drop]; omega
end
theorem one_spec (g : Nat) (c : ConfC) (e : EditC) (k : Nat) (hk : k ≤ 40) (hm : Mid c k) (he : Flat.ok e) (H : Own D w w [cfgO g c]) :
  Calls Tryz.prog 92 #[.pointer (some ⟨g, 0, none⟩), .agg (editV e).toArray] w fun r w' => r = .returned (.int .i64 (oneC c e).2) ∧ Own D w w' [cfgO g (oneC c e).1] := by
 have he : inI64 e.1 ∧ inI64 e.2.1 ∧ inI64 e.2.2.1 ∧ inI64 e.2.2.2.1 := he
 have hlv := hm.lv
 have hls := hm.ls
 obtain ⟨q, H⟩ := Own.exs H
 refine hc_enter (vs := [.pointer (some ⟨g, 0, none⟩), .agg (editV e).toArray]) Tryz.func92 rfl _ Tryz.ntmps92 rfl H ?_
 simp only [argSlots, Nat.zero_add]
 refine HC.ent (l' := cfgQ g c q) (fun _ h => h) ?_
 refine zg <| hl_new (on_boxN rfl rfl) rfl rfl rfl fun b3 =>  ?_
 refine zs rfl <| zn <| hc_seq <| hc_any [blk b3 81 (editV e), blk g 49 (cfgA c q)] mixed 12 rfl ?_
 refine ha_v 0 rfl (ov_move rfl) rfl <| ha_v 1 rfl (ov_nil rfl) rfl <| ha_v 2 rfl (ov_fieldA rfl) rfl <| ha_v 3 rfl (zw rfl rfl) rfl <| ha_v 4 rfl (ov_fieldA rfl) rfl <| ha_v 5 rfl (zw rfl rfl) rfl <| ha_one 6 Z61 <| ho_kx (σ := FindT c.2.2.2.2.1 e.2.2.2.1) rfl Tryz.call130 rfl (fun w1 => zu fun D' _ hin _ => find_spec D' w1 _ c.2.2.2.2.1 e.2.2.2.1 Z64 (risV_iff.2 hm.av) (hin _ fun h hs ho => rep_row (A := q.2.1.1) hs c.2.2.2.2.1 rfl (repL_F.2 ⟨rfl, hm.v⟩))) ?_
 intro f
 try rw [List.nil_append]
 obtain ⟨⟨pv, okv⟩, hatv, hokv⟩ := f
 dsimp only at hatv hokv ⊢
 have hokv : okv = true ↔ ∃ h : pv < c.2.2.2.2.1.length, c.2.2.2.2.1[pv].1 = e.2.2.2.1 := hokv
 refine ha_v 7 rfl (ov_move rfl) rfl <| ha_v 8 rfl (ov_extract rfl rfl) rfl <| ha_v 9 rfl (ov_extract rfl rfl) rfl <| ha_v 10 rfl (ov_assign rfl) rfl <| ha_v 11 rfl (ov_assign rfl) rfl <| ha_done Z61 <| zt <| hc_seq <| ?_
 refine hc_any [blk b3 81 (editV e), blk g 49 (cfgA c q)] mixed 15 rfl ?_
 refine ha_v 0 rfl (ov_move rfl) rfl <| ha_v 1 rfl (ov_nil rfl) rfl <| ha_v 2 rfl (ov_fieldA rfl) rfl <| ha_v 3 rfl (zw rfl rfl) rfl <| ha_v 4 rfl (ov_fieldA rfl) rfl <| ha_v 5 rfl (zw rfl rfl) rfl <| ha_v 6 rfl (ov_fieldA rfl) rfl <| ha_v 7 rfl (zw rfl rfl) rfl <| ha_v 8 rfl (ov_buildSN rfl rfl) rfl <| ?_
 refine ha_one 9 Z61 <| ho_kx (σ := FindS c.2.2.2.2.2 (e.2.2.2.2.2.2, e.2.2.2.1, 0)) rfl Tryz.call131 rfl (fun w1 => zu fun D' _ hin _ => BSS_spec D' w1 _ c.2.2.2.2.2 (e.2.2.2.2.2.2, e.2.2.2.1, 0) Z64 hm.bs (hin _ fun h hs ho => rep_row (A := q.2.2.1) hs c.2.2.2.2.2 rfl (repL_F.2 ⟨rfl, hm.s⟩))) ?_
 intro f2
 try rw [List.nil_append]
 obtain ⟨⟨ps, oks⟩, hats, hoks⟩ := f2
 dsimp only at hats hoks ⊢
 refine ha_v 10 rfl (ov_move rfl) rfl <| ha_v 11 rfl (ov_extract rfl rfl) rfl <| ha_v 12 rfl (ov_extract rfl rfl) rfl <| ha_v 13 rfl (ov_assign rfl) rfl <| ha_v 14 rfl (ov_assign rfl) rfl <| ha_done Z61 <| zt <| hc_seq <| zg <| zf rfl <| ?_
 refine zl rfl rfl <| zn <| hc_block <| zg <| zv (ov_eql rfl rfl) <| zs rfl <| zn <| hc_cond rfl (fun k1 => ?_) (fun k1 => ?_)
 ·have hres : oneC c e = ((e.2.2.1, c.2), 0) := by unfold oneC; rw [if_pos k1]
  refine hc_region <| zm rfl <| zf rfl <| zl rfl rfl <| zv (ov_nil rfl) <| zf rfl <| ?_
  refine hl_u0 (on_storeE (cfgA (e.2.2.1, c.2) q) rfl rfl (by simp) rfl rfl) rfl rfl ?_
  refine hl_nil <| zb <| zt <| zg <| zs rfl <| zn <| zq <| ?_
  obtain ⟨q', hq'⟩ : ∃ x : Three, x = q := ⟨_, rfl⟩
  exact zz rfl rfl fun w' H' => ⟨by rw [hres], H'.ent (Ent.trans (b := cfgQ g (oneC c e).1 q') Z5 (cfgO_mk (l := []) q'))⟩
 refine zg <| zv (ov_eql rfl rfl) <| zs rfl <| zn <| hc_cond rfl (fun k2 => ?_) (fun k2 => ?_)
 ·have hres : oneC c e = ((c.1, e.2.2.1, c.2.2), 0) := by unfold oneC; rw [if_neg k1, if_pos k2]
  refine hc_region <| zm rfl <| zf rfl <| zl rfl rfl <| zv (ov_nil rfl) <| zf rfl <| ?_
  refine hl_u0 (on_storeE (cfgA (c.1, e.2.2.1, c.2.2) q) rfl rfl (by simp) rfl rfl) rfl rfl ?_
  refine hl_nil <| zb <| zt <| zg <| zs rfl <| zn <| zq <| ?_
  obtain ⟨q', hq'⟩ : ∃ x : Three, x = q := ⟨_, rfl⟩
  exact zz rfl rfl fun w' H' => ⟨by rw [hres], H'.ent (Ent.trans (b := cfgQ g (oneC c e).1 q') Z5 (cfgO_mk (l := []) q'))⟩
 refine zg <| zv (ov_eql rfl rfl) <| zs rfl <| zn <| hc_cond rfl (fun k3 => ?_) (fun k3 => ?_)
 ·have hres : oneC c e = ((c.1, c.2.1, e.2.2.1, c.2.2.2), 0) := by unfold oneC; rw [if_neg k1, if_neg k2, if_pos k3]
  refine hc_region <| zm rfl <| zf rfl <| zl rfl rfl <| zv (ov_nil rfl) <| zf rfl <| ?_
  refine hl_u0 (on_storeE (cfgA (c.1, c.2.1, e.2.2.1, c.2.2.2) q) rfl rfl (by simp) rfl rfl) rfl rfl ?_
  refine hl_nil <| zb <| zt <| zg <| zs rfl <| zn <| zq <| ?_
  obtain ⟨q', hq'⟩ : ∃ x : Three, x = q := ⟨_, rfl⟩
  exact zz rfl rfl fun w' H' => ⟨by rw [hres], H'.ent (Ent.trans (b := cfgQ g (oneC c e).1 q') Z5 (cfgO_mk (l := []) q'))⟩
 refine hc_seq <| zg <| zv (ov_eql rfl rfl) <| zs rfl <| hl_nil <| zt <| hc_cond rfl (fun k4 => ?_) (fun k4 => ?_)
 ·refine zk <| hc_cond_T rfl (k4) ?_
  have hres : oneC c e = portC c e := oneC_port ⟨by omega, by omega⟩
  refine zg <| zm rfl <| zv Z17 <| ?_
  refine HL.ent (Ent.trans (b := cfgQ g c q ++ []) Z8 (cfgO_mk q)) ?_
  refine hl_c Tryz.call132 rfl rfl (fun w1 => zp (cfgO g c) fun D' _ _ H2 => port_spec D' w1 g c e he.2.1 (by have := hm.lp; omega) ⟨by omega, by omega⟩ H2) ?_
  refine zs rfl <| zn <| zq <| hx_block_ret <| zr <| ?_
  exact zz rfl rfl fun w' H' => ⟨by rw [hres], by rw [hres]; exact H'⟩
 refine zg <| zv (ov_eql rfl rfl) <| zs rfl <| zn <| hc_cond rfl (fun k5 => ?_) (fun k5 => ?_)
 ·refine zk <| hc_cond_T rfl (k5) ?_
  have hres : oneC c e = portC c e := oneC_port ⟨by omega, by omega⟩
  refine zg <| zm rfl <| zv Z17 <| ?_
  refine HL.ent (Ent.trans (b := cfgQ g c q ++ []) Z8 (cfgO_mk q)) ?_
  refine hl_c Tryz.call132 rfl rfl (fun w1 => zp (cfgO g c) fun D' _ _ H2 => port_spec D' w1 g c e he.2.1 (by have := hm.lp; omega) ⟨by omega, by omega⟩ H2) ?_
  refine zs rfl <| zn <| zq <| hx_block_ret <| zr <| ?_
  exact zz rfl rfl fun w' H' => ⟨by rw [hres], by rw [hres]; exact H'⟩
 refine hc_region <| zv (ov_eql rfl rfl) <| zs rfl <| zn <| hc_cond rfl (fun k6 => ?_) (fun k6 => ?_)
 ·have hres : oneC c e = portC c e := oneC_port ⟨by omega, by omega⟩
  refine zg <| zm rfl <| zv Z17 <| ?_
  refine HL.ent (Ent.trans (b := cfgQ g c q ++ []) Z8 (cfgO_mk q)) ?_
  refine hl_c Tryz.call132 rfl rfl (fun w1 => zp (cfgO g c) fun D' _ _ H2 => port_spec D' w1 g c e he.2.1 (by have := hm.lp; omega) ⟨by omega, by omega⟩ H2) ?_
  refine zs rfl <| zn <| zq <| hx_block_ret <| zr <| ?_
  exact zz rfl rfl fun w' H' => ⟨by rw [hres], by rw [hres]; exact H'⟩
 have h46 : ¬ (4 ≤ e.1 ∧ e.1 ≤ 6) := by omega
 refine zg <| zv (ov_eql rfl rfl) <| zs rfl <| zn <| hc_cond rfl (fun k7 => ?_) (fun k7 => ?_)
 ·obtain ⟨x, hx⟩ : ∃ x : VlanC, x = (e.2.2.2.1, e.2.2.2.2.1, e.2.2.2.2.2.1) := ⟨_, rfl⟩
  have hres : oneC c e = ((c.1, c.2.1, c.2.2.1, c.2.2.2.1, setL ltV x c.2.2.2.2.1, c.2.2.2.2.2), 0) := by unfold oneC; rw [if_neg k1, if_neg k2, if_neg k3, if_neg h46, if_pos k7, hx]
  have hat := atV hatv x (by rw [hx])
  have hhas := hokv.trans (hasV hm.av hatv x (by rw [hx]))
  cases okv
  ·have hb : hasL ltV x c.2.2.2.2.1 = false := by
    cases h : hasL ltV x c.2.2.2.2.1 with
    | false => rfl
    | true => have := hhas.2 h; cases this
   have hset := set_new ordV hm.av hat hb
   have hsl := set_new_len ordV hm.av hat hb
   refine hc_any [blk b3 81 (editV e)] mixed 19 rfl ?_
   refine ha_v 0 rfl (ov_move rfl) rfl <| ha_v 1 rfl (ov_move rfl) rfl <| ha_v 2 rfl (ov_nil rfl) rfl <| ha_v 3 rfl (ov_fieldA rfl) rfl <| ha_v 5 rfl (ov_move rfl) rfl <| ha_v 6 rfl (ov_move rfl) rfl <| ha_v 7 rfl (ov_fieldA rfl) rfl <| ha_v 8 rfl (zw rfl rfl) rfl <| ha_v 9 rfl (ov_fieldA rfl) rfl <| ha_v 10 rfl (zw rfl rfl) rfl <| ha_v 11 rfl (ov_fieldA rfl) rfl <| ha_v 12 rfl (zw rfl rfl) rfl <| ha_v 13 rfl (ov_buildSN rfl rfl) rfl <| ?_
   refine ha_two 4 14 Z61 ?_ ?_
   ·skip
    refine ho_v rfl (zw rfl rfl) rfl <| ha_one 14 Z61 <| ho_n rfl (on_buildSlice0N rfl rfl rfl) rfl (fun b78 => ?_)
    refine ha_one 15 Z61 <| ho_ent (Ent.trans (b := [row q.2.1.1 147 3 c.2.2.2.2.1.length q.2.1.2 (c.2.2.2.2.1.flatMap vlanV), blk0 b78 147 (vlanV x)] ++ [blk g 49 (cfgA c q), row q.1.1 83 3 c.2.2.2.1.length q.1.2 (c.2.2.2.1.flatMap portV), row q.2.2.1 149 3 c.2.2.2.2.2.length q.2.2.2 (c.2.2.2.2.2.flatMap statV), blk b3 81 (editV e)]) Z7 Ent.fold) ?_
    refine ho_kx (σ := Option Addr × Nat) rfl Tryz.call133 rfl (fun w1 => zpx (stars [row q.2.1.1 147 3 c.2.2.2.2.1.length q.2.1.2 (c.2.2.2.2.1.flatMap vlanV), blk0 b78 147 (vlanV x)]) fun D' _ _ H2 => plcV_ins D' w1 q.2.1.1 c.2.2.2.2.1.length q.2.1.2 pv b78 _ (vlanV x) hat.1 Z64 rfl (flat_one vlanV_one _) (vlanV_one x) (H2.ent Ent.flat)) ?_
    intro q2
    rw [cells_ins (f := vlanV) (fun _ => rfl), ← hset, ← hsl]
    refine ha_v 16 rfl (ov_nil rfl) rfl <| ha_v 17 rfl (ov_fieldA rfl) rfl <| ha_one 18 Z61 <| ho_w0 rfl (on_storeE (cfgA (c.1, c.2.1, c.2.2.1, c.2.2.2.1, setL ltV x c.2.2.2.2.1, c.2.2.2.2.2) (q.1, q2, q.2.2)) rfl rfl (by simp) rfl rfl) rfl ?_
    refine ha_done Z61 <| zb <| zt <| zg <| zs rfl <| ?_
    refine zn <| zq <| ?_
    obtain ⟨q', hq'⟩ : ∃ x : Three, x = (q.1, q2, q.2.2) := ⟨_, rfl⟩
    exact zz rfl rfl fun w' H' => ⟨by rw [hres], H'.ent (Ent.trans (b := cfgQ g (oneC c e).1 q') Z5 (cfgO_mk (l := []) q'))⟩
   skip
   refine ho_n rfl (on_buildSlice0N rfl rfl rfl) rfl (fun b78 => ?_)
   refine ha_one 4 Z61 <| ho_v rfl (zw rfl rfl) rfl <| ha_one 15 Z61 <| ho_ent (Ent.trans (b := [row q.2.1.1 147 3 c.2.2.2.2.1.length q.2.1.2 (c.2.2.2.2.1.flatMap vlanV), blk0 b78 147 (vlanV x)] ++ [blk g 49 (cfgA c q), row q.1.1 83 3 c.2.2.2.1.length q.1.2 (c.2.2.2.1.flatMap portV), row q.2.2.1 149 3 c.2.2.2.2.2.length q.2.2.2 (c.2.2.2.2.2.flatMap statV), blk b3 81 (editV e)]) Z7 Ent.fold) ?_
   refine ho_kx (σ := Option Addr × Nat) rfl Tryz.call133 rfl (fun w1 => zpx (stars [row q.2.1.1 147 3 c.2.2.2.2.1.length q.2.1.2 (c.2.2.2.2.1.flatMap vlanV), blk0 b78 147 (vlanV x)]) fun D' _ _ H2 => plcV_ins D' w1 q.2.1.1 c.2.2.2.2.1.length q.2.1.2 pv b78 _ (vlanV x) hat.1 Z64 rfl (flat_one vlanV_one _) (vlanV_one x) (H2.ent Ent.flat)) ?_
   intro q2
   rw [cells_ins (f := vlanV) (fun _ => rfl), ← hset, ← hsl]
   refine ha_v 16 rfl (ov_nil rfl) rfl <| ha_v 17 rfl (ov_fieldA rfl) rfl <| ha_one 18 Z61 <| ho_w0 rfl (on_storeE (cfgA (c.1, c.2.1, c.2.2.1, c.2.2.2.1, setL ltV x c.2.2.2.2.1, c.2.2.2.2.2) (q.1, q2, q.2.2)) rfl rfl (by simp) rfl rfl) rfl ?_
   refine ha_done Z61 <| zb <| zt <| zg <| zs rfl <| ?_
   refine zn <| zq <| ?_
   obtain ⟨q', hq'⟩ : ∃ x : Three, x = (q.1, q2, q.2.2) := ⟨_, rfl⟩
   exact zz rfl rfl fun w' H' => ⟨by rw [hres], H'.ent (Ent.trans (b := cfgQ g (oneC c e).1 q') Z5 (cfgO_mk (l := []) q'))⟩
  have hb := hhas.1 rfl
  obtain ⟨hlt, hset⟩ := set_old ordV hm.av hat hb
  have hsl := set_old_len ordV hm.av hat hb
  refine hc_any [blk b3 81 (editV e)] mixed 19 rfl ?_
  refine ha_v 0 rfl (ov_move rfl) rfl <| ha_v 1 rfl (ov_move rfl) rfl <| ha_v 2 rfl (ov_nil rfl) rfl <| ha_v 3 rfl (ov_fieldA rfl) rfl <| ha_v 5 rfl (ov_move rfl) rfl <| ha_v 6 rfl (ov_move rfl) rfl <| ha_v 7 rfl (ov_fieldA rfl) rfl <| ha_v 8 rfl (zw rfl rfl) rfl <| ha_v 9 rfl (ov_fieldA rfl) rfl <| ha_v 10 rfl (zw rfl rfl) rfl <| ha_v 11 rfl (ov_fieldA rfl) rfl <| ha_v 12 rfl (zw rfl rfl) rfl <| ha_v 13 rfl (ov_buildSN rfl rfl) rfl <| ?_
  refine ha_two 4 14 Z61 ?_ ?_
  ·skip
   refine ho_v rfl (zw rfl rfl) rfl <| ha_one 14 Z61 <| ho_n rfl (on_buildSlice0N rfl rfl rfl) rfl (fun b78 => ?_)
   refine ha_one 15 Z61 <| ho_ent (Ent.trans (b := [row q.2.1.1 147 3 c.2.2.2.2.1.length q.2.1.2 (c.2.2.2.2.1.flatMap vlanV), blk0 b78 147 (vlanV x)] ++ [blk g 49 (cfgA c q), row q.1.1 83 3 c.2.2.2.1.length q.1.2 (c.2.2.2.1.flatMap portV), row q.2.2.1 149 3 c.2.2.2.2.2.length q.2.2.2 (c.2.2.2.2.2.flatMap statV), blk b3 81 (editV e)]) Z7 Ent.fold) ?_
   refine ho_kx (σ := Option Addr × Nat) rfl Tryz.call133 rfl (fun w1 => zpx (stars [row q.2.1.1 147 3 c.2.2.2.2.1.length q.2.1.2 (c.2.2.2.2.1.flatMap vlanV), blk0 b78 147 (vlanV x)]) fun D' _ _ H2 => plcV_set D' w1 q.2.1.1 c.2.2.2.2.1.length q.2.1.2 pv b78 _ (vlanV x) hlt Z64 rfl (flat_one vlanV_one _) (vlanV_one x) (H2.ent Ent.flat)) ?_
   intro q2
   rw [cells_set (f := vlanV) (fun _ => rfl), ← hset, ← hsl]
   refine ha_v 16 rfl (ov_nil rfl) rfl <| ha_v 17 rfl (ov_fieldA rfl) rfl <| ha_one 18 Z61 <| ho_w0 rfl (on_storeE (cfgA (c.1, c.2.1, c.2.2.1, c.2.2.2.1, setL ltV x c.2.2.2.2.1, c.2.2.2.2.2) (q.1, q2, q.2.2)) rfl rfl (by simp) rfl rfl) rfl ?_
   refine ha_done Z61 <| zb <| zt <| zg <| zs rfl <| ?_
   refine zn <| zq <| ?_
   obtain ⟨q', hq'⟩ : ∃ x : Three, x = (q.1, q2, q.2.2) := ⟨_, rfl⟩
   exact zz rfl rfl fun w' H' => ⟨by rw [hres], H'.ent (Ent.trans (b := cfgQ g (oneC c e).1 q') Z5 (cfgO_mk (l := []) q'))⟩
  skip
  refine ho_n rfl (on_buildSlice0N rfl rfl rfl) rfl (fun b78 => ?_)
  refine ha_one 4 Z61 <| ho_v rfl (zw rfl rfl) rfl <| ha_one 15 Z61 <| ho_ent (Ent.trans (b := [row q.2.1.1 147 3 c.2.2.2.2.1.length q.2.1.2 (c.2.2.2.2.1.flatMap vlanV), blk0 b78 147 (vlanV x)] ++ [blk g 49 (cfgA c q), row q.1.1 83 3 c.2.2.2.1.length q.1.2 (c.2.2.2.1.flatMap portV), row q.2.2.1 149 3 c.2.2.2.2.2.length q.2.2.2 (c.2.2.2.2.2.flatMap statV), blk b3 81 (editV e)]) Z7 Ent.fold) ?_
  refine ho_kx (σ := Option Addr × Nat) rfl Tryz.call133 rfl (fun w1 => zpx (stars [row q.2.1.1 147 3 c.2.2.2.2.1.length q.2.1.2 (c.2.2.2.2.1.flatMap vlanV), blk0 b78 147 (vlanV x)]) fun D' _ _ H2 => plcV_set D' w1 q.2.1.1 c.2.2.2.2.1.length q.2.1.2 pv b78 _ (vlanV x) hlt Z64 rfl (flat_one vlanV_one _) (vlanV_one x) (H2.ent Ent.flat)) ?_
  intro q2
  rw [cells_set (f := vlanV) (fun _ => rfl), ← hset, ← hsl]
  refine ha_v 16 rfl (ov_nil rfl) rfl <| ha_v 17 rfl (ov_fieldA rfl) rfl <| ha_one 18 Z61 <| ho_w0 rfl (on_storeE (cfgA (c.1, c.2.1, c.2.2.1, c.2.2.2.1, setL ltV x c.2.2.2.2.1, c.2.2.2.2.2) (q.1, q2, q.2.2)) rfl rfl (by simp) rfl rfl) rfl ?_
  refine ha_done Z61 <| zb <| zt <| zg <| zs rfl <| ?_
  refine zn <| zq <| ?_
  obtain ⟨q', hq'⟩ : ∃ x : Three, x = (q.1, q2, q.2.2) := ⟨_, rfl⟩
  exact zz rfl rfl fun w' H' => ⟨by rw [hres], H'.ent (Ent.trans (b := cfgQ g (oneC c e).1 q') Z5 (cfgO_mk (l := []) q'))⟩
 refine zg <| zv (ov_eql rfl rfl) <| zs rfl <| zn <| hc_cond rfl (fun k9 => ?_) (fun k9 => ?_)
 ·obtain ⟨x, hx⟩ : ∃ x : StatC, x = (e.2.2.2.2.2.2, e.2.2.2.1, e.2.1) := ⟨_, rfl⟩
  have hres : oneC c e = ((c.1, c.2.1, c.2.2.1, c.2.2.2.1, c.2.2.2.2.1, setL ltS x c.2.2.2.2.2), 0) := by unfold oneC; rw [if_neg k1, if_neg k2, if_neg k3, if_neg h46, if_neg k7, if_pos k9, hx]
  have hat : atL ltS c.2.2.2.2.2 x ps := by rw [hx]; exact hats
  have hhas : oks = true ↔ hasL ltS x c.2.2.2.2.2 = true := by rw [hx]; exact hoks
  cases oks
  ·have hb : hasL ltS x c.2.2.2.2.2 = false := by
    cases h : hasL ltS x c.2.2.2.2.2 with
    | false => rfl
    | true => have := hhas.2 h; cases this
   have hset := set_new ordS hm.bs hat hb
   have hsl := set_new_len ordS hm.bs hat hb
   refine hc_any [blk b3 81 (editV e)] mixed 19 rfl ?_
   refine ha_v 0 rfl (ov_move rfl) rfl <| ha_v 1 rfl (ov_move rfl) rfl <| ha_v 2 rfl (ov_nil rfl) rfl <| ha_v 3 rfl (ov_fieldA rfl) rfl <| ha_v 5 rfl (ov_move rfl) rfl <| ha_v 6 rfl (ov_move rfl) rfl <| ha_v 7 rfl (ov_fieldA rfl) rfl <| ha_v 8 rfl (zw rfl rfl) rfl <| ha_v 9 rfl (ov_fieldA rfl) rfl <| ha_v 10 rfl (zw rfl rfl) rfl <| ha_v 11 rfl (ov_fieldA rfl) rfl <| ha_v 12 rfl (zw rfl rfl) rfl <| ha_v 13 rfl (ov_buildSN rfl rfl) rfl <| ?_
   refine ha_two 4 14 Z61 ?_ ?_
   ·skip
    refine ho_v rfl (zw rfl rfl) rfl <| ha_one 14 Z61 <| ho_n rfl (on_buildSlice0N rfl rfl rfl) rfl (fun b98 => ?_)
    refine ha_one 15 Z61 <| ho_ent (Ent.trans (b := [row q.2.2.1 149 3 c.2.2.2.2.2.length q.2.2.2 (c.2.2.2.2.2.flatMap statV), blk0 b98 149 (statV x)] ++ [blk g 49 (cfgA c q), row q.1.1 83 3 c.2.2.2.1.length q.1.2 (c.2.2.2.1.flatMap portV), row q.2.1.1 147 3 c.2.2.2.2.1.length q.2.1.2 (c.2.2.2.2.1.flatMap vlanV), blk b3 81 (editV e)]) Z7 Ent.fold) ?_
    refine ho_kx (σ := Option Addr × Nat) rfl Tryz.call134 rfl (fun w1 => zpx (stars [row q.2.2.1 149 3 c.2.2.2.2.2.length q.2.2.2 (c.2.2.2.2.2.flatMap statV), blk0 b98 149 (statV x)]) fun D' _ _ H2 => plcS_ins D' w1 q.2.2.1 c.2.2.2.2.2.length q.2.2.2 ps b98 _ (statV x) hat.1 Z64 rfl (flat_one statV_one _) (statV_one x) (H2.ent Ent.flat)) ?_
    intro q2
    rw [cells_ins (f := statV) (fun _ => rfl), ← hset, ← hsl]
    refine ha_v 16 rfl (ov_nil rfl) rfl <| ha_v 17 rfl (ov_fieldA rfl) rfl <| ha_one 18 Z61 <| ho_w0 rfl (on_storeE (cfgA (c.1, c.2.1, c.2.2.1, c.2.2.2.1, c.2.2.2.2.1, setL ltS x c.2.2.2.2.2) (q.1, q.2.1, q2)) rfl rfl (by simp) rfl rfl) rfl ?_
    refine ha_done Z61 <| zb <| zt <| zg <| zs rfl <| ?_
    refine zn <| zq <| ?_
    obtain ⟨q', hq'⟩ : ∃ x : Three, x = (q.1, q.2.1, q2) := ⟨_, rfl⟩
    exact zz rfl rfl fun w' H' => ⟨by rw [hres], H'.ent (Ent.trans (b := cfgQ g (oneC c e).1 q') Z5 (cfgO_mk (l := []) q'))⟩
   skip
   refine ho_n rfl (on_buildSlice0N rfl rfl rfl) rfl (fun b98 => ?_)
   refine ha_one 4 Z61 <| ho_v rfl (zw rfl rfl) rfl <| ha_one 15 Z61 <| ho_ent (Ent.trans (b := [row q.2.2.1 149 3 c.2.2.2.2.2.length q.2.2.2 (c.2.2.2.2.2.flatMap statV), blk0 b98 149 (statV x)] ++ [blk g 49 (cfgA c q), row q.1.1 83 3 c.2.2.2.1.length q.1.2 (c.2.2.2.1.flatMap portV), row q.2.1.1 147 3 c.2.2.2.2.1.length q.2.1.2 (c.2.2.2.2.1.flatMap vlanV), blk b3 81 (editV e)]) Z7 Ent.fold) ?_
   refine ho_kx (σ := Option Addr × Nat) rfl Tryz.call134 rfl (fun w1 => zpx (stars [row q.2.2.1 149 3 c.2.2.2.2.2.length q.2.2.2 (c.2.2.2.2.2.flatMap statV), blk0 b98 149 (statV x)]) fun D' _ _ H2 => plcS_ins D' w1 q.2.2.1 c.2.2.2.2.2.length q.2.2.2 ps b98 _ (statV x) hat.1 Z64 rfl (flat_one statV_one _) (statV_one x) (H2.ent Ent.flat)) ?_
   intro q2
   rw [cells_ins (f := statV) (fun _ => rfl), ← hset, ← hsl]
   refine ha_v 16 rfl (ov_nil rfl) rfl <| ha_v 17 rfl (ov_fieldA rfl) rfl <| ha_one 18 Z61 <| ho_w0 rfl (on_storeE (cfgA (c.1, c.2.1, c.2.2.1, c.2.2.2.1, c.2.2.2.2.1, setL ltS x c.2.2.2.2.2) (q.1, q.2.1, q2)) rfl rfl (by simp) rfl rfl) rfl ?_
   refine ha_done Z61 <| zb <| zt <| zg <| zs rfl <| ?_
   refine zn <| zq <| ?_
   obtain ⟨q', hq'⟩ : ∃ x : Three, x = (q.1, q.2.1, q2) := ⟨_, rfl⟩
   exact zz rfl rfl fun w' H' => ⟨by rw [hres], H'.ent (Ent.trans (b := cfgQ g (oneC c e).1 q') Z5 (cfgO_mk (l := []) q'))⟩
  have hb := hhas.1 rfl
  obtain ⟨hlt, hset⟩ := set_old ordS hm.bs hat hb
  have hsl := set_old_len ordS hm.bs hat hb
  refine hc_any [blk b3 81 (editV e)] mixed 19 rfl ?_
  refine ha_v 0 rfl (ov_move rfl) rfl <| ha_v 1 rfl (ov_move rfl) rfl <| ha_v 2 rfl (ov_nil rfl) rfl <| ha_v 3 rfl (ov_fieldA rfl) rfl <| ha_v 5 rfl (ov_move rfl) rfl <| ha_v 6 rfl (ov_move rfl) rfl <| ha_v 7 rfl (ov_fieldA rfl) rfl <| ha_v 8 rfl (zw rfl rfl) rfl <| ha_v 9 rfl (ov_fieldA rfl) rfl <| ha_v 10 rfl (zw rfl rfl) rfl <| ha_v 11 rfl (ov_fieldA rfl) rfl <| ha_v 12 rfl (zw rfl rfl) rfl <| ha_v 13 rfl (ov_buildSN rfl rfl) rfl <| ?_
  refine ha_two 4 14 Z61 ?_ ?_
  ·skip
   refine ho_v rfl (zw rfl rfl) rfl <| ha_one 14 Z61 <| ho_n rfl (on_buildSlice0N rfl rfl rfl) rfl (fun b98 => ?_)
   refine ha_one 15 Z61 <| ho_ent (Ent.trans (b := [row q.2.2.1 149 3 c.2.2.2.2.2.length q.2.2.2 (c.2.2.2.2.2.flatMap statV), blk0 b98 149 (statV x)] ++ [blk g 49 (cfgA c q), row q.1.1 83 3 c.2.2.2.1.length q.1.2 (c.2.2.2.1.flatMap portV), row q.2.1.1 147 3 c.2.2.2.2.1.length q.2.1.2 (c.2.2.2.2.1.flatMap vlanV), blk b3 81 (editV e)]) Z7 Ent.fold) ?_
   refine ho_kx (σ := Option Addr × Nat) rfl Tryz.call134 rfl (fun w1 => zpx (stars [row q.2.2.1 149 3 c.2.2.2.2.2.length q.2.2.2 (c.2.2.2.2.2.flatMap statV), blk0 b98 149 (statV x)]) fun D' _ _ H2 => plcS_set D' w1 q.2.2.1 c.2.2.2.2.2.length q.2.2.2 ps b98 _ (statV x) hlt Z64 rfl (flat_one statV_one _) (statV_one x) (H2.ent Ent.flat)) ?_
   intro q2
   rw [cells_set (f := statV) (fun _ => rfl), ← hset, ← hsl]
   refine ha_v 16 rfl (ov_nil rfl) rfl <| ha_v 17 rfl (ov_fieldA rfl) rfl <| ha_one 18 Z61 <| ho_w0 rfl (on_storeE (cfgA (c.1, c.2.1, c.2.2.1, c.2.2.2.1, c.2.2.2.2.1, setL ltS x c.2.2.2.2.2) (q.1, q.2.1, q2)) rfl rfl (by simp) rfl rfl) rfl ?_
   refine ha_done Z61 <| zb <| zt <| zg <| zs rfl <| ?_
   refine zn <| zq <| ?_
   obtain ⟨q', hq'⟩ : ∃ x : Three, x = (q.1, q.2.1, q2) := ⟨_, rfl⟩
   exact zz rfl rfl fun w' H' => ⟨by rw [hres], H'.ent (Ent.trans (b := cfgQ g (oneC c e).1 q') Z5 (cfgO_mk (l := []) q'))⟩
  skip
  refine ho_n rfl (on_buildSlice0N rfl rfl rfl) rfl (fun b98 => ?_)
  refine ha_one 4 Z61 <| ho_v rfl (zw rfl rfl) rfl <| ha_one 15 Z61 <| ho_ent (Ent.trans (b := [row q.2.2.1 149 3 c.2.2.2.2.2.length q.2.2.2 (c.2.2.2.2.2.flatMap statV), blk0 b98 149 (statV x)] ++ [blk g 49 (cfgA c q), row q.1.1 83 3 c.2.2.2.1.length q.1.2 (c.2.2.2.1.flatMap portV), row q.2.1.1 147 3 c.2.2.2.2.1.length q.2.1.2 (c.2.2.2.2.1.flatMap vlanV), blk b3 81 (editV e)]) Z7 Ent.fold) ?_
  refine ho_kx (σ := Option Addr × Nat) rfl Tryz.call134 rfl (fun w1 => zpx (stars [row q.2.2.1 149 3 c.2.2.2.2.2.length q.2.2.2 (c.2.2.2.2.2.flatMap statV), blk0 b98 149 (statV x)]) fun D' _ _ H2 => plcS_set D' w1 q.2.2.1 c.2.2.2.2.2.length q.2.2.2 ps b98 _ (statV x) hlt Z64 rfl (flat_one statV_one _) (statV_one x) (H2.ent Ent.flat)) ?_
  intro q2
  rw [cells_set (f := statV) (fun _ => rfl), ← hset, ← hsl]
  refine ha_v 16 rfl (ov_nil rfl) rfl <| ha_v 17 rfl (ov_fieldA rfl) rfl <| ha_one 18 Z61 <| ho_w0 rfl (on_storeE (cfgA (c.1, c.2.1, c.2.2.1, c.2.2.2.1, c.2.2.2.2.1, setL ltS x c.2.2.2.2.2) (q.1, q.2.1, q2)) rfl rfl (by simp) rfl rfl) rfl ?_
  refine ha_done Z61 <| zb <| zt <| zg <| zs rfl <| ?_
  refine zn <| zq <| ?_
  obtain ⟨q', hq'⟩ : ∃ x : Three, x = (q.1, q.2.1, q2) := ⟨_, rfl⟩
  exact zz rfl rfl fun w' H' => ⟨by rw [hres], H'.ent (Ent.trans (b := cfgQ g (oneC c e).1 q') Z5 (cfgO_mk (l := []) q'))⟩
 refine zg <| zv (ov_eql rfl rfl) <| zs rfl <| zn <| hc_cond rfl (fun k8 => ?_) (fun k8 => ?_)
 ·obtain ⟨x, hx⟩ : ∃ x : VlanC, x = (e.2.2.2.1, 0, 0) := ⟨_, rfl⟩
  have hat := atV hatv x (by rw [hx])
  have hhas := hokv.trans (hasV hm.av hatv x (by rw [hx]))
  refine hc_seq <| zg <| zm rfl <| zv Z26 <| ?_
  refine zn <| hc_cond_bool rfl (fun hb0 => ?_) (fun hb0 => ?_)
  ·have hb : ¬ hasL ltV x c.2.2.2.2.1 = true := fun h => by have := hhas.2 h; rw [this] at hb0; cases hb0
   have hres : oneC c e = (c, 13) := by unfold oneC; rw [if_neg k1, if_neg k2, if_neg k3, if_neg h46, if_neg k7, if_neg k9, if_pos k8, ← hx, if_neg hb]
   refine zg <| zs rfl <| zn <| zq <| zr <| hx_block_ret <| zr <| ?_
   obtain ⟨q', hq'⟩ : ∃ x : Three, x = q := ⟨_, rfl⟩
   exact zz rfl rfl fun w' H' => ⟨by rw [hres], H'.ent (Ent.trans (b := cfgQ g (oneC c e).1 q') Z5 (cfgO_mk (l := []) q'))⟩
  have hok : okv = true := by simpa using hb0
  have hb := hhas.1 hok
  have hres : oneC c e = ((c.1, c.2.1, c.2.2.1, c.2.2.2.1, delL ltV x c.2.2.2.2.1, c.2.2.2.2.2), 0) := by unfold oneC; rw [if_neg k1, if_neg k2, if_neg k3, if_neg h46, if_neg k7, if_neg k9, if_pos k8, ← hx, if_pos hb]
  obtain ⟨hlt, hset⟩ := del_old ordV hm.av hat hb
  have hsl := del_old_len ordV hm.av hat hb
  rw [hok]
  refine zk <| hc_region <| zm rfl <| zm rfl <| zv (ov_nil rfl) <| zf rfl <| zl rfl rfl <| zm rfl <| zm rfl <| ?_
  refine hl_call (σ := Option Addr × Nat) Tryz.call133 rfl rfl (fun w1 => zpx (row q.2.1.1 147 3 c.2.2.2.2.1.length q.2.1.2 (c.2.2.2.2.1.flatMap vlanV)) fun D' _ _ H2 => plcV_del D' w1 q.2.1.1 c.2.2.2.2.1.length q.2.1.2 pv _ hlt Z64 (flat_one vlanV_one _) H2) ?_
  intro q2
  rw [cells_del (f := vlanV) (fun _ => rfl), ← hset, ← hsl]
  refine zv (ov_nil rfl) <| zf rfl <| ?_
  refine hl_u0 (on_storeE (cfgA (c.1, c.2.1, c.2.2.1, c.2.2.2.1, delL ltV x c.2.2.2.2.1, c.2.2.2.2.2) (q.1, q2, q.2.2)) rfl rfl (by simp) rfl rfl) rfl rfl ?_
  refine hl_nil <| zb <| zt <| zg <| zs rfl <| zn <| zq <| ?_
  obtain ⟨q', hq'⟩ : ∃ x : Three, x = (q.1, q2, q.2.2) := ⟨_, rfl⟩
  exact zz rfl rfl fun w' H' => ⟨by rw [hres], H'.ent (Ent.trans (b := cfgQ g (oneC c e).1 q') Z5 (cfgO_mk (l := []) q'))⟩
 refine zg <| zv (ov_eql rfl rfl) <| zs rfl <| zn <| hc_cond rfl (fun k10 => ?_) (fun k10 => ?_)
 ·obtain ⟨x, hx⟩ : ∃ x : StatC, x = (e.2.2.2.2.2.2, e.2.2.2.1, 0) := ⟨_, rfl⟩
  have hat : atL ltS c.2.2.2.2.2 x ps := by rw [hx]; exact hats
  have hhas : oks = true ↔ hasL ltS x c.2.2.2.2.2 = true := by rw [hx]; exact hoks
  refine hc_seq <| zg <| zm rfl <| zv Z26 <| ?_
  refine zn <| hc_cond_bool rfl (fun hb0 => ?_) (fun hb0 => ?_)
  ·have hb : ¬ hasL ltS x c.2.2.2.2.2 = true := fun h => by have := hhas.2 h; rw [this] at hb0; cases hb0
   have hres : oneC c e = (c, 13) := by unfold oneC; rw [if_neg k1, if_neg k2, if_neg k3, if_neg h46, if_neg k7, if_neg k9, if_neg k8, if_pos k10, ← hx, if_neg hb]
   refine zg <| zs rfl <| zn <| zq <| zr <| hx_block_ret <| zr <| ?_
   obtain ⟨q', hq'⟩ : ∃ x : Three, x = q := ⟨_, rfl⟩
   exact zz rfl rfl fun w' H' => ⟨by rw [hres], H'.ent (Ent.trans (b := cfgQ g (oneC c e).1 q') Z5 (cfgO_mk (l := []) q'))⟩
  have hok : oks = true := by simpa using hb0
  have hb := hhas.1 hok
  have hres : oneC c e = ((c.1, c.2.1, c.2.2.1, c.2.2.2.1, c.2.2.2.2.1, delL ltS x c.2.2.2.2.2), 0) := by unfold oneC; rw [if_neg k1, if_neg k2, if_neg k3, if_neg h46, if_neg k7, if_neg k9, if_neg k8, if_pos k10, ← hx, if_pos hb]
  obtain ⟨hlt, hset⟩ := del_old ordS hm.bs hat hb
  have hsl := del_old_len ordS hm.bs hat hb
  rw [hok]
  refine zk <| hc_region <| zm rfl <| zm rfl <| zv (ov_nil rfl) <| zf rfl <| zl rfl rfl <| zm rfl <| zm rfl <| ?_
  refine hl_call (σ := Option Addr × Nat) Tryz.call134 rfl rfl (fun w1 => zpx (row q.2.2.1 149 3 c.2.2.2.2.2.length q.2.2.2 (c.2.2.2.2.2.flatMap statV)) fun D' _ _ H2 => plcS_del D' w1 q.2.2.1 c.2.2.2.2.2.length q.2.2.2 ps _ hlt Z64 (flat_one statV_one _) H2) ?_
  intro q2
  rw [cells_del (f := statV) (fun _ => rfl), ← hset, ← hsl]
  refine zv (ov_nil rfl) <| zf rfl <| ?_
  refine hl_u0 (on_storeE (cfgA (c.1, c.2.1, c.2.2.1, c.2.2.2.1, c.2.2.2.2.1, delL ltS x c.2.2.2.2.2) (q.1, q.2.1, q2)) rfl rfl (by simp) rfl rfl) rfl rfl ?_
  refine hl_nil <| zb <| zt <| zg <| zs rfl <| zn <| zq <| ?_
  obtain ⟨q', hq'⟩ : ∃ x : Three, x = (q.1, q.2.1, q2) := ⟨_, rfl⟩
  exact zz rfl rfl fun w' H' => ⟨by rw [hres], H'.ent (Ent.trans (b := cfgQ g (oneC c e).1 q') Z5 (cfgO_mk (l := []) q'))⟩
 have hres : oneC c e = (c, 11) := by unfold oneC; rw [if_neg k1, if_neg k2, if_neg k3, if_neg h46, if_neg k7, if_neg k9, if_neg k8, if_neg k10]
 refine zg <| zs rfl <| zn <| zq <| hx_block_ret <| zr <| ?_
 obtain ⟨q', hq'⟩ : ∃ x : Three, x = q := ⟨_, rfl⟩
 exact zz rfl rfl fun w' H' => ⟨by rw [hres], H'.ent (Ent.trans (b := cfgQ g (oneC c e).1 q') Z5 (cfgO_mk (l := []) q'))⟩
theorem portV_one (x : PortC) : ∀ v ∈ portV x, v.oneCell' = true := by simp [Value.oneCell']
theorem old_none {D : Nat → Prop} {w : World} {α : Type} {f : α → List Value} (hf : ∀ x, (f x).length = 3) {A : Option Addr} {l : List α} (h : OldS D w A (l.flatMap f)) (hA : A.isNone = true) : l = [] := by
 cases l with
 | nil => rfl
 | cons x r =>
  have h1 := h.isA (by intro h; have := congrArg List.length h; rw [List.flatMap_cons, List.length_append, hf] at this; simp at this)
  have : A = none := by simpa using hA
  rw [this] at h1; cases h1
theorem ClnP_spec (v : Value) (l : List PortC) (hl : l.length ≤ 100000) (HA : Old D w (Rep.rep l [v])) :
  Calls Tryz.prog 103 #[v] w fun e w' => ∃ q : Option Addr × Nat, e = .returned (.slice q.1 l.length q.2) ∧ Own D w w' [row q.1 83 3 l.length q.2 (l.flatMap portV)] := by
 obtain ⟨A, cap, rfl, hc1, hc2, HS, hok⟩ := HA.openF
 have HS : OldS D w A (l.flatMap portV) := HS
 refine hc_enter (vs := [.slice A l.length cap]) Tryz.func103 rfl _ Tryz.ntmps103 rfl (Own.start D w) ?_
 simp only [argSlots, Nat.zero_add]
 refine zg <| zs rfl <| zn <| hc_seq <| zg <| zm rfl <| zv (ov_eqlN rfl rfl) <| zn <| ?_
 refine hc_cond_bool rfl (fun h => ?_) (fun h => ?_)
 ·have hnil := old_none (f := portV) (fun _ => rfl) HS h
  subst hnil
  refine zg <| zs rfl <| zn <| zq <| zr <| ?_
  exact zz rfl rfl fun w' H' => ⟨(none, 0), rfl, H'.ent (Ent.nil_row _ _)⟩
 refine zk <| zg <| hl_new (on_buildSliceN rfl rfl rfl) rfl rfl rfl fun b5 =>
  zm rfl <| ?_
 refine HL.ent (Ent.blk_row (b := b5) 3 0 rfl Z63) ?_
 refine hl_new (on_appendR (A := some ⟨b5, 0, none⟩) (news := l.flatMap portV) rfl rfl (SrcIs.old HS) (flat_len (f := portV) (sz := 3) (fun _ => rfl) l) (flat_one portV_one l) Z63 Z64) rfl rfl rfl (fun q1 => ?_)
 rw [List.nil_append, Nat.zero_add]
 refine zs rfl <| zn <| zq <| ?_
 exact zz rfl rfl fun w' H' => ⟨q1, rfl, H'.ent Z8⟩
theorem ClnV_spec (v : Value) (l : List VlanC) (hl : l.length ≤ 100000) (HA : Old D w (Rep.rep l [v])) :
  Calls Tryz.prog 104 #[v] w fun e w' => ∃ q : Option Addr × Nat, e = .returned (.slice q.1 l.length q.2) ∧ Own D w w' [row q.1 147 3 l.length q.2 (l.flatMap vlanV)] := by
 obtain ⟨A, cap, rfl, hc1, hc2, HS, hok⟩ := HA.openF
 have HS : OldS D w A (l.flatMap vlanV) := HS
 refine hc_enter (vs := [.slice A l.length cap]) Tryz.func104 rfl _ Tryz.ntmps104 rfl (Own.start D w) ?_
 simp only [argSlots, Nat.zero_add]
 refine zg <| zs rfl <| zn <| hc_seq <| zg <| zm rfl <| zv (ov_eqlN rfl rfl) <| zn <| ?_
 refine hc_cond_bool rfl (fun h => ?_) (fun h => ?_)
 ·have hnil := old_none (f := vlanV) (fun _ => rfl) HS h
  subst hnil
  refine zg <| zs rfl <| zn <| zq <| zr <| ?_
  exact zz rfl rfl fun w' H' => ⟨(none, 0), rfl, H'.ent (Ent.nil_row _ _)⟩
 refine zk <| zg <| hl_new (on_buildSliceN rfl rfl rfl) rfl rfl rfl fun b5 =>
  zm rfl <| ?_
 refine HL.ent (Ent.blk_row (b := b5) 3 0 rfl Z63) ?_
 refine hl_new (on_appendR (A := some ⟨b5, 0, none⟩) (news := l.flatMap vlanV) rfl rfl (SrcIs.old HS) (flat_len (f := vlanV) (sz := 3) (fun _ => rfl) l) (flat_one vlanV_one l) Z63 Z64) rfl rfl rfl (fun q1 => ?_)
 rw [List.nil_append, Nat.zero_add]
 refine zs rfl <| zn <| zq <| ?_
 exact zz rfl rfl fun w' H' => ⟨q1, rfl, H'.ent Z8⟩
theorem ClnS_spec (v : Value) (l : List StatC) (hl : l.length ≤ 100000) (HA : Old D w (Rep.rep l [v])) :
  Calls Tryz.prog 105 #[v] w fun e w' => ∃ q : Option Addr × Nat, e = .returned (.slice q.1 l.length q.2) ∧ Own D w w' [row q.1 149 3 l.length q.2 (l.flatMap statV)] := by
 obtain ⟨A, cap, rfl, hc1, hc2, HS, hok⟩ := HA.openF
 have HS : OldS D w A (l.flatMap statV) := HS
 refine hc_enter (vs := [.slice A l.length cap]) Tryz.func105 rfl _ Tryz.ntmps105 rfl (Own.start D w) ?_
 simp only [argSlots, Nat.zero_add]
 refine zg <| zs rfl <| zn <| hc_seq <| zg <| zm rfl <| zv (ov_eqlN rfl rfl) <| zn <| ?_
 refine hc_cond_bool rfl (fun h => ?_) (fun h => ?_)
 ·have hnil := old_none (f := statV) (fun _ => rfl) HS h
  subst hnil
  refine zg <| zs rfl <| zn <| zq <| zr <| ?_
  exact zz rfl rfl fun w' H' => ⟨(none, 0), rfl, H'.ent (Ent.nil_row _ _)⟩
 refine zk <| zg <| hl_new (on_buildSliceN rfl rfl rfl) rfl rfl rfl fun b5 =>
  zm rfl <| ?_
 refine HL.ent (Ent.blk_row (b := b5) 3 0 rfl Z63) ?_
 refine hl_new (on_appendR (A := some ⟨b5, 0, none⟩) (news := l.flatMap statV) rfl rfl (SrcIs.old HS) (flat_len (f := statV) (sz := 3) (fun _ => rfl) l) (flat_one statV_one l) Z63 Z64) rfl rfl rfl (fun q1 => ?_)
 rw [List.nil_append, Nat.zero_add]
 refine zs rfl <| zn <| zq <| ?_
 exact zz rfl rfl fun w' H' => ⟨q1, rfl, H'.ent Z8⟩
theorem Copy_spec (c : ConfC) (vp vv vs : Value) (HC0 : ConfOld D w c vp vv vs) :
  Calls Tryz.prog 65 #[.agg (cfgV c vp vv vs).toArray] w fun e w' => ∃ q : Three, e = .returned (.agg (cfgA c q).toArray) ∧ Own D w w' (cfgR c q) := by
 have h1p : ∃ A n cap, vp = .slice A n cap := by obtain ⟨A, cap, rfl, _⟩ := HC0.p.openF; exact ⟨_, _, _, rfl⟩
 have h1v : ∃ A n cap, vv = .slice A n cap := by obtain ⟨A, cap, rfl, _⟩ := HC0.v.openF; exact ⟨_, _, _, rfl⟩
 have h1s : ∃ A n cap, vs = .slice A n cap := by obtain ⟨A, cap, rfl, _⟩ := HC0.s.openF; exact ⟨_, _, _, rfl⟩
 refine hc_enter (vs := [.agg (cfgV c vp vv vs).toArray]) Tryz.func65 rfl _ Tryz.ntmps65 rfl (Own.start D w) ?_
 simp only [argSlots, Nat.zero_add]
 refine zg <| hl_new (on_boxN rfl rfl) rfl rfl rfl fun b1 =>  ?_
 refine hl_new (on_alloc) rfl rfl rfl fun b2 => 
  zn <| hc_seq <| ?_
 refine hc_cutK0 (σ := Three) [1, 2] rfl  (fun q => [blk b1 49 (cfgA c q), blk b2 49 [.int .i64 0, .int .i64 0, .int .i64 0, .slice none 0 0, .slice none 0 0, .slice none 0 0]] ++ cfgR c q) (fun K1 hK1 => ?_) (fun q => ?_)
 ·refine hc_any [] mixed 15 rfl ?_
  refine ha_v 0 rfl (ov_fieldA rfl) rfl <| ha_v 3 rfl (ov_fieldA rfl) rfl <| ha_v 6 rfl (ov_fieldA rfl) rfl <| ha_three 1 4 7 Z61 ?_ ?_ ?_
  ·skip
   refine ho_v rfl (zw rfl rfl) rfl <| ha_three 2 4 7 Z61 ?_ ?_ ?_
   ·skip
    refine ho_kx (σ := Option Addr × Nat) rfl Tryz.call103 rfl (fun w1 => zu fun D' hold _ _ => ClnP_spec D' w1 vp c.2.2.2.1 Z50 (hold _ HC0.p)) ?_
    intro q1
    try rw [List.nil_append]
    refine ha_two 4 7 Z61 ?_ ?_
    ·skip
     refine ho_v rfl (zw rfl rfl) rfl <| ha_two 5 7 Z61 ?_ ?_
     ·skip
      refine ho_kx (σ := Option Addr × Nat) rfl Tryz.call104 rfl (fun w1 => zu fun D' hold _ _ => ClnV_spec D' w1 vv c.2.2.2.2.1 Z51 (hold _ HC0.v)) ?_
      intro q2
      try rw [List.nil_append]
      refine ha_one 7 Z61 <| ho_v rfl (zw rfl rfl) rfl <| ha_v 9 rfl (ov_fieldA rfl) rfl <| ha_one 8 Z61 <| ho_kx (σ := Option Addr × Nat) rfl Tryz.call105 rfl (fun w1 => zu fun D' hold _ _ => ClnS_spec D' w1 vs c.2.2.2.2.2 Z52 (hold _ HC0.s)) ?_
      intro q3
      try rw [List.nil_append]
      refine ha_one 10 Z61 <| ho_w0 rfl (on_storeE (cfgV c (.slice q1.1 c.2.2.2.1.length q1.2) vv vs) rfl rfl (by simp) rfl rfl) rfl ?_
      refine ha_v 11 rfl (ov_fieldA rfl) rfl <| ha_one 12 Z61 <| ho_w0 rfl (on_storeE (cfgV c (.slice q1.1 c.2.2.2.1.length q1.2) (.slice q2.1 c.2.2.2.2.1.length q2.2) vs) rfl rfl (by simp) rfl rfl) rfl ?_
      refine ha_v 13 rfl (ov_fieldA rfl) rfl <| ha_one 14 Z61 <| ho_w0 rfl (on_storeE (cfgA c (q1, q2, q3)) rfl rfl (by simp) rfl rfl) rfl ?_
      refine ha_done Z61 <| ?_
      refine hx_cut hK1 ((q1, q2, q3)) Z16 Z10
     skip
     refine ho_v rfl (zw rfl rfl) rfl <| ha_v 9 rfl (ov_fieldA rfl) rfl <| ha_one 5 Z61 <| ho_kx (σ := Option Addr × Nat) rfl Tryz.call104 rfl (fun w1 => zu fun D' hold _ _ => ClnV_spec D' w1 vv c.2.2.2.2.1 Z51 (hold _ HC0.v)) ?_
     intro q2
     try rw [List.nil_append]
     refine ha_one 8 Z61 <| ho_kx (σ := Option Addr × Nat) rfl Tryz.call105 rfl (fun w1 => zu fun D' hold _ _ => ClnS_spec D' w1 vs c.2.2.2.2.2 Z52 (hold _ HC0.s)) ?_
     intro q3
     try rw [List.nil_append]
     refine ha_one 10 Z61 <| ho_w0 rfl (on_storeE (cfgV c (.slice q1.1 c.2.2.2.1.length q1.2) vv vs) rfl rfl (by simp) rfl rfl) rfl ?_
     refine ha_v 11 rfl (ov_fieldA rfl) rfl <| ha_one 12 Z61 <| ho_w0 rfl (on_storeE (cfgV c (.slice q1.1 c.2.2.2.1.length q1.2) (.slice q2.1 c.2.2.2.2.1.length q2.2) vs) rfl rfl (by simp) rfl rfl) rfl ?_
     refine ha_v 13 rfl (ov_fieldA rfl) rfl <| ha_one 14 Z61 <| ho_w0 rfl (on_storeE (cfgA c (q1, q2, q3)) rfl rfl (by simp) rfl rfl) rfl ?_
     refine ha_done Z61 <| ?_
     refine hx_cut hK1 ((q1, q2, q3)) Z16 Z10
    skip
    refine ho_v rfl (zw rfl rfl) rfl <| ha_one 4 Z61 <| ho_v rfl (zw rfl rfl) rfl <| ha_v 9 rfl (ov_fieldA rfl) rfl <| ha_one 5 Z61 <| ho_kx (σ := Option Addr × Nat) rfl Tryz.call104 rfl (fun w1 => zu fun D' hold _ _ => ClnV_spec D' w1 vv c.2.2.2.2.1 Z51 (hold _ HC0.v)) ?_
    intro q2
    try rw [List.nil_append]
    refine ha_one 8 Z61 <| ho_kx (σ := Option Addr × Nat) rfl Tryz.call105 rfl (fun w1 => zu fun D' hold _ _ => ClnS_spec D' w1 vs c.2.2.2.2.2 Z52 (hold _ HC0.s)) ?_
    intro q3
    try rw [List.nil_append]
    refine ha_one 10 Z61 <| ho_w0 rfl (on_storeE (cfgV c (.slice q1.1 c.2.2.2.1.length q1.2) vv vs) rfl rfl (by simp) rfl rfl) rfl ?_
    refine ha_v 11 rfl (ov_fieldA rfl) rfl <| ha_one 12 Z61 <| ho_w0 rfl (on_storeE (cfgV c (.slice q1.1 c.2.2.2.1.length q1.2) (.slice q2.1 c.2.2.2.2.1.length q2.2) vs) rfl rfl (by simp) rfl rfl) rfl ?_
    refine ha_v 13 rfl (ov_fieldA rfl) rfl <| ha_one 14 Z61 <| ho_w0 rfl (on_storeE (cfgA c (q1, q2, q3)) rfl rfl (by simp) rfl rfl) rfl ?_
    refine ha_done Z61 <| ?_
    refine hx_cut hK1 ((q1, q2, q3)) Z16 Z10
   ·skip
    refine ho_v rfl (zw rfl rfl) rfl <| ha_two 2 7 Z61 ?_ ?_
    ·skip
     refine ho_kx (σ := Option Addr × Nat) rfl Tryz.call103 rfl (fun w1 => zu fun D' hold _ _ => ClnP_spec D' w1 vp c.2.2.2.1 Z50 (hold _ HC0.p)) ?_
     intro q1
     try rw [List.nil_append]
     refine ha_two 5 7 Z61 ?_ ?_
     ·skip
      refine ho_kx (σ := Option Addr × Nat) rfl Tryz.call104 rfl (fun w1 => zu fun D' hold _ _ => ClnV_spec D' w1 vv c.2.2.2.2.1 Z51 (hold _ HC0.v)) ?_
      intro q2
      try rw [List.nil_append]
      refine ha_one 7 Z61 <| ho_v rfl (zw rfl rfl) rfl <| ha_v 9 rfl (ov_fieldA rfl) rfl <| ha_one 8 Z61 <| ho_kx (σ := Option Addr × Nat) rfl Tryz.call105 rfl (fun w1 => zu fun D' hold _ _ => ClnS_spec D' w1 vs c.2.2.2.2.2 Z52 (hold _ HC0.s)) ?_
      intro q3
      try rw [List.nil_append]
      refine ha_one 10 Z61 <| ho_w0 rfl (on_storeE (cfgV c (.slice q1.1 c.2.2.2.1.length q1.2) vv vs) rfl rfl (by simp) rfl rfl) rfl ?_
      refine ha_v 11 rfl (ov_fieldA rfl) rfl <| ha_one 12 Z61 <| ho_w0 rfl (on_storeE (cfgV c (.slice q1.1 c.2.2.2.1.length q1.2) (.slice q2.1 c.2.2.2.2.1.length q2.2) vs) rfl rfl (by simp) rfl rfl) rfl ?_
      refine ha_v 13 rfl (ov_fieldA rfl) rfl <| ha_one 14 Z61 <| ho_w0 rfl (on_storeE (cfgA c (q1, q2, q3)) rfl rfl (by simp) rfl rfl) rfl ?_
      refine ha_done Z61 <| ?_
      refine hx_cut hK1 ((q1, q2, q3)) Z16 Z10
     skip
     refine ho_v rfl (zw rfl rfl) rfl <| ha_v 9 rfl (ov_fieldA rfl) rfl <| ha_one 5 Z61 <| ho_kx (σ := Option Addr × Nat) rfl Tryz.call104 rfl (fun w1 => zu fun D' hold _ _ => ClnV_spec D' w1 vv c.2.2.2.2.1 Z51 (hold _ HC0.v)) ?_
     intro q2
     try rw [List.nil_append]
     refine ha_one 8 Z61 <| ho_kx (σ := Option Addr × Nat) rfl Tryz.call105 rfl (fun w1 => zu fun D' hold _ _ => ClnS_spec D' w1 vs c.2.2.2.2.2 Z52 (hold _ HC0.s)) ?_
     intro q3
     try rw [List.nil_append]
     refine ha_one 10 Z61 <| ho_w0 rfl (on_storeE (cfgV c (.slice q1.1 c.2.2.2.1.length q1.2) vv vs) rfl rfl (by simp) rfl rfl) rfl ?_
     refine ha_v 11 rfl (ov_fieldA rfl) rfl <| ha_one 12 Z61 <| ho_w0 rfl (on_storeE (cfgV c (.slice q1.1 c.2.2.2.1.length q1.2) (.slice q2.1 c.2.2.2.2.1.length q2.2) vs) rfl rfl (by simp) rfl rfl) rfl ?_
     refine ha_v 13 rfl (ov_fieldA rfl) rfl <| ha_one 14 Z61 <| ho_w0 rfl (on_storeE (cfgA c (q1, q2, q3)) rfl rfl (by simp) rfl rfl) rfl ?_
     refine ha_done Z61 <| ?_
     refine hx_cut hK1 ((q1, q2, q3)) Z16 Z10
    skip
    refine ho_v rfl (zw rfl rfl) rfl <| ha_one 2 Z61 <| ho_kx (σ := Option Addr × Nat) rfl Tryz.call103 rfl (fun w1 => zu fun D' hold _ _ => ClnP_spec D' w1 vp c.2.2.2.1 Z50 (hold _ HC0.p)) ?_
    intro q1
    try rw [List.nil_append]
    refine ha_v 9 rfl (ov_fieldA rfl) rfl <| ha_one 5 Z61 <| ho_kx (σ := Option Addr × Nat) rfl Tryz.call104 rfl (fun w1 => zu fun D' hold _ _ => ClnV_spec D' w1 vv c.2.2.2.2.1 Z51 (hold _ HC0.v)) ?_
    intro q2
    try rw [List.nil_append]
    refine ha_one 8 Z61 <| ho_kx (σ := Option Addr × Nat) rfl Tryz.call105 rfl (fun w1 => zu fun D' hold _ _ => ClnS_spec D' w1 vs c.2.2.2.2.2 Z52 (hold _ HC0.s)) ?_
    intro q3
    try rw [List.nil_append]
    refine ha_one 10 Z61 <| ho_w0 rfl (on_storeE (cfgV c (.slice q1.1 c.2.2.2.1.length q1.2) vv vs) rfl rfl (by simp) rfl rfl) rfl ?_
    refine ha_v 11 rfl (ov_fieldA rfl) rfl <| ha_one 12 Z61 <| ho_w0 rfl (on_storeE (cfgV c (.slice q1.1 c.2.2.2.1.length q1.2) (.slice q2.1 c.2.2.2.2.1.length q2.2) vs) rfl rfl (by simp) rfl rfl) rfl ?_
    refine ha_v 13 rfl (ov_fieldA rfl) rfl <| ha_one 14 Z61 <| ho_w0 rfl (on_storeE (cfgA c (q1, q2, q3)) rfl rfl (by simp) rfl rfl) rfl ?_
    refine ha_done Z61 <| ?_
    refine hx_cut hK1 ((q1, q2, q3)) Z16 Z10
   skip
   refine ho_v rfl (zw rfl rfl) rfl <| ha_two 2 4 Z61 ?_ ?_
   ·skip
    refine ho_kx (σ := Option Addr × Nat) rfl Tryz.call103 rfl (fun w1 => zu fun D' hold _ _ => ClnP_spec D' w1 vp c.2.2.2.1 Z50 (hold _ HC0.p)) ?_
    intro q1
    try rw [List.nil_append]
    refine ha_one 4 Z61 <| ho_v rfl (zw rfl rfl) rfl <| ha_v 9 rfl (ov_fieldA rfl) rfl <| ha_one 5 Z61 <| ho_kx (σ := Option Addr × Nat) rfl Tryz.call104 rfl (fun w1 => zu fun D' hold _ _ => ClnV_spec D' w1 vv c.2.2.2.2.1 Z51 (hold _ HC0.v)) ?_
    intro q2
    try rw [List.nil_append]
    refine ha_one 8 Z61 <| ho_kx (σ := Option Addr × Nat) rfl Tryz.call105 rfl (fun w1 => zu fun D' hold _ _ => ClnS_spec D' w1 vs c.2.2.2.2.2 Z52 (hold _ HC0.s)) ?_
    intro q3
    try rw [List.nil_append]
    refine ha_one 10 Z61 <| ho_w0 rfl (on_storeE (cfgV c (.slice q1.1 c.2.2.2.1.length q1.2) vv vs) rfl rfl (by simp) rfl rfl) rfl ?_
    refine ha_v 11 rfl (ov_fieldA rfl) rfl <| ha_one 12 Z61 <| ho_w0 rfl (on_storeE (cfgV c (.slice q1.1 c.2.2.2.1.length q1.2) (.slice q2.1 c.2.2.2.2.1.length q2.2) vs) rfl rfl (by simp) rfl rfl) rfl ?_
    refine ha_v 13 rfl (ov_fieldA rfl) rfl <| ha_one 14 Z61 <| ho_w0 rfl (on_storeE (cfgA c (q1, q2, q3)) rfl rfl (by simp) rfl rfl) rfl ?_
    refine ha_done Z61 <| ?_
    refine hx_cut hK1 ((q1, q2, q3)) Z16 Z10
   skip
   refine ho_v rfl (zw rfl rfl) rfl <| ha_one 2 Z61 <| ho_kx (σ := Option Addr × Nat) rfl Tryz.call103 rfl (fun w1 => zu fun D' hold _ _ => ClnP_spec D' w1 vp c.2.2.2.1 Z50 (hold _ HC0.p)) ?_
   intro q1
   try rw [List.nil_append]
   refine ha_v 9 rfl (ov_fieldA rfl) rfl <| ha_one 5 Z61 <| ho_kx (σ := Option Addr × Nat) rfl Tryz.call104 rfl (fun w1 => zu fun D' hold _ _ => ClnV_spec D' w1 vv c.2.2.2.2.1 Z51 (hold _ HC0.v)) ?_
   intro q2
   try rw [List.nil_append]
   refine ha_one 8 Z61 <| ho_kx (σ := Option Addr × Nat) rfl Tryz.call105 rfl (fun w1 => zu fun D' hold _ _ => ClnS_spec D' w1 vs c.2.2.2.2.2 Z52 (hold _ HC0.s)) ?_
   intro q3
   try rw [List.nil_append]
   refine ha_one 10 Z61 <| ho_w0 rfl (on_storeE (cfgV c (.slice q1.1 c.2.2.2.1.length q1.2) vv vs) rfl rfl (by simp) rfl rfl) rfl ?_
   refine ha_v 11 rfl (ov_fieldA rfl) rfl <| ha_one 12 Z61 <| ho_w0 rfl (on_storeE (cfgV c (.slice q1.1 c.2.2.2.1.length q1.2) (.slice q2.1 c.2.2.2.2.1.length q2.2) vs) rfl rfl (by simp) rfl rfl) rfl ?_
   refine ha_v 13 rfl (ov_fieldA rfl) rfl <| ha_one 14 Z61 <| ho_w0 rfl (on_storeE (cfgA c (q1, q2, q3)) rfl rfl (by simp) rfl rfl) rfl ?_
   refine ha_done Z61 <| ?_
   refine hx_cut hK1 ((q1, q2, q3)) Z16 Z10
  ·skip
   refine ho_v rfl (zw rfl rfl) rfl <| ha_two 1 7 Z61 ?_ ?_
   ·skip
    refine ho_v rfl (zw rfl rfl) rfl <| ha_two 2 7 Z61 ?_ ?_
    ·skip
     refine ho_kx (σ := Option Addr × Nat) rfl Tryz.call103 rfl (fun w1 => zu fun D' hold _ _ => ClnP_spec D' w1 vp c.2.2.2.1 Z50 (hold _ HC0.p)) ?_
     intro q1
     try rw [List.nil_append]
     refine ha_two 5 7 Z61 ?_ ?_
     ·skip
      refine ho_kx (σ := Option Addr × Nat) rfl Tryz.call104 rfl (fun w1 => zu fun D' hold _ _ => ClnV_spec D' w1 vv c.2.2.2.2.1 Z51 (hold _ HC0.v)) ?_
      intro q2
      try rw [List.nil_append]
      refine ha_one 7 Z61 <| ho_v rfl (zw rfl rfl) rfl <| ha_v 9 rfl (ov_fieldA rfl) rfl <| ha_one 8 Z61 <| ho_kx (σ := Option Addr × Nat) rfl Tryz.call105 rfl (fun w1 => zu fun D' hold _ _ => ClnS_spec D' w1 vs c.2.2.2.2.2 Z52 (hold _ HC0.s)) ?_
      intro q3
      try rw [List.nil_append]
      refine ha_one 10 Z61 <| ho_w0 rfl (on_storeE (cfgV c (.slice q1.1 c.2.2.2.1.length q1.2) vv vs) rfl rfl (by simp) rfl rfl) rfl ?_
      refine ha_v 11 rfl (ov_fieldA rfl) rfl <| ha_one 12 Z61 <| ho_w0 rfl (on_storeE (cfgV c (.slice q1.1 c.2.2.2.1.length q1.2) (.slice q2.1 c.2.2.2.2.1.length q2.2) vs) rfl rfl (by simp) rfl rfl) rfl ?_
      refine ha_v 13 rfl (ov_fieldA rfl) rfl <| ha_one 14 Z61 <| ho_w0 rfl (on_storeE (cfgA c (q1, q2, q3)) rfl rfl (by simp) rfl rfl) rfl ?_
      refine ha_done Z61 <| ?_
      refine hx_cut hK1 ((q1, q2, q3)) Z16 Z10
     skip
     refine ho_v rfl (zw rfl rfl) rfl <| ha_v 9 rfl (ov_fieldA rfl) rfl <| ha_one 5 Z61 <| ho_kx (σ := Option Addr × Nat) rfl Tryz.call104 rfl (fun w1 => zu fun D' hold _ _ => ClnV_spec D' w1 vv c.2.2.2.2.1 Z51 (hold _ HC0.v)) ?_
     intro q2
     try rw [List.nil_append]
     refine ha_one 8 Z61 <| ho_kx (σ := Option Addr × Nat) rfl Tryz.call105 rfl (fun w1 => zu fun D' hold _ _ => ClnS_spec D' w1 vs c.2.2.2.2.2 Z52 (hold _ HC0.s)) ?_
     intro q3
     try rw [List.nil_append]
     refine ha_one 10 Z61 <| ho_w0 rfl (on_storeE (cfgV c (.slice q1.1 c.2.2.2.1.length q1.2) vv vs) rfl rfl (by simp) rfl rfl) rfl ?_
     refine ha_v 11 rfl (ov_fieldA rfl) rfl <| ha_one 12 Z61 <| ho_w0 rfl (on_storeE (cfgV c (.slice q1.1 c.2.2.2.1.length q1.2) (.slice q2.1 c.2.2.2.2.1.length q2.2) vs) rfl rfl (by simp) rfl rfl) rfl ?_
     refine ha_v 13 rfl (ov_fieldA rfl) rfl <| ha_one 14 Z61 <| ho_w0 rfl (on_storeE (cfgA c (q1, q2, q3)) rfl rfl (by simp) rfl rfl) rfl ?_
     refine ha_done Z61 <| ?_
     refine hx_cut hK1 ((q1, q2, q3)) Z16 Z10
    skip
    refine ho_v rfl (zw rfl rfl) rfl <| ha_one 2 Z61 <| ho_kx (σ := Option Addr × Nat) rfl Tryz.call103 rfl (fun w1 => zu fun D' hold _ _ => ClnP_spec D' w1 vp c.2.2.2.1 Z50 (hold _ HC0.p)) ?_
    intro q1
    try rw [List.nil_append]
    refine ha_v 9 rfl (ov_fieldA rfl) rfl <| ha_one 5 Z61 <| ho_kx (σ := Option Addr × Nat) rfl Tryz.call104 rfl (fun w1 => zu fun D' hold _ _ => ClnV_spec D' w1 vv c.2.2.2.2.1 Z51 (hold _ HC0.v)) ?_
    intro q2
    try rw [List.nil_append]
    refine ha_one 8 Z61 <| ho_kx (σ := Option Addr × Nat) rfl Tryz.call105 rfl (fun w1 => zu fun D' hold _ _ => ClnS_spec D' w1 vs c.2.2.2.2.2 Z52 (hold _ HC0.s)) ?_
    intro q3
    try rw [List.nil_append]
    refine ha_one 10 Z61 <| ho_w0 rfl (on_storeE (cfgV c (.slice q1.1 c.2.2.2.1.length q1.2) vv vs) rfl rfl (by simp) rfl rfl) rfl ?_
    refine ha_v 11 rfl (ov_fieldA rfl) rfl <| ha_one 12 Z61 <| ho_w0 rfl (on_storeE (cfgV c (.slice q1.1 c.2.2.2.1.length q1.2) (.slice q2.1 c.2.2.2.2.1.length q2.2) vs) rfl rfl (by simp) rfl rfl) rfl ?_
    refine ha_v 13 rfl (ov_fieldA rfl) rfl <| ha_one 14 Z61 <| ho_w0 rfl (on_storeE (cfgA c (q1, q2, q3)) rfl rfl (by simp) rfl rfl) rfl ?_
    refine ha_done Z61 <| ?_
    refine hx_cut hK1 ((q1, q2, q3)) Z16 Z10
   skip
   refine ho_v rfl (zw rfl rfl) rfl <| ha_one 1 Z61 <| ho_v rfl (zw rfl rfl) rfl <| ha_one 2 Z61 <| ho_kx (σ := Option Addr × Nat) rfl Tryz.call103 rfl (fun w1 => zu fun D' hold _ _ => ClnP_spec D' w1 vp c.2.2.2.1 Z50 (hold _ HC0.p)) ?_
   intro q1
   try rw [List.nil_append]
   refine ha_v 9 rfl (ov_fieldA rfl) rfl <| ha_one 5 Z61 <| ho_kx (σ := Option Addr × Nat) rfl Tryz.call104 rfl (fun w1 => zu fun D' hold _ _ => ClnV_spec D' w1 vv c.2.2.2.2.1 Z51 (hold _ HC0.v)) ?_
   intro q2
   try rw [List.nil_append]
   refine ha_one 8 Z61 <| ho_kx (σ := Option Addr × Nat) rfl Tryz.call105 rfl (fun w1 => zu fun D' hold _ _ => ClnS_spec D' w1 vs c.2.2.2.2.2 Z52 (hold _ HC0.s)) ?_
   intro q3
   try rw [List.nil_append]
   refine ha_one 10 Z61 <| ho_w0 rfl (on_storeE (cfgV c (.slice q1.1 c.2.2.2.1.length q1.2) vv vs) rfl rfl (by simp) rfl rfl) rfl ?_
   refine ha_v 11 rfl (ov_fieldA rfl) rfl <| ha_one 12 Z61 <| ho_w0 rfl (on_storeE (cfgV c (.slice q1.1 c.2.2.2.1.length q1.2) (.slice q2.1 c.2.2.2.2.1.length q2.2) vs) rfl rfl (by simp) rfl rfl) rfl ?_
   refine ha_v 13 rfl (ov_fieldA rfl) rfl <| ha_one 14 Z61 <| ho_w0 rfl (on_storeE (cfgA c (q1, q2, q3)) rfl rfl (by simp) rfl rfl) rfl ?_
   refine ha_done Z61 <| ?_
   refine hx_cut hK1 ((q1, q2, q3)) Z16 Z10
  skip
  refine ho_v rfl (zw rfl rfl) rfl <| ha_two 1 4 Z61 ?_ ?_
  ·skip
   refine ho_v rfl (zw rfl rfl) rfl <| ha_two 2 4 Z61 ?_ ?_
   ·skip
    refine ho_kx (σ := Option Addr × Nat) rfl Tryz.call103 rfl (fun w1 => zu fun D' hold _ _ => ClnP_spec D' w1 vp c.2.2.2.1 Z50 (hold _ HC0.p)) ?_
    intro q1
    try rw [List.nil_append]
    refine ha_one 4 Z61 <| ho_v rfl (zw rfl rfl) rfl <| ha_v 9 rfl (ov_fieldA rfl) rfl <| ha_one 5 Z61 <| ho_kx (σ := Option Addr × Nat) rfl Tryz.call104 rfl (fun w1 => zu fun D' hold _ _ => ClnV_spec D' w1 vv c.2.2.2.2.1 Z51 (hold _ HC0.v)) ?_
    intro q2
    try rw [List.nil_append]
    refine ha_one 8 Z61 <| ho_kx (σ := Option Addr × Nat) rfl Tryz.call105 rfl (fun w1 => zu fun D' hold _ _ => ClnS_spec D' w1 vs c.2.2.2.2.2 Z52 (hold _ HC0.s)) ?_
    intro q3
    try rw [List.nil_append]
    refine ha_one 10 Z61 <| ho_w0 rfl (on_storeE (cfgV c (.slice q1.1 c.2.2.2.1.length q1.2) vv vs) rfl rfl (by simp) rfl rfl) rfl ?_
    refine ha_v 11 rfl (ov_fieldA rfl) rfl <| ha_one 12 Z61 <| ho_w0 rfl (on_storeE (cfgV c (.slice q1.1 c.2.2.2.1.length q1.2) (.slice q2.1 c.2.2.2.2.1.length q2.2) vs) rfl rfl (by simp) rfl rfl) rfl ?_
    refine ha_v 13 rfl (ov_fieldA rfl) rfl <| ha_one 14 Z61 <| ho_w0 rfl (on_storeE (cfgA c (q1, q2, q3)) rfl rfl (by simp) rfl rfl) rfl ?_
    refine ha_done Z61 <| ?_
    refine hx_cut hK1 ((q1, q2, q3)) Z16 Z10
   skip
   refine ho_v rfl (zw rfl rfl) rfl <| ha_one 2 Z61 <| ho_kx (σ := Option Addr × Nat) rfl Tryz.call103 rfl (fun w1 => zu fun D' hold _ _ => ClnP_spec D' w1 vp c.2.2.2.1 Z50 (hold _ HC0.p)) ?_
   intro q1
   try rw [List.nil_append]
   refine ha_v 9 rfl (ov_fieldA rfl) rfl <| ha_one 5 Z61 <| ho_kx (σ := Option Addr × Nat) rfl Tryz.call104 rfl (fun w1 => zu fun D' hold _ _ => ClnV_spec D' w1 vv c.2.2.2.2.1 Z51 (hold _ HC0.v)) ?_
   intro q2
   try rw [List.nil_append]
   refine ha_one 8 Z61 <| ho_kx (σ := Option Addr × Nat) rfl Tryz.call105 rfl (fun w1 => zu fun D' hold _ _ => ClnS_spec D' w1 vs c.2.2.2.2.2 Z52 (hold _ HC0.s)) ?_
   intro q3
   try rw [List.nil_append]
   refine ha_one 10 Z61 <| ho_w0 rfl (on_storeE (cfgV c (.slice q1.1 c.2.2.2.1.length q1.2) vv vs) rfl rfl (by simp) rfl rfl) rfl ?_
   refine ha_v 11 rfl (ov_fieldA rfl) rfl <| ha_one 12 Z61 <| ho_w0 rfl (on_storeE (cfgV c (.slice q1.1 c.2.2.2.1.length q1.2) (.slice q2.1 c.2.2.2.2.1.length q2.2) vs) rfl rfl (by simp) rfl rfl) rfl ?_
   refine ha_v 13 rfl (ov_fieldA rfl) rfl <| ha_one 14 Z61 <| ho_w0 rfl (on_storeE (cfgA c (q1, q2, q3)) rfl rfl (by simp) rfl rfl) rfl ?_
   refine ha_done Z61 <| ?_
   refine hx_cut hK1 ((q1, q2, q3)) Z16 Z10
  skip
  refine ho_v rfl (zw rfl rfl) rfl <| ha_one 1 Z61 <| ho_v rfl (zw rfl rfl) rfl <| ha_one 2 Z61 <| ho_kx (σ := Option Addr × Nat) rfl Tryz.call103 rfl (fun w1 => zu fun D' hold _ _ => ClnP_spec D' w1 vp c.2.2.2.1 Z50 (hold _ HC0.p)) ?_
  intro q1
  try rw [List.nil_append]
  refine ha_v 9 rfl (ov_fieldA rfl) rfl <| ha_one 5 Z61 <| ho_kx (σ := Option Addr × Nat) rfl Tryz.call104 rfl (fun w1 => zu fun D' hold _ _ => ClnV_spec D' w1 vv c.2.2.2.2.1 Z51 (hold _ HC0.v)) ?_
  intro q2
  try rw [List.nil_append]
  refine ha_one 8 Z61 <| ho_kx (σ := Option Addr × Nat) rfl Tryz.call105 rfl (fun w1 => zu fun D' hold _ _ => ClnS_spec D' w1 vs c.2.2.2.2.2 Z52 (hold _ HC0.s)) ?_
  intro q3
  try rw [List.nil_append]
  refine ha_one 10 Z61 <| ho_w0 rfl (on_storeE (cfgV c (.slice q1.1 c.2.2.2.1.length q1.2) vv vs) rfl rfl (by simp) rfl rfl) rfl ?_
  refine ha_v 11 rfl (ov_fieldA rfl) rfl <| ha_one 12 Z61 <| ho_w0 rfl (on_storeE (cfgV c (.slice q1.1 c.2.2.2.1.length q1.2) (.slice q2.1 c.2.2.2.2.1.length q2.2) vs) rfl rfl (by simp) rfl rfl) rfl ?_
  refine ha_v 13 rfl (ov_fieldA rfl) rfl <| ha_one 14 Z61 <| ho_w0 rfl (on_storeE (cfgA c (q1, q2, q3)) rfl rfl (by simp) rfl rfl) rfl ?_
  refine ha_done Z61 <| ?_
  refine hx_cut hK1 ((q1, q2, q3)) Z16 Z10
 refine zt <| zg <| zv Z17 <| ?_
 refine hl_u0 (on_storeGN rfl rfl rfl rfl rfl rfl) rfl rfl <| zn <| zq <| ?_
 exact results_c (.inr rfl) rfl rfl (by simp) fun w' H' => ⟨q, rfl, H'.ent Z8⟩
end Go.Proofs.YtjlolpmmpafjeaaGreat
