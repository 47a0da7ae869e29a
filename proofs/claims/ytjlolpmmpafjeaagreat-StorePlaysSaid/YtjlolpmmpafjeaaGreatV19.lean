import Derived.Test.YtjlolpmmpafjeaaGreatV18
set_option linter.unusedVariables false
set_option linter.unusedSimpArgs false
namespace Go.Proofs.YtjlolpmmpafjeaaGreat
open Slk
section
variable {α : Type} {lt : α → α → Bool}
def eqK (lt : α → α → Bool) (x y : α) : Bool := !lt y x && !lt x y
def putI (lt : α → α → Bool) (x : α) (d : Bool) (l : List α) (i : Nat) : Bool := d || (l.take i).any (fun y => !lt y x)
def outI (lt : α → α → Bool) (x : α) (d : Bool) (l : List α) (i : Nat) : List α :=
 if d then delL lt x (l.take i) else (l.take i).filter (fun y => lt y x) ++ (if (l.take i).any (fun y => !lt y x) then [x] else []) ++ (l.take i).filter (fun y => lt x y)
def hasI (lt : α → α → Bool) (x : α) (l : List α) (i : Nat) : Bool := hasL lt x (l.take i)
theorem putI_step {x : α} {d : Bool} {l : List α} {i : Nat} (hi : i < l.length) : putI lt x d l (i + 1) = (putI lt x d l i || !lt l[i] x) := by
 unfold putI
 rw [List.take_succ_eq_append_getElem hi, List.any_append]
 simp [Bool.or_assoc]
theorem hasI_step {x : α} {l : List α} {i : Nat} (hi : i < l.length) : hasI lt x l (i + 1) = (hasI lt x l i || eqK lt x l[i]) := by
 unfold hasI hasL eqK
 rw [List.take_succ_eq_append_getElem hi, List.any_append]
 simp
theorem outI_step (o : Ord lt) {x : α} {d : Bool} {l : List α} (hs : Asc lt l) {i : Nat} (hi : i < l.length) :
  outI lt x d l (i + 1) = outI lt x d l i ++ (if putI lt x d l i = false ∧ lt l[i] x = false then [x] else []) ++ (if eqK lt x l[i] = false then [l[i]] else []) := by
 have hpre : ∀ y ∈ l.take i, lt y l[i] = true := fun y hy => by
  obtain ⟨j, hj, rfl⟩ := List.getElem_of_mem hy
  rw [List.getElem_take]
  rw [List.length_take] at hj
  exact hs.get j i Z64 hi Z64
 cases d with
 | true =>
  unfold outI putI delL eqK
  simp only [if_true, Bool.true_or, Bool.true_eq_false, false_and, if_false, List.append_nil]
  rw [List.take_succ_eq_append_getElem hi, List.filter_append]
  congr 1
  cases h1 : lt l[i] x <;> cases h2 : lt x l[i] <;> simp [h1, h2]
 | false =>
  unfold outI putI eqK
  simp only [Bool.false_eq_true, if_false, Bool.false_or]
  rw [List.take_succ_eq_append_getElem hi, List.filter_append, List.filter_append, List.any_append]
  cases h1 : lt l[i] x with
  | true =>
   have h2 : lt x l[i] = false := asy o h1
   have hall : ∀ y ∈ l.take i, lt y x = true := fun y hy => o.tr _ _ _ (hpre y hy) h1
   have hany : (l.take i).any (fun y => !lt y x) = false := by
    rw [List.any_eq_false]; intro y hy; rw [hall y hy]; decide
   have hno : (l.take i).filter (fun y => lt x y) = [] := filter_none fun y hy => asy o (hall y hy)
   simp [h1, h2, hany, hno]
  | false =>
   cases h2 : lt x l[i] with
   | true =>
    cases hany : (l.take i).any (fun y => !lt y x) with
    | true => simp [h1, h2]
    | false =>
     have hall : ∀ y ∈ l.take i, lt y x = true := fun y hy => by
      have := List.any_eq_false.1 hany y hy
      simpa using this
     have hno : (l.take i).filter (fun y => lt x y) = [] := filter_none fun y hy => asy o (hall y hy)
     simp [h1, h2, hno]
   | false =>
    have hall : ∀ y ∈ l.take i, lt y x = true := fun y hy => by
     rcases o.ne _ x _ (hpre y hy) with h | h
     ·exact h
     ·rw [h2] at h; cases h
    have hany : (l.take i).any (fun y => !lt y x) = false := by
     rw [List.any_eq_false]; intro y hy; rw [hall y hy]; decide
    have hno : (l.take i).filter (fun y => lt x y) = [] := filter_none fun y hy => asy o (hall y hy)
    simp [h1, h2, hany, hno]
theorem outI_end (o : Ord lt) {x : α} {l : List α} : outI lt x false l l.length ++ (if putI lt x false l l.length = false then [x] else []) = setL lt x l := by
 unfold outI putI setL
 rw [List.take_length]
 simp only [Bool.false_eq_true, if_false, Bool.false_or]
 cases hany : l.any (fun y => !lt y x) with
 | true => simp
 | false =>
  have hall : ∀ y ∈ l, lt y x = true := fun y hy => by
   have := List.any_eq_false.1 hany y hy
   simpa using this
  have hno : l.filter (fun y => lt x y) = [] := filter_none fun y hy => asy o (hall y hy)
  simp [hno]
theorem outI_del {x : α} {l : List α} : outI lt x true l l.length = delL lt x l := by
 unfold outI
 rw [List.take_length]; rfl
theorem outI_len {x : α} {d : Bool} {l : List α} (o : Ord lt) (i : Nat) : (outI lt x d l i).length ≤ l.length + 1 := by
 have h0 : (l.take i).length ≤ l.length := by rw [List.length_take]; omega
 unfold outI
 split
 ·have := List.length_filter_le (fun y => lt y x || lt x y) (l.take i)
  unfold delL; omega
 have h := set_len o (l := l.take i) (x := x)
 unfold setL at h
 simp only [List.length_append, List.length_singleton] at h ⊢
 split <;> simp <;> omega
end
theorem capS {n : Nat} (h : n ≤ 4000) : n * 24 ≤ 140737488355328 := by omega
theorem eqS_iff {x y : StatC} : eqK ltS x y = true ↔ y.1 = x.1 ∧ y.2.1 = x.2.1 := by
 unfold eqK ltS
 rw [Bool.and_eq_true, Bool.not_eq_true', Bool.not_eq_true', decide_eq_false_iff_not, decide_eq_false_iff_not]
 constructor
 ·rintro ⟨h1, h2⟩
  exact ⟨UInt64.toNat_inj.1 Z64, by omega⟩
 rintro ⟨h1, h2⟩
 rw [h1]; omega
set_option maxHeartbeats 4000000 in
theorem rstatic_spec (D : Nat → Prop) (w : World) (g : Nat) (c : ConfC) (e : EditC) (k : Nat) (hk : k ≤ 40) (hm : Mid c k) (hke : e.1 = 9 ∨ e.1 = 10) (H : Own D w w [cfgO g c]) :
  Calls Tryz.prog 109 #[.pointer (some ⟨g, 0, none⟩), .agg (editV e).toArray] w fun r w' => r = .returned (.int .i64 (oneC c e).2) ∧ Own D w w' [cfgO g (oneC c e).1] := by
 have hls := hm.ls
 have has := hm.bs
 obtain ⟨q, H⟩ := Own.exs H
 obtain ⟨del, hdel⟩ : ∃ b : Bool, b = decide (e.1 = 10) := ⟨_, rfl⟩
 obtain ⟨x, hx⟩ : ∃ x : StatC, x = (e.2.2.2.2.2.2, e.2.2.2.1, e.2.1) := ⟨_, rfl⟩
 have hx1 : x.1 = e.2.2.2.2.2.2 := by rw [hx]
 have hx2 : x.2.1 = e.2.2.2.1 := by rw [hx]
 have hx3 : statV x = [.int .u64 e.2.2.2.2.2.2.toNat, .int .i64 e.2.2.2.1, .int .i64 e.2.1] := by rw [hx]
 have holen := fun i => outI_len (x := x) (d := del) (l := c.2.2.2.2.2) ordS i
 have hdelc : e.1 = 10 → del = true ∧ True := fun h => ⟨by rw [hdel, h]; rfl, trivial⟩
 refine hc_enter (vs := [.pointer (some ⟨g, 0, none⟩), .agg (editV e).toArray]) Tryz.func109 rfl _ Tryz.ntmps109 rfl H ?_
 simp only [argSlots, Nat.zero_add]
 refine HC.ent (l' := cfgQ g c q) (fun _ h => h) ?_
 refine zg <| hl_new (on_boxN rfl rfl) rfl rfl rfl fun b3 =>  ?_
 refine zs rfl <| zn <| zg <| zf rfl <| ?_
 refine zl rfl rfl <| zf rfl <| zl rfl rfl <| zf rfl <| zl rfl rfl <| zv (ov_buildSN rfl rfl) <| ?_
 refine hl_new (on_alloc) rfl rfl rfl fun b5 =>  ?_
 refine hl_u0 (on_storeW (vs := statV x) rfl (by rw [hx3]; rfl) rfl (by simp) (statV_one x)) rfl rfl ?_
 refine zn <| zg <| zs rfl <| hl_nil <| zt <| hc_seq <| hc_quiet mixed Z61 <| hq_v (ov_fieldA rfl) rfl <| hq_v (zw rfl rfl) rfl <| hq_v (ov_eql rfl rfl) rfl <| ?_
 refine hq_v (ov_assign rfl) rfl <| hq_v (ov_assign rfl) rfl <| hq_nil <| zt <| hc_seq <| hc_seq <| ?_
 refine hc_region <| zs rfl <| zn <| hc_block <| ?_
 rw [← hdel]
 refine hc_loopK4 (σ := Nat × List StatC × Bool × Bool × Option Addr × Nat) [0, 3, 5] rfl 9 (fun s => .int .i64 (s.1 : Int)) 6 (fun s => .slice s.2.2.2.2.1 s.2.1.length s.2.2.2.2.2) 7 (fun s => .bool s.2.2.1) 8 (fun s => .bool s.2.2.2.1) (fun s => [row s.2.2.2.2.1 149 3 s.2.1.length s.2.2.2.2.2 (s.2.1.flatMap statV), blk b5 149 (statV x), blk b3 81 (editV e), blk g 49 (cfgA c q), row q.1.1 83 3 c.2.2.2.1.length q.1.2 (c.2.2.2.1.flatMap portV), row q.2.1.1 147 3 c.2.2.2.2.1.length q.2.1.2 (c.2.2.2.2.1.flatMap vlanV), row q.2.2.1 149 3 c.2.2.2.2.2.length q.2.2.2 (c.2.2.2.2.2.flatMap statV)]) (fun s => s.1 ≤ c.2.2.2.2.2.length ∧ s.2.1 = outI ltS x del c.2.2.2.2.2 s.1 ∧ s.2.2.1 = hasI ltS x c.2.2.2.2.2 s.1 ∧ s.2.2.2.1 = putI ltS x del c.2.2.2.2.2 s.1) (fun s => c.2.2.2.2.2.length - s.1) ((0, [], false, del, none, 0)) (⟨Nat.zero_le _, by cases del <;> rfl, rfl, by cases del <;> rfl⟩) rfl rfl rfl rfl (Ent.trans (Ent.nil_row 149 3) Z8) ?_
 rintro ⟨i, O, th, pu, q2⟩ hj_ K1 hK1
 dsimp only at hj_ ⊢
 obtain ⟨hi, hO, hth, hpu⟩ := hj_
 refine hc_seq <| zg <| zm rfl <| zm rfl <| zv (ov_nil rfl) <| zf rfl <| zl rfl rfl <| zv Z25 <| ?_
 refine zv (ov_lss rfl rfl) <| zn <| hc_cond rfl (fun h => ?_) (fun h => ?_)
 ·have hlt : i < c.2.2.2.2.2.length := by omega
  refine HC.fact (fun w H => Own.factR q.2.2.1 H) ?_
  rintro ⟨hSl, _, _, hA⟩
  have hA : isA q.2.2.1 := hA (by intro h; have := congrArg List.length h; rw [hSl] at this; simp only [List.length_nil] at this; omega)
  obtain ⟨y, hy⟩ : ∃ y, c.2.2.2.2.2[i] = y := ⟨_, rfl⟩
  have hme : c.2.2.2.2.2.length - (i + 1) < c.2.2.2.2.2.length - i := by omega
  have hst := outI_step ordS (x := x) (d := del) has hlt
  have hps := putI_step (lt := ltS) (x := x) (d := del) hlt
  have hhs := hasI_step (lt := ltS) (x := x) hlt
  rw [hy] at hst hps hhs
  rw [← hO] at hst
  rw [← hpu] at hst hps
  rw [← hth] at hhs
  have hol := holen i
  rw [← hO] at hol
  have hoz : (O.length + 1) * 24 ≤ 140737488355328 := capS Z64
  have hoz1 : (O.length + 1 + 1) * 24 ≤ 140737488355328 := capS Z64
  refine zk <| hc_seq <| hc_block <| zg <| zm rfl <| zv (ov_nil rfl) <| zf rfl <| zl rfl rfl <| zm rfl <| zv (ov_idxS rfl Z62 rfl _ rfl Z64) <| ?_
  refine hl_v (ov_loadG (cs := statV y) rfl rfl (by rw [← hy]; exact CellsAre.flat (f := statV) (sz := 3) (fun _ => rfl) (A := q.2.2.1) hA hlt)) rfl ?_
  refine hl_new (on_alloc) rfl rfl rfl fun b10 =>  ?_
  refine hl_u0 (on_storeW (vs := statV y) rfl rfl (by simp) (by simp) (statV_one y)) rfl rfl ?_
  have heq := eqS_iff (x := x) (y := y)
  refine zn <| hc_seq <| hc_cuts1 (σ := Unit) [0, 3, 5, 6, 7, 8, 9, 10] rfl 11 (fun _u => .bool (eqK ltS x y)) (fun K2 hK2 => ?_) (fun _u => ?_)
  ·refine hc_region <| zf rfl <| zl rfl rfl <| zf rfl <| zl rfl rfl <| zv (ov_eql rfl rfl) <| ?_
   refine zm rfl <| hl_part (t := 43) rfl (fun p1 => ?_) (fun p1 => ?_)
   ·have p1' : y.1 = x.1 := UInt64.toNat_inj.1 Z64
    have hb : eqK ltS x y = decide (y.2.1 = x.2.1) := by rw [Bool.eq_iff_iff, heq, decide_eq_true_iff]; exact ⟨fun h => h.2, fun h => ⟨p1', h⟩⟩
    rw [hb] at hK2
    refine hl_on rfl rfl <| zf rfl <| hl_on rfl rfl <| zl rfl rfl <| hl_on rfl rfl <| zf rfl <| hl_on rfl rfl <| zl rfl rfl <| hl_on rfl rfl <| zv (ov_eql rfl rfl) <| zv (ov_pickT rfl rfl) <| ?_
    refine zs rfl <| hl_nil <| hx_cut hK2 (()) Z16 Z10
   have hb : eqK ltS x y = false := by
    cases hc : eqK ltS x y with
    | false => rfl
    | true => exact absurd (by rw [(heq.1 hc).1]) p1
   rw [hb] at hK2
   refine zo rfl rfl <| zo rfl rfl <| zo rfl rfl <| zo rfl rfl <| zo rfl rfl <| zv (ov_pickF rfl rfl) <| zs rfl <| hl_nil <| hx_cut hK2 (()) Z16 Z10
  refine zt <| hc_seq <| hc_cuts1 (σ := Unit) [0, 3, 5, 6, 8, 9, 10, 11] rfl 7 (fun _u => .bool (hasI ltS x c.2.2.2.2.2 (i + 1))) (fun K3 hK3 => ?_) (fun _u => ?_)
  ·refine hc_region <| zm rfl <| zm rfl <| hl_partb (t := 51) rfl (fun z1 => ?_) (fun z1 => ?_)
   ·have hb : hasI ltS x c.2.2.2.2.2 (i + 1) = true := by rw [hhs, z1]; rfl
    rw [hb] at hK3
    refine zo rfl rfl <| zv (ov_pickT rfl rfl) <| zs rfl <| hl_nil <| hx_cut hK3 (()) Z16 Z10
   have hb : hasI ltS x c.2.2.2.2.2 (i + 1) = eqK ltS x y := by rw [hhs, z1]; rfl
   rw [hb] at hK3
   refine hl_on rfl rfl <| zm rfl <| zv (ov_pickF rfl rfl) <| zs rfl <| hl_nil <| hx_cut hK3 (()) Z16 Z10
  refine zt <| hc_seq <| zg <| zm rfl <| zv Z26 <| ?_
  refine zm rfl <| hl_partb (t := 56) rfl (fun g1 => ?_) (fun g1 => ?_)
  ·have hpf : pu = false := by simpa using g1
   refine hl_on rfl rfl <| zv Z17 <| ?_
   refine hl_on rfl rfl <| zv Z17 <| ?_
   refine hl_on rfl rfl <| hl_call (σ := BIff (byPl y x < 0)) Tryz.call108 rfl rfl (fun w1 => zu fun D' _ _ _ => less_spec D' w1 y x) ?_
   intro r
   try rw [List.nil_append]
   have hr : r.1 = true ↔ ltS y x = true := r.2.trans byPl_lt
   refine hl_on rfl rfl <| zv Z26 <| ?_
   refine zv (ov_pickT rfl rfl) <| zn <| hc_cond_bool rfl (fun g2 => ?_) (fun g2 => ?_)
   ·have hyx : ltS y x = false := by
     cases hc : ltS y x with
     | false => rfl
     | true => rw [hr.2 hc] at g2; cases g2
    have hput1 : true = putI ltS x del c.2.2.2.2.2 (i + 1) := by rw [hps, hyx]; simp
    refine hc_region <| zm rfl <| zv Z17 <| ?_
    refine hl_new (on_buildSlice (res := statV x) rfl rfl Z61) rfl rfl rfl (fun b64 => ?_)
    refine hl_new (on_appendR (A := q2.1) (news := statV x) rfl rfl (SrcIs.blk (b := b64)) rfl (statV_one x) Z63 hoz) rfl rfl rfl (fun q1 => ?_)
    obtain ⟨O1, hO1⟩ : ∃ l, l = O ++ [x] := ⟨_, rfl⟩
    have hst1 : outI ltS x del c.2.2.2.2.2 (i + 1) = O1 ++ (if eqK ltS x y = false then [y] else []) := by rw [hst, if_pos ⟨hpf, hyx⟩, hO1]
    have hO1l : (O1.length + 1) * 24 ≤ 140737488355328 := by rw [hO1, List.length_append, List.length_singleton]; exact hoz1
    rw [show O.flatMap statV ++ statV x = O1.flatMap statV by rw [hO1, List.flatMap_append, List.flatMap_singleton], show O.length + 1 = O1.length by rw [hO1, List.length_append, List.length_singleton]]
    refine zs rfl <| zs rfl <| zn <| zg <| zm rfl <| zv Z26 <| ?_
    refine zn <| hc_cond_bool rfl (fun p3 => ?_) (fun p3 => ?_)
    ·have he : eqK ltS x y = false := by simpa using p3
     have hst2 : outI ltS x del c.2.2.2.2.2 (i + 1) = O1 ++ [y] := by rw [hst1, if_pos he]
     refine hc_region <| zm rfl <| zv Z17 <| ?_
     refine hl_new (on_buildSlice (res := statV y) rfl rfl Z61) rfl rfl rfl (fun b70 => ?_)
     refine hl_new (on_appendR (A := q1.1) (news := statV y) rfl rfl (SrcIs.blk (b := b70)) rfl (statV_one y) Z63 hO1l) rfl rfl rfl (fun q3 => ?_)
     obtain ⟨O2, hO2⟩ : ∃ l, l = O1 ++ [y] := ⟨_, rfl⟩
     rw [show O1.flatMap statV ++ statV y = O2.flatMap statV by rw [hO2, List.flatMap_append, List.flatMap_singleton], show O1.length + 1 = O2.length by rw [hO2, List.length_append, List.length_singleton]]
     rw [← hO2] at hst2
     refine zs rfl <| hl_nil <| zb <| zt <| hc_region <| zm rfl <| zv (ov_add rfl rfl Z28) <| ?_
     refine zs rfl <| hl_nil <| hx_next hK1 ((i + 1, O2, hasI ltS x c.2.2.2.2.2 (i + 1), true, q3)) (⟨hlt, hst2.symm, rfl, hput1⟩) (hme) Z16 Z10
    have he : eqK ltS x y = true := by simpa using p3
    have hst2 : outI ltS x del c.2.2.2.2.2 (i + 1) = O1 := by rw [hst1, if_neg Z54, List.append_nil]
    refine hc_skip <| zb <| zt <| hc_region <| zm rfl <| zv (ov_add rfl rfl Z28) <| ?_
    refine zs rfl <| hl_nil <| hx_next hK1 ((i + 1, O1, hasI ltS x c.2.2.2.2.2 (i + 1), true, q1)) (⟨hlt, hst2.symm, rfl, hput1⟩) (hme) Z16 Z10
   have hyx : ltS y x = true := hr.1 (by simpa using g2)
   have hput1 : pu = putI ltS x del c.2.2.2.2.2 (i + 1) := by rw [hps, hyx]; simp
   obtain ⟨O1, hO1⟩ : ∃ l, l = O := ⟨_, rfl⟩
   obtain ⟨q1, hq1⟩ : ∃ l, l = q2 := ⟨_, rfl⟩
   have hst1 : outI ltS x del c.2.2.2.2.2 (i + 1) = O1 ++ (if eqK ltS x y = false then [y] else []) := by rw [hst, if_neg (by rintro ⟨_, h⟩; rw [hyx] at h; cases h), hO1, List.append_nil]
   have hO1l : (O1.length + 1) * 24 ≤ 140737488355328 := by rw [hO1]; exact hoz
   rw [← hO1, ← hq1]
   refine zk <| zg <| zm rfl <| zv Z26 <| ?_
   refine zn <| hc_cond_bool rfl (fun p3 => ?_) (fun p3 => ?_)
   ·have he : eqK ltS x y = false := by simpa using p3
    have hst2 : outI ltS x del c.2.2.2.2.2 (i + 1) = O1 ++ [y] := by rw [hst1, if_pos he]
    refine hc_region <| zm rfl <| zv Z17 <| ?_
    refine hl_new (on_buildSlice (res := statV y) rfl rfl Z61) rfl rfl rfl (fun b70 => ?_)
    refine hl_new (on_appendR (A := q1.1) (news := statV y) rfl rfl (SrcIs.blk (b := b70)) rfl (statV_one y) Z63 hO1l) rfl rfl rfl (fun q3 => ?_)
    obtain ⟨O2, hO2⟩ : ∃ l, l = O1 ++ [y] := ⟨_, rfl⟩
    rw [show O1.flatMap statV ++ statV y = O2.flatMap statV by rw [hO2, List.flatMap_append, List.flatMap_singleton], show O1.length + 1 = O2.length by rw [hO2, List.length_append, List.length_singleton]]
    rw [← hO2] at hst2
    refine zs rfl <| hl_nil <| zb <| zt <| hc_region <| zm rfl <| zv (ov_add rfl rfl Z28) <| ?_
    refine zs rfl <| hl_nil <| hx_next hK1 ((i + 1, O2, hasI ltS x c.2.2.2.2.2 (i + 1), pu, q3)) (⟨hlt, hst2.symm, rfl, hput1⟩) (hme) Z16 Z10
   have he : eqK ltS x y = true := by simpa using p3
   have hst2 : outI ltS x del c.2.2.2.2.2 (i + 1) = O1 := by rw [hst1, if_neg Z54, List.append_nil]
   refine hc_skip <| zb <| zt <| hc_region <| zm rfl <| zv (ov_add rfl rfl Z28) <| ?_
   refine zs rfl <| hl_nil <| hx_next hK1 ((i + 1, O1, hasI ltS x c.2.2.2.2.2 (i + 1), pu, q1)) (⟨hlt, hst2.symm, rfl, hput1⟩) (hme) Z16 Z10
  have hpf : pu = true := by simpa using g1
  have hput1 : pu = putI ltS x del c.2.2.2.2.2 (i + 1) := by rw [hps, hpf]; rfl
  obtain ⟨O1, hO1⟩ : ∃ l, l = O := ⟨_, rfl⟩
  obtain ⟨q1, hq1⟩ : ∃ l, l = q2 := ⟨_, rfl⟩
  have hst1 : outI ltS x del c.2.2.2.2.2 (i + 1) = O1 ++ (if eqK ltS x y = false then [y] else []) := by rw [hst, if_neg (by rintro ⟨h, _⟩; rw [hpf] at h; cases h), hO1, List.append_nil]
  have hO1l : (O1.length + 1) * 24 ≤ 140737488355328 := by rw [hO1]; exact hoz
  rw [← hO1, ← hq1]
  refine zo rfl rfl <| zo rfl rfl <| zo rfl rfl <| zo rfl rfl <| zv (ov_pickF rfl rfl) <| hl_nil <| zt <| hc_cond_false rfl <| zk <| zg <| zm rfl <| zv Z26 <| ?_
  refine zn <| hc_cond_bool rfl (fun p3 => ?_) (fun p3 => ?_)
  ·have he : eqK ltS x y = false := by simpa using p3
   have hst2 : outI ltS x del c.2.2.2.2.2 (i + 1) = O1 ++ [y] := by rw [hst1, if_pos he]
   refine hc_region <| zm rfl <| zv Z17 <| ?_
   refine hl_new (on_buildSlice (res := statV y) rfl rfl Z61) rfl rfl rfl (fun b70 => ?_)
   refine hl_new (on_appendR (A := q1.1) (news := statV y) rfl rfl (SrcIs.blk (b := b70)) rfl (statV_one y) Z63 hO1l) rfl rfl rfl (fun q3 => ?_)
   obtain ⟨O2, hO2⟩ : ∃ l, l = O1 ++ [y] := ⟨_, rfl⟩
   rw [show O1.flatMap statV ++ statV y = O2.flatMap statV by rw [hO2, List.flatMap_append, List.flatMap_singleton], show O1.length + 1 = O2.length by rw [hO2, List.length_append, List.length_singleton]]
   rw [← hO2] at hst2
   refine zs rfl <| hl_nil <| zb <| zt <| hc_region <| zm rfl <| zv (ov_add rfl rfl Z28) <| ?_
   refine zs rfl <| hl_nil <| hx_next hK1 ((i + 1, O2, hasI ltS x c.2.2.2.2.2 (i + 1), pu, q3)) (⟨hlt, hst2.symm, rfl, hput1⟩) (hme) Z16 Z10
  have he : eqK ltS x y = true := by simpa using p3
  have hst2 : outI ltS x del c.2.2.2.2.2 (i + 1) = O1 := by rw [hst1, if_neg Z54, List.append_nil]
  refine hc_skip <| zb <| zt <| hc_region <| zm rfl <| zv (ov_add rfl rfl Z28) <| ?_
  refine zs rfl <| hl_nil <| hx_next hK1 ((i + 1, O1, hasI ltS x c.2.2.2.2.2 (i + 1), pu, q1)) (⟨hlt, hst2.symm, rfl, hput1⟩) (hme) Z16 Z10
 have hie : i = c.2.2.2.2.2.length := by omega
 subst hie
 have hthE : th = hasL ltS x c.2.2.2.2.2 := by rw [hth]; unfold hasI; rw [List.take_length]
 have hol := holen c.2.2.2.2.2.length
 rw [← hO] at hol
 have hoz : (O.length + 1) * 24 ≤ 140737488355328 := capS Z64
 refine hc_exit <| ze <| ze <| hx_block_out <| zt <| hc_seq <| zg <| zm rfl <| zv Z26 <| ?_
 refine zn <| hc_cond_bool rfl (fun v1 => ?_) (fun v1 => ?_)
 ·have hpf : pu = false := by simpa using v1
  obtain ⟨OF, hOF⟩ : ∃ l, l = O ++ [x] := ⟨_, rfl⟩
  have hdf : del = false := by
   cases hc : del with
   | false => rfl
   | true => rw [hpf] at hpu; rw [hc] at hpu; cases hpu
  have hof1 : e.1 = 9 → OF = setL ltS x c.2.2.2.2.2 := fun _ => by
   have := outI_end ordS (x := x) (l := c.2.2.2.2.2)
   rw [hdf] at hO hpu
   rw [← hO, ← hpu, if_pos hpf] at this
   rw [hOF, this]
  have hof2 : e.1 = 10 → OF = delL ltS x c.2.2.2.2.2 := fun h => by have := (hdelc h).1; rw [hdf] at this; cases this
  refine hc_region <| zm rfl <| zv Z17 <| ?_
  refine hl_new (on_buildSlice (res := statV x) rfl rfl Z61) rfl rfl rfl (fun b76 => ?_)
  refine hl_new (on_appendR (A := q2.1) (news := statV x) rfl rfl (SrcIs.blk (b := b76)) rfl (statV_one x) Z63 hoz) rfl rfl rfl (fun qF => ?_)
  rw [show O.flatMap statV ++ statV x = OF.flatMap statV by rw [hOF, List.flatMap_append, List.flatMap_singleton], show O.length + 1 = OF.length by rw [hOF, List.length_append, List.length_singleton]]
  refine zs rfl <| zn <| hc_seq <| zg <| zf rfl <| zl rfl rfl <| zv (ov_eql rfl rfl) <| zm rfl <| ?_
  refine hl_part (t := 81) rfl (fun z2 => ?_) (fun z2 => ?_)
  ·have hk10 : e.1 = 10 := z2
   obtain ⟨hd1, hd2⟩ := hdelc hk10
   refine hl_on rfl rfl <| zm rfl <| hl_on rfl rfl <| zv Z26 <| ?_
   refine zv (ov_pickT rfl rfl) <| zn <| hc_cond_bool rfl (fun z3 => ?_) (fun z3 => ?_)
   ·have hb : ¬ hasL ltS x c.2.2.2.2.2 = true := by rw [← hthE]; simpa using z3
    have hres : oneC c e = (c, 13) := by
     unfold oneC
     rw [if_neg Z64, if_neg Z64, if_neg Z64, if_neg Z64, if_neg Z64, if_neg Z64, if_neg Z64, if_pos hk10]
     exact if_neg Z48
    refine zg <| zs rfl <| zn <| zq <| zr <| ?_
    exact zz rfl rfl fun w' H' => ⟨by rw [hres], H'.ent (Ent.trans (b := cfgQ g (oneC c e).1 q) Z6 (cfgO_mk (l := []) q))⟩
   have hb : hasL ltS x c.2.2.2.2.2 = true := by rw [← hthE]; simpa using z3
   have hres : oneC c e = ((c.1, c.2.1, c.2.2.1, c.2.2.2.1, c.2.2.2.2.1, OF), 0) := by
    unfold oneC
    rw [if_neg Z64, if_neg Z64, if_neg Z64, if_neg Z64, if_neg Z64, if_neg Z64, if_neg Z64, if_pos hk10, hof2 hk10]
    exact (if_pos Z48).trans (by rw [hx]; rfl)
   refine zk <| zg <| zm rfl <| zm rfl <| zv (ov_nil rfl) <| zf rfl <| ?_
   refine hl_u0 (on_storeE (cfgA (c.1, c.2.1, c.2.2.1, c.2.2.2.1, c.2.2.2.2.1, OF) (q.1, q.2.1, qF)) rfl rfl (by simp) rfl rfl) rfl rfl ?_
   refine zn <| zg <| zs rfl <| hl_nil <| zt <| zq <| ?_
   obtain ⟨q', hq'⟩ : ∃ x : Three, x = (q.1, q.2.1, qF) := ⟨_, rfl⟩
   exact zz rfl rfl fun w' H' => ⟨by rw [hres], H'.ent (Ent.trans (b := cfgQ g (oneC c e).1 q') Z5 (cfgO_mk (l := []) q'))⟩
  have hk9 : e.1 = 9 := by omega
  have hres : oneC c e = ((c.1, c.2.1, c.2.2.1, c.2.2.2.1, c.2.2.2.2.1, OF), 0) := by
   unfold oneC
   rw [if_neg Z64, if_neg Z64, if_neg Z64, if_neg Z64, if_neg Z64, if_pos hk9, hof1 hk9, hx]
  refine zo rfl rfl <| zo rfl rfl <| zv (ov_pickF rfl rfl) <| zn <| hc_cond_false rfl <| zk <| zg <| zm rfl <| zm rfl <| zv (ov_nil rfl) <| zf rfl <| ?_
  refine hl_u0 (on_storeE (cfgA (c.1, c.2.1, c.2.2.1, c.2.2.2.1, c.2.2.2.2.1, OF) (q.1, q.2.1, qF)) rfl rfl (by simp) rfl rfl) rfl rfl ?_
  refine zn <| zg <| zs rfl <| hl_nil <| zt <| zq <| ?_
  obtain ⟨q', hq'⟩ : ∃ x : Three, x = (q.1, q.2.1, qF) := ⟨_, rfl⟩
  exact zz rfl rfl fun w' H' => ⟨by rw [hres], H'.ent (Ent.trans (b := cfgQ g (oneC c e).1 q') Z5 (cfgO_mk (l := []) q'))⟩
 have hpf : pu = true := by simpa using v1
 obtain ⟨OF, hOF⟩ : ∃ l, l = O := ⟨_, rfl⟩
 obtain ⟨qF, hqF⟩ : ∃ l, l = q2 := ⟨_, rfl⟩
 have hof1 : e.1 = 9 → OF = setL ltS x c.2.2.2.2.2 := fun h => by
  have hdf : del = false := by rw [hdel, h]; rfl
  have := outI_end ordS (x := x) (l := c.2.2.2.2.2)
  rw [hdf] at hO hpu
  rw [← hO, ← hpu, if_neg (by rw [hpf]; decide), List.append_nil] at this
  rw [hOF, this]
 have hof2 : e.1 = 10 → OF = delL ltS x c.2.2.2.2.2 := fun h => by
  rw [(hdelc h).1, outI_del] at hO
  rw [hOF, hO]
 rw [← hOF, ← hqF]
 refine zk <| hc_seq <| zg <| zf rfl <| ?_
 refine zl rfl rfl <| zv (ov_eql rfl rfl) <| zm rfl <| hl_part (t := 81) rfl (fun z2 => ?_) (fun z2 => ?_)
 ·have hk10 : e.1 = 10 := z2
  obtain ⟨hd1, hd2⟩ := hdelc hk10
  refine hl_on rfl rfl <| zm rfl <| hl_on rfl rfl <| zv Z26 <| ?_
  refine zv (ov_pickT rfl rfl) <| zn <| hc_cond_bool rfl (fun z3 => ?_) (fun z3 => ?_)
  ·have hb : ¬ hasL ltS x c.2.2.2.2.2 = true := by rw [← hthE]; simpa using z3
   have hres : oneC c e = (c, 13) := by
    unfold oneC
    rw [if_neg Z64, if_neg Z64, if_neg Z64, if_neg Z64, if_neg Z64, if_neg Z64, if_neg Z64, if_pos hk10]
    exact if_neg Z48
   refine zg <| zs rfl <| zn <| zq <| zr <| ?_
   exact zz rfl rfl fun w' H' => ⟨by rw [hres], H'.ent (Ent.trans (b := cfgQ g (oneC c e).1 q) Z6 (cfgO_mk (l := []) q))⟩
  have hb : hasL ltS x c.2.2.2.2.2 = true := by rw [← hthE]; simpa using z3
  have hres : oneC c e = ((c.1, c.2.1, c.2.2.1, c.2.2.2.1, c.2.2.2.2.1, OF), 0) := by
   unfold oneC
   rw [if_neg Z64, if_neg Z64, if_neg Z64, if_neg Z64, if_neg Z64, if_neg Z64, if_neg Z64, if_pos hk10, hof2 hk10]
   exact (if_pos Z48).trans (by rw [hx]; rfl)
  refine zk <| zg <| zm rfl <| zm rfl <| zv (ov_nil rfl) <| zf rfl <| ?_
  refine hl_u0 (on_storeE (cfgA (c.1, c.2.1, c.2.2.1, c.2.2.2.1, c.2.2.2.2.1, OF) (q.1, q.2.1, qF)) rfl rfl (by simp) rfl rfl) rfl rfl ?_
  refine zn <| zg <| zs rfl <| hl_nil <| zt <| zq <| ?_
  obtain ⟨q', hq'⟩ : ∃ x : Three, x = (q.1, q.2.1, qF) := ⟨_, rfl⟩
  exact zz rfl rfl fun w' H' => ⟨by rw [hres], H'.ent (Ent.trans (b := cfgQ g (oneC c e).1 q') Z5 (cfgO_mk (l := []) q'))⟩
 have hk9 : e.1 = 9 := by omega
 have hres : oneC c e = ((c.1, c.2.1, c.2.2.1, c.2.2.2.1, c.2.2.2.2.1, OF), 0) := by
  unfold oneC
  rw [if_neg Z64, if_neg Z64, if_neg Z64, if_neg Z64, if_neg Z64, if_pos hk9, hof1 hk9, hx]
 refine zo rfl rfl <| zo rfl rfl <| zv (ov_pickF rfl rfl) <| zn <| hc_cond_false rfl <| zk <| zg <| zm rfl <| zm rfl <| zv (ov_nil rfl) <| zf rfl <| ?_
 refine hl_u0 (on_storeE (cfgA (c.1, c.2.1, c.2.2.1, c.2.2.2.1, c.2.2.2.2.1, OF) (q.1, q.2.1, qF)) rfl rfl (by simp) rfl rfl) rfl rfl ?_
 refine zn <| zg <| zs rfl <| hl_nil <| zt <| zq <| ?_
 obtain ⟨q', hq'⟩ : ∃ x : Three, x = (q.1, q.2.1, qF) := ⟨_, rfl⟩
 exact zz rfl rfl fun w' H' => ⟨by rw [hres], H'.ent (Ent.trans (b := cfgQ g (oneC c e).1 q') Z5 (cfgO_mk (l := []) q'))⟩
end Go.Proofs.YtjlolpmmpafjeaaGreat
