import Derived.Test.YtjlolpmmpafjeaaGreatU21
set_option linter.unusedVariables false
set_option linter.unusedSimpArgs false
namespace Go.Proofs.YtjlolpmmpafjeaaGreat
open CN
section
variable {α : Type} {lt : α → α → Bool}
def F7 (lt : α → α → Bool) (x y : α) : Bool := !lt y x && !lt x y
def KQ (lt : α → α → Bool) (x : α) (d : Bool) (l : List α) (i : Nat) : Bool := d || (l.take i).any (fun y => !lt y x)
def G5 (lt : α → α → Bool) (x : α) (d : Bool) (l : List α) (i : Nat) : List α :=
 if d then F9 lt x (l.take i) else (l.take i).filter (fun y => lt y x) ++ (if (l.take i).any (fun y => !lt y x) then [x] else []) ++ (l.take i).filter (fun y => lt x y)
def LV (lt : α → α → Bool) (x : α) (l : List α) (i : Nat) : Bool := GK lt x (l.take i)
theorem aM {x : α} {d : Bool} {l : List α} {i : Nat} (hi : i < l.length) : KQ lt x d l (i + 1) = (KQ lt x d l i || !lt l[i] x) := by
 unfold KQ
 rw [List.take_succ_eq_append_getElem hi, List.any_append]
 simp [Bool.or_assoc]
theorem mX {x : α} {l : List α} {i : Nat} (hi : i < l.length) : LV lt x l (i + 1) = (LV lt x l i || F7 lt x l[i]) := by
 unfold LV GK F7
 rw [List.take_succ_eq_append_getElem hi, List.any_append]
 simp
theorem aY (o : Ord lt) {x : α} {d : Bool} {l : List α} (hs : G9 lt l) {i : Nat} (hi : i < l.length) :
  G5 lt x d l (i + 1) = G5 lt x d l i ++ (if KQ lt x d l i = false ∧ lt l[i] x = false then [x] else []) ++ (if F7 lt x l[i] = false then [l[i]] else []) := by
 have hpre : ∀ y ∈ l.take i, lt y l[i] = true := fun y hy => by
  obtain ⟨j, hj, rfl⟩ := List.getElem_of_mem hy
  rw [List.getElem_take]
  rw [List.length_take] at hj
  exact hs.get j i AA hi AA
 cases d with
 | true =>
  unfold G5 KQ F9 F7
  simp only [if_true, Bool.true_or, Bool.true_eq_false, false_and, if_false, List.append_nil]
  rw [List.take_succ_eq_append_getElem hi, List.filter_append]
  congr 1
  cases h1 : lt l[i] x <;> cases h2 : lt x l[i] <;> simp [h1, h2]
 | false =>
  unfold G5 KQ F7
  simp only [Bool.false_eq_true, if_false, Bool.false_or]
  rw [List.take_succ_eq_append_getElem hi, List.filter_append, List.filter_append, List.any_append]
  cases h1 : lt l[i] x with
  | true =>
   have h2 : lt x l[i] = false := OJ o h1
   have hall : ∀ y ∈ l.take i, lt y x = true := fun y hy => o.tr _ _ _ (hpre y hy) h1
   have hany : (l.take i).any (fun y => !lt y x) = false := by
    rw [List.any_eq_false]; intro y hy; rw [hall y hy]; decide
   have hno : (l.take i).filter (fun y => lt x y) = [] := filter_none fun y hy => OJ o (hall y hy)
   simp [h1, h2, hany, hno]
  | false =>
   cases h2 : lt x l[i] with
   | true =>
    cases hany : (l.take i).any (fun y => !lt y x) with
    | true => simp [h1, h2]
    | false =>
     have hall : ∀ y ∈ l.take i, lt y x = true := fun y hy => by
      have := List.any_eq_false.1 hany y hy
      simpa using this
     have hno : (l.take i).filter (fun y => lt x y) = [] := filter_none fun y hy => OJ o (hall y hy)
     simp [h1, h2, hno]
   | false =>
    have hall : ∀ y ∈ l.take i, lt y x = true := fun y hy => by
     rcases o.ne _ x _ (hpre y hy) with h | h
     ·exact h
     ·rw [h2] at h; cases h
    have hany : (l.take i).any (fun y => !lt y x) = false := by
     rw [List.any_eq_false]; intro y hy; rw [hall y hy]; decide
    have hno : (l.take i).filter (fun y => lt x y) = [] := filter_none fun y hy => OJ o (hall y hy)
    simp [h1, h2, hany, hno]
theorem WS (o : Ord lt) {x : α} {l : List α} : G5 lt x false l l.length ++ (if KQ lt x false l l.length = false then [x] else []) = GD lt x l := by
 unfold G5 KQ GD
 rw [List.take_length]
 simp only [Bool.false_eq_true, if_false, Bool.false_or]
 cases hany : l.any (fun y => !lt y x) with
 | true => simp
 | false =>
  have hall : ∀ y ∈ l, lt y x = true := fun y hy => by
   have := List.any_eq_false.1 hany y hy
   simpa using this
  have hno : l.filter (fun y => lt x y) = [] := filter_none fun y hy => OJ o (hall y hy)
  simp [hno]
theorem oN {x : α} {l : List α} : G5 lt x true l l.length = F9 lt x l := by
 unfold G5
 rw [List.take_length]; rfl
theorem bZ {x : α} {d : Bool} {l : List α} (o : Ord lt) (i : Nat) : (G5 lt x d l i).length ≤ l.length + 1 := by
 have h0 : (l.take i).length ≤ l.length := by rw [List.length_take]; omega
 unfold G5
 split
 ·have := List.length_filter_le (fun y => lt y x || lt x y) (l.take i)
  unfold F9; omega
 have h := XJ o (l := l.take i) (x := x)
 unfold GD at h
 simp only [List.length_append, List.length_singleton] at h ⊢
 split <;> simp <;> omega
end
theorem XX {n : Nat} (h : n ≤ 4000) : n * 24 ≤ 140737488355328 := by omega
theorem qT {x y : FM} : F7 C0 x y = true ↔ y.1 = x.1 ∧ y.2.1 = x.2.1 := by
 unfold F7 C0
 rw [Bool.and_eq_true, Bool.not_eq_true', Bool.not_eq_true', decide_eq_false_iff_not, decide_eq_false_iff_not]
 constructor
 ·rintro ⟨h1, h2⟩
  exact ⟨UInt64.toNat_inj.1 AA, by omega⟩
 rintro ⟨h1, h2⟩
 rw [h1]; omega
set_option maxHeartbeats 4000000 in
theorem YF (D : Nat → Prop) (w : World) (g : Nat) (c : CA) (e : C5) (k : Nat) (hk : k ≤ 40) (hm : KK c k) (hke : e.1 = 9 ∨ e.1 = 10) (H : AH D w w [IJ g c]) :
  Calls Tryz.prog 109 #[.pointer (some ⟨g, 0, none⟩), .agg (DL e).toArray] w fun r w' => r = .returned (.int .i64 (B8 c e).2) ∧ AH D w w' [IJ g (B8 c e).1] := by
 have hls := hm.ls
 have has := hm.bs
 obtain ⟨q, H⟩ := AH.exs H
 obtain ⟨del, hdel⟩ : ∃ b : Bool, b = decide (e.1 = 10) := ⟨_, rfl⟩
 obtain ⟨x, hx⟩ : ∃ x : FM, x = (e.2.2.2.2.2.2, e.2.2.2.1, e.2.1) := ⟨_, rfl⟩
 have hx1 : x.1 = e.2.2.2.2.2.2 := by rw [hx]
 have hx2 : x.2.1 = e.2.2.2.1 := by rw [hx]
 have hx3 : BW x = [.int .u64 e.2.2.2.2.2.2.toNat, .int .i64 e.2.2.2.1, .int .i64 e.2.1] := by rw [hx]
 have holen := fun i => bZ (x := x) (d := del) (l := c.2.2.2.2.2) KP i
 have hdelc : e.1 = 10 → del = true ∧ True := fun h => ⟨by rw [hdel, h]; rfl, trivial⟩
 refine BZ (vs := [.pointer (some ⟨g, 0, none⟩), .agg (DL e).toArray]) Tryz.func109 rfl _ Tryz.ntmps109 rfl H ?_
 simp only [BX, Nat.zero_add]
 refine HC.AK (l' := DC g c q) (fun _ h => h) ?_
 refine zg <| AV (EE rfl rfl) rfl rfl rfl fun b3 =>  ?_
 refine zs rfl <| zn <| zg <| zf rfl <| ?_
 refine zl rfl rfl <| zf rfl <| zl rfl rfl <| zf rfl <| zl rfl rfl <| zv (CH rfl rfl) <| ?_
 refine AV (B9) rfl rfl rfl fun b5 =>  ?_
 refine A6 (CV (vs := BW x) rfl (by rw [hx3]; rfl) rfl (by simp) (JO x)) rfl rfl ?_
 refine zn <| zg <| zs rfl <| AS <| zt <| AG <| GM mixed AB <| AM (AP rfl) rfl <| AM (zw rfl rfl) rfl <| AM (CO rfl rfl) rfl <| ?_
 refine AM (DH rfl) rfl <| AM (DH rfl) rfl <| EM <| zt <| AG <| AG <| ?_
 refine AR <| zs rfl <| zn <| BK <| ?_
 rw [← hdel]
 refine lY (σ := Nat × List FM × Bool × Bool × Option Addr × Nat) [0, 3, 5] rfl 9 (fun s => .int .i64 (s.1 : Int)) 6 (fun s => .slice s.2.2.2.2.1 s.2.1.length s.2.2.2.2.2) 7 (fun s => .bool s.2.2.1) 8 (fun s => .bool s.2.2.2.1) (fun s => [row s.2.2.2.2.1 149 3 s.2.1.length s.2.2.2.2.2 (s.2.1.flatMap BW), AI b5 149 (BW x), AI b3 81 (DL e), AI g 49 (B3 c q), row q.1.1 83 3 c.2.2.2.1.length q.1.2 (c.2.2.2.1.flatMap CJ), row q.2.1.1 147 3 c.2.2.2.2.1.length q.2.1.2 (c.2.2.2.2.1.flatMap BJ), row q.2.2.1 149 3 c.2.2.2.2.2.length q.2.2.2 (c.2.2.2.2.2.flatMap BW)]) (fun s => s.1 ≤ c.2.2.2.2.2.length ∧ s.2.1 = G5 C0 x del c.2.2.2.2.2 s.1 ∧ s.2.2.1 = LV C0 x c.2.2.2.2.2 s.1 ∧ s.2.2.2.1 = KQ C0 x del c.2.2.2.2.2 s.1) (fun s => c.2.2.2.2.2.length - s.1) ((0, [], false, del, none, 0)) (⟨Nat.zero_le _, by cases del <;> rfl, rfl, by cases del <;> rfl⟩) rfl rfl rfl rfl (AD.trans (AD.EB 149 3) Z8) ?_
 rintro ⟨i, O, th, pu, q2⟩ hj_ K1 hK1
 dsimp only at hj_ ⊢
 obtain ⟨hi, hO, hth, hpu⟩ := hj_
 refine AG <| zg <| zm rfl <| zm rfl <| zv (AY rfl) <| zf rfl <| zl rfl rfl <| zv BN <| ?_
 refine zv (B7 rfl rfl) <| zn <| BP rfl (fun h => ?_) (fun h => ?_)
 ·have hlt : i < c.2.2.2.2.2.length := by omega
  refine HC.fact (fun w H => AH.GS q.2.2.1 H) ?_
  rintro ⟨hSl, _, _, hA⟩
  have hA : CU q.2.2.1 := hA (by intro h; have := congrArg List.length h; rw [hSl] at this; simp only [List.length_nil] at this; omega)
  obtain ⟨y, hy⟩ : ∃ y, c.2.2.2.2.2[i] = y := ⟨_, rfl⟩
  have hme : c.2.2.2.2.2.length - (i + 1) < c.2.2.2.2.2.length - i := by omega
  have hst := aY KP (x := x) (d := del) has hlt
  have hps := aM (lt := C0) (x := x) (d := del) hlt
  have hhs := mX (lt := C0) (x := x) hlt
  rw [hy] at hst hps hhs
  rw [← hO] at hst
  rw [← hpu] at hst hps
  rw [← hth] at hhs
  have hol := holen i
  rw [← hO] at hol
  have hoz : (O.length + 1) * 24 ≤ 140737488355328 := XX AA
  have hoz1 : (O.length + 1 + 1) * 24 ≤ 140737488355328 := XX AA
  refine zk <| AG <| BK <| zg <| zm rfl <| zv (AY rfl) <| zf rfl <| zl rfl rfl <| zm rfl <| zv (CZ rfl DP rfl _ rfl AA) <| ?_
  refine AZ (D4 (cs := BW y) rfl rfl (by rw [← hy]; exact DZ.flat (f := BW) (sz := 3) (fun _ => rfl) (A := q.2.2.1) hA hlt)) rfl ?_
  refine AV (B9) rfl rfl rfl fun b10 =>  ?_
  refine A6 (CV (vs := BW y) rfl rfl (by simp) (by simp) (JO y)) rfl rfl ?_
  have heq := qT (x := x) (y := y)
  refine zn <| AG <| cU (σ := Unit) [0, 3, 5, 6, 7, 8, 9, 10] rfl 11 (fun _u => .bool (F7 C0 x y)) (fun K2 hK2 => ?_) (fun _u => ?_)
  ·refine AR <| zf rfl <| zl rfl rfl <| zf rfl <| zl rfl rfl <| zv (CO rfl rfl) <| ?_
   refine zm rfl <| DB (t := 43) rfl (fun p1 => ?_) (fun p1 => ?_)
   ·have p1' : y.1 = x.1 := UInt64.toNat_inj.1 AA
    have hb : F7 C0 x y = decide (y.2.1 = x.2.1) := by rw [Bool.eq_iff_iff, heq, decide_eq_true_iff]; exact ⟨fun h => h.2, fun h => ⟨p1', h⟩⟩
    rw [hb] at hK2
    refine AJ rfl rfl <| zf rfl <| AJ rfl rfl <| zl rfl rfl <| AJ rfl rfl <| zf rfl <| AJ rfl rfl <| zl rfl rfl <| AJ rfl rfl <| zv (CO rfl rfl) <| zv (BF rfl rfl) <| ?_
    refine zs rfl <| AS <| DF hK2 (()) BD BL
   have hb : F7 C0 x y = false := by
    cases hc : F7 C0 x y with
    | false => rfl
    | true => exact absurd (by rw [(heq.1 hc).1]) p1
   rw [hb] at hK2
   refine zo rfl rfl <| zo rfl rfl <| zo rfl rfl <| zo rfl rfl <| zo rfl rfl <| zv (A8 rfl rfl) <| zs rfl <| AS <| DF hK2 (()) BD BL
  refine zt <| AG <| cU (σ := Unit) [0, 3, 5, 6, 8, 9, 10, 11] rfl 7 (fun _u => .bool (LV C0 x c.2.2.2.2.2 (i + 1))) (fun K3 hK3 => ?_) (fun _u => ?_)
  ·refine AR <| zm rfl <| zm rfl <| KY (t := 51) rfl (fun z1 => ?_) (fun z1 => ?_)
   ·have hb : LV C0 x c.2.2.2.2.2 (i + 1) = true := by rw [hhs, z1]; rfl
    rw [hb] at hK3
    refine zo rfl rfl <| zv (BF rfl rfl) <| zs rfl <| AS <| DF hK3 (()) BD BL
   have hb : LV C0 x c.2.2.2.2.2 (i + 1) = F7 C0 x y := by rw [hhs, z1]; rfl
   rw [hb] at hK3
   refine AJ rfl rfl <| zm rfl <| zv (A8 rfl rfl) <| zs rfl <| AS <| DF hK3 (()) BD BL
  refine zt <| AG <| zg <| zm rfl <| zv FC <| ?_
  refine zm rfl <| KY (t := 56) rfl (fun g1 => ?_) (fun g1 => ?_)
  ·have hpf : pu = false := by simpa using g1
   refine AJ rfl rfl <| zv DY <| ?_
   refine AJ rfl rfl <| zv DY <| ?_
   refine AJ rfl rfl <| CQ (σ := EX (GW y x < 0)) Tryz.call108 rfl rfl (fun w1 => zu fun D' _ _ _ => aS D' w1 y x) ?_
   intro r
   try rw [List.nil_append]
   have hr : r.1 = true ↔ C0 y x = true := r.2.trans PU
   refine AJ rfl rfl <| zv FC <| ?_
   refine zv (BF rfl rfl) <| zn <| FW rfl (fun g2 => ?_) (fun g2 => ?_)
   ·have hyx : C0 y x = false := by
     cases hc : C0 y x with
     | false => rfl
     | true => rw [hr.2 hc] at g2; cases g2
    have hput1 : true = KQ C0 x del c.2.2.2.2.2 (i + 1) := by rw [hps, hyx]; simp
    refine AR <| zm rfl <| zv DY <| ?_
    refine AV (HG (res := BW x) rfl rfl AB) rfl rfl rfl (fun b64 => ?_)
    refine AV (BT (A := q2.1) (news := BW x) rfl rfl (BB.AI (b := b64)) rfl (JO x) AF hoz) rfl rfl rfl (fun q1 => ?_)
    obtain ⟨O1, hO1⟩ : ∃ l, l = O ++ [x] := ⟨_, rfl⟩
    have hst1 : G5 C0 x del c.2.2.2.2.2 (i + 1) = O1 ++ (if F7 C0 x y = false then [y] else []) := by rw [hst, if_pos ⟨hpf, hyx⟩, hO1]
    have hO1l : (O1.length + 1) * 24 ≤ 140737488355328 := by rw [hO1, List.length_append, List.length_singleton]; exact hoz1
    rw [show O.flatMap BW ++ BW x = O1.flatMap BW by rw [hO1, List.flatMap_append, List.flatMap_singleton], show O.length + 1 = O1.length by rw [hO1, List.length_append, List.length_singleton]]
    refine zs rfl <| zs rfl <| zn <| zg <| zm rfl <| zv FC <| ?_
    refine zn <| FW rfl (fun p3 => ?_) (fun p3 => ?_)
    ·have he : F7 C0 x y = false := by simpa using p3
     have hst2 : G5 C0 x del c.2.2.2.2.2 (i + 1) = O1 ++ [y] := by rw [hst1, if_pos he]
     refine AR <| zm rfl <| zv DY <| ?_
     refine AV (HG (res := BW y) rfl rfl AB) rfl rfl rfl (fun b70 => ?_)
     refine AV (BT (A := q1.1) (news := BW y) rfl rfl (BB.AI (b := b70)) rfl (JO y) AF hO1l) rfl rfl rfl (fun q3 => ?_)
     obtain ⟨O2, hO2⟩ : ∃ l, l = O1 ++ [y] := ⟨_, rfl⟩
     rw [show O1.flatMap BW ++ BW y = O2.flatMap BW by rw [hO2, List.flatMap_append, List.flatMap_singleton], show O1.length + 1 = O2.length by rw [hO2, List.length_append, List.length_singleton]]
     rw [← hO2] at hst2
     refine zs rfl <| AS <| zb <| zt <| AR <| zm rfl <| zv (BM rfl rfl BO) <| ?_
     refine zs rfl <| AS <| B5 hK1 ((i + 1, O2, LV C0 x c.2.2.2.2.2 (i + 1), true, q3)) (⟨hlt, hst2.symm, rfl, hput1⟩) (hme) BD BL
    have he : F7 C0 x y = true := by simpa using p3
    have hst2 : G5 C0 x del c.2.2.2.2.2 (i + 1) = O1 := by rw [hst1, if_neg QL, List.append_nil]
    refine C3 <| zb <| zt <| AR <| zm rfl <| zv (BM rfl rfl BO) <| ?_
    refine zs rfl <| AS <| B5 hK1 ((i + 1, O1, LV C0 x c.2.2.2.2.2 (i + 1), true, q1)) (⟨hlt, hst2.symm, rfl, hput1⟩) (hme) BD BL
   have hyx : C0 y x = true := hr.1 (by simpa using g2)
   have hput1 : pu = KQ C0 x del c.2.2.2.2.2 (i + 1) := by rw [hps, hyx]; simp
   obtain ⟨O1, hO1⟩ : ∃ l, l = O := ⟨_, rfl⟩
   obtain ⟨q1, hq1⟩ : ∃ l, l = q2 := ⟨_, rfl⟩
   have hst1 : G5 C0 x del c.2.2.2.2.2 (i + 1) = O1 ++ (if F7 C0 x y = false then [y] else []) := by rw [hst, if_neg (by rintro ⟨_, h⟩; rw [hyx] at h; cases h), hO1, List.append_nil]
   have hO1l : (O1.length + 1) * 24 ≤ 140737488355328 := by rw [hO1]; exact hoz
   rw [← hO1, ← hq1]
   refine zk <| zg <| zm rfl <| zv FC <| ?_
   refine zn <| FW rfl (fun p3 => ?_) (fun p3 => ?_)
   ·have he : F7 C0 x y = false := by simpa using p3
    have hst2 : G5 C0 x del c.2.2.2.2.2 (i + 1) = O1 ++ [y] := by rw [hst1, if_pos he]
    refine AR <| zm rfl <| zv DY <| ?_
    refine AV (HG (res := BW y) rfl rfl AB) rfl rfl rfl (fun b70 => ?_)
    refine AV (BT (A := q1.1) (news := BW y) rfl rfl (BB.AI (b := b70)) rfl (JO y) AF hO1l) rfl rfl rfl (fun q3 => ?_)
    obtain ⟨O2, hO2⟩ : ∃ l, l = O1 ++ [y] := ⟨_, rfl⟩
    rw [show O1.flatMap BW ++ BW y = O2.flatMap BW by rw [hO2, List.flatMap_append, List.flatMap_singleton], show O1.length + 1 = O2.length by rw [hO2, List.length_append, List.length_singleton]]
    rw [← hO2] at hst2
    refine zs rfl <| AS <| zb <| zt <| AR <| zm rfl <| zv (BM rfl rfl BO) <| ?_
    refine zs rfl <| AS <| B5 hK1 ((i + 1, O2, LV C0 x c.2.2.2.2.2 (i + 1), pu, q3)) (⟨hlt, hst2.symm, rfl, hput1⟩) (hme) BD BL
   have he : F7 C0 x y = true := by simpa using p3
   have hst2 : G5 C0 x del c.2.2.2.2.2 (i + 1) = O1 := by rw [hst1, if_neg QL, List.append_nil]
   refine C3 <| zb <| zt <| AR <| zm rfl <| zv (BM rfl rfl BO) <| ?_
   refine zs rfl <| AS <| B5 hK1 ((i + 1, O1, LV C0 x c.2.2.2.2.2 (i + 1), pu, q1)) (⟨hlt, hst2.symm, rfl, hput1⟩) (hme) BD BL
  have hpf : pu = true := by simpa using g1
  have hput1 : pu = KQ C0 x del c.2.2.2.2.2 (i + 1) := by rw [hps, hpf]; rfl
  obtain ⟨O1, hO1⟩ : ∃ l, l = O := ⟨_, rfl⟩
  obtain ⟨q1, hq1⟩ : ∃ l, l = q2 := ⟨_, rfl⟩
  have hst1 : G5 C0 x del c.2.2.2.2.2 (i + 1) = O1 ++ (if F7 C0 x y = false then [y] else []) := by rw [hst, if_neg (by rintro ⟨h, _⟩; rw [hpf] at h; cases h), hO1, List.append_nil]
  have hO1l : (O1.length + 1) * 24 ≤ 140737488355328 := by rw [hO1]; exact hoz
  rw [← hO1, ← hq1]
  refine zo rfl rfl <| zo rfl rfl <| zo rfl rfl <| zo rfl rfl <| zv (A8 rfl rfl) <| AS <| zt <| EU rfl <| zk <| zg <| zm rfl <| zv FC <| ?_
  refine zn <| FW rfl (fun p3 => ?_) (fun p3 => ?_)
  ·have he : F7 C0 x y = false := by simpa using p3
   have hst2 : G5 C0 x del c.2.2.2.2.2 (i + 1) = O1 ++ [y] := by rw [hst1, if_pos he]
   refine AR <| zm rfl <| zv DY <| ?_
   refine AV (HG (res := BW y) rfl rfl AB) rfl rfl rfl (fun b70 => ?_)
   refine AV (BT (A := q1.1) (news := BW y) rfl rfl (BB.AI (b := b70)) rfl (JO y) AF hO1l) rfl rfl rfl (fun q3 => ?_)
   obtain ⟨O2, hO2⟩ : ∃ l, l = O1 ++ [y] := ⟨_, rfl⟩
   rw [show O1.flatMap BW ++ BW y = O2.flatMap BW by rw [hO2, List.flatMap_append, List.flatMap_singleton], show O1.length + 1 = O2.length by rw [hO2, List.length_append, List.length_singleton]]
   rw [← hO2] at hst2
   refine zs rfl <| AS <| zb <| zt <| AR <| zm rfl <| zv (BM rfl rfl BO) <| ?_
   refine zs rfl <| AS <| B5 hK1 ((i + 1, O2, LV C0 x c.2.2.2.2.2 (i + 1), pu, q3)) (⟨hlt, hst2.symm, rfl, hput1⟩) (hme) BD BL
  have he : F7 C0 x y = true := by simpa using p3
  have hst2 : G5 C0 x del c.2.2.2.2.2 (i + 1) = O1 := by rw [hst1, if_neg QL, List.append_nil]
  refine C3 <| zb <| zt <| AR <| zm rfl <| zv (BM rfl rfl BO) <| ?_
  refine zs rfl <| AS <| B5 hK1 ((i + 1, O1, LV C0 x c.2.2.2.2.2 (i + 1), pu, q1)) (⟨hlt, hst2.symm, rfl, hput1⟩) (hme) BD BL
 have hie : i = c.2.2.2.2.2.length := by omega
 subst hie
 have hthE : th = GK C0 x c.2.2.2.2.2 := by rw [hth]; unfold LV; rw [List.take_length]
 have hol := holen c.2.2.2.2.2.length
 rw [← hO] at hol
 have hoz : (O.length + 1) * 24 ≤ 140737488355328 := XX AA
 refine CF <| ze <| ze <| CE <| zt <| AG <| zg <| zm rfl <| zv FC <| ?_
 refine zn <| FW rfl (fun v1 => ?_) (fun v1 => ?_)
 ·have hpf : pu = false := by simpa using v1
  obtain ⟨OF, hOF⟩ : ∃ l, l = O ++ [x] := ⟨_, rfl⟩
  have hdf : del = false := by
   cases hc : del with
   | false => rfl
   | true => rw [hpf] at hpu; rw [hc] at hpu; cases hpu
  have hof1 : e.1 = 9 → OF = GD C0 x c.2.2.2.2.2 := fun _ => by
   have := WS KP (x := x) (l := c.2.2.2.2.2)
   rw [hdf] at hO hpu
   rw [← hO, ← hpu, if_pos hpf] at this
   rw [hOF, this]
  have hof2 : e.1 = 10 → OF = F9 C0 x c.2.2.2.2.2 := fun h => by have := (hdelc h).1; rw [hdf] at this; cases this
  refine AR <| zm rfl <| zv DY <| ?_
  refine AV (HG (res := BW x) rfl rfl AB) rfl rfl rfl (fun b76 => ?_)
  refine AV (BT (A := q2.1) (news := BW x) rfl rfl (BB.AI (b := b76)) rfl (JO x) AF hoz) rfl rfl rfl (fun qF => ?_)
  rw [show O.flatMap BW ++ BW x = OF.flatMap BW by rw [hOF, List.flatMap_append, List.flatMap_singleton], show O.length + 1 = OF.length by rw [hOF, List.length_append, List.length_singleton]]
  refine zs rfl <| zn <| AG <| zg <| zf rfl <| zl rfl rfl <| zv (CO rfl rfl) <| zm rfl <| ?_
  refine DB (t := 81) rfl (fun z2 => ?_) (fun z2 => ?_)
  ·have hk10 : e.1 = 10 := z2
   obtain ⟨hd1, hd2⟩ := hdelc hk10
   refine AJ rfl rfl <| zm rfl <| AJ rfl rfl <| zv FC <| ?_
   refine zv (BF rfl rfl) <| zn <| FW rfl (fun z3 => ?_) (fun z3 => ?_)
   ·have hb : ¬ GK C0 x c.2.2.2.2.2 = true := by rw [← hthE]; simpa using z3
    have hres : B8 c e = (c, 13) := by
     unfold B8
     rw [if_neg AA, if_neg AA, if_neg AA, if_neg AA, if_neg AA, if_neg AA, if_neg AA, if_pos hk10]
     exact if_neg VB
    refine zg <| zs rfl <| zn <| zq <| zr <| ?_
    exact zz rfl rfl fun w' H' => ⟨by rw [hres], H'.AK (AD.trans (b := DC g (B8 c e).1 q) Z6 (D1 (l := []) q))⟩
   have hb : GK C0 x c.2.2.2.2.2 = true := by rw [← hthE]; simpa using z3
   have hres : B8 c e = ((c.1, c.2.1, c.2.2.1, c.2.2.2.1, c.2.2.2.2.1, OF), 0) := by
    unfold B8
    rw [if_neg AA, if_neg AA, if_neg AA, if_neg AA, if_neg AA, if_neg AA, if_neg AA, if_pos hk10, hof2 hk10]
    exact (if_pos VB).trans (by rw [hx]; rfl)
   refine zk <| zg <| zm rfl <| zm rfl <| zv (AY rfl) <| zf rfl <| ?_
   refine A6 (CI (B3 (c.1, c.2.1, c.2.2.1, c.2.2.2.1, c.2.2.2.2.1, OF) (q.1, q.2.1, qF)) rfl rfl (by simp) rfl rfl) rfl rfl ?_
   refine zn <| zg <| zs rfl <| AS <| zt <| zq <| ?_
   obtain ⟨q', hq'⟩ : ∃ x : DA, x = (q.1, q.2.1, qF) := ⟨_, rfl⟩
   exact zz rfl rfl fun w' H' => ⟨by rw [hres], H'.AK (AD.trans (b := DC g (B8 c e).1 q') Z5 (D1 (l := []) q'))⟩
  have hk9 : e.1 = 9 := by omega
  have hres : B8 c e = ((c.1, c.2.1, c.2.2.1, c.2.2.2.1, c.2.2.2.2.1, OF), 0) := by
   unfold B8
   rw [if_neg AA, if_neg AA, if_neg AA, if_neg AA, if_neg AA, if_pos hk9, hof1 hk9, hx]
  refine zo rfl rfl <| zo rfl rfl <| zv (A8 rfl rfl) <| zn <| EU rfl <| zk <| zg <| zm rfl <| zm rfl <| zv (AY rfl) <| zf rfl <| ?_
  refine A6 (CI (B3 (c.1, c.2.1, c.2.2.1, c.2.2.2.1, c.2.2.2.2.1, OF) (q.1, q.2.1, qF)) rfl rfl (by simp) rfl rfl) rfl rfl ?_
  refine zn <| zg <| zs rfl <| AS <| zt <| zq <| ?_
  obtain ⟨q', hq'⟩ : ∃ x : DA, x = (q.1, q.2.1, qF) := ⟨_, rfl⟩
  exact zz rfl rfl fun w' H' => ⟨by rw [hres], H'.AK (AD.trans (b := DC g (B8 c e).1 q') Z5 (D1 (l := []) q'))⟩
 have hpf : pu = true := by simpa using v1
 obtain ⟨OF, hOF⟩ : ∃ l, l = O := ⟨_, rfl⟩
 obtain ⟨qF, hqF⟩ : ∃ l, l = q2 := ⟨_, rfl⟩
 have hof1 : e.1 = 9 → OF = GD C0 x c.2.2.2.2.2 := fun h => by
  have hdf : del = false := by rw [hdel, h]; rfl
  have := WS KP (x := x) (l := c.2.2.2.2.2)
  rw [hdf] at hO hpu
  rw [← hO, ← hpu, if_neg (by rw [hpf]; decide), List.append_nil] at this
  rw [hOF, this]
 have hof2 : e.1 = 10 → OF = F9 C0 x c.2.2.2.2.2 := fun h => by
  rw [(hdelc h).1, oN] at hO
  rw [hOF, hO]
 rw [← hOF, ← hqF]
 refine zk <| AG <| zg <| zf rfl <| ?_
 refine zl rfl rfl <| zv (CO rfl rfl) <| zm rfl <| DB (t := 81) rfl (fun z2 => ?_) (fun z2 => ?_)
 ·have hk10 : e.1 = 10 := z2
  obtain ⟨hd1, hd2⟩ := hdelc hk10
  refine AJ rfl rfl <| zm rfl <| AJ rfl rfl <| zv FC <| ?_
  refine zv (BF rfl rfl) <| zn <| FW rfl (fun z3 => ?_) (fun z3 => ?_)
  ·have hb : ¬ GK C0 x c.2.2.2.2.2 = true := by rw [← hthE]; simpa using z3
   have hres : B8 c e = (c, 13) := by
    unfold B8
    rw [if_neg AA, if_neg AA, if_neg AA, if_neg AA, if_neg AA, if_neg AA, if_neg AA, if_pos hk10]
    exact if_neg VB
   refine zg <| zs rfl <| zn <| zq <| zr <| ?_
   exact zz rfl rfl fun w' H' => ⟨by rw [hres], H'.AK (AD.trans (b := DC g (B8 c e).1 q) Z6 (D1 (l := []) q))⟩
  have hb : GK C0 x c.2.2.2.2.2 = true := by rw [← hthE]; simpa using z3
  have hres : B8 c e = ((c.1, c.2.1, c.2.2.1, c.2.2.2.1, c.2.2.2.2.1, OF), 0) := by
   unfold B8
   rw [if_neg AA, if_neg AA, if_neg AA, if_neg AA, if_neg AA, if_neg AA, if_neg AA, if_pos hk10, hof2 hk10]
   exact (if_pos VB).trans (by rw [hx]; rfl)
  refine zk <| zg <| zm rfl <| zm rfl <| zv (AY rfl) <| zf rfl <| ?_
  refine A6 (CI (B3 (c.1, c.2.1, c.2.2.1, c.2.2.2.1, c.2.2.2.2.1, OF) (q.1, q.2.1, qF)) rfl rfl (by simp) rfl rfl) rfl rfl ?_
  refine zn <| zg <| zs rfl <| AS <| zt <| zq <| ?_
  obtain ⟨q', hq'⟩ : ∃ x : DA, x = (q.1, q.2.1, qF) := ⟨_, rfl⟩
  exact zz rfl rfl fun w' H' => ⟨by rw [hres], H'.AK (AD.trans (b := DC g (B8 c e).1 q') Z5 (D1 (l := []) q'))⟩
 have hk9 : e.1 = 9 := by omega
 have hres : B8 c e = ((c.1, c.2.1, c.2.2.1, c.2.2.2.1, c.2.2.2.2.1, OF), 0) := by
  unfold B8
  rw [if_neg AA, if_neg AA, if_neg AA, if_neg AA, if_neg AA, if_pos hk9, hof1 hk9, hx]
 refine zo rfl rfl <| zo rfl rfl <| zv (A8 rfl rfl) <| zn <| EU rfl <| zk <| zg <| zm rfl <| zm rfl <| zv (AY rfl) <| zf rfl <| ?_
 refine A6 (CI (B3 (c.1, c.2.1, c.2.2.1, c.2.2.2.1, c.2.2.2.2.1, OF) (q.1, q.2.1, qF)) rfl rfl (by simp) rfl rfl) rfl rfl ?_
 refine zn <| zg <| zs rfl <| AS <| zt <| zq <| ?_
 obtain ⟨q', hq'⟩ : ∃ x : DA, x = (q.1, q.2.1, qF) := ⟨_, rfl⟩
 exact zz rfl rfl fun w' H' => ⟨by rw [hres], H'.AK (AD.trans (b := DC g (B8 c e).1 q') Z5 (D1 (l := []) q'))⟩
end Go.Proofs.YtjlolpmmpafjeaaGreat
