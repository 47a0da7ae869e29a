import Derived.Test.YtjlolpmmpafjeaaGreatU06
set_option linter.unusedVariables false
set_option linter.unusedSimpArgs false
namespace Go.Proofs.YtjlolpmmpafjeaaGreat
open CN
variable (D : Nat → Prop) (w : World)
theorem X0 {l : List EI} {id : Int} {k : Nat} (h : O7 l id k) (x : EI) (hx : x.1 = id) : J4 DJ l x k :=
 ⟨h.1, fun q hq hlt => decide_eq_true (by rw [hx]; exact h.2.1 q hq hlt), fun q hq hle => decide_eq_false (by have := h.2.2 q hq hle; rw [hx]; omega)⟩
theorem iA {l : List EI} {id : Int} {k : Nat} (hs : G9 DJ l) (h : O7 l id k) (x : EI) (hx : x.1 = id) : (∃ h : k < l.length, l[k].1 = id) ↔ GK DJ x l = true := by
 rw [RH LF hs (X0 h x hx)]
 constructor
 ·rintro ⟨hk, e⟩
  exact ⟨hk, decide_eq_false (by rw [hx, e]; omega)⟩
 rintro ⟨hk, e⟩
 have h1 := h.2.2 k hk (Nat.le_refl _)
 have h2 := of_decide_eq_false e
 rw [hx] at h2
 exact ⟨hk, by omega⟩
section
variable {α : Type} {lt : α → α → Bool}
theorem YT (o : Ord lt) {l : List α} {x : α} {k : Nat} (hs : G9 lt l) (h : J4 lt l x k) (hn : GK lt x l = true) : (GD lt x l).length = l.length := by
 obtain ⟨hk, e⟩ := XI o hs h hn
 rw [e]; simp only [List.length_append, List.length_take, List.length_drop, List.length_singleton]; omega
theorem YM (o : Ord lt) {l : List α} {x : α} {k : Nat} (hs : G9 lt l) (h : J4 lt l x k) (hn : GK lt x l = false) : (GD lt x l).length = l.length + 1 := by
 rw [XL o hs h hn]; have := h.1; simp only [List.length_append, List.length_take, List.length_drop, List.length_singleton]; omega
theorem YG (o : Ord lt) {l : List α} {x : α} {k : Nat} (hs : G9 lt l) (h : J4 lt l x k) (hn : GK lt x l = true) : (F9 lt x l).length = l.length - 1 := by
 obtain ⟨hk, e⟩ := US o hs h hn
 rw [e]; simp only [List.length_append, List.length_take, List.length_drop]; omega
end
theorem qH (g : Nat) (c : CA) (e : C5) (k : Nat) (hk : k ≤ 40) (hm : KK c k) (he : Flat.ok e) (H : AH D w w [IJ g c]) :
  Calls Tryz.prog 92 #[.pointer (some ⟨g, 0, none⟩), .agg (DL e).toArray] w fun r w' => r = .returned (.int .i64 (B8 c e).2) ∧ AH D w w' [IJ g (B8 c e).1] := by
 have he : DO e.1 ∧ DO e.2.1 ∧ DO e.2.2.1 ∧ DO e.2.2.2.1 := he
 have hlv := hm.lv
 have hls := hm.ls
 obtain ⟨q, H⟩ := AH.exs H
 refine BZ (vs := [.pointer (some ⟨g, 0, none⟩), .agg (DL e).toArray]) Tryz.func92 rfl _ Tryz.ntmps92 rfl H ?_
 simp only [BX, Nat.zero_add]
 refine HC.AK (l' := DC g c q) (fun _ h => h) ?_
 refine zg <| AV (EE rfl rfl) rfl rfl rfl fun b3 =>  ?_
 refine zs rfl <| zn <| AG <| EF [AI b3 81 (DL e), AI g 49 (B3 c q)] mixed 12 rfl ?_
 refine AE 0 rfl (AO rfl) rfl <| AE 1 rfl (AY rfl) rfl <| AE 2 rfl (AP rfl) rfl <| AE 3 rfl (zw rfl rfl) rfl <| AE 4 rfl (AP rfl) rfl <| AE 5 rfl (zw rfl rfl) rfl <| AL 6 AB <| CR (σ := XV c.2.2.2.2.1 e.2.2.2.1) rfl Tryz.call130 rfl (fun w1 => zu fun D' _ hin _ => find_spec D' w1 _ c.2.2.2.2.1 e.2.2.2.1 AA (cO.2 hm.av) (hin _ fun h hs ho => C7 (A := q.2.1.1) hs c.2.2.2.2.1 rfl (KF.2 ⟨rfl, hm.v⟩))) ?_
 intro f
 try rw [List.nil_append]
 obtain ⟨⟨pv, okv⟩, hatv, hokv⟩ := f
 dsimp only at hatv hokv ⊢
 have hokv : okv = true ↔ ∃ h : pv < c.2.2.2.2.1.length, c.2.2.2.2.1[pv].1 = e.2.2.2.1 := hokv
 refine AE 7 rfl (AO rfl) rfl <| AE 8 rfl (I9 rfl rfl) rfl <| AE 9 rfl (I9 rfl rfl) rfl <| AE 10 rfl (DH rfl) rfl <| AE 11 rfl (DH rfl) rfl <| BY AB <| zt <| AG <| ?_
 refine EF [AI b3 81 (DL e), AI g 49 (B3 c q)] mixed 15 rfl ?_
 refine AE 0 rfl (AO rfl) rfl <| AE 1 rfl (AY rfl) rfl <| AE 2 rfl (AP rfl) rfl <| AE 3 rfl (zw rfl rfl) rfl <| AE 4 rfl (AP rfl) rfl <| AE 5 rfl (zw rfl rfl) rfl <| AE 6 rfl (AP rfl) rfl <| AE 7 rfl (zw rfl rfl) rfl <| AE 8 rfl (CH rfl rfl) rfl <| ?_
 refine AL 9 AB <| CR (σ := gZ c.2.2.2.2.2 (e.2.2.2.2.2.2, e.2.2.2.1, 0)) rfl Tryz.call131 rfl (fun w1 => zu fun D' _ hin _ => pI D' w1 _ c.2.2.2.2.2 (e.2.2.2.2.2.2, e.2.2.2.1, 0) AA hm.bs (hin _ fun h hs ho => C7 (A := q.2.2.1) hs c.2.2.2.2.2 rfl (KF.2 ⟨rfl, hm.s⟩))) ?_
 intro f2
 try rw [List.nil_append]
 obtain ⟨⟨ps, oks⟩, hats, hoks⟩ := f2
 dsimp only at hats hoks ⊢
 refine AE 10 rfl (AO rfl) rfl <| AE 11 rfl (I9 rfl rfl) rfl <| AE 12 rfl (I9 rfl rfl) rfl <| AE 13 rfl (DH rfl) rfl <| AE 14 rfl (DH rfl) rfl <| BY AB <| zt <| AG <| zg <| zf rfl <| ?_
 refine zl rfl rfl <| zn <| BK <| zg <| zv (CO rfl rfl) <| zs rfl <| zn <| BP rfl (fun k1 => ?_) (fun k1 => ?_)
 ·have hres : B8 c e = ((e.2.2.1, c.2), 0) := by unfold B8; rw [if_pos k1]
  refine AR <| zm rfl <| zf rfl <| zl rfl rfl <| zv (AY rfl) <| zf rfl <| ?_
  refine A6 (CI (B3 (e.2.2.1, c.2) q) rfl rfl (by simp) rfl rfl) rfl rfl ?_
  refine AS <| zb <| zt <| zg <| zs rfl <| zn <| zq <| ?_
  obtain ⟨q', hq'⟩ : ∃ x : DA, x = q := ⟨_, rfl⟩
  exact zz rfl rfl fun w' H' => ⟨by rw [hres], H'.AK (AD.trans (b := DC g (B8 c e).1 q') Z5 (D1 (l := []) q'))⟩
 refine zg <| zv (CO rfl rfl) <| zs rfl <| zn <| BP rfl (fun k2 => ?_) (fun k2 => ?_)
 ·have hres : B8 c e = ((c.1, e.2.2.1, c.2.2), 0) := by unfold B8; rw [if_neg k1, if_pos k2]
  refine AR <| zm rfl <| zf rfl <| zl rfl rfl <| zv (AY rfl) <| zf rfl <| ?_
  refine A6 (CI (B3 (c.1, e.2.2.1, c.2.2) q) rfl rfl (by simp) rfl rfl) rfl rfl ?_
  refine AS <| zb <| zt <| zg <| zs rfl <| zn <| zq <| ?_
  obtain ⟨q', hq'⟩ : ∃ x : DA, x = q := ⟨_, rfl⟩
  exact zz rfl rfl fun w' H' => ⟨by rw [hres], H'.AK (AD.trans (b := DC g (B8 c e).1 q') Z5 (D1 (l := []) q'))⟩
 refine zg <| zv (CO rfl rfl) <| zs rfl <| zn <| BP rfl (fun k3 => ?_) (fun k3 => ?_)
 ·have hres : B8 c e = ((c.1, c.2.1, e.2.2.1, c.2.2.2), 0) := by unfold B8; rw [if_neg k1, if_neg k2, if_pos k3]
  refine AR <| zm rfl <| zf rfl <| zl rfl rfl <| zv (AY rfl) <| zf rfl <| ?_
  refine A6 (CI (B3 (c.1, c.2.1, e.2.2.1, c.2.2.2) q) rfl rfl (by simp) rfl rfl) rfl rfl ?_
  refine AS <| zb <| zt <| zg <| zs rfl <| zn <| zq <| ?_
  obtain ⟨q', hq'⟩ : ∃ x : DA, x = q := ⟨_, rfl⟩
  exact zz rfl rfl fun w' H' => ⟨by rw [hres], H'.AK (AD.trans (b := DC g (B8 c e).1 q') Z5 (D1 (l := []) q'))⟩
 refine AG <| zg <| zv (CO rfl rfl) <| zs rfl <| AS <| zt <| BP rfl (fun k4 => ?_) (fun k4 => ?_)
 ·refine zk <| GR rfl (k4) ?_
  have hres : B8 c e = E8 c e := NT ⟨by omega, by omega⟩
  refine zg <| zm rfl <| zv DY <| ?_
  refine HL.AK (AD.trans (b := DC g c q ++ []) Z8 (D1 q)) ?_
  refine B2 Tryz.call132 rfl rfl (fun w1 => zp (IJ g c) fun D' _ _ H2 => WQ D' w1 g c e he.2.1 (by have := hm.lp; omega) ⟨by omega, by omega⟩ H2) ?_
  refine zs rfl <| zn <| zq <| B4 <| zr <| ?_
  exact zz rfl rfl fun w' H' => ⟨by rw [hres], by rw [hres]; exact H'⟩
 refine zg <| zv (CO rfl rfl) <| zs rfl <| zn <| BP rfl (fun k5 => ?_) (fun k5 => ?_)
 ·refine zk <| GR rfl (k5) ?_
  have hres : B8 c e = E8 c e := NT ⟨by omega, by omega⟩
  refine zg <| zm rfl <| zv DY <| ?_
  refine HL.AK (AD.trans (b := DC g c q ++ []) Z8 (D1 q)) ?_
  refine B2 Tryz.call132 rfl rfl (fun w1 => zp (IJ g c) fun D' _ _ H2 => WQ D' w1 g c e he.2.1 (by have := hm.lp; omega) ⟨by omega, by omega⟩ H2) ?_
  refine zs rfl <| zn <| zq <| B4 <| zr <| ?_
  exact zz rfl rfl fun w' H' => ⟨by rw [hres], by rw [hres]; exact H'⟩
 refine AR <| zv (CO rfl rfl) <| zs rfl <| zn <| BP rfl (fun k6 => ?_) (fun k6 => ?_)
 ·have hres : B8 c e = E8 c e := NT ⟨by omega, by omega⟩
  refine zg <| zm rfl <| zv DY <| ?_
  refine HL.AK (AD.trans (b := DC g c q ++ []) Z8 (D1 q)) ?_
  refine B2 Tryz.call132 rfl rfl (fun w1 => zp (IJ g c) fun D' _ _ H2 => WQ D' w1 g c e he.2.1 (by have := hm.lp; omega) ⟨by omega, by omega⟩ H2) ?_
  refine zs rfl <| zn <| zq <| B4 <| zr <| ?_
  exact zz rfl rfl fun w' H' => ⟨by rw [hres], by rw [hres]; exact H'⟩
 have h46 : ¬ (4 ≤ e.1 ∧ e.1 ≤ 6) := by omega
 refine zg <| zv (CO rfl rfl) <| zs rfl <| zn <| BP rfl (fun k7 => ?_) (fun k7 => ?_)
 ·obtain ⟨x, hx⟩ : ∃ x : EI, x = (e.2.2.2.1, e.2.2.2.2.1, e.2.2.2.2.2.1) := ⟨_, rfl⟩
  have hres : B8 c e = ((c.1, c.2.1, c.2.2.1, c.2.2.2.1, GD DJ x c.2.2.2.2.1, c.2.2.2.2.2), 0) := by unfold B8; rw [if_neg k1, if_neg k2, if_neg k3, if_neg h46, if_pos k7, hx]
  have hat := X0 hatv x (by rw [hx])
  have hhas := hokv.trans (iA hm.av hatv x (by rw [hx]))
  cases okv
  ·have hb : GK DJ x c.2.2.2.2.1 = false := by
    cases h : GK DJ x c.2.2.2.2.1 with
    | false => rfl
    | true => have := hhas.2 h; cases this
   have hset := XL LF hm.av hat hb
   have hsl := YM LF hm.av hat hb
   refine EF [AI b3 81 (DL e)] mixed 19 rfl ?_
   refine AE 0 rfl (AO rfl) rfl <| AE 1 rfl (AO rfl) rfl <| AE 2 rfl (AY rfl) rfl <| AE 3 rfl (AP rfl) rfl <| AE 5 rfl (AO rfl) rfl <| AE 6 rfl (AO rfl) rfl <| AE 7 rfl (AP rfl) rfl <| AE 8 rfl (zw rfl rfl) rfl <| AE 9 rfl (AP rfl) rfl <| AE 10 rfl (zw rfl rfl) rfl <| AE 11 rfl (AP rfl) rfl <| AE 12 rfl (zw rfl rfl) rfl <| AE 13 rfl (CH rfl rfl) rfl <| ?_
   refine DE 4 14 AB ?_ ?_
   ·skip
    refine CW rfl (zw rfl rfl) rfl <| AL 14 AB <| BC rfl (OL rfl rfl rfl) rfl (fun b78 => ?_)
    refine AL 15 AB <| IW (AD.trans (b := [row q.2.1.1 147 3 c.2.2.2.2.1.length q.2.1.2 (c.2.2.2.2.1.flatMap BJ), EJ b78 147 (BJ x)] ++ [AI g 49 (B3 c q), row q.1.1 83 3 c.2.2.2.1.length q.1.2 (c.2.2.2.1.flatMap CJ), row q.2.2.1 149 3 c.2.2.2.2.2.length q.2.2.2 (c.2.2.2.2.2.flatMap BW), AI b3 81 (DL e)]) Z7 AD.fold) ?_
    refine CR (σ := Option Addr × Nat) rfl Tryz.call133 rfl (fun w1 => EZ (DS [row q.2.1.1 147 3 c.2.2.2.2.1.length q.2.1.2 (c.2.2.2.2.1.flatMap BJ), EJ b78 147 (BJ x)]) fun D' _ _ H2 => dW D' w1 q.2.1.1 c.2.2.2.2.1.length q.2.1.2 pv b78 _ (BJ x) hat.1 AA rfl (GH GF _) (GF x) (H2.AK AD.flat)) ?_
    intro q2
    rw [T1 (f := BJ) (fun _ => rfl), ← hset, ← hsl]
    refine AE 16 rfl (AY rfl) rfl <| AE 17 rfl (AP rfl) rfl <| AL 18 AB <| CB rfl (CI (B3 (c.1, c.2.1, c.2.2.1, c.2.2.2.1, GD DJ x c.2.2.2.2.1, c.2.2.2.2.2) (q.1, q2, q.2.2)) rfl rfl (by simp) rfl rfl) rfl ?_
    refine BY AB <| zb <| zt <| zg <| zs rfl <| ?_
    refine zn <| zq <| ?_
    obtain ⟨q', hq'⟩ : ∃ x : DA, x = (q.1, q2, q.2.2) := ⟨_, rfl⟩
    exact zz rfl rfl fun w' H' => ⟨by rw [hres], H'.AK (AD.trans (b := DC g (B8 c e).1 q') Z5 (D1 (l := []) q'))⟩
   skip
   refine BC rfl (OL rfl rfl rfl) rfl (fun b78 => ?_)
   refine AL 4 AB <| CW rfl (zw rfl rfl) rfl <| AL 15 AB <| IW (AD.trans (b := [row q.2.1.1 147 3 c.2.2.2.2.1.length q.2.1.2 (c.2.2.2.2.1.flatMap BJ), EJ b78 147 (BJ x)] ++ [AI g 49 (B3 c q), row q.1.1 83 3 c.2.2.2.1.length q.1.2 (c.2.2.2.1.flatMap CJ), row q.2.2.1 149 3 c.2.2.2.2.2.length q.2.2.2 (c.2.2.2.2.2.flatMap BW), AI b3 81 (DL e)]) Z7 AD.fold) ?_
   refine CR (σ := Option Addr × Nat) rfl Tryz.call133 rfl (fun w1 => EZ (DS [row q.2.1.1 147 3 c.2.2.2.2.1.length q.2.1.2 (c.2.2.2.2.1.flatMap BJ), EJ b78 147 (BJ x)]) fun D' _ _ H2 => dW D' w1 q.2.1.1 c.2.2.2.2.1.length q.2.1.2 pv b78 _ (BJ x) hat.1 AA rfl (GH GF _) (GF x) (H2.AK AD.flat)) ?_
   intro q2
   rw [T1 (f := BJ) (fun _ => rfl), ← hset, ← hsl]
   refine AE 16 rfl (AY rfl) rfl <| AE 17 rfl (AP rfl) rfl <| AL 18 AB <| CB rfl (CI (B3 (c.1, c.2.1, c.2.2.1, c.2.2.2.1, GD DJ x c.2.2.2.2.1, c.2.2.2.2.2) (q.1, q2, q.2.2)) rfl rfl (by simp) rfl rfl) rfl ?_
   refine BY AB <| zb <| zt <| zg <| zs rfl <| ?_
   refine zn <| zq <| ?_
   obtain ⟨q', hq'⟩ : ∃ x : DA, x = (q.1, q2, q.2.2) := ⟨_, rfl⟩
   exact zz rfl rfl fun w' H' => ⟨by rw [hres], H'.AK (AD.trans (b := DC g (B8 c e).1 q') Z5 (D1 (l := []) q'))⟩
  have hb := hhas.1 rfl
  obtain ⟨hlt, hset⟩ := XI LF hm.av hat hb
  have hsl := YT LF hm.av hat hb
  refine EF [AI b3 81 (DL e)] mixed 19 rfl ?_
  refine AE 0 rfl (AO rfl) rfl <| AE 1 rfl (AO rfl) rfl <| AE 2 rfl (AY rfl) rfl <| AE 3 rfl (AP rfl) rfl <| AE 5 rfl (AO rfl) rfl <| AE 6 rfl (AO rfl) rfl <| AE 7 rfl (AP rfl) rfl <| AE 8 rfl (zw rfl rfl) rfl <| AE 9 rfl (AP rfl) rfl <| AE 10 rfl (zw rfl rfl) rfl <| AE 11 rfl (AP rfl) rfl <| AE 12 rfl (zw rfl rfl) rfl <| AE 13 rfl (CH rfl rfl) rfl <| ?_
  refine DE 4 14 AB ?_ ?_
  ·skip
   refine CW rfl (zw rfl rfl) rfl <| AL 14 AB <| BC rfl (OL rfl rfl rfl) rfl (fun b78 => ?_)
   refine AL 15 AB <| IW (AD.trans (b := [row q.2.1.1 147 3 c.2.2.2.2.1.length q.2.1.2 (c.2.2.2.2.1.flatMap BJ), EJ b78 147 (BJ x)] ++ [AI g 49 (B3 c q), row q.1.1 83 3 c.2.2.2.1.length q.1.2 (c.2.2.2.1.flatMap CJ), row q.2.2.1 149 3 c.2.2.2.2.2.length q.2.2.2 (c.2.2.2.2.2.flatMap BW), AI b3 81 (DL e)]) Z7 AD.fold) ?_
   refine CR (σ := Option Addr × Nat) rfl Tryz.call133 rfl (fun w1 => EZ (DS [row q.2.1.1 147 3 c.2.2.2.2.1.length q.2.1.2 (c.2.2.2.2.1.flatMap BJ), EJ b78 147 (BJ x)]) fun D' _ _ H2 => dU D' w1 q.2.1.1 c.2.2.2.2.1.length q.2.1.2 pv b78 _ (BJ x) hlt AA rfl (GH GF _) (GF x) (H2.AK AD.flat)) ?_
   intro q2
   rw [TW (f := BJ) (fun _ => rfl), ← hset, ← hsl]
   refine AE 16 rfl (AY rfl) rfl <| AE 17 rfl (AP rfl) rfl <| AL 18 AB <| CB rfl (CI (B3 (c.1, c.2.1, c.2.2.1, c.2.2.2.1, GD DJ x c.2.2.2.2.1, c.2.2.2.2.2) (q.1, q2, q.2.2)) rfl rfl (by simp) rfl rfl) rfl ?_
   refine BY AB <| zb <| zt <| zg <| zs rfl <| ?_
   refine zn <| zq <| ?_
   obtain ⟨q', hq'⟩ : ∃ x : DA, x = (q.1, q2, q.2.2) := ⟨_, rfl⟩
   exact zz rfl rfl fun w' H' => ⟨by rw [hres], H'.AK (AD.trans (b := DC g (B8 c e).1 q') Z5 (D1 (l := []) q'))⟩
  skip
  refine BC rfl (OL rfl rfl rfl) rfl (fun b78 => ?_)
  refine AL 4 AB <| CW rfl (zw rfl rfl) rfl <| AL 15 AB <| IW (AD.trans (b := [row q.2.1.1 147 3 c.2.2.2.2.1.length q.2.1.2 (c.2.2.2.2.1.flatMap BJ), EJ b78 147 (BJ x)] ++ [AI g 49 (B3 c q), row q.1.1 83 3 c.2.2.2.1.length q.1.2 (c.2.2.2.1.flatMap CJ), row q.2.2.1 149 3 c.2.2.2.2.2.length q.2.2.2 (c.2.2.2.2.2.flatMap BW), AI b3 81 (DL e)]) Z7 AD.fold) ?_
  refine CR (σ := Option Addr × Nat) rfl Tryz.call133 rfl (fun w1 => EZ (DS [row q.2.1.1 147 3 c.2.2.2.2.1.length q.2.1.2 (c.2.2.2.2.1.flatMap BJ), EJ b78 147 (BJ x)]) fun D' _ _ H2 => dU D' w1 q.2.1.1 c.2.2.2.2.1.length q.2.1.2 pv b78 _ (BJ x) hlt AA rfl (GH GF _) (GF x) (H2.AK AD.flat)) ?_
  intro q2
  rw [TW (f := BJ) (fun _ => rfl), ← hset, ← hsl]
  refine AE 16 rfl (AY rfl) rfl <| AE 17 rfl (AP rfl) rfl <| AL 18 AB <| CB rfl (CI (B3 (c.1, c.2.1, c.2.2.1, c.2.2.2.1, GD DJ x c.2.2.2.2.1, c.2.2.2.2.2) (q.1, q2, q.2.2)) rfl rfl (by simp) rfl rfl) rfl ?_
  refine BY AB <| zb <| zt <| zg <| zs rfl <| ?_
  refine zn <| zq <| ?_
  obtain ⟨q', hq'⟩ : ∃ x : DA, x = (q.1, q2, q.2.2) := ⟨_, rfl⟩
  exact zz rfl rfl fun w' H' => ⟨by rw [hres], H'.AK (AD.trans (b := DC g (B8 c e).1 q') Z5 (D1 (l := []) q'))⟩
 refine zg <| zv (CO rfl rfl) <| zs rfl <| zn <| BP rfl (fun k9 => ?_) (fun k9 => ?_)
 ·obtain ⟨x, hx⟩ : ∃ x : FM, x = (e.2.2.2.2.2.2, e.2.2.2.1, e.2.1) := ⟨_, rfl⟩
  have hres : B8 c e = ((c.1, c.2.1, c.2.2.1, c.2.2.2.1, c.2.2.2.2.1, GD C0 x c.2.2.2.2.2), 0) := by unfold B8; rw [if_neg k1, if_neg k2, if_neg k3, if_neg h46, if_neg k7, if_pos k9, hx]
  have hat : J4 C0 c.2.2.2.2.2 x ps := by rw [hx]; exact hats
  have hhas : oks = true ↔ GK C0 x c.2.2.2.2.2 = true := by rw [hx]; exact hoks
  cases oks
  ·have hb : GK C0 x c.2.2.2.2.2 = false := by
    cases h : GK C0 x c.2.2.2.2.2 with
    | false => rfl
    | true => have := hhas.2 h; cases this
   have hset := XL KP hm.bs hat hb
   have hsl := YM KP hm.bs hat hb
   refine EF [AI b3 81 (DL e)] mixed 19 rfl ?_
   refine AE 0 rfl (AO rfl) rfl <| AE 1 rfl (AO rfl) rfl <| AE 2 rfl (AY rfl) rfl <| AE 3 rfl (AP rfl) rfl <| AE 5 rfl (AO rfl) rfl <| AE 6 rfl (AO rfl) rfl <| AE 7 rfl (AP rfl) rfl <| AE 8 rfl (zw rfl rfl) rfl <| AE 9 rfl (AP rfl) rfl <| AE 10 rfl (zw rfl rfl) rfl <| AE 11 rfl (AP rfl) rfl <| AE 12 rfl (zw rfl rfl) rfl <| AE 13 rfl (CH rfl rfl) rfl <| ?_
   refine DE 4 14 AB ?_ ?_
   ·skip
    refine CW rfl (zw rfl rfl) rfl <| AL 14 AB <| BC rfl (OL rfl rfl rfl) rfl (fun b98 => ?_)
    refine AL 15 AB <| IW (AD.trans (b := [row q.2.2.1 149 3 c.2.2.2.2.2.length q.2.2.2 (c.2.2.2.2.2.flatMap BW), EJ b98 149 (BW x)] ++ [AI g 49 (B3 c q), row q.1.1 83 3 c.2.2.2.1.length q.1.2 (c.2.2.2.1.flatMap CJ), row q.2.1.1 147 3 c.2.2.2.2.1.length q.2.1.2 (c.2.2.2.2.1.flatMap BJ), AI b3 81 (DL e)]) Z7 AD.fold) ?_
    refine CR (σ := Option Addr × Nat) rfl Tryz.call134 rfl (fun w1 => EZ (DS [row q.2.2.1 149 3 c.2.2.2.2.2.length q.2.2.2 (c.2.2.2.2.2.flatMap BW), EJ b98 149 (BW x)]) fun D' _ _ H2 => dP D' w1 q.2.2.1 c.2.2.2.2.2.length q.2.2.2 ps b98 _ (BW x) hat.1 AA rfl (GH JO _) (JO x) (H2.AK AD.flat)) ?_
    intro q2
    rw [T1 (f := BW) (fun _ => rfl), ← hset, ← hsl]
    refine AE 16 rfl (AY rfl) rfl <| AE 17 rfl (AP rfl) rfl <| AL 18 AB <| CB rfl (CI (B3 (c.1, c.2.1, c.2.2.1, c.2.2.2.1, c.2.2.2.2.1, GD C0 x c.2.2.2.2.2) (q.1, q.2.1, q2)) rfl rfl (by simp) rfl rfl) rfl ?_
    refine BY AB <| zb <| zt <| zg <| zs rfl <| ?_
    refine zn <| zq <| ?_
    obtain ⟨q', hq'⟩ : ∃ x : DA, x = (q.1, q.2.1, q2) := ⟨_, rfl⟩
    exact zz rfl rfl fun w' H' => ⟨by rw [hres], H'.AK (AD.trans (b := DC g (B8 c e).1 q') Z5 (D1 (l := []) q'))⟩
   skip
   refine BC rfl (OL rfl rfl rfl) rfl (fun b98 => ?_)
   refine AL 4 AB <| CW rfl (zw rfl rfl) rfl <| AL 15 AB <| IW (AD.trans (b := [row q.2.2.1 149 3 c.2.2.2.2.2.length q.2.2.2 (c.2.2.2.2.2.flatMap BW), EJ b98 149 (BW x)] ++ [AI g 49 (B3 c q), row q.1.1 83 3 c.2.2.2.1.length q.1.2 (c.2.2.2.1.flatMap CJ), row q.2.1.1 147 3 c.2.2.2.2.1.length q.2.1.2 (c.2.2.2.2.1.flatMap BJ), AI b3 81 (DL e)]) Z7 AD.fold) ?_
   refine CR (σ := Option Addr × Nat) rfl Tryz.call134 rfl (fun w1 => EZ (DS [row q.2.2.1 149 3 c.2.2.2.2.2.length q.2.2.2 (c.2.2.2.2.2.flatMap BW), EJ b98 149 (BW x)]) fun D' _ _ H2 => dP D' w1 q.2.2.1 c.2.2.2.2.2.length q.2.2.2 ps b98 _ (BW x) hat.1 AA rfl (GH JO _) (JO x) (H2.AK AD.flat)) ?_
   intro q2
   rw [T1 (f := BW) (fun _ => rfl), ← hset, ← hsl]
   refine AE 16 rfl (AY rfl) rfl <| AE 17 rfl (AP rfl) rfl <| AL 18 AB <| CB rfl (CI (B3 (c.1, c.2.1, c.2.2.1, c.2.2.2.1, c.2.2.2.2.1, GD C0 x c.2.2.2.2.2) (q.1, q.2.1, q2)) rfl rfl (by simp) rfl rfl) rfl ?_
   refine BY AB <| zb <| zt <| zg <| zs rfl <| ?_
   refine zn <| zq <| ?_
   obtain ⟨q', hq'⟩ : ∃ x : DA, x = (q.1, q.2.1, q2) := ⟨_, rfl⟩
   exact zz rfl rfl fun w' H' => ⟨by rw [hres], H'.AK (AD.trans (b := DC g (B8 c e).1 q') Z5 (D1 (l := []) q'))⟩
  have hb := hhas.1 rfl
  obtain ⟨hlt, hset⟩ := XI KP hm.bs hat hb
  have hsl := YT KP hm.bs hat hb
  refine EF [AI b3 81 (DL e)] mixed 19 rfl ?_
  refine AE 0 rfl (AO rfl) rfl <| AE 1 rfl (AO rfl) rfl <| AE 2 rfl (AY rfl) rfl <| AE 3 rfl (AP rfl) rfl <| AE 5 rfl (AO rfl) rfl <| AE 6 rfl (AO rfl) rfl <| AE 7 rfl (AP rfl) rfl <| AE 8 rfl (zw rfl rfl) rfl <| AE 9 rfl (AP rfl) rfl <| AE 10 rfl (zw rfl rfl) rfl <| AE 11 rfl (AP rfl) rfl <| AE 12 rfl (zw rfl rfl) rfl <| AE 13 rfl (CH rfl rfl) rfl <| ?_
  refine DE 4 14 AB ?_ ?_
  ·skip
   refine CW rfl (zw rfl rfl) rfl <| AL 14 AB <| BC rfl (OL rfl rfl rfl) rfl (fun b98 => ?_)
   refine AL 15 AB <| IW (AD.trans (b := [row q.2.2.1 149 3 c.2.2.2.2.2.length q.2.2.2 (c.2.2.2.2.2.flatMap BW), EJ b98 149 (BW x)] ++ [AI g 49 (B3 c q), row q.1.1 83 3 c.2.2.2.1.length q.1.2 (c.2.2.2.1.flatMap CJ), row q.2.1.1 147 3 c.2.2.2.2.1.length q.2.1.2 (c.2.2.2.2.1.flatMap BJ), AI b3 81 (DL e)]) Z7 AD.fold) ?_
   refine CR (σ := Option Addr × Nat) rfl Tryz.call134 rfl (fun w1 => EZ (DS [row q.2.2.1 149 3 c.2.2.2.2.2.length q.2.2.2 (c.2.2.2.2.2.flatMap BW), EJ b98 149 (BW x)]) fun D' _ _ H2 => cH D' w1 q.2.2.1 c.2.2.2.2.2.length q.2.2.2 ps b98 _ (BW x) hlt AA rfl (GH JO _) (JO x) (H2.AK AD.flat)) ?_
   intro q2
   rw [TW (f := BW) (fun _ => rfl), ← hset, ← hsl]
   refine AE 16 rfl (AY rfl) rfl <| AE 17 rfl (AP rfl) rfl <| AL 18 AB <| CB rfl (CI (B3 (c.1, c.2.1, c.2.2.1, c.2.2.2.1, c.2.2.2.2.1, GD C0 x c.2.2.2.2.2) (q.1, q.2.1, q2)) rfl rfl (by simp) rfl rfl) rfl ?_
   refine BY AB <| zb <| zt <| zg <| zs rfl <| ?_
   refine zn <| zq <| ?_
   obtain ⟨q', hq'⟩ : ∃ x : DA, x = (q.1, q.2.1, q2) := ⟨_, rfl⟩
   exact zz rfl rfl fun w' H' => ⟨by rw [hres], H'.AK (AD.trans (b := DC g (B8 c e).1 q') Z5 (D1 (l := []) q'))⟩
  skip
  refine BC rfl (OL rfl rfl rfl) rfl (fun b98 => ?_)
  refine AL 4 AB <| CW rfl (zw rfl rfl) rfl <| AL 15 AB <| IW (AD.trans (b := [row q.2.2.1 149 3 c.2.2.2.2.2.length q.2.2.2 (c.2.2.2.2.2.flatMap BW), EJ b98 149 (BW x)] ++ [AI g 49 (B3 c q), row q.1.1 83 3 c.2.2.2.1.length q.1.2 (c.2.2.2.1.flatMap CJ), row q.2.1.1 147 3 c.2.2.2.2.1.length q.2.1.2 (c.2.2.2.2.1.flatMap BJ), AI b3 81 (DL e)]) Z7 AD.fold) ?_
  refine CR (σ := Option Addr × Nat) rfl Tryz.call134 rfl (fun w1 => EZ (DS [row q.2.2.1 149 3 c.2.2.2.2.2.length q.2.2.2 (c.2.2.2.2.2.flatMap BW), EJ b98 149 (BW x)]) fun D' _ _ H2 => cH D' w1 q.2.2.1 c.2.2.2.2.2.length q.2.2.2 ps b98 _ (BW x) hlt AA rfl (GH JO _) (JO x) (H2.AK AD.flat)) ?_
  intro q2
  rw [TW (f := BW) (fun _ => rfl), ← hset, ← hsl]
  refine AE 16 rfl (AY rfl) rfl <| AE 17 rfl (AP rfl) rfl <| AL 18 AB <| CB rfl (CI (B3 (c.1, c.2.1, c.2.2.1, c.2.2.2.1, c.2.2.2.2.1, GD C0 x c.2.2.2.2.2) (q.1, q.2.1, q2)) rfl rfl (by simp) rfl rfl) rfl ?_
  refine BY AB <| zb <| zt <| zg <| zs rfl <| ?_
  refine zn <| zq <| ?_
  obtain ⟨q', hq'⟩ : ∃ x : DA, x = (q.1, q.2.1, q2) := ⟨_, rfl⟩
  exact zz rfl rfl fun w' H' => ⟨by rw [hres], H'.AK (AD.trans (b := DC g (B8 c e).1 q') Z5 (D1 (l := []) q'))⟩
 refine zg <| zv (CO rfl rfl) <| zs rfl <| zn <| BP rfl (fun k8 => ?_) (fun k8 => ?_)
 ·obtain ⟨x, hx⟩ : ∃ x : EI, x = (e.2.2.2.1, 0, 0) := ⟨_, rfl⟩
  have hat := X0 hatv x (by rw [hx])
  have hhas := hokv.trans (iA hm.av hatv x (by rw [hx]))
  refine AG <| zg <| zm rfl <| zv FC <| ?_
  refine zn <| FW rfl (fun hb0 => ?_) (fun hb0 => ?_)
  ·have hb : ¬ GK DJ x c.2.2.2.2.1 = true := fun h => by have := hhas.2 h; rw [this] at hb0; cases hb0
   have hres : B8 c e = (c, 13) := by unfold B8; rw [if_neg k1, if_neg k2, if_neg k3, if_neg h46, if_neg k7, if_neg k9, if_pos k8, ← hx, if_neg hb]
   refine zg <| zs rfl <| zn <| zq <| zr <| B4 <| zr <| ?_
   obtain ⟨q', hq'⟩ : ∃ x : DA, x = q := ⟨_, rfl⟩
   exact zz rfl rfl fun w' H' => ⟨by rw [hres], H'.AK (AD.trans (b := DC g (B8 c e).1 q') Z5 (D1 (l := []) q'))⟩
  have hok : okv = true := by simpa using hb0
  have hb := hhas.1 hok
  have hres : B8 c e = ((c.1, c.2.1, c.2.2.1, c.2.2.2.1, F9 DJ x c.2.2.2.2.1, c.2.2.2.2.2), 0) := by unfold B8; rw [if_neg k1, if_neg k2, if_neg k3, if_neg h46, if_neg k7, if_neg k9, if_pos k8, ← hx, if_pos hb]
  obtain ⟨hlt, hset⟩ := US LF hm.av hat hb
  have hsl := YG LF hm.av hat hb
  rw [hok]
  refine zk <| AR <| zm rfl <| zm rfl <| zv (AY rfl) <| zf rfl <| zl rfl rfl <| zm rfl <| zm rfl <| ?_
  refine CQ (σ := Option Addr × Nat) Tryz.call133 rfl rfl (fun w1 => EZ (row q.2.1.1 147 3 c.2.2.2.2.1.length q.2.1.2 (c.2.2.2.2.1.flatMap BJ)) fun D' _ _ H2 => pP D' w1 q.2.1.1 c.2.2.2.2.1.length q.2.1.2 pv _ hlt AA (GH GF _) H2) ?_
  intro q2
  rw [aO (f := BJ) (fun _ => rfl), ← hset, ← hsl]
  refine zv (AY rfl) <| zf rfl <| ?_
  refine A6 (CI (B3 (c.1, c.2.1, c.2.2.1, c.2.2.2.1, F9 DJ x c.2.2.2.2.1, c.2.2.2.2.2) (q.1, q2, q.2.2)) rfl rfl (by simp) rfl rfl) rfl rfl ?_
  refine AS <| zb <| zt <| zg <| zs rfl <| zn <| zq <| ?_
  obtain ⟨q', hq'⟩ : ∃ x : DA, x = (q.1, q2, q.2.2) := ⟨_, rfl⟩
  exact zz rfl rfl fun w' H' => ⟨by rw [hres], H'.AK (AD.trans (b := DC g (B8 c e).1 q') Z5 (D1 (l := []) q'))⟩
 refine zg <| zv (CO rfl rfl) <| zs rfl <| zn <| BP rfl (fun k10 => ?_) (fun k10 => ?_)
 ·obtain ⟨x, hx⟩ : ∃ x : FM, x = (e.2.2.2.2.2.2, e.2.2.2.1, 0) := ⟨_, rfl⟩
  have hat : J4 C0 c.2.2.2.2.2 x ps := by rw [hx]; exact hats
  have hhas : oks = true ↔ GK C0 x c.2.2.2.2.2 = true := by rw [hx]; exact hoks
  refine AG <| zg <| zm rfl <| zv FC <| ?_
  refine zn <| FW rfl (fun hb0 => ?_) (fun hb0 => ?_)
  ·have hb : ¬ GK C0 x c.2.2.2.2.2 = true := fun h => by have := hhas.2 h; rw [this] at hb0; cases hb0
   have hres : B8 c e = (c, 13) := by unfold B8; rw [if_neg k1, if_neg k2, if_neg k3, if_neg h46, if_neg k7, if_neg k9, if_neg k8, if_pos k10, ← hx, if_neg hb]
   refine zg <| zs rfl <| zn <| zq <| zr <| B4 <| zr <| ?_
   obtain ⟨q', hq'⟩ : ∃ x : DA, x = q := ⟨_, rfl⟩
   exact zz rfl rfl fun w' H' => ⟨by rw [hres], H'.AK (AD.trans (b := DC g (B8 c e).1 q') Z5 (D1 (l := []) q'))⟩
  have hok : oks = true := by simpa using hb0
  have hb := hhas.1 hok
  have hres : B8 c e = ((c.1, c.2.1, c.2.2.1, c.2.2.2.1, c.2.2.2.2.1, F9 C0 x c.2.2.2.2.2), 0) := by unfold B8; rw [if_neg k1, if_neg k2, if_neg k3, if_neg h46, if_neg k7, if_neg k9, if_neg k8, if_pos k10, ← hx, if_pos hb]
  obtain ⟨hlt, hset⟩ := US KP hm.bs hat hb
  have hsl := YG KP hm.bs hat hb
  rw [hok]
  refine zk <| AR <| zm rfl <| zm rfl <| zv (AY rfl) <| zf rfl <| zl rfl rfl <| zm rfl <| zm rfl <| ?_
  refine CQ (σ := Option Addr × Nat) Tryz.call134 rfl rfl (fun w1 => EZ (row q.2.2.1 149 3 c.2.2.2.2.2.length q.2.2.2 (c.2.2.2.2.2.flatMap BW)) fun D' _ _ H2 => oT D' w1 q.2.2.1 c.2.2.2.2.2.length q.2.2.2 ps _ hlt AA (GH JO _) H2) ?_
  intro q2
  rw [aO (f := BW) (fun _ => rfl), ← hset, ← hsl]
  refine zv (AY rfl) <| zf rfl <| ?_
  refine A6 (CI (B3 (c.1, c.2.1, c.2.2.1, c.2.2.2.1, c.2.2.2.2.1, F9 C0 x c.2.2.2.2.2) (q.1, q.2.1, q2)) rfl rfl (by simp) rfl rfl) rfl rfl ?_
  refine AS <| zb <| zt <| zg <| zs rfl <| zn <| zq <| ?_
  obtain ⟨q', hq'⟩ : ∃ x : DA, x = (q.1, q.2.1, q2) := ⟨_, rfl⟩
  exact zz rfl rfl fun w' H' => ⟨by rw [hres], H'.AK (AD.trans (b := DC g (B8 c e).1 q') Z5 (D1 (l := []) q'))⟩
 have hres : B8 c e = (c, 11) := by unfold B8; rw [if_neg k1, if_neg k2, if_neg k3, if_neg h46, if_neg k7, if_neg k9, if_neg k8, if_neg k10]
 refine zg <| zs rfl <| zn <| zq <| B4 <| zr <| ?_
 obtain ⟨q', hq'⟩ : ∃ x : DA, x = q := ⟨_, rfl⟩
 exact zz rfl rfl fun w' H' => ⟨by rw [hres], H'.AK (AD.trans (b := DC g (B8 c e).1 q') Z5 (D1 (l := []) q'))⟩
theorem bE (x : GI) : ∀ v ∈ CJ x, v.oneCell' = true := by simp [Value.oneCell']
theorem WV {D : Nat → Prop} {w : World} {α : Type} {f : α → List Value} (hf : ∀ x, (f x).length = 3) {A : Option Addr} {l : List α} (h : CS D w A (l.flatMap f)) (hA : A.isNone = true) : l = [] := by
 cases l with
 | nil => rfl
 | cons x r =>
  have h1 := h.CU (by intro h; have := congrArg List.length h; rw [List.flatMap_cons, List.length_append, hf] at this; simp at this)
  have : A = none := by simpa using hA
  rw [this] at h1; cases h1
theorem MR (v : Value) (l : List GI) (hl : l.length ≤ 100000) (HA : Old D w (AX.rep l [v])) :
  Calls Tryz.prog 103 #[v] w fun e w' => ∃ q : Option Addr × Nat, e = .returned (.slice q.1 l.length q.2) ∧ AH D w w' [row q.1 83 3 l.length q.2 (l.flatMap CJ)] := by
 obtain ⟨A, cap, rfl, hc1, hc2, HS, hok⟩ := HA.EG
 have HS : CS D w A (l.flatMap CJ) := HS
 refine BZ (vs := [.slice A l.length cap]) Tryz.func103 rfl _ Tryz.ntmps103 rfl (AH.start D w) ?_
 simp only [BX, Nat.zero_add]
 refine zg <| zs rfl <| zn <| AG <| zg <| zm rfl <| zv (SK rfl rfl) <| zn <| ?_
 refine FW rfl (fun h => ?_) (fun h => ?_)
 ·have hnil := WV (f := CJ) (fun _ => rfl) HS h
  subst hnil
  refine zg <| zs rfl <| zn <| zq <| zr <| ?_
  exact zz rfl rfl fun w' H' => ⟨(none, 0), rfl, H'.AK (AD.EB _ _)⟩
 refine zk <| zg <| AV (BS rfl rfl rfl) rfl rfl rfl fun b5 =>
  zm rfl <| ?_
 refine HL.AK (AD.FQ (b := b5) 3 0 rfl AF) ?_
 refine AV (BT (A := some ⟨b5, 0, none⟩) (news := l.flatMap CJ) rfl rfl (BB.old HS) (FU (f := CJ) (sz := 3) (fun _ => rfl) l) (GH bE l) AF AA) rfl rfl rfl (fun q1 => ?_)
 rw [List.nil_append, Nat.zero_add]
 refine zs rfl <| zn <| zq <| ?_
 exact zz rfl rfl fun w' H' => ⟨q1, rfl, H'.AK Z8⟩
theorem KU (v : Value) (l : List EI) (hl : l.length ≤ 100000) (HA : Old D w (AX.rep l [v])) :
  Calls Tryz.prog 104 #[v] w fun e w' => ∃ q : Option Addr × Nat, e = .returned (.slice q.1 l.length q.2) ∧ AH D w w' [row q.1 147 3 l.length q.2 (l.flatMap BJ)] := by
 obtain ⟨A, cap, rfl, hc1, hc2, HS, hok⟩ := HA.EG
 have HS : CS D w A (l.flatMap BJ) := HS
 refine BZ (vs := [.slice A l.length cap]) Tryz.func104 rfl _ Tryz.ntmps104 rfl (AH.start D w) ?_
 simp only [BX, Nat.zero_add]
 refine zg <| zs rfl <| zn <| AG <| zg <| zm rfl <| zv (SK rfl rfl) <| zn <| ?_
 refine FW rfl (fun h => ?_) (fun h => ?_)
 ·have hnil := WV (f := BJ) (fun _ => rfl) HS h
  subst hnil
  refine zg <| zs rfl <| zn <| zq <| zr <| ?_
  exact zz rfl rfl fun w' H' => ⟨(none, 0), rfl, H'.AK (AD.EB _ _)⟩
 refine zk <| zg <| AV (BS rfl rfl rfl) rfl rfl rfl fun b5 =>
  zm rfl <| ?_
 refine HL.AK (AD.FQ (b := b5) 3 0 rfl AF) ?_
 refine AV (BT (A := some ⟨b5, 0, none⟩) (news := l.flatMap BJ) rfl rfl (BB.old HS) (FU (f := BJ) (sz := 3) (fun _ => rfl) l) (GH GF l) AF AA) rfl rfl rfl (fun q1 => ?_)
 rw [List.nil_append, Nat.zero_add]
 refine zs rfl <| zn <| zq <| ?_
 exact zz rfl rfl fun w' H' => ⟨q1, rfl, H'.AK Z8⟩
theorem KV (v : Value) (l : List FM) (hl : l.length ≤ 100000) (HA : Old D w (AX.rep l [v])) :
  Calls Tryz.prog 105 #[v] w fun e w' => ∃ q : Option Addr × Nat, e = .returned (.slice q.1 l.length q.2) ∧ AH D w w' [row q.1 149 3 l.length q.2 (l.flatMap BW)] := by
 obtain ⟨A, cap, rfl, hc1, hc2, HS, hok⟩ := HA.EG
 have HS : CS D w A (l.flatMap BW) := HS
 refine BZ (vs := [.slice A l.length cap]) Tryz.func105 rfl _ Tryz.ntmps105 rfl (AH.start D w) ?_
 simp only [BX, Nat.zero_add]
 refine zg <| zs rfl <| zn <| AG <| zg <| zm rfl <| zv (SK rfl rfl) <| zn <| ?_
 refine FW rfl (fun h => ?_) (fun h => ?_)
 ·have hnil := WV (f := BW) (fun _ => rfl) HS h
  subst hnil
  refine zg <| zs rfl <| zn <| zq <| zr <| ?_
  exact zz rfl rfl fun w' H' => ⟨(none, 0), rfl, H'.AK (AD.EB _ _)⟩
 refine zk <| zg <| AV (BS rfl rfl rfl) rfl rfl rfl fun b5 =>
  zm rfl <| ?_
 refine HL.AK (AD.FQ (b := b5) 3 0 rfl AF) ?_
 refine AV (BT (A := some ⟨b5, 0, none⟩) (news := l.flatMap BW) rfl rfl (BB.old HS) (FU (f := BW) (sz := 3) (fun _ => rfl) l) (GH JO l) AF AA) rfl rfl rfl (fun q1 => ?_)
 rw [List.nil_append, Nat.zero_add]
 refine zs rfl <| zn <| zq <| ?_
 exact zz rfl rfl fun w' H' => ⟨q1, rfl, H'.AK Z8⟩
theorem bC (c : CA) (vp vv vs : Value) (HC0 : ER D w c vp vv vs) :
  Calls Tryz.prog 65 #[.agg (C9 c vp vv vs).toArray] w fun e w' => ∃ q : DA, e = .returned (.agg (B3 c q).toArray) ∧ AH D w w' (C6 c q) := by
 have h1p : ∃ A n cap, vp = .slice A n cap := by obtain ⟨A, cap, rfl, _⟩ := HC0.p.EG; exact ⟨_, _, _, rfl⟩
 have h1v : ∃ A n cap, vv = .slice A n cap := by obtain ⟨A, cap, rfl, _⟩ := HC0.v.EG; exact ⟨_, _, _, rfl⟩
 have h1s : ∃ A n cap, vs = .slice A n cap := by obtain ⟨A, cap, rfl, _⟩ := HC0.s.EG; exact ⟨_, _, _, rfl⟩
 refine BZ (vs := [.agg (C9 c vp vv vs).toArray]) Tryz.func65 rfl _ Tryz.ntmps65 rfl (AH.start D w) ?_
 simp only [BX, Nat.zero_add]
 refine zg <| AV (EE rfl rfl) rfl rfl rfl fun b1 =>  ?_
 refine AV (B9) rfl rfl rfl fun b2 => 
  zn <| AG <| ?_
 refine NC (σ := DA) [1, 2] rfl  (fun q => [AI b1 49 (B3 c q), AI b2 49 [.int .i64 0, .int .i64 0, .int .i64 0, .slice none 0 0, .slice none 0 0, .slice none 0 0]] ++ C6 c q) (fun K1 hK1 => ?_) (fun q => ?_)
 ·refine EF [] mixed 15 rfl ?_
  refine AE 0 rfl (AP rfl) rfl <| AE 3 rfl (AP rfl) rfl <| AE 6 rfl (AP rfl) rfl <| PM 1 4 7 AB ?_ ?_ ?_
  ·skip
   refine CW rfl (zw rfl rfl) rfl <| PM 2 4 7 AB ?_ ?_ ?_
   ·skip
    refine CR (σ := Option Addr × Nat) rfl Tryz.call103 rfl (fun w1 => zu fun D' hold _ _ => MR D' w1 vp c.2.2.2.1 M4 (hold _ HC0.p)) ?_
    intro q1
    try rw [List.nil_append]
    refine DE 4 7 AB ?_ ?_
    ·skip
     refine CW rfl (zw rfl rfl) rfl <| DE 5 7 AB ?_ ?_
     ·skip
      refine CR (σ := Option Addr × Nat) rfl Tryz.call104 rfl (fun w1 => zu fun D' hold _ _ => KU D' w1 vv c.2.2.2.2.1 LI (hold _ HC0.v)) ?_
      intro q2
      try rw [List.nil_append]
      refine AL 7 AB <| CW rfl (zw rfl rfl) rfl <| AE 9 rfl (AP rfl) rfl <| AL 8 AB <| CR (σ := Option Addr × Nat) rfl Tryz.call105 rfl (fun w1 => zu fun D' hold _ _ => KV D' w1 vs c.2.2.2.2.2 LG (hold _ HC0.s)) ?_
      intro q3
      try rw [List.nil_append]
      refine AL 10 AB <| CB rfl (CI (C9 c (.slice q1.1 c.2.2.2.1.length q1.2) vv vs) rfl rfl (by simp) rfl rfl) rfl ?_
      refine AE 11 rfl (AP rfl) rfl <| AL 12 AB <| CB rfl (CI (C9 c (.slice q1.1 c.2.2.2.1.length q1.2) (.slice q2.1 c.2.2.2.2.1.length q2.2) vs) rfl rfl (by simp) rfl rfl) rfl ?_
      refine AE 13 rfl (AP rfl) rfl <| AL 14 AB <| CB rfl (CI (B3 c (q1, q2, q3)) rfl rfl (by simp) rfl rfl) rfl ?_
      refine BY AB <| ?_
      refine DF hK1 ((q1, q2, q3)) BD BL
     skip
     refine CW rfl (zw rfl rfl) rfl <| AE 9 rfl (AP rfl) rfl <| AL 5 AB <| CR (σ := Option Addr × Nat) rfl Tryz.call104 rfl (fun w1 => zu fun D' hold _ _ => KU D' w1 vv c.2.2.2.2.1 LI (hold _ HC0.v)) ?_
     intro q2
     try rw [List.nil_append]
     refine AL 8 AB <| CR (σ := Option Addr × Nat) rfl Tryz.call105 rfl (fun w1 => zu fun D' hold _ _ => KV D' w1 vs c.2.2.2.2.2 LG (hold _ HC0.s)) ?_
     intro q3
     try rw [List.nil_append]
     refine AL 10 AB <| CB rfl (CI (C9 c (.slice q1.1 c.2.2.2.1.length q1.2) vv vs) rfl rfl (by simp) rfl rfl) rfl ?_
     refine AE 11 rfl (AP rfl) rfl <| AL 12 AB <| CB rfl (CI (C9 c (.slice q1.1 c.2.2.2.1.length q1.2) (.slice q2.1 c.2.2.2.2.1.length q2.2) vs) rfl rfl (by simp) rfl rfl) rfl ?_
     refine AE 13 rfl (AP rfl) rfl <| AL 14 AB <| CB rfl (CI (B3 c (q1, q2, q3)) rfl rfl (by simp) rfl rfl) rfl ?_
     refine BY AB <| ?_
     refine DF hK1 ((q1, q2, q3)) BD BL
    skip
    refine CW rfl (zw rfl rfl) rfl <| AL 4 AB <| CW rfl (zw rfl rfl) rfl <| AE 9 rfl (AP rfl) rfl <| AL 5 AB <| CR (σ := Option Addr × Nat) rfl Tryz.call104 rfl (fun w1 => zu fun D' hold _ _ => KU D' w1 vv c.2.2.2.2.1 LI (hold _ HC0.v)) ?_
    intro q2
    try rw [List.nil_append]
    refine AL 8 AB <| CR (σ := Option Addr × Nat) rfl Tryz.call105 rfl (fun w1 => zu fun D' hold _ _ => KV D' w1 vs c.2.2.2.2.2 LG (hold _ HC0.s)) ?_
    intro q3
    try rw [List.nil_append]
    refine AL 10 AB <| CB rfl (CI (C9 c (.slice q1.1 c.2.2.2.1.length q1.2) vv vs) rfl rfl (by simp) rfl rfl) rfl ?_
    refine AE 11 rfl (AP rfl) rfl <| AL 12 AB <| CB rfl (CI (C9 c (.slice q1.1 c.2.2.2.1.length q1.2) (.slice q2.1 c.2.2.2.2.1.length q2.2) vs) rfl rfl (by simp) rfl rfl) rfl ?_
    refine AE 13 rfl (AP rfl) rfl <| AL 14 AB <| CB rfl (CI (B3 c (q1, q2, q3)) rfl rfl (by simp) rfl rfl) rfl ?_
    refine BY AB <| ?_
    refine DF hK1 ((q1, q2, q3)) BD BL
   ·skip
    refine CW rfl (zw rfl rfl) rfl <| DE 2 7 AB ?_ ?_
    ·skip
     refine CR (σ := Option Addr × Nat) rfl Tryz.call103 rfl (fun w1 => zu fun D' hold _ _ => MR D' w1 vp c.2.2.2.1 M4 (hold _ HC0.p)) ?_
     intro q1
     try rw [List.nil_append]
     refine DE 5 7 AB ?_ ?_
     ·skip
      refine CR (σ := Option Addr × Nat) rfl Tryz.call104 rfl (fun w1 => zu fun D' hold _ _ => KU D' w1 vv c.2.2.2.2.1 LI (hold _ HC0.v)) ?_
      intro q2
      try rw [List.nil_append]
      refine AL 7 AB <| CW rfl (zw rfl rfl) rfl <| AE 9 rfl (AP rfl) rfl <| AL 8 AB <| CR (σ := Option Addr × Nat) rfl Tryz.call105 rfl (fun w1 => zu fun D' hold _ _ => KV D' w1 vs c.2.2.2.2.2 LG (hold _ HC0.s)) ?_
      intro q3
      try rw [List.nil_append]
      refine AL 10 AB <| CB rfl (CI (C9 c (.slice q1.1 c.2.2.2.1.length q1.2) vv vs) rfl rfl (by simp) rfl rfl) rfl ?_
      refine AE 11 rfl (AP rfl) rfl <| AL 12 AB <| CB rfl (CI (C9 c (.slice q1.1 c.2.2.2.1.length q1.2) (.slice q2.1 c.2.2.2.2.1.length q2.2) vs) rfl rfl (by simp) rfl rfl) rfl ?_
      refine AE 13 rfl (AP rfl) rfl <| AL 14 AB <| CB rfl (CI (B3 c (q1, q2, q3)) rfl rfl (by simp) rfl rfl) rfl ?_
      refine BY AB <| ?_
      refine DF hK1 ((q1, q2, q3)) BD BL
     skip
     refine CW rfl (zw rfl rfl) rfl <| AE 9 rfl (AP rfl) rfl <| AL 5 AB <| CR (σ := Option Addr × Nat) rfl Tryz.call104 rfl (fun w1 => zu fun D' hold _ _ => KU D' w1 vv c.2.2.2.2.1 LI (hold _ HC0.v)) ?_
     intro q2
     try rw [List.nil_append]
     refine AL 8 AB <| CR (σ := Option Addr × Nat) rfl Tryz.call105 rfl (fun w1 => zu fun D' hold _ _ => KV D' w1 vs c.2.2.2.2.2 LG (hold _ HC0.s)) ?_
     intro q3
     try rw [List.nil_append]
     refine AL 10 AB <| CB rfl (CI (C9 c (.slice q1.1 c.2.2.2.1.length q1.2) vv vs) rfl rfl (by simp) rfl rfl) rfl ?_
     refine AE 11 rfl (AP rfl) rfl <| AL 12 AB <| CB rfl (CI (C9 c (.slice q1.1 c.2.2.2.1.length q1.2) (.slice q2.1 c.2.2.2.2.1.length q2.2) vs) rfl rfl (by simp) rfl rfl) rfl ?_
     refine AE 13 rfl (AP rfl) rfl <| AL 14 AB <| CB rfl (CI (B3 c (q1, q2, q3)) rfl rfl (by simp) rfl rfl) rfl ?_
     refine BY AB <| ?_
     refine DF hK1 ((q1, q2, q3)) BD BL
    skip
    refine CW rfl (zw rfl rfl) rfl <| AL 2 AB <| CR (σ := Option Addr × Nat) rfl Tryz.call103 rfl (fun w1 => zu fun D' hold _ _ => MR D' w1 vp c.2.2.2.1 M4 (hold _ HC0.p)) ?_
    intro q1
    try rw [List.nil_append]
    refine AE 9 rfl (AP rfl) rfl <| AL 5 AB <| CR (σ := Option Addr × Nat) rfl Tryz.call104 rfl (fun w1 => zu fun D' hold _ _ => KU D' w1 vv c.2.2.2.2.1 LI (hold _ HC0.v)) ?_
    intro q2
    try rw [List.nil_append]
    refine AL 8 AB <| CR (σ := Option Addr × Nat) rfl Tryz.call105 rfl (fun w1 => zu fun D' hold _ _ => KV D' w1 vs c.2.2.2.2.2 LG (hold _ HC0.s)) ?_
    intro q3
    try rw [List.nil_append]
    refine AL 10 AB <| CB rfl (CI (C9 c (.slice q1.1 c.2.2.2.1.length q1.2) vv vs) rfl rfl (by simp) rfl rfl) rfl ?_
    refine AE 11 rfl (AP rfl) rfl <| AL 12 AB <| CB rfl (CI (C9 c (.slice q1.1 c.2.2.2.1.length q1.2) (.slice q2.1 c.2.2.2.2.1.length q2.2) vs) rfl rfl (by simp) rfl rfl) rfl ?_
    refine AE 13 rfl (AP rfl) rfl <| AL 14 AB <| CB rfl (CI (B3 c (q1, q2, q3)) rfl rfl (by simp) rfl rfl) rfl ?_
    refine BY AB <| ?_
    refine DF hK1 ((q1, q2, q3)) BD BL
   skip
   refine CW rfl (zw rfl rfl) rfl <| DE 2 4 AB ?_ ?_
   ·skip
    refine CR (σ := Option Addr × Nat) rfl Tryz.call103 rfl (fun w1 => zu fun D' hold _ _ => MR D' w1 vp c.2.2.2.1 M4 (hold _ HC0.p)) ?_
    intro q1
    try rw [List.nil_append]
    refine AL 4 AB <| CW rfl (zw rfl rfl) rfl <| AE 9 rfl (AP rfl) rfl <| AL 5 AB <| CR (σ := Option Addr × Nat) rfl Tryz.call104 rfl (fun w1 => zu fun D' hold _ _ => KU D' w1 vv c.2.2.2.2.1 LI (hold _ HC0.v)) ?_
    intro q2
    try rw [List.nil_append]
    refine AL 8 AB <| CR (σ := Option Addr × Nat) rfl Tryz.call105 rfl (fun w1 => zu fun D' hold _ _ => KV D' w1 vs c.2.2.2.2.2 LG (hold _ HC0.s)) ?_
    intro q3
    try rw [List.nil_append]
    refine AL 10 AB <| CB rfl (CI (C9 c (.slice q1.1 c.2.2.2.1.length q1.2) vv vs) rfl rfl (by simp) rfl rfl) rfl ?_
    refine AE 11 rfl (AP rfl) rfl <| AL 12 AB <| CB rfl (CI (C9 c (.slice q1.1 c.2.2.2.1.length q1.2) (.slice q2.1 c.2.2.2.2.1.length q2.2) vs) rfl rfl (by simp) rfl rfl) rfl ?_
    refine AE 13 rfl (AP rfl) rfl <| AL 14 AB <| CB rfl (CI (B3 c (q1, q2, q3)) rfl rfl (by simp) rfl rfl) rfl ?_
    refine BY AB <| ?_
    refine DF hK1 ((q1, q2, q3)) BD BL
   skip
   refine CW rfl (zw rfl rfl) rfl <| AL 2 AB <| CR (σ := Option Addr × Nat) rfl Tryz.call103 rfl (fun w1 => zu fun D' hold _ _ => MR D' w1 vp c.2.2.2.1 M4 (hold _ HC0.p)) ?_
   intro q1
   try rw [List.nil_append]
   refine AE 9 rfl (AP rfl) rfl <| AL 5 AB <| CR (σ := Option Addr × Nat) rfl Tryz.call104 rfl (fun w1 => zu fun D' hold _ _ => KU D' w1 vv c.2.2.2.2.1 LI (hold _ HC0.v)) ?_
   intro q2
   try rw [List.nil_append]
   refine AL 8 AB <| CR (σ := Option Addr × Nat) rfl Tryz.call105 rfl (fun w1 => zu fun D' hold _ _ => KV D' w1 vs c.2.2.2.2.2 LG (hold _ HC0.s)) ?_
   intro q3
   try rw [List.nil_append]
   refine AL 10 AB <| CB rfl (CI (C9 c (.slice q1.1 c.2.2.2.1.length q1.2) vv vs) rfl rfl (by simp) rfl rfl) rfl ?_
   refine AE 11 rfl (AP rfl) rfl <| AL 12 AB <| CB rfl (CI (C9 c (.slice q1.1 c.2.2.2.1.length q1.2) (.slice q2.1 c.2.2.2.2.1.length q2.2) vs) rfl rfl (by simp) rfl rfl) rfl ?_
   refine AE 13 rfl (AP rfl) rfl <| AL 14 AB <| CB rfl (CI (B3 c (q1, q2, q3)) rfl rfl (by simp) rfl rfl) rfl ?_
   refine BY AB <| ?_
   refine DF hK1 ((q1, q2, q3)) BD BL
  ·skip
   refine CW rfl (zw rfl rfl) rfl <| DE 1 7 AB ?_ ?_
   ·skip
    refine CW rfl (zw rfl rfl) rfl <| DE 2 7 AB ?_ ?_
    ·skip
     refine CR (σ := Option Addr × Nat) rfl Tryz.call103 rfl (fun w1 => zu fun D' hold _ _ => MR D' w1 vp c.2.2.2.1 M4 (hold _ HC0.p)) ?_
     intro q1
     try rw [List.nil_append]
     refine DE 5 7 AB ?_ ?_
     ·skip
      refine CR (σ := Option Addr × Nat) rfl Tryz.call104 rfl (fun w1 => zu fun D' hold _ _ => KU D' w1 vv c.2.2.2.2.1 LI (hold _ HC0.v)) ?_
      intro q2
      try rw [List.nil_append]
      refine AL 7 AB <| CW rfl (zw rfl rfl) rfl <| AE 9 rfl (AP rfl) rfl <| AL 8 AB <| CR (σ := Option Addr × Nat) rfl Tryz.call105 rfl (fun w1 => zu fun D' hold _ _ => KV D' w1 vs c.2.2.2.2.2 LG (hold _ HC0.s)) ?_
      intro q3
      try rw [List.nil_append]
      refine AL 10 AB <| CB rfl (CI (C9 c (.slice q1.1 c.2.2.2.1.length q1.2) vv vs) rfl rfl (by simp) rfl rfl) rfl ?_
      refine AE 11 rfl (AP rfl) rfl <| AL 12 AB <| CB rfl (CI (C9 c (.slice q1.1 c.2.2.2.1.length q1.2) (.slice q2.1 c.2.2.2.2.1.length q2.2) vs) rfl rfl (by simp) rfl rfl) rfl ?_
      refine AE 13 rfl (AP rfl) rfl <| AL 14 AB <| CB rfl (CI (B3 c (q1, q2, q3)) rfl rfl (by simp) rfl rfl) rfl ?_
      refine BY AB <| ?_
      refine DF hK1 ((q1, q2, q3)) BD BL
     skip
     refine CW rfl (zw rfl rfl) rfl <| AE 9 rfl (AP rfl) rfl <| AL 5 AB <| CR (σ := Option Addr × Nat) rfl Tryz.call104 rfl (fun w1 => zu fun D' hold _ _ => KU D' w1 vv c.2.2.2.2.1 LI (hold _ HC0.v)) ?_
     intro q2
     try rw [List.nil_append]
     refine AL 8 AB <| CR (σ := Option Addr × Nat) rfl Tryz.call105 rfl (fun w1 => zu fun D' hold _ _ => KV D' w1 vs c.2.2.2.2.2 LG (hold _ HC0.s)) ?_
     intro q3
     try rw [List.nil_append]
     refine AL 10 AB <| CB rfl (CI (C9 c (.slice q1.1 c.2.2.2.1.length q1.2) vv vs) rfl rfl (by simp) rfl rfl) rfl ?_
     refine AE 11 rfl (AP rfl) rfl <| AL 12 AB <| CB rfl (CI (C9 c (.slice q1.1 c.2.2.2.1.length q1.2) (.slice q2.1 c.2.2.2.2.1.length q2.2) vs) rfl rfl (by simp) rfl rfl) rfl ?_
     refine AE 13 rfl (AP rfl) rfl <| AL 14 AB <| CB rfl (CI (B3 c (q1, q2, q3)) rfl rfl (by simp) rfl rfl) rfl ?_
     refine BY AB <| ?_
     refine DF hK1 ((q1, q2, q3)) BD BL
    skip
    refine CW rfl (zw rfl rfl) rfl <| AL 2 AB <| CR (σ := Option Addr × Nat) rfl Tryz.call103 rfl (fun w1 => zu fun D' hold _ _ => MR D' w1 vp c.2.2.2.1 M4 (hold _ HC0.p)) ?_
    intro q1
    try rw [List.nil_append]
    refine AE 9 rfl (AP rfl) rfl <| AL 5 AB <| CR (σ := Option Addr × Nat) rfl Tryz.call104 rfl (fun w1 => zu fun D' hold _ _ => KU D' w1 vv c.2.2.2.2.1 LI (hold _ HC0.v)) ?_
    intro q2
    try rw [List.nil_append]
    refine AL 8 AB <| CR (σ := Option Addr × Nat) rfl Tryz.call105 rfl (fun w1 => zu fun D' hold _ _ => KV D' w1 vs c.2.2.2.2.2 LG (hold _ HC0.s)) ?_
    intro q3
    try rw [List.nil_append]
    refine AL 10 AB <| CB rfl (CI (C9 c (.slice q1.1 c.2.2.2.1.length q1.2) vv vs) rfl rfl (by simp) rfl rfl) rfl ?_
    refine AE 11 rfl (AP rfl) rfl <| AL 12 AB <| CB rfl (CI (C9 c (.slice q1.1 c.2.2.2.1.length q1.2) (.slice q2.1 c.2.2.2.2.1.length q2.2) vs) rfl rfl (by simp) rfl rfl) rfl ?_
    refine AE 13 rfl (AP rfl) rfl <| AL 14 AB <| CB rfl (CI (B3 c (q1, q2, q3)) rfl rfl (by simp) rfl rfl) rfl ?_
    refine BY AB <| ?_
    refine DF hK1 ((q1, q2, q3)) BD BL
   skip
   refine CW rfl (zw rfl rfl) rfl <| AL 1 AB <| CW rfl (zw rfl rfl) rfl <| AL 2 AB <| CR (σ := Option Addr × Nat) rfl Tryz.call103 rfl (fun w1 => zu fun D' hold _ _ => MR D' w1 vp c.2.2.2.1 M4 (hold _ HC0.p)) ?_
   intro q1
   try rw [List.nil_append]
   refine AE 9 rfl (AP rfl) rfl <| AL 5 AB <| CR (σ := Option Addr × Nat) rfl Tryz.call104 rfl (fun w1 => zu fun D' hold _ _ => KU D' w1 vv c.2.2.2.2.1 LI (hold _ HC0.v)) ?_
   intro q2
   try rw [List.nil_append]
   refine AL 8 AB <| CR (σ := Option Addr × Nat) rfl Tryz.call105 rfl (fun w1 => zu fun D' hold _ _ => KV D' w1 vs c.2.2.2.2.2 LG (hold _ HC0.s)) ?_
   intro q3
   try rw [List.nil_append]
   refine AL 10 AB <| CB rfl (CI (C9 c (.slice q1.1 c.2.2.2.1.length q1.2) vv vs) rfl rfl (by simp) rfl rfl) rfl ?_
   refine AE 11 rfl (AP rfl) rfl <| AL 12 AB <| CB rfl (CI (C9 c (.slice q1.1 c.2.2.2.1.length q1.2) (.slice q2.1 c.2.2.2.2.1.length q2.2) vs) rfl rfl (by simp) rfl rfl) rfl ?_
   refine AE 13 rfl (AP rfl) rfl <| AL 14 AB <| CB rfl (CI (B3 c (q1, q2, q3)) rfl rfl (by simp) rfl rfl) rfl ?_
   refine BY AB <| ?_
   refine DF hK1 ((q1, q2, q3)) BD BL
  skip
  refine CW rfl (zw rfl rfl) rfl <| DE 1 4 AB ?_ ?_
  ·skip
   refine CW rfl (zw rfl rfl) rfl <| DE 2 4 AB ?_ ?_
   ·skip
    refine CR (σ := Option Addr × Nat) rfl Tryz.call103 rfl (fun w1 => zu fun D' hold _ _ => MR D' w1 vp c.2.2.2.1 M4 (hold _ HC0.p)) ?_
    intro q1
    try rw [List.nil_append]
    refine AL 4 AB <| CW rfl (zw rfl rfl) rfl <| AE 9 rfl (AP rfl) rfl <| AL 5 AB <| CR (σ := Option Addr × Nat) rfl Tryz.call104 rfl (fun w1 => zu fun D' hold _ _ => KU D' w1 vv c.2.2.2.2.1 LI (hold _ HC0.v)) ?_
    intro q2
    try rw [List.nil_append]
    refine AL 8 AB <| CR (σ := Option Addr × Nat) rfl Tryz.call105 rfl (fun w1 => zu fun D' hold _ _ => KV D' w1 vs c.2.2.2.2.2 LG (hold _ HC0.s)) ?_
    intro q3
    try rw [List.nil_append]
    refine AL 10 AB <| CB rfl (CI (C9 c (.slice q1.1 c.2.2.2.1.length q1.2) vv vs) rfl rfl (by simp) rfl rfl) rfl ?_
    refine AE 11 rfl (AP rfl) rfl <| AL 12 AB <| CB rfl (CI (C9 c (.slice q1.1 c.2.2.2.1.length q1.2) (.slice q2.1 c.2.2.2.2.1.length q2.2) vs) rfl rfl (by simp) rfl rfl) rfl ?_
    refine AE 13 rfl (AP rfl) rfl <| AL 14 AB <| CB rfl (CI (B3 c (q1, q2, q3)) rfl rfl (by simp) rfl rfl) rfl ?_
    refine BY AB <| ?_
    refine DF hK1 ((q1, q2, q3)) BD BL
   skip
   refine CW rfl (zw rfl rfl) rfl <| AL 2 AB <| CR (σ := Option Addr × Nat) rfl Tryz.call103 rfl (fun w1 => zu fun D' hold _ _ => MR D' w1 vp c.2.2.2.1 M4 (hold _ HC0.p)) ?_
   intro q1
   try rw [List.nil_append]
   refine AE 9 rfl (AP rfl) rfl <| AL 5 AB <| CR (σ := Option Addr × Nat) rfl Tryz.call104 rfl (fun w1 => zu fun D' hold _ _ => KU D' w1 vv c.2.2.2.2.1 LI (hold _ HC0.v)) ?_
   intro q2
   try rw [List.nil_append]
   refine AL 8 AB <| CR (σ := Option Addr × Nat) rfl Tryz.call105 rfl (fun w1 => zu fun D' hold _ _ => KV D' w1 vs c.2.2.2.2.2 LG (hold _ HC0.s)) ?_
   intro q3
   try rw [List.nil_append]
   refine AL 10 AB <| CB rfl (CI (C9 c (.slice q1.1 c.2.2.2.1.length q1.2) vv vs) rfl rfl (by simp) rfl rfl) rfl ?_
   refine AE 11 rfl (AP rfl) rfl <| AL 12 AB <| CB rfl (CI (C9 c (.slice q1.1 c.2.2.2.1.length q1.2) (.slice q2.1 c.2.2.2.2.1.length q2.2) vs) rfl rfl (by simp) rfl rfl) rfl ?_
   refine AE 13 rfl (AP rfl) rfl <| AL 14 AB <| CB rfl (CI (B3 c (q1, q2, q3)) rfl rfl (by simp) rfl rfl) rfl ?_
   refine BY AB <| ?_
   refine DF hK1 ((q1, q2, q3)) BD BL
  skip
  refine CW rfl (zw rfl rfl) rfl <| AL 1 AB <| CW rfl (zw rfl rfl) rfl <| AL 2 AB <| CR (σ := Option Addr × Nat) rfl Tryz.call103 rfl (fun w1 => zu fun D' hold _ _ => MR D' w1 vp c.2.2.2.1 M4 (hold _ HC0.p)) ?_
  intro q1
  try rw [List.nil_append]
  refine AE 9 rfl (AP rfl) rfl <| AL 5 AB <| CR (σ := Option Addr × Nat) rfl Tryz.call104 rfl (fun w1 => zu fun D' hold _ _ => KU D' w1 vv c.2.2.2.2.1 LI (hold _ HC0.v)) ?_
  intro q2
  try rw [List.nil_append]
  refine AL 8 AB <| CR (σ := Option Addr × Nat) rfl Tryz.call105 rfl (fun w1 => zu fun D' hold _ _ => KV D' w1 vs c.2.2.2.2.2 LG (hold _ HC0.s)) ?_
  intro q3
  try rw [List.nil_append]
  refine AL 10 AB <| CB rfl (CI (C9 c (.slice q1.1 c.2.2.2.1.length q1.2) vv vs) rfl rfl (by simp) rfl rfl) rfl ?_
  refine AE 11 rfl (AP rfl) rfl <| AL 12 AB <| CB rfl (CI (C9 c (.slice q1.1 c.2.2.2.1.length q1.2) (.slice q2.1 c.2.2.2.2.1.length q2.2) vs) rfl rfl (by simp) rfl rfl) rfl ?_
  refine AE 13 rfl (AP rfl) rfl <| AL 14 AB <| CB rfl (CI (B3 c (q1, q2, q3)) rfl rfl (by simp) rfl rfl) rfl ?_
  refine BY AB <| ?_
  refine DF hK1 ((q1, q2, q3)) BD BL
 refine zt <| zg <| zv DY <| ?_
 refine A6 (DT rfl rfl rfl rfl rfl rfl) rfl rfl <| zn <| zq <| ?_
 exact IU (.inr rfl) rfl rfl (by simp) fun w' H' => ⟨q, rfl, H'.AK Z8⟩
end Go.Proofs.YtjlolpmmpafjeaaGreat
