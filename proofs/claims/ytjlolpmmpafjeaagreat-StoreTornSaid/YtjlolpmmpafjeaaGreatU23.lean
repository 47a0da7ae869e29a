import Derived.Test.YtjlolpmmpafjeaaGreatU22
set_option linter.unusedVariables false
set_option linter.unusedSimpArgs false
namespace Go.Proofs.YtjlolpmmpafjeaaGreat
open CN
theorem _root_.CN.BB.O0 {D : Nat → Prop} {w0 : World} {l r : List AQ} {A : Option Addr} {t : TypeId} {sz n cap : Nat} {cs : List Value} [h : GC l A t sz n cap cs r] (hA : CN.CU A) (m : Nat) (hm : m ≤ n) (hl : cs.length = n * sz) (hc : n ≤ cap) {news : List Value} (hnew : news = (cs.drop (0 * sz)).take (m * sz)) : BB D w0 l A news := by
 have h := BB.HJ (D := D) (w0 := w0) (h := h) hA 0 m AA hl hc hnew
 rw [iE] at h; exact h
theorem JN {n : Nat} (h : n ≤ 4000) : n * 16 ≤ 140737488355328 := by omega
theorem PV {x y : EI} : F7 DJ x y = true ↔ y.1 = x.1 := by
 unfold F7 DJ
 rw [Bool.and_eq_true, Bool.not_eq_true', Bool.not_eq_true', decide_eq_false_iff_not, decide_eq_false_iff_not]
 omega
theorem rS {V : List EI} {x : EI} {k : Nat} (hs : G9 DJ V) (hk : k < V.length) (he : V[k].1 = x.1) : GK DJ x V = true ∧ F9 DJ x V = V.take k ++ V.drop (k + 1) := by
 have hat : J4 DJ V x k := ⟨by omega, fun j hj hjk => by
  have := of_decide_eq_true (hs.get j k hj hk hjk)
  exact decide_eq_true AA, fun j hj hjk => by
  rcases Nat.lt_or_ge k j with h | h
  ·have := of_decide_eq_true (hs.get k j hk hj h)
   exact decide_eq_false AA
  ·obtain rfl : j = k := by omega
   exact decide_eq_false AA⟩
 have hh : GK DJ x V = true := (RH LF hs hat).2 ⟨hk, decide_eq_false AA⟩
 exact ⟨hh, (US LF hs hat hh).2⟩
theorem sL {V : List EI} {x : EI} (h : ∀ i (h : i < V.length), V[i].1 ≠ x.1) : ¬ GK DJ x V = true := fun hh => by
 unfold GK at hh
 obtain ⟨y, hy, hz⟩ := List.any_eq_true.1 hh
 obtain ⟨i, hi, rfl⟩ := List.getElem_of_mem hy
 exact h i hi (PV.1 (show F7 DJ x V[i] = true from hz))
set_option maxHeartbeats 4000000 in
theorem nT (D : Nat → Prop) (w : World) (g : Nat) (c : CA) (e : C5) (kk : Nat) (hkk : kk ≤ 40) (hm : KK c kk) (he : Flat.ok e) (H : AH D w w [IJ g c]) :
  Calls Tryz.prog 68 #[.pointer (some ⟨g, 0, none⟩), .agg (DL e).toArray] w fun r w' => r = .returned (.int .i64 (B8 c e).2) ∧ AH D w w' [IJ g (B8 c e).1] := by
 have he : DO e.1 ∧ DO e.2.1 ∧ DO e.2.2.1 ∧ DO e.2.2.2.1 := he
 have hlp := hm.lp
 have hlv := hm.lv
 have hls := hm.ls
 obtain ⟨q, H⟩ := AH.exs H
 refine BZ (vs := [.pointer (some ⟨g, 0, none⟩), .agg (DL e).toArray]) Tryz.func68 rfl _ Tryz.ntmps68 rfl H ?_
 simp only [BX, Nat.zero_add]
 refine HC.AK (l' := DC g c q) (fun _ h => h) ?_
 refine zg <| AV (EE rfl rfl) rfl rfl rfl fun b3 =>  ?_
 refine zs rfl <| zn <| AG <| AG <| GM mixed AB <| ?_
 refine AM (AP rfl) rfl <| AM (zw rfl rfl) rfl <| AM (GN rfl rfl) rfl <| AM (AO rfl) rfl <| ?_
 refine JC (t := 13) rfl (fun p1 => ?_) (fun p1 => ?_)
 ·refine B6 rfl rfl <| AM (AP rfl) rfl <| B6 rfl rfl <| AM (zw rfl rfl) rfl <| B6 rfl rfl <| AM (LB rfl rfl) rfl <| AM (BF rfl rfl) rfl <| AM (AO rfl) rfl <| ?_
  refine JC (t := 18) rfl (fun p2 => ?_) (fun p2 => ?_)
  ·refine B6 rfl rfl <| AM (AP rfl) rfl <| B6 rfl rfl <| AM (zw rfl rfl) rfl <| B6 rfl rfl <| AM (B7 rfl rfl) rfl <| B6 rfl rfl <| AM (AO rfl) rfl <| ?_
   refine JC (t := 22) rfl (fun p4 => ?_) (fun p4 => ?_)
   ·have hpc : E8 c e = (c, 1) := by unfold E8; rw [if_pos (.inl p4)]
    have hres : B8 c e = (c, 1) := (NT ⟨by omega, by omega⟩).trans hpc
    refine BG rfl rfl rfl rfl rfl rfl <| BG rfl rfl rfl rfl rfl rfl <| BG rfl rfl rfl rfl rfl rfl <| BG rfl rfl rfl rfl rfl rfl <| BG rfl rfl rfl rfl rfl rfl <| BG rfl rfl rfl rfl rfl rfl <| ?_
    refine BG rfl rfl rfl rfl rfl rfl <| BG rfl rfl rfl rfl rfl rfl <| B6 rfl rfl <| AM (BF rfl rfl) rfl <| AM (BF rfl rfl) rfl <| EM <| zt <| ?_
    refine DD rfl <| zg <| zs rfl <| zn <| zq <| zr <| ?_
    exact zz rfl rfl fun w' H' => ⟨by rw [hres], H'.AK (AD.trans (b := DC g (B8 c e).1 q) Z6 (D1 (l := []) q))⟩
   refine B6 rfl rfl <| AM (AP rfl) rfl <| B6 rfl rfl <| AM (zw rfl rfl) rfl <| B6 rfl rfl <| AM (AO rfl) rfl <| B6 rfl rfl <| AM (AY rfl) rfl <| B6 rfl rfl <| AM (AP rfl) rfl <| B6 rfl rfl <| AM (zw rfl rfl) rfl <| ?_
   refine B6 rfl rfl <| AM BN rfl <| ?_
   refine B6 rfl rfl <| AM (GN rfl rfl) rfl <| B6 rfl rfl <| AM (A8 rfl rfl) rfl <| AM (BF rfl rfl) rfl <| EM <| zt <| ?_
   refine BP rfl (fun p5 => ?_) (fun p5 => ?_)
   ·have hpc : E8 c e = (c, 1) := by unfold E8; rw [if_pos (.inr AA)]
    have hres : B8 c e = (c, 1) := (NT ⟨by omega, by omega⟩).trans hpc
    refine zg <| zs rfl <| zn <| zq <| zr <| ?_
    exact zz rfl rfl fun w' H' => ⟨by rw [hres], H'.AK (AD.trans (b := DC g (B8 c e).1 q) Z6 (D1 (l := []) q))⟩
   have hlt : e.2.1.toNat < c.2.2.2.1.length := by omega
   refine HC.fact (fun w H => AH.GS q.1.1 H) ?_
   rintro ⟨hpl, hpc, _, hA⟩
   have hA : CU q.1.1 := hA VD
   obtain ⟨i, hi⟩ : ∃ i, i = e.2.1.toNat := ⟨_, rfl⟩
   have hii : (i : Int) = e.2.1 := by omega
   rw [← hi] at hlt
   have hgd : c.2.2.2.1.getD i (false, 0, 0) = c.2.2.2.1[i] := by rw [List.getD_eq_getElem?_getD, List.getElem?_eq_getElem hlt]; rfl
   have hfl := FU (f := CJ) (sz := 3) (fun _ => rfl) c.2.2.2.1
   have hop : B8 c e = E8 c e := NT ⟨by omega, by omega⟩
   refine zk <| AG <| zg <| zf rfl <| ?_
   refine zl rfl rfl <| zn <| BK <| zg <| zv (CO rfl rfl) <| zs rfl <| zn <| CP rfl ((show ¬ e.1 = 1 by omega)) ?_
   refine zg <| zv (CO rfl rfl) <| zs rfl <| zn <| CP rfl ((show ¬ e.1 = 2 by omega)) ?_
   refine zg <| zv (CO rfl rfl) <| zs rfl <| zn <| CP rfl ((show ¬ e.1 = 3 by omega)) ?_
   refine zg <| zv (CO rfl rfl) <| zs rfl <| zn <| BP rfl (fun k4 => ?_) (fun k4 => ?_)
   ·have k4 : e.1 = 4 := k4
    have hok4 : (e.2.2.1 = 0 ∨ e.2.2.1 = 1) → B8 c e = ((c.1, c.2.1, c.2.2.1, c.2.2.2.1.set i (decide (e.2.2.1 = 1), c.2.2.2.1[i].2), c.2.2.2.2), 0) := fun hh => by rw [hop]; unfold E8; rw [if_neg AA, if_pos k4, if_neg AA, ← hi]; dsimp only; rw [hgd]
    refine AG <| zg <| zf rfl <| zl rfl rfl <| zv (CG rfl rfl) <| ?_
    refine zm rfl <| DB (t := 61) rfl (fun z1 => ?_) (fun z1 => ?_)
    ·refine AJ rfl rfl <| zf rfl <| AJ rfl rfl <| zl rfl rfl <| AJ rfl rfl <| zv (CG rfl rfl) <| zv (BF rfl rfl) <| zn <| ?_
     refine BP rfl (fun z2 => ?_) (fun z2 => ?_)
     ·have hpc : E8 c e = (c, 1) := by unfold E8; rw [if_neg AA, if_pos k4, if_pos ⟨z1, z2⟩]
      have hres : B8 c e = (c, 1) := (NT ⟨by omega, by omega⟩).trans hpc
      refine zg <| zs rfl <| zn <| zq <| zr <| B4 <| zr <| ?_
      exact zz rfl rfl fun w' H' => ⟨by rw [hres], H'.AK (AD.trans (b := DC g (B8 c e).1 q) Z6 (D1 (l := []) q))⟩
     have hres := hok4 (.inr AA)
     refine zk <| E2 11 mixed AB ?_
     refine AT (AO rfl) rfl <| AT (AY rfl) rfl <| AT (AP rfl) rfl <| AT (zw rfl rfl) rfl <| AT (AP rfl) rfl <| AT (zw rfl rfl) rfl <| ?_
     refine AT (AP rfl) rfl <| AT (zw rfl rfl) rfl <| AT (CO rfl rfl) rfl <| ?_
     refine AT (CZ rfl hA rfl i AA AA) rfl ?_
     refine AT (AP rfl) rfl <| EV <| ?_
     refine A6 (OP (A := q.1.1) (i * 3 + 0) ((c.2.2.2.1.set i (decide (e.2.2.1 = 1), c.2.2.2.1[i].2)).flatMap CJ) rfl rfl AA O9 rfl (NV (f := CJ) (sz := 3) (fun _ => rfl) _ i 0 _ _ hlt AF rfl)) rfl rfl ?_
     refine AS <| zb <| zt <| zg <| zs rfl <| zn <| zq <| ?_
     exact zz rfl rfl fun w' H' => ⟨by rw [hres], H'.AK (AD.trans (b := DC g (B8 c e).1 q) Z1 (D1 (l := []) q))⟩
    have hres := hok4 (.inl AA)
    refine zo rfl rfl <| zo rfl rfl <| zo rfl rfl <| zv (A8 rfl rfl) <| zn <| EU rfl <| zk <| E2 11 mixed AB ?_
    refine AT (AO rfl) rfl <| AT (AY rfl) rfl <| AT (AP rfl) rfl <| AT (zw rfl rfl) rfl <| AT (AP rfl) rfl <| AT (zw rfl rfl) rfl <| ?_
    refine AT (AP rfl) rfl <| AT (zw rfl rfl) rfl <| AT (CO rfl rfl) rfl <| ?_
    refine AT (CZ rfl hA rfl i AA AA) rfl ?_
    refine AT (AP rfl) rfl <| EV <| ?_
    refine A6 (OP (A := q.1.1) (i * 3 + 0) ((c.2.2.2.1.set i (decide (e.2.2.1 = 1), c.2.2.2.1[i].2)).flatMap CJ) rfl rfl AA O9 rfl (NV (f := CJ) (sz := 3) (fun _ => rfl) _ i 0 _ _ hlt AF rfl)) rfl rfl ?_
    refine AS <| zb <| zt <| zg <| zs rfl <| zn <| zq <| ?_
    exact zz rfl rfl fun w' H' => ⟨by rw [hres], H'.AK (AD.trans (b := DC g (B8 c e).1 q) Z1 (D1 (l := []) q))⟩
   refine zg <| zv (CO rfl rfl) <| zs rfl <| zn <| BP rfl (fun k5 => ?_) (fun k5 => ?_)
   ·have k5 : e.1 = 5 := k5
    refine AG <| zg <| zf rfl <| zl rfl rfl <| zv (B7 rfl rfl) <| ?_
    refine zm rfl <| DB (t := 82) rfl (fun z3 => ?_) (fun z3 => ?_)
    ·have hpc : E8 c e = (c, 1) := by unfold E8; rw [if_neg AA, if_neg AA, if_pos k5, if_pos (.inl z3)]
     have hres : B8 c e = (c, 1) := (NT ⟨by omega, by omega⟩).trans hpc
     refine zo rfl rfl <| zo rfl rfl <| zo rfl rfl <| zv (BF rfl rfl) <| zn <| DD rfl <| zg <| zs rfl <| zn <| zq <| zr <| B4 <| zr <| ?_
     exact zz rfl rfl fun w' H' => ⟨by rw [hres], H'.AK (AD.trans (b := DC g (B8 c e).1 q) Z6 (D1 (l := []) q))⟩
    refine AJ rfl rfl <| zf rfl <| AJ rfl rfl <| zl rfl rfl <| AJ rfl rfl <| zv (GN rfl rfl) <| zv (A8 rfl rfl) <| zn <| ?_
    refine BP rfl (fun z4 => ?_) (fun z4 => ?_)
    ·have hpc : E8 c e = (c, 1) := by unfold E8; rw [if_neg AA, if_neg AA, if_pos k5, if_pos (.inr AA)]
     have hres : B8 c e = (c, 1) := (NT ⟨by omega, by omega⟩).trans hpc
     refine zg <| zs rfl <| zn <| zq <| zr <| B4 <| zr <| ?_
     exact zz rfl rfl fun w' H' => ⟨by rw [hres], H'.AK (AD.trans (b := DC g (B8 c e).1 q) Z6 (D1 (l := []) q))⟩
    have hres : B8 c e = ((c.1, c.2.1, c.2.2.1, c.2.2.2.1.set i (c.2.2.2.1[i].1, UInt32.ofNat e.2.2.1.toNat, c.2.2.2.1[i].2.2), c.2.2.2.2), 0) := by rw [hop]; unfold E8; rw [if_neg AA, if_neg AA, if_pos k5, if_neg AA, ← hi]; dsimp only; rw [hgd]
    have hu : ((UInt32.ofNat e.2.2.1.toNat).toNat : Int) = e.2.2.1 := by rw [UInt32.toNat_ofNat']; omega
    refine zk <| E2 11 mixed AB ?_
    refine AT (AO rfl) rfl <| AT (AY rfl) rfl <| AT (AP rfl) rfl <| AT (zw rfl rfl) rfl <| AT (AP rfl) rfl <| AT (zw rfl rfl) rfl <| ?_
    refine AT (AP rfl) rfl <| AT (zw rfl rfl) rfl <| ?_
    refine AT (CD (m := e.2.2.1) rfl (wrap_u32 AA)) rfl ?_
    refine AT (CZ rfl hA rfl i AA AA) rfl ?_
    refine AT (AP rfl) rfl <| EV <| ?_
    refine A6 (OP (A := q.1.1) (i * 3 + 1) ((c.2.2.2.1.set i (c.2.2.2.1[i].1, UInt32.ofNat e.2.2.1.toNat, c.2.2.2.1[i].2.2)).flatMap CJ) rfl rfl AA O9 rfl (NV (f := CJ) (sz := 3) (fun _ => rfl) _ i 1 _ _ hlt AF (by show [_, Value.int .u32 ((UInt32.ofNat e.2.2.1.toNat).toNat : Int), _] = _; rw [hu]; rfl))) rfl rfl ?_
    refine AS <| zb <| zt <| zg <| zs rfl <| zn <| zq <| ?_
    exact zz rfl rfl fun w' H' => ⟨by rw [hres], H'.AK (AD.trans (b := DC g (B8 c e).1 q) Z1 (D1 (l := []) q))⟩
   refine zg <| zv (CO rfl rfl) <| zs rfl <| zn <| GR rfl ((show e.1 = 6 by omega)) ?_
   have hres : B8 c e = ((c.1, c.2.1, c.2.2.1, c.2.2.2.1.set i (c.2.2.2.1[i].1, c.2.2.2.1[i].2.1, e.2.2.1), c.2.2.2.2), 0) := by rw [hop]; unfold E8; rw [if_neg AA, if_neg AA, if_neg AA, ← hi]; dsimp only; rw [hgd]
   refine E2 10 mixed AB ?_
   refine AT (AO rfl) rfl <| AT (AY rfl) rfl <| AT (AP rfl) rfl <| AT (zw rfl rfl) rfl <| AT (AP rfl) rfl <| AT (zw rfl rfl) rfl <| ?_
   refine AT (AP rfl) rfl <| AT (zw rfl rfl) rfl <| ?_
   refine AT (CZ rfl hA rfl i AA AA) rfl ?_
   refine AT (AP rfl) rfl <| EV <| ?_
   refine A6 (OP (A := q.1.1) (i * 3 + 2) ((c.2.2.2.1.set i (c.2.2.2.1[i].1, c.2.2.2.1[i].2.1, e.2.2.1)).flatMap CJ) rfl rfl AA O9 rfl (NV (f := CJ) (sz := 3) (fun _ => rfl) _ i 2 _ _ hlt AF rfl)) rfl rfl ?_
   refine AS <| zb <| zt <| zg <| zs rfl <| zn <| zq <| ?_
   exact zz rfl rfl fun w' H' => ⟨by rw [hres], H'.AK (AD.trans (b := DC g (B8 c e).1 q) Z1 (D1 (l := []) q))⟩
  have p6 : 6 < e.1 := by omega
  have h46 : ¬ (4 ≤ e.1 ∧ e.1 ≤ 6) := by omega
  refine BG rfl rfl rfl rfl rfl rfl <| BG rfl rfl rfl rfl rfl rfl <| BG rfl rfl rfl rfl rfl rfl <| BG rfl rfl rfl rfl rfl rfl <| DM rfl rfl rfl rfl rfl <| DM rfl rfl rfl rfl rfl <| ?_
  refine DM rfl rfl rfl rfl rfl <| DM rfl rfl rfl rfl rfl <| DM rfl rfl rfl rfl rfl <| DM rfl rfl rfl rfl rfl <| DM rfl rfl rfl rfl rfl <| DM rfl rfl rfl rfl rfl <| ?_
  refine BG rfl rfl rfl rfl rfl rfl <| AM (A8 rfl rfl) rfl <| EM <| zt <| EU rfl <| C3 <| ?_
  refine zt <| AG <| zg <| zf rfl <| zl rfl rfl <| ?_
  refine zn <| BK <| zg <| zv (CO rfl rfl) <| zs rfl <| zn <| CP rfl ((show ¬ e.1 = 1 by omega)) ?_
  refine zg <| zv (CO rfl rfl) <| zs rfl <| zn <| CP rfl ((show ¬ e.1 = 2 by omega)) ?_
  refine zg <| zv (CO rfl rfl) <| zs rfl <| zn <| CP rfl ((show ¬ e.1 = 3 by omega)) ?_
  refine zg <| zv (CO rfl rfl) <| zs rfl <| zn <| CP rfl ((show ¬ e.1 = 4 by omega)) ?_
  refine zg <| zv (CO rfl rfl) <| zs rfl <| zn <| CP rfl ((show ¬ e.1 = 5 by omega)) ?_
  refine zg <| zv (CO rfl rfl) <| zs rfl <| zn <| CP rfl ((show ¬ e.1 = 6 by omega)) ?_
  refine zg <| zv (CO rfl rfl) <| zs rfl <| zn <| BP rfl (fun k7 => ?_) (fun k7 => ?_)
  ·obtain ⟨x, hx⟩ : ∃ x : EI, x = (e.2.2.2.1, e.2.2.2.2.1, e.2.2.2.2.2.1) := ⟨_, rfl⟩
   have hx3 : BJ x = [.int .i64 e.2.2.2.1, AU e.2.2.2.2.1, AU e.2.2.2.2.2.1] := by rw [hx]
   have hres : B8 c e = ((c.1, c.2.1, c.2.2.1, c.2.2.2.1, GD DJ x c.2.2.2.2.1, c.2.2.2.2.2), 0) := by unfold B8; rw [if_neg AA, if_neg AA, if_neg AA, if_neg h46, if_pos k7, hx]
   have has := hm.av
   have holen := fun i => bZ (x := x) (d := false) (l := c.2.2.2.2.1) LF i
   refine zg <| zf rfl <| zl rfl rfl <| zf rfl <| zl rfl rfl <| ?_
   refine zf rfl <| zl rfl rfl <| zv (CH rfl rfl) <| ?_
   refine AV (B9) rfl rfl rfl fun b5 =>  ?_
   refine A6 (CV (vs := BJ x) rfl (by rw [hx3]; rfl) rfl (by simp) (GF x)) rfl rfl ?_
   refine zn <| zg <| zs rfl <| AS <| zt <| zg <| zs rfl <| zn <| AG <| zg <| zs rfl <| zn <| BK <| lX (σ := Nat × List EI × Bool × Option Addr × Nat) [0, 5] rfl 8 (fun s => .int .i64 (s.1 : Int)) 6 (fun s => .slice s.2.2.2.1 s.2.1.length s.2.2.2.2) 7 (fun s => .bool s.2.2.1) (fun s => [row s.2.2.2.1 147 3 s.2.1.length s.2.2.2.2 (s.2.1.flatMap BJ), AI b5 147 (BJ x), AI b3 81 (DL e), AI g 49 (B3 c q), row q.1.1 83 3 c.2.2.2.1.length q.1.2 (c.2.2.2.1.flatMap CJ), row q.2.1.1 147 3 c.2.2.2.2.1.length q.2.1.2 (c.2.2.2.2.1.flatMap BJ), row q.2.2.1 149 3 c.2.2.2.2.2.length q.2.2.2 (c.2.2.2.2.2.flatMap BW)]) (fun s => s.1 ≤ c.2.2.2.2.1.length ∧ s.2.1 = G5 DJ x false c.2.2.2.2.1 s.1 ∧ s.2.2.1 = KQ DJ x false c.2.2.2.2.1 s.1) (fun s => c.2.2.2.2.1.length - s.1) ((0, [], false, none, 0)) (⟨Nat.zero_le _, rfl, rfl⟩) rfl rfl rfl (AD.trans (AD.EB 147 3) Z8) ?_
   rintro ⟨i, O, pu, q2⟩ hj_ K1 hK1
   dsimp only at hj_ ⊢
   obtain ⟨hi, hO, hpu⟩ := hj_
   refine AG <| zg <| zm rfl <| zm rfl <| zv (AY rfl) <| zf rfl <| zl rfl rfl <| zv BN <| ?_
   refine zv (B7 rfl rfl) <| zn <| BP rfl (fun h => ?_) (fun h => ?_)
   ·have hlt : i < c.2.2.2.2.1.length := by omega
    refine HC.fact (fun w H => AH.GS q.2.1.1 H) ?_
    rintro ⟨hSl, _, _, hA⟩
    have hA : CU q.2.1.1 := hA (by intro h; have := congrArg List.length h; rw [hSl] at this; simp only [List.length_nil] at this; omega)
    have hcell : (c.2.2.2.2.1.flatMap BJ)[i * 3 + 0]? = some (.int .i64 c.2.2.2.2.1[i].1) := by rw [Q9 (f := BJ) (sz := 3) (fun _ => rfl) _ i 0 hlt AF]; rfl
    obtain ⟨y, hy⟩ : ∃ y, c.2.2.2.2.1[i] = y := ⟨_, rfl⟩
    have hme : c.2.2.2.2.1.length - (i + 1) < c.2.2.2.2.1.length - i := by omega
    have hst := aY LF (x := x) (d := false) has hlt
    have hps := aM (lt := DJ) (x := x) (d := false) hlt
    rw [hy] at hst hps hcell
    rw [← hO] at hst
    rw [← hpu] at hst hps
    have hol := holen i
    rw [← hO] at hol
    have hoz : (O.length + 1) * 16 ≤ 140737488355328 := JN AA
    have hoz1 : (O.length + 1 + 1) * 16 ≤ 140737488355328 := JN AA
    refine zk <| AG <| BK <| AG <| AG <| GM mixed AB <| AM (AO rfl) rfl <| AM FC rfl <| ?_
    refine AM (AO rfl) rfl <| ?_
    refine pJ (t := 130) rfl (fun g1 => ?_) (fun g1 => ?_)
    ·have hpf : pu = false := by simpa using g1
     refine B6 rfl rfl <| AM (AP rfl) rfl <| B6 rfl rfl <| AM (zw rfl rfl) rfl <| B6 rfl rfl <| AM (AO rfl) rfl <| B6 rfl rfl <| AM (AY rfl) rfl <| B6 rfl rfl <| AM (AP rfl) rfl <| B6 rfl rfl <| AM (zw rfl rfl) rfl <| ?_
     refine B6 rfl rfl <| AM (AO rfl) rfl <| ?_
     refine B6 rfl rfl <| AM (CZ rfl hA rfl i rfl hlt) rfl ?_
     refine B6 rfl rfl <| AM (AP rfl) rfl <| ?_
     refine B6 rfl rfl <| AM (GB rfl (EH.row (A := q.2.1.1) hA (i := i * 3 + 0) hcell)) rfl ?_
     refine B6 rfl rfl <| AM (LB rfl rfl) rfl <| AM (BF rfl rfl) rfl <| EM <| zt <| ?_
     refine BP rfl (fun g2 => ?_) (fun g2 => ?_)
     ·have hyx : DJ y x = false := decide_eq_false AA
      have hput1 : true = KQ DJ x false c.2.2.2.2.1 (i + 1) := by rw [hps, hyx]; simp
      refine AR <| zm rfl <| zv DY <| ?_
      refine AV (HG (res := BJ x) rfl rfl AB) rfl rfl rfl (fun b145 => ?_)
      refine AV (BT (A := q2.1) (news := BJ x) rfl rfl (BB.AI (b := b145)) rfl (GF x) AF hoz) rfl rfl rfl (fun q1 => ?_)
      obtain ⟨O1, hO1⟩ : ∃ l, l = O ++ [x] := ⟨_, rfl⟩
      have hst1 : G5 DJ x false c.2.2.2.2.1 (i + 1) = O1 ++ (if F7 DJ x y = false then [y] else []) := by rw [hst, if_pos ⟨hpf, hyx⟩, hO1]
      have hO1l : (O1.length + 1) * 16 ≤ 140737488355328 := by rw [hO1, List.length_append, List.length_singleton]; exact hoz1
      rw [show O.flatMap BJ ++ BJ x = O1.flatMap BJ by rw [hO1, List.flatMap_append, List.flatMap_singleton], show O.length + 1 = O1.length by rw [hO1, List.length_append, List.length_singleton]]
      refine zs rfl <| zs rfl <| zn <| AG <| GM mixed AB <| ?_
      refine AM (AO rfl) rfl <| AM (AY rfl) rfl <| AM (AP rfl) rfl <| AM (zw rfl rfl) rfl <| AM (AO rfl) rfl <| ?_
      refine AM (CZ rfl hA rfl i rfl hlt) rfl ?_
      refine AM (AP rfl) rfl <| ?_
      refine AM (GB rfl (EH.row (A := q.2.1.1) hA (i := i * 3 + 0) hcell)) rfl ?_
      refine AM (AP rfl) rfl <| AM (zw rfl rfl) rfl <| AM (CG rfl rfl) rfl <| EM <| zt <| ?_
      refine BP rfl (fun p3 => ?_) (fun p3 => ?_)
      ·have he : F7 DJ x y = false := by
        cases h : F7 DJ x y with
        | false => rfl
        | true => exact absurd (PV.1 h) p3
       have hst2 : G5 DJ x false c.2.2.2.2.1 (i + 1) = O1 ++ [y] := by rw [hst1, if_pos he]
       refine AR <| zm rfl <| zm rfl <| zv (AY rfl) <| zf rfl <| zl rfl rfl <| ?_
       refine zm rfl <| AZ (CZ rfl hA rfl i rfl hlt) rfl <| AZ (D4 (cs := BJ y) rfl rfl X2) rfl ?_
       refine AV (HG (res := BJ y) rfl rfl AB) rfl rfl rfl (fun b166 => ?_)
       refine AV (BT (A := q1.1) (news := BJ y) rfl rfl (BB.AI (b := b166)) rfl (GF y) AF hO1l) rfl rfl rfl (fun q3 => ?_)
       obtain ⟨O2, hO2⟩ : ∃ l, l = O1 ++ [y] := ⟨_, rfl⟩
       rw [show O1.flatMap BJ ++ BJ y = O2.flatMap BJ by rw [hO2, List.flatMap_append, List.flatMap_singleton], show O1.length + 1 = O2.length by rw [hO2, List.length_append, List.length_singleton]]
       rw [← hO2] at hst2
       refine zs rfl <| AS <| zb <| zt <| AR <| zm rfl <| zv (BM rfl rfl BO) <| ?_
       refine zs rfl <| AS <| B5 hK1 ((i + 1, O2, true, q3)) (⟨hlt, hst2.symm, hput1⟩) (hme) BD BL
      have he : F7 DJ x y = true := PV.2 (Classical.not_not.1 p3)
      have hst2 : G5 DJ x false c.2.2.2.2.1 (i + 1) = O1 := by rw [hst1, if_neg QL, List.append_nil]
      refine C3 <| zb <| zt <| AR <| zm rfl <| zv (BM rfl rfl BO) <| ?_
      refine zs rfl <| AS <| B5 hK1 ((i + 1, O1, true, q1)) (⟨hlt, hst2.symm, hput1⟩) (hme) BD BL
     have hyx : DJ y x = true := decide_eq_true AA
     have hput1 : pu = KQ DJ x false c.2.2.2.2.1 (i + 1) := by rw [hps, hyx]; simp
     obtain ⟨O1, hO1⟩ : ∃ l, l = O := ⟨_, rfl⟩
     obtain ⟨q1, hq1⟩ : ∃ l, l = q2 := ⟨_, rfl⟩
     have hst1 : G5 DJ x false c.2.2.2.2.1 (i + 1) = O1 ++ (if F7 DJ x y = false then [y] else []) := by rw [hst, if_neg (by rintro ⟨_, h⟩; rw [hyx] at h; cases h), hO1, List.append_nil]
     have hO1l : (O1.length + 1) * 16 ≤ 140737488355328 := by rw [hO1]; exact hoz
     rw [← hO1, ← hq1]
     refine zk <| AG <| GM mixed AB <| AM (AO rfl) rfl <| AM (AY rfl) rfl <| ?_
     refine AM (AP rfl) rfl <| AM (zw rfl rfl) rfl <| AM (AO rfl) rfl <| ?_
     refine AM (CZ rfl hA rfl i rfl hlt) rfl ?_
     refine AM (AP rfl) rfl <| ?_
     refine AM (GB rfl (EH.row (A := q.2.1.1) hA (i := i * 3 + 0) hcell)) rfl ?_
     refine AM (AP rfl) rfl <| AM (zw rfl rfl) rfl <| AM (CG rfl rfl) rfl <| EM <| zt <| ?_
     refine BP rfl (fun p3 => ?_) (fun p3 => ?_)
     ·have he : F7 DJ x y = false := by
       cases h : F7 DJ x y with
       | false => rfl
       | true => exact absurd (PV.1 h) p3
      have hst2 : G5 DJ x false c.2.2.2.2.1 (i + 1) = O1 ++ [y] := by rw [hst1, if_pos he]
      refine AR <| zm rfl <| zm rfl <| zv (AY rfl) <| zf rfl <| zl rfl rfl <| ?_
      refine zm rfl <| AZ (CZ rfl hA rfl i rfl hlt) rfl <| AZ (D4 (cs := BJ y) rfl rfl X2) rfl ?_
      refine AV (HG (res := BJ y) rfl rfl AB) rfl rfl rfl (fun b166 => ?_)
      refine AV (BT (A := q1.1) (news := BJ y) rfl rfl (BB.AI (b := b166)) rfl (GF y) AF hO1l) rfl rfl rfl (fun q3 => ?_)
      obtain ⟨O2, hO2⟩ : ∃ l, l = O1 ++ [y] := ⟨_, rfl⟩
      rw [show O1.flatMap BJ ++ BJ y = O2.flatMap BJ by rw [hO2, List.flatMap_append, List.flatMap_singleton], show O1.length + 1 = O2.length by rw [hO2, List.length_append, List.length_singleton]]
      rw [← hO2] at hst2
      refine zs rfl <| AS <| zb <| zt <| AR <| zm rfl <| zv (BM rfl rfl BO) <| ?_
      refine zs rfl <| AS <| B5 hK1 ((i + 1, O2, pu, q3)) (⟨hlt, hst2.symm, hput1⟩) (hme) BD BL
     have he : F7 DJ x y = true := PV.2 (Classical.not_not.1 p3)
     have hst2 : G5 DJ x false c.2.2.2.2.1 (i + 1) = O1 := by rw [hst1, if_neg QL, List.append_nil]
     refine C3 <| zb <| zt <| AR <| zm rfl <| zv (BM rfl rfl BO) <| ?_
     refine zs rfl <| AS <| B5 hK1 ((i + 1, O1, pu, q1)) (⟨hlt, hst2.symm, hput1⟩) (hme) BD BL
    have hpf : pu = true := by simpa using g1
    have hput1 : pu = KQ DJ x false c.2.2.2.2.1 (i + 1) := by rw [hps, hpf]; rfl
    obtain ⟨O1, hO1⟩ : ∃ l, l = O := ⟨_, rfl⟩
    obtain ⟨q1, hq1⟩ : ∃ l, l = q2 := ⟨_, rfl⟩
    have hst1 : G5 DJ x false c.2.2.2.2.1 (i + 1) = O1 ++ (if F7 DJ x y = false then [y] else []) := by rw [hst, if_neg (by rintro ⟨h, _⟩; rw [hpf] at h; cases h), hO1, List.append_nil]
    have hO1l : (O1.length + 1) * 16 ≤ 140737488355328 := by rw [hO1]; exact hoz
    rw [← hO1, ← hq1]
    refine BG rfl rfl rfl rfl rfl rfl <| BG rfl rfl rfl rfl rfl rfl <| BG rfl rfl rfl rfl rfl rfl <| BG rfl rfl rfl rfl rfl rfl <| BG rfl rfl rfl rfl rfl rfl <| BG rfl rfl rfl rfl rfl rfl <| ?_
    refine BG rfl rfl rfl rfl rfl rfl <| BG rfl rfl rfl rfl rfl rfl <| BG rfl rfl rfl rfl rfl rfl <| BG rfl rfl rfl rfl rfl rfl <| BG rfl rfl rfl rfl rfl rfl <| AM (A8 rfl rfl) rfl <| ?_
    refine EM <| zt <| EU rfl <| zk <| AG <| ?_
    refine GM mixed AB <| AM (AO rfl) rfl <| AM (AY rfl) rfl <| AM (AP rfl) rfl <| AM (zw rfl rfl) rfl <| AM (AO rfl) rfl <| ?_
    refine AM (CZ rfl hA rfl i rfl hlt) rfl ?_
    refine AM (AP rfl) rfl <| ?_
    refine AM (GB rfl (EH.row (A := q.2.1.1) hA (i := i * 3 + 0) hcell)) rfl ?_
    refine AM (AP rfl) rfl <| AM (zw rfl rfl) rfl <| AM (CG rfl rfl) rfl <| EM <| zt <| ?_
    refine BP rfl (fun p3 => ?_) (fun p3 => ?_)
    ·have he : F7 DJ x y = false := by
      cases h : F7 DJ x y with
      | false => rfl
      | true => exact absurd (PV.1 h) p3
     have hst2 : G5 DJ x false c.2.2.2.2.1 (i + 1) = O1 ++ [y] := by rw [hst1, if_pos he]
     refine AR <| zm rfl <| zm rfl <| zv (AY rfl) <| zf rfl <| zl rfl rfl <| ?_
     refine zm rfl <| AZ (CZ rfl hA rfl i rfl hlt) rfl <| AZ (D4 (cs := BJ y) rfl rfl X2) rfl ?_
     refine AV (HG (res := BJ y) rfl rfl AB) rfl rfl rfl (fun b166 => ?_)
     refine AV (BT (A := q1.1) (news := BJ y) rfl rfl (BB.AI (b := b166)) rfl (GF y) AF hO1l) rfl rfl rfl (fun q3 => ?_)
     obtain ⟨O2, hO2⟩ : ∃ l, l = O1 ++ [y] := ⟨_, rfl⟩
     rw [show O1.flatMap BJ ++ BJ y = O2.flatMap BJ by rw [hO2, List.flatMap_append, List.flatMap_singleton], show O1.length + 1 = O2.length by rw [hO2, List.length_append, List.length_singleton]]
     rw [← hO2] at hst2
     refine zs rfl <| AS <| zb <| zt <| AR <| zm rfl <| zv (BM rfl rfl BO) <| ?_
     refine zs rfl <| AS <| B5 hK1 ((i + 1, O2, pu, q3)) (⟨hlt, hst2.symm, hput1⟩) (hme) BD BL
    have he : F7 DJ x y = true := PV.2 (Classical.not_not.1 p3)
    have hst2 : G5 DJ x false c.2.2.2.2.1 (i + 1) = O1 := by rw [hst1, if_neg QL, List.append_nil]
    refine C3 <| zb <| zt <| AR <| zm rfl <| zv (BM rfl rfl BO) <| ?_
    refine zs rfl <| AS <| B5 hK1 ((i + 1, O1, pu, q1)) (⟨hlt, hst2.symm, hput1⟩) (hme) BD BL
   have hie : i = c.2.2.2.2.1.length := by omega
   subst hie
   have hol := holen c.2.2.2.2.1.length
   rw [← hO] at hol
   have hoz : (O.length + 1) * 16 ≤ 140737488355328 := JN AA
   have hend := WS LF (x := x) (l := c.2.2.2.2.1)
   rw [← hO, ← hpu] at hend
   refine CF <| ze <| ze <| CE <| zt <| AG <| zg <| zm rfl <| zv FC <| ?_
   refine zn <| FW rfl (fun v1 => ?_) (fun v1 => ?_)
   ·have hpf : pu = false := by simpa using v1
    obtain ⟨OF, hOF⟩ : ∃ l, l = O ++ [x] := ⟨_, rfl⟩
    have hof : GD DJ x c.2.2.2.2.1 = OF := by rw [← hend, if_pos hpf, hOF]
    refine AR <| zm rfl <| zv DY <| ?_
    refine AV (HG (res := BJ x) rfl rfl AB) rfl rfl rfl (fun b172 => ?_)
    refine AV (BT (A := q2.1) (news := BJ x) rfl rfl (BB.AI (b := b172)) rfl (GF x) AF hoz) rfl rfl rfl (fun qF => ?_)
    rw [show O.flatMap BJ ++ BJ x = OF.flatMap BJ by rw [hOF, List.flatMap_append, List.flatMap_singleton], show O.length + 1 = OF.length by rw [hOF, List.length_append, List.length_singleton]]
    refine zs rfl <| zn <| AR <| zm rfl <| zm rfl <| zv (AY rfl) <| zf rfl <| ?_
    refine A6 (CI (B3 (c.1, c.2.1, c.2.2.1, c.2.2.2.1, OF, c.2.2.2.2.2) (q.1, qF, q.2.2)) rfl rfl (by simp) rfl rfl) rfl rfl ?_
    refine AS <| zb <| zt <| zg <| zs rfl <| zn <| zq <| ?_
    obtain ⟨q', hq'⟩ : ∃ x : DA, x = (q.1, qF, q.2.2) := ⟨_, rfl⟩
    exact zz rfl rfl fun w' H' => ⟨by rw [hres], H'.AK (AD.trans (b := DC g (B8 c e).1 q') (by rw [hres, hof, hq']; exact Z8) (D1 (l := []) q'))⟩
   have hpf : pu = true := by simpa using v1
   obtain ⟨OF, hOF⟩ : ∃ l, l = O := ⟨_, rfl⟩
   obtain ⟨qF, hqF⟩ : ∃ l, l = q2 := ⟨_, rfl⟩
   have hof : GD DJ x c.2.2.2.2.1 = OF := by rw [← hend, if_neg (by rw [hpf]; decide), hOF, List.append_nil]
   rw [← hOF, ← hqF]
   refine zk <| AR <| zm rfl <| zm rfl <| zv (AY rfl) <| zf rfl <| ?_
   refine A6 (CI (B3 (c.1, c.2.1, c.2.2.1, c.2.2.2.1, OF, c.2.2.2.2.2) (q.1, qF, q.2.2)) rfl rfl (by simp) rfl rfl) rfl rfl ?_
   refine AS <| zb <| zt <| zg <| zs rfl <| zn <| zq <| ?_
   obtain ⟨q', hq'⟩ : ∃ x : DA, x = (q.1, qF, q.2.2) := ⟨_, rfl⟩
   exact zz rfl rfl fun w' H' => ⟨by rw [hres], H'.AK (AD.trans (b := DC g (B8 c e).1 q') (by rw [hres, hof, hq']; exact Z8) (D1 (l := []) q'))⟩
  have k7 : ¬ e.1 = 7 := k7
  refine zg <| zv (CO rfl rfl) <| zs rfl <| zn <| BP rfl (fun k8 => ?_) (fun k8 => ?_)
  ·have k8 : e.1 = 8 := k8
   refine AG <| HC.fact (fun w H => AH.GS q.2.1.1 H) ?_
   rintro ⟨hpl, hcapV, _, hA0⟩
   refine EF [AI b3 81 (DL e), AI g 49 (B3 c q)] mixed 7 rfl ?_
   refine AE 0 rfl (AO rfl) rfl <| AE 1 rfl (AY rfl) rfl <| AE 2 rfl DY rfl <| ?_
   refine AE 3 rfl (AP rfl) rfl <| AE 4 rfl (zw rfl rfl) rfl <| AL 5 AB <| CR (σ := U1 c.2.2.2.2.1 e.2.2.2.1) rfl Tryz.call107 rfl (fun w1 => zu fun D' _ hin _ => WC D' w1 c _ _ _ e.2.2.2.1 c.2.2.2.2.1 rfl AA (hin _ fun h hs ho => C7 (A := q.2.1.1) hs c.2.2.2.2.1 rfl (KF.2 ⟨rfl, hm.v⟩))) ?_
   intro kv
   try rw [List.nil_append]
   obtain ⟨x, hx⟩ : ∃ x : EI, x = (e.2.2.2.1, 0, 0) := ⟨_, rfl⟩
   have hx1 : x.1 = e.2.2.2.1 := by rw [hx]
   have hone : B8 c e = if GK DJ x c.2.2.2.2.1 = true then ((c.1, c.2.1, c.2.2.1, c.2.2.2.1, F9 DJ x c.2.2.2.2.1, c.2.2.2.2.2), 0) else (c, 13) := by
    unfold B8
    rw [if_neg AA, if_neg AA, if_neg AA, if_neg h46, if_neg k7, if_neg AA, if_pos k8, hx]
   obtain ⟨r, hr⟩ := kv
   dsimp only
   rcases hr with ⟨rfl, hno⟩ | ⟨k, hkV, rfl, hke⟩
   ·have hres : B8 c e = (c, 13) := by rw [hone, if_neg (sL (fun i hi => by rw [hx1]; exact hno i hi))]
    refine AE 6 rfl (DH rfl) rfl <| BY AB <| zt <| AG <| zg <| zm rfl <| ?_
    refine zv (B7 rfl rfl) <| zn <| GR rfl (AF) ?_
    refine zg <| zs rfl <| zn <| zq <| zr <| B4 <| zr <| ?_
    exact zz rfl rfl fun w' H' => ⟨by rw [hres], H'.AK (AD.trans (b := DC g (B8 c e).1 q) Z6 (D1 (l := []) q))⟩
   obtain ⟨hhas, hdel⟩ := rS (x := x) hm.av hkV (by rw [hx1]; exact hke)
   have hres : B8 c e = ((c.1, c.2.1, c.2.2.1, c.2.2.2.1, F9 DJ x c.2.2.2.2.1, c.2.2.2.2.2), 0) := by rw [hone, if_pos hhas]
   have hkl : k + 1 ≤ c.2.2.2.2.1.length := hkV
   have hfl := FU (f := BJ) (sz := 3) (fun _ => rfl) c.2.2.2.2.1
   have hnew1 : (c.2.2.2.2.1.take k).flatMap BJ = ((c.2.2.2.2.1.flatMap BJ).drop (0 * 3)).take (k * 3) := by rw [Nat.zero_mul, List.drop_zero, R6 (f := BJ) (sz := 3) (fun _ => rfl)]
   have hnew2 : (c.2.2.2.2.1.drop (k + 1)).flatMap BJ = ((c.2.2.2.2.1.flatMap BJ).drop ((k + 1) * 3)).take ((c.2.2.2.2.1.length - (k + 1)) * 3) := by
    rw [R7 (f := BJ) (sz := 3) (fun _ => rfl), List.take_of_length_le (by rw [FU (f := BJ) (sz := 3) (fun _ => rfl), List.length_drop]; exact Nat.le_refl _)]
   have hlen1 : ((c.2.2.2.2.1.take k).flatMap BJ).length = k * 3 := by rw [FU (f := BJ) (sz := 3) (fun _ => rfl), List.length_take, Nat.min_eq_left AA]
   have hlen2 : ((c.2.2.2.2.1.drop (k + 1)).flatMap BJ).length = (c.2.2.2.2.1.length - (k + 1)) * 3 := by rw [FU (f := BJ) (sz := 3) (fun _ => rfl), List.length_drop]
   have hcat : (c.2.2.2.2.1.take k).flatMap BJ ++ (c.2.2.2.2.1.drop (k + 1)).flatMap BJ = (F9 DJ x c.2.2.2.2.1).flatMap BJ := by rw [hdel, List.flatMap_append]
   have hlen3 : k + (c.2.2.2.2.1.length - (k + 1)) = (F9 DJ x c.2.2.2.2.1).length := by rw [hdel, List.length_append, List.length_take, List.length_drop, Nat.min_eq_left AA]
   have hA : CU q.2.1.1 := hA0 VD
   refine AE 6 rfl (DH rfl) rfl <| BY AB <| zt <| AG <| zg <| zm rfl <| ?_
   refine zv (B7 rfl rfl) <| zn <| CP rfl (AA) ?_
   refine zk <| EF [] mixed 20 rfl ?_
   refine AE 0 rfl (AO rfl) rfl <| AE 2 rfl (AO rfl) rfl <| AE 3 rfl (AY rfl) rfl <| AE 4 rfl (AP rfl) rfl <| AE 6 rfl (AO rfl) rfl <| AE 9 rfl (AO rfl) rfl <| AE 10 rfl (AY rfl) rfl <| AE 11 rfl (AP rfl) rfl <| AE 13 rfl (AO rfl) rfl <| AE 14 rfl (BM (m := ((k + 1 : Nat) : Int)) rfl rfl E3) rfl ?_
   refine PM 1 5 12 AB ?_ ?_ ?_
   ·skip
    refine BC rfl (BS rfl rfl rfl) rfl fun b189 =>  ?_
    refine DE 5 12 AB ?_ ?_
    ·skip
     refine CW rfl (zw rfl rfl) rfl <| AE 7 rfl (J9 rfl k rfl AA) rfl ?_
     refine DE 8 12 AB ?_ ?_
     ·skip
      refine IW (AD.FQ (b := b189) 3 0 rfl AF) ?_
      refine BC rfl (BT (A := some ⟨b189, 0, none⟩) (news := (c.2.2.2.2.1.take k).flatMap BJ) rfl rfl (BB.O0 (A := q.2.1.1) (t := 147) (sz := 3) (n := c.2.2.2.2.1.length) (cap := q.2.1.2) (cs := c.2.2.2.2.1.flatMap BJ) hA k AA hfl hcapV hnew1) hlen1 (GH GF _) AF (JN AA)) rfl (fun qA => ?_)
      rw [List.nil_append, Nat.zero_add]
      refine AL 12 AB <| CW rfl (zw rfl rfl) rfl <| AE 15 rfl (FE rfl (k + 1) c.2.2.2.2.1.length (.inr ⟨_, _, rfl, rfl⟩) (.inl ⟨rfl, rfl⟩) hkl AA) rfl ?_
      refine AL 16 AB <| BC rfl (BT (A := qA.1) (news := (c.2.2.2.2.1.drop (k + 1)).flatMap BJ) rfl rfl (BB.HJ (A := q.2.1.1) (t := 147) (sz := 3) (n := c.2.2.2.2.1.length) (cap := q.2.1.2) (cs := c.2.2.2.2.1.flatMap BJ) hA (k + 1) (c.2.2.2.2.1.length - (k + 1)) AA hfl hcapV hnew2) hlen2 (GH GF _) AF (JN AA)) rfl (fun qB => ?_)
      rw [hcat, hlen3]
      refine AE 17 rfl (AY rfl) rfl <| AE 18 rfl (AP rfl) rfl <| AL 19 AB <| CB rfl (CI (B3 (c.1, c.2.1, c.2.2.1, c.2.2.2.1, F9 DJ x c.2.2.2.2.1, c.2.2.2.2.2) (q.1, qB, q.2.2)) rfl rfl (by simp) rfl rfl) rfl ?_
      refine BY AB <| zb <| zt <| zg <| zs rfl <| ?_
      refine zn <| zq <| ?_
      obtain ⟨q', hq'⟩ : ∃ x : DA, x = (q.1, qB, q.2.2) := ⟨_, rfl⟩
      exact zz rfl rfl fun w' H' => ⟨by rw [hres], H'.AK (AD.trans (b := DC g (B8 c e).1 q') Z5 (D1 (l := []) q'))⟩
     skip
     refine CW rfl (zw rfl rfl) rfl <| AE 15 rfl (FE rfl (k + 1) c.2.2.2.2.1.length (.inr ⟨_, _, rfl, rfl⟩) (.inl ⟨rfl, rfl⟩) hkl AA) rfl ?_
     refine AL 8 AB <| IW (AD.FQ (b := b189) 3 0 rfl AF) ?_
     refine BC rfl (BT (A := some ⟨b189, 0, none⟩) (news := (c.2.2.2.2.1.take k).flatMap BJ) rfl rfl (BB.O0 (A := q.2.1.1) (t := 147) (sz := 3) (n := c.2.2.2.2.1.length) (cap := q.2.1.2) (cs := c.2.2.2.2.1.flatMap BJ) hA k AA hfl hcapV hnew1) hlen1 (GH GF _) AF (JN AA)) rfl (fun qA => ?_)
     rw [List.nil_append, Nat.zero_add]
     refine AL 16 AB <| BC rfl (BT (A := qA.1) (news := (c.2.2.2.2.1.drop (k + 1)).flatMap BJ) rfl rfl (BB.HJ (A := q.2.1.1) (t := 147) (sz := 3) (n := c.2.2.2.2.1.length) (cap := q.2.1.2) (cs := c.2.2.2.2.1.flatMap BJ) hA (k + 1) (c.2.2.2.2.1.length - (k + 1)) AA hfl hcapV hnew2) hlen2 (GH GF _) AF (JN AA)) rfl (fun qB => ?_)
     rw [hcat, hlen3]
     refine AE 17 rfl (AY rfl) rfl <| AE 18 rfl (AP rfl) rfl <| AL 19 AB <| CB rfl (CI (B3 (c.1, c.2.1, c.2.2.1, c.2.2.2.1, F9 DJ x c.2.2.2.2.1, c.2.2.2.2.2) (q.1, qB, q.2.2)) rfl rfl (by simp) rfl rfl) rfl ?_
     refine BY AB <| zb <| zt <| zg <| zs rfl <| ?_
     refine zn <| zq <| ?_
     obtain ⟨q', hq'⟩ : ∃ x : DA, x = (q.1, qB, q.2.2) := ⟨_, rfl⟩
     exact zz rfl rfl fun w' H' => ⟨by rw [hres], H'.AK (AD.trans (b := DC g (B8 c e).1 q') Z5 (D1 (l := []) q'))⟩
    skip
    refine CW rfl (zw rfl rfl) rfl <| AE 15 rfl (FE rfl (k + 1) c.2.2.2.2.1.length (.inr ⟨_, _, rfl, rfl⟩) (.inl ⟨rfl, rfl⟩) hkl AA) rfl ?_
    refine AL 5 AB <| CW rfl (zw rfl rfl) rfl <| AE 7 rfl (J9 rfl k rfl AA) rfl ?_
    refine AL 8 AB <| IW (AD.FQ (b := b189) 3 0 rfl AF) ?_
    refine BC rfl (BT (A := some ⟨b189, 0, none⟩) (news := (c.2.2.2.2.1.take k).flatMap BJ) rfl rfl (BB.O0 (A := q.2.1.1) (t := 147) (sz := 3) (n := c.2.2.2.2.1.length) (cap := q.2.1.2) (cs := c.2.2.2.2.1.flatMap BJ) hA k AA hfl hcapV hnew1) hlen1 (GH GF _) AF (JN AA)) rfl (fun qA => ?_)
    rw [List.nil_append, Nat.zero_add]
    refine AL 16 AB <| BC rfl (BT (A := qA.1) (news := (c.2.2.2.2.1.drop (k + 1)).flatMap BJ) rfl rfl (BB.HJ (A := q.2.1.1) (t := 147) (sz := 3) (n := c.2.2.2.2.1.length) (cap := q.2.1.2) (cs := c.2.2.2.2.1.flatMap BJ) hA (k + 1) (c.2.2.2.2.1.length - (k + 1)) AA hfl hcapV hnew2) hlen2 (GH GF _) AF (JN AA)) rfl (fun qB => ?_)
    rw [hcat, hlen3]
    refine AE 17 rfl (AY rfl) rfl <| AE 18 rfl (AP rfl) rfl <| AL 19 AB <| CB rfl (CI (B3 (c.1, c.2.1, c.2.2.1, c.2.2.2.1, F9 DJ x c.2.2.2.2.1, c.2.2.2.2.2) (q.1, qB, q.2.2)) rfl rfl (by simp) rfl rfl) rfl ?_
    refine BY AB <| zb <| zt <| zg <| zs rfl <| ?_
    refine zn <| zq <| ?_
    obtain ⟨q', hq'⟩ : ∃ x : DA, x = (q.1, qB, q.2.2) := ⟨_, rfl⟩
    exact zz rfl rfl fun w' H' => ⟨by rw [hres], H'.AK (AD.trans (b := DC g (B8 c e).1 q') Z5 (D1 (l := []) q'))⟩
   ·skip
    refine CW rfl (zw rfl rfl) rfl <| AE 7 rfl (J9 rfl k rfl AA) rfl ?_
    refine DE 1 12 AB ?_ ?_
    ·skip
     refine BC rfl (BS rfl rfl rfl) rfl fun b189 =>  ?_
     refine DE 8 12 AB ?_ ?_
     ·skip
      refine IW (AD.FQ (b := b189) 3 0 rfl AF) ?_
      refine BC rfl (BT (A := some ⟨b189, 0, none⟩) (news := (c.2.2.2.2.1.take k).flatMap BJ) rfl rfl (BB.O0 (A := q.2.1.1) (t := 147) (sz := 3) (n := c.2.2.2.2.1.length) (cap := q.2.1.2) (cs := c.2.2.2.2.1.flatMap BJ) hA k AA hfl hcapV hnew1) hlen1 (GH GF _) AF (JN AA)) rfl (fun qA => ?_)
      rw [List.nil_append, Nat.zero_add]
      refine AL 12 AB <| CW rfl (zw rfl rfl) rfl <| AE 15 rfl (FE rfl (k + 1) c.2.2.2.2.1.length (.inr ⟨_, _, rfl, rfl⟩) (.inl ⟨rfl, rfl⟩) hkl AA) rfl ?_
      refine AL 16 AB <| BC rfl (BT (A := qA.1) (news := (c.2.2.2.2.1.drop (k + 1)).flatMap BJ) rfl rfl (BB.HJ (A := q.2.1.1) (t := 147) (sz := 3) (n := c.2.2.2.2.1.length) (cap := q.2.1.2) (cs := c.2.2.2.2.1.flatMap BJ) hA (k + 1) (c.2.2.2.2.1.length - (k + 1)) AA hfl hcapV hnew2) hlen2 (GH GF _) AF (JN AA)) rfl (fun qB => ?_)
      rw [hcat, hlen3]
      refine AE 17 rfl (AY rfl) rfl <| AE 18 rfl (AP rfl) rfl <| AL 19 AB <| CB rfl (CI (B3 (c.1, c.2.1, c.2.2.1, c.2.2.2.1, F9 DJ x c.2.2.2.2.1, c.2.2.2.2.2) (q.1, qB, q.2.2)) rfl rfl (by simp) rfl rfl) rfl ?_
      refine BY AB <| zb <| zt <| zg <| zs rfl <| ?_
      refine zn <| zq <| ?_
      obtain ⟨q', hq'⟩ : ∃ x : DA, x = (q.1, qB, q.2.2) := ⟨_, rfl⟩
      exact zz rfl rfl fun w' H' => ⟨by rw [hres], H'.AK (AD.trans (b := DC g (B8 c e).1 q') Z5 (D1 (l := []) q'))⟩
     skip
     refine CW rfl (zw rfl rfl) rfl <| AE 15 rfl (FE rfl (k + 1) c.2.2.2.2.1.length (.inr ⟨_, _, rfl, rfl⟩) (.inl ⟨rfl, rfl⟩) hkl AA) rfl ?_
     refine AL 8 AB <| IW (AD.FQ (b := b189) 3 0 rfl AF) ?_
     refine BC rfl (BT (A := some ⟨b189, 0, none⟩) (news := (c.2.2.2.2.1.take k).flatMap BJ) rfl rfl (BB.O0 (A := q.2.1.1) (t := 147) (sz := 3) (n := c.2.2.2.2.1.length) (cap := q.2.1.2) (cs := c.2.2.2.2.1.flatMap BJ) hA k AA hfl hcapV hnew1) hlen1 (GH GF _) AF (JN AA)) rfl (fun qA => ?_)
     rw [List.nil_append, Nat.zero_add]
     refine AL 16 AB <| BC rfl (BT (A := qA.1) (news := (c.2.2.2.2.1.drop (k + 1)).flatMap BJ) rfl rfl (BB.HJ (A := q.2.1.1) (t := 147) (sz := 3) (n := c.2.2.2.2.1.length) (cap := q.2.1.2) (cs := c.2.2.2.2.1.flatMap BJ) hA (k + 1) (c.2.2.2.2.1.length - (k + 1)) AA hfl hcapV hnew2) hlen2 (GH GF _) AF (JN AA)) rfl (fun qB => ?_)
     rw [hcat, hlen3]
     refine AE 17 rfl (AY rfl) rfl <| AE 18 rfl (AP rfl) rfl <| AL 19 AB <| CB rfl (CI (B3 (c.1, c.2.1, c.2.2.1, c.2.2.2.1, F9 DJ x c.2.2.2.2.1, c.2.2.2.2.2) (q.1, qB, q.2.2)) rfl rfl (by simp) rfl rfl) rfl ?_
     refine BY AB <| zb <| zt <| zg <| zs rfl <| ?_
     refine zn <| zq <| ?_
     obtain ⟨q', hq'⟩ : ∃ x : DA, x = (q.1, qB, q.2.2) := ⟨_, rfl⟩
     exact zz rfl rfl fun w' H' => ⟨by rw [hres], H'.AK (AD.trans (b := DC g (B8 c e).1 q') Z5 (D1 (l := []) q'))⟩
    skip
    refine CW rfl (zw rfl rfl) rfl <| AE 15 rfl (FE rfl (k + 1) c.2.2.2.2.1.length (.inr ⟨_, _, rfl, rfl⟩) (.inl ⟨rfl, rfl⟩) hkl AA) rfl ?_
    refine AL 1 AB <| BC rfl (BS rfl rfl rfl) rfl fun b189 =>  ?_
    refine AL 8 AB <| IW (AD.FQ (b := b189) 3 0 rfl AF) ?_
    refine BC rfl (BT (A := some ⟨b189, 0, none⟩) (news := (c.2.2.2.2.1.take k).flatMap BJ) rfl rfl (BB.O0 (A := q.2.1.1) (t := 147) (sz := 3) (n := c.2.2.2.2.1.length) (cap := q.2.1.2) (cs := c.2.2.2.2.1.flatMap BJ) hA k AA hfl hcapV hnew1) hlen1 (GH GF _) AF (JN AA)) rfl (fun qA => ?_)
    rw [List.nil_append, Nat.zero_add]
    refine AL 16 AB <| BC rfl (BT (A := qA.1) (news := (c.2.2.2.2.1.drop (k + 1)).flatMap BJ) rfl rfl (BB.HJ (A := q.2.1.1) (t := 147) (sz := 3) (n := c.2.2.2.2.1.length) (cap := q.2.1.2) (cs := c.2.2.2.2.1.flatMap BJ) hA (k + 1) (c.2.2.2.2.1.length - (k + 1)) AA hfl hcapV hnew2) hlen2 (GH GF _) AF (JN AA)) rfl (fun qB => ?_)
    rw [hcat, hlen3]
    refine AE 17 rfl (AY rfl) rfl <| AE 18 rfl (AP rfl) rfl <| AL 19 AB <| CB rfl (CI (B3 (c.1, c.2.1, c.2.2.1, c.2.2.2.1, F9 DJ x c.2.2.2.2.1, c.2.2.2.2.2) (q.1, qB, q.2.2)) rfl rfl (by simp) rfl rfl) rfl ?_
    refine BY AB <| zb <| zt <| zg <| zs rfl <| ?_
    refine zn <| zq <| ?_
    obtain ⟨q', hq'⟩ : ∃ x : DA, x = (q.1, qB, q.2.2) := ⟨_, rfl⟩
    exact zz rfl rfl fun w' H' => ⟨by rw [hres], H'.AK (AD.trans (b := DC g (B8 c e).1 q') Z5 (D1 (l := []) q'))⟩
   skip
   refine CW rfl (zw rfl rfl) rfl <| AE 15 rfl (FE rfl (k + 1) c.2.2.2.2.1.length (.inr ⟨_, _, rfl, rfl⟩) (.inl ⟨rfl, rfl⟩) hkl AA) rfl ?_
   refine DE 1 5 AB ?_ ?_
   ·skip
    refine BC rfl (BS rfl rfl rfl) rfl fun b189 =>  ?_
    refine AL 5 AB <| CW rfl (zw rfl rfl) rfl <| AE 7 rfl (J9 rfl k rfl AA) rfl ?_
    refine AL 8 AB <| IW (AD.FQ (b := b189) 3 0 rfl AF) ?_
    refine BC rfl (BT (A := some ⟨b189, 0, none⟩) (news := (c.2.2.2.2.1.take k).flatMap BJ) rfl rfl (BB.O0 (A := q.2.1.1) (t := 147) (sz := 3) (n := c.2.2.2.2.1.length) (cap := q.2.1.2) (cs := c.2.2.2.2.1.flatMap BJ) hA k AA hfl hcapV hnew1) hlen1 (GH GF _) AF (JN AA)) rfl (fun qA => ?_)
    rw [List.nil_append, Nat.zero_add]
    refine AL 16 AB <| BC rfl (BT (A := qA.1) (news := (c.2.2.2.2.1.drop (k + 1)).flatMap BJ) rfl rfl (BB.HJ (A := q.2.1.1) (t := 147) (sz := 3) (n := c.2.2.2.2.1.length) (cap := q.2.1.2) (cs := c.2.2.2.2.1.flatMap BJ) hA (k + 1) (c.2.2.2.2.1.length - (k + 1)) AA hfl hcapV hnew2) hlen2 (GH GF _) AF (JN AA)) rfl (fun qB => ?_)
    rw [hcat, hlen3]
    refine AE 17 rfl (AY rfl) rfl <| AE 18 rfl (AP rfl) rfl <| AL 19 AB <| CB rfl (CI (B3 (c.1, c.2.1, c.2.2.1, c.2.2.2.1, F9 DJ x c.2.2.2.2.1, c.2.2.2.2.2) (q.1, qB, q.2.2)) rfl rfl (by simp) rfl rfl) rfl ?_
    refine BY AB <| zb <| zt <| zg <| zs rfl <| ?_
    refine zn <| zq <| ?_
    obtain ⟨q', hq'⟩ : ∃ x : DA, x = (q.1, qB, q.2.2) := ⟨_, rfl⟩
    exact zz rfl rfl fun w' H' => ⟨by rw [hres], H'.AK (AD.trans (b := DC g (B8 c e).1 q') Z5 (D1 (l := []) q'))⟩
   skip
   refine CW rfl (zw rfl rfl) rfl <| AE 7 rfl (J9 rfl k rfl AA) rfl ?_
   refine AL 1 AB <| BC rfl (BS rfl rfl rfl) rfl fun b189 =>  ?_
   refine AL 8 AB <| IW (AD.FQ (b := b189) 3 0 rfl AF) ?_
   refine BC rfl (BT (A := some ⟨b189, 0, none⟩) (news := (c.2.2.2.2.1.take k).flatMap BJ) rfl rfl (BB.O0 (A := q.2.1.1) (t := 147) (sz := 3) (n := c.2.2.2.2.1.length) (cap := q.2.1.2) (cs := c.2.2.2.2.1.flatMap BJ) hA k AA hfl hcapV hnew1) hlen1 (GH GF _) AF (JN AA)) rfl (fun qA => ?_)
   rw [List.nil_append, Nat.zero_add]
   refine AL 16 AB <| BC rfl (BT (A := qA.1) (news := (c.2.2.2.2.1.drop (k + 1)).flatMap BJ) rfl rfl (BB.HJ (A := q.2.1.1) (t := 147) (sz := 3) (n := c.2.2.2.2.1.length) (cap := q.2.1.2) (cs := c.2.2.2.2.1.flatMap BJ) hA (k + 1) (c.2.2.2.2.1.length - (k + 1)) AA hfl hcapV hnew2) hlen2 (GH GF _) AF (JN AA)) rfl (fun qB => ?_)
   rw [hcat, hlen3]
   refine AE 17 rfl (AY rfl) rfl <| AE 18 rfl (AP rfl) rfl <| AL 19 AB <| CB rfl (CI (B3 (c.1, c.2.1, c.2.2.1, c.2.2.2.1, F9 DJ x c.2.2.2.2.1, c.2.2.2.2.2) (q.1, qB, q.2.2)) rfl rfl (by simp) rfl rfl) rfl ?_
   refine BY AB <| zb <| zt <| zg <| zs rfl <| ?_
   refine zn <| zq <| ?_
   obtain ⟨q', hq'⟩ : ∃ x : DA, x = (q.1, qB, q.2.2) := ⟨_, rfl⟩
   exact zz rfl rfl fun w' H' => ⟨by rw [hres], H'.AK (AD.trans (b := DC g (B8 c e).1 q') Z5 (D1 (l := []) q'))⟩
  have k8 : ¬ e.1 = 8 := k8
  refine AG <| zg <| zv (CO rfl rfl) <| zs rfl <| AS <| zt <| BP rfl (fun k9 => ?_) (fun k9 => ?_)
  ·have k9 : e.1 = 9 := k9
   refine zk <| GR rfl (k9) <| zg <| zm rfl <| zv DY <| ?_
   refine HL.AK (AD.trans (b := DC g c q ++ []) Z8 (D1 q)) ?_
   refine B2 Tryz.call109 rfl rfl (fun w1 => zp (IJ g c) fun D' _ _ H2 => YF D' w1 g c e kk hkk hm (.inl k9) H2) ?_
   refine zs rfl <| zn <| zq <| B4 <| zr <| ?_
   exact zz rfl rfl fun w' H' => ⟨rfl, H'⟩
  have k9 : ¬ e.1 = 9 := k9
  refine AR <| zv (CO rfl rfl) <| zs rfl <| zn <| BP rfl (fun k10 => ?_) (fun k10 => ?_)
  ·have k10 : e.1 = 10 := k10
   refine zg <| zm rfl <| zv DY <| ?_
   refine HL.AK (AD.trans (b := DC g c q ++ []) Z8 (D1 q)) ?_
   refine B2 Tryz.call109 rfl rfl (fun w1 => zp (IJ g c) fun D' _ _ H2 => YF D' w1 g c e kk hkk hm (.inr k10) H2) ?_
   refine zs rfl <| zn <| zq <| B4 <| zr <| ?_
   exact zz rfl rfl fun w' H' => ⟨rfl, H'⟩
  have k10 : ¬ e.1 = 10 := k10
  have hres : B8 c e = (c, 11) := by
   unfold B8
   rw [if_neg AA, if_neg AA, if_neg AA, if_neg AA, if_neg AA, if_neg AA, if_neg AA, if_neg AA]
  refine zg <| zs rfl <| zn <| zq <| B4 <| zr <| ?_
  exact zz rfl rfl fun w' H' => ⟨by rw [hres], H'.AK (AD.trans (b := DC g (B8 c e).1 q) Z6 (D1 (l := []) q))⟩
 have p0 : e.1 < 4 := by omega
 have h46 : ¬ (4 ≤ e.1 ∧ e.1 ≤ 6) := by omega
 refine BG rfl rfl rfl rfl rfl rfl <| BG rfl rfl rfl rfl rfl rfl <| BG rfl rfl rfl rfl rfl rfl <| AM (A8 rfl rfl) rfl <| AM (AO rfl) rfl <| BG rfl rfl rfl rfl rfl rfl <| ?_
 refine BG rfl rfl rfl rfl rfl rfl <| BG rfl rfl rfl rfl rfl rfl <| BG rfl rfl rfl rfl rfl rfl <| DM rfl rfl rfl rfl rfl <| DM rfl rfl rfl rfl rfl <| DM rfl rfl rfl rfl rfl <| ?_
 refine DM rfl rfl rfl rfl rfl <| DM rfl rfl rfl rfl rfl <| DM rfl rfl rfl rfl rfl <| DM rfl rfl rfl rfl rfl <| DM rfl rfl rfl rfl rfl <| BG rfl rfl rfl rfl rfl rfl <| ?_
 refine AM (A8 rfl rfl) rfl <| EM <| zt <| EU rfl <| zk <| ?_
 refine AG <| zg <| zf rfl <| zl rfl rfl <| AS <| ?_
 refine zt <| BK <| zg <| zv (CO rfl rfl) <| zs rfl <| zn <| BP rfl (fun k1 => ?_) (fun k1 => ?_)
 ·have hres : B8 c e = ((e.2.2.1, c.2), 0) := by unfold B8; rw [if_pos k1]
  refine AR <| zm rfl <| zf rfl <| zl rfl rfl <| zv (AY rfl) <| zf rfl <| ?_
  refine A6 (CI (B3 (e.2.2.1, c.2) q) rfl rfl (by simp) rfl rfl) rfl rfl ?_
  refine AS <| zb <| zt <| zg <| zs rfl <| zn <| zq <| ?_
  exact zz rfl rfl fun w' H' => ⟨by rw [hres], H'.AK (AD.trans (b := DC g (B8 c e).1 q) Z6 (D1 (l := []) q))⟩
 have k1 : ¬ e.1 = 1 := k1
 refine zg <| zv (CO rfl rfl) <| zs rfl <| zn <| BP rfl (fun k2 => ?_) (fun k2 => ?_)
 ·have hres : B8 c e = ((c.1, e.2.2.1, c.2.2), 0) := by unfold B8; rw [if_neg k1, if_pos k2]
  refine AR <| zm rfl <| zf rfl <| zl rfl rfl <| zv (AY rfl) <| zf rfl <| ?_
  refine A6 (CI (B3 (c.1, e.2.2.1, c.2.2) q) rfl rfl (by simp) rfl rfl) rfl rfl ?_
  refine AS <| zb <| zt <| zg <| zs rfl <| zn <| zq <| ?_
  exact zz rfl rfl fun w' H' => ⟨by rw [hres], H'.AK (AD.trans (b := DC g (B8 c e).1 q) Z6 (D1 (l := []) q))⟩
 have k2 : ¬ e.1 = 2 := k2
 refine zg <| zv (CO rfl rfl) <| zs rfl <| zn <| BP rfl (fun k3 => ?_) (fun k3 => ?_)
 ·have hres : B8 c e = ((c.1, c.2.1, e.2.2.1, c.2.2.2), 0) := by unfold B8; rw [if_neg k1, if_neg k2, if_pos k3]
  refine AR <| zm rfl <| zf rfl <| zl rfl rfl <| zv (AY rfl) <| zf rfl <| ?_
  refine A6 (CI (B3 (c.1, c.2.1, e.2.2.1, c.2.2.2) q) rfl rfl (by simp) rfl rfl) rfl rfl ?_
  refine AS <| zb <| zt <| zg <| zs rfl <| zn <| zq <| ?_
  exact zz rfl rfl fun w' H' => ⟨by rw [hres], H'.AK (AD.trans (b := DC g (B8 c e).1 q) Z6 (D1 (l := []) q))⟩
 have k3 : ¬ e.1 = 3 := k3
 refine zg <| zv (CO rfl rfl) <| zs rfl <| zn <| CP rfl ((show ¬ e.1 = 4 by omega)) ?_
 refine zg <| zv (CO rfl rfl) <| zs rfl <| zn <| CP rfl ((show ¬ e.1 = 5 by omega)) ?_
 refine zg <| zv (CO rfl rfl) <| zs rfl <| zn <| CP rfl ((show ¬ e.1 = 6 by omega)) ?_
 refine zg <| zv (CO rfl rfl) <| zs rfl <| zn <| CP rfl ((show ¬ e.1 = 7 by omega)) ?_
 refine zg <| zv (CO rfl rfl) <| zs rfl <| zn <| CP rfl ((show ¬ e.1 = 8 by omega)) ?_
 refine AG <| zg <| zv (CO rfl rfl) <| zs rfl <| AS <| zt <| CP rfl ((show ¬ e.1 = 9 by omega)) ?_
 refine AR <| zv (CO rfl rfl) <| zs rfl <| zn <| CP rfl ((show ¬ e.1 = 10 by omega)) ?_
 have hres : B8 c e = (c, 11) := by
  unfold B8
  rw [if_neg AA, if_neg AA, if_neg AA, if_neg AA, if_neg AA, if_neg AA, if_neg AA, if_neg AA]
 refine zg <| zs rfl <| zn <| zq <| B4 <| zr <| ?_
 exact zz rfl rfl fun w' H' => ⟨by rw [hres], H'.AK (AD.trans (b := DC g (B8 c e).1 q) Z6 (D1 (l := []) q))⟩
end Go.Proofs.YtjlolpmmpafjeaaGreat
