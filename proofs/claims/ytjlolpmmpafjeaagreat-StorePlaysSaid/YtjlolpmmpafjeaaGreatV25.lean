import Derived.Test.YtjlolpmmpafjeaaGreatV24
set_option linter.unusedVariables false
set_option linter.unusedSimpArgs false
namespace Go.Proofs.YtjlolpmmpafjeaaGreat
open Slk
variable (D : Nat → Prop) (w : World)
theorem rdP_sticky (s : RS) (h : s.bad = true) : (rdP false s).2.bad = true := getS_badT _ 2 (getS_badT _ 4 (getS_badT _ 1 h))
theorem rdV_sticky (s : RS) (h : s.bad = true) : (rdV s).2.bad = true := getS_badT _ 1 (getS_badT _ 1 (getS_badT _ 2 h))
theorem rdS_sticky (s : RS) (h : s.bad = true) : (rdS s).2.bad = true := getS_badT _ 1 (getS_badT _ 2 (getS_badT _ 6 h))
theorem early (s3 : RS) (c1 c2 c3 : Int) (i j k : Nat) (s4 s5 s6 : RS) (p : List PortC × RS) (v : List VlanC × RS) (t : List StatC × RS) (n1 n2 n3 : Nat)
  (hs4 : getS s3 1 = s4) (hn1 : getN s3 1 = n1) (hi : i ≤ n1) (hp : rdL (rdP false) i s4 = p) (h1 : p.2.bad = false → i = n1)
  (hs5 : getS p.2 1 = s5) (hn2 : getN p.2 1 = n2) (hj : j ≤ n2) (hv : rdL rdV j s5 = v) (h2 : v.2.bad = false → j = n2)
  (hs6 : getS v.2 1 = s6) (hn3 : getN v.2 1 = n3) (hk : k ≤ n3) (ht : rdL rdS k s6 = t) (h3 : t.2.bad = false → k = n3)
  (R : ConfC × RS) (hR : R = (let p := rdL (rdP false) (getN s3 1) (getS s3 1)
   let v := rdL rdV (getN p.2 1) (getS p.2 1)
   let t := rdL rdS (getN v.2 1) (getS v.2 1)
   ((c1, c2, c3, p.1, v.1, t.1), t.2))) :
  (t.2.bad = false → R = ((c1, c2, c3, p.1, v.1, t.1), t.2)) ∧ (t.2.bad = true → R.2.bad = true) := by
 have q1 : i = n1 → p.2.bad = true → R.2.bad = true := fun e hb => by
  subst e; subst hn1; subst hs4
  rw [hR]
  dsimp only
  rw [hp]
  exact rdL_sticky rdS_sticky 0 _ (Nat.zero_le _) _ (getS_badT _ 1 (rdL_sticky rdV_sticky 0 _ (Nat.zero_le _) _ (getS_badT _ 1 hb)))
 have q2 : i = n1 → j = n2 → v.2.bad = true → R.2.bad = true := fun e e2 hb => by
  subst e; subst hn1; subst hs4; subst e2; subst hn2; subst hs5
  rw [hR]
  dsimp only
  rw [hp, hv]
  exact rdL_sticky rdS_sticky 0 _ (Nat.zero_le _) _ (getS_badT _ 1 hb)
 have g1 : v.2.bad = false → p.2.bad = false := fun h => by
  cases hb : p.2.bad with
  | false => rfl
  | true =>
   have := rdL_sticky rdV_sticky 0 j (Nat.zero_le _) s5 (by rw [← hs5]; exact getS_badT _ 1 hb)
   rw [hv, h] at this; cases this
 have g2 : t.2.bad = false → v.2.bad = false := fun h => by
  cases hb : v.2.bad with
  | false => rfl
  | true =>
   have := rdL_sticky rdS_sticky 0 k (Nat.zero_le _) s6 (by rw [← hs6]; exact getS_badT _ 1 hb)
   rw [ht, h] at this; cases this
 constructor
 ·intro h
  have e3 := h3 h
  have e2 := h2 (g2 h)
  have e1 := h1 (g1 (g2 h))
  subst e1; subst hn1; subst hs4; subst e2; subst hn2; subst hs5; subst e3; subst hn3; subst hs6
  rw [hR]
  dsimp only
  rw [hp, hv, ht]
 intro h
 by_cases b1 : p.2.bad = true
 ·have hb := rdL_sticky rdP_sticky i n1 hi s4 (by rw [hp]; exact b1)
  rw [hR]
  dsimp only
  rw [hn1, hs4]
  exact rdL_sticky rdS_sticky 0 _ (Nat.zero_le _) _ (getS_badT _ 1 (rdL_sticky rdV_sticky 0 _ (Nat.zero_le _) _ (getS_badT _ 1 hb)))
 have e1 := h1 (by simpa using b1)
 by_cases b2 : v.2.bad = true
 ·have hb := rdL_sticky rdV_sticky j n2 hj s5 (by rw [hv]; exact b2)
  subst e1; subst hn1; subst hs4
  rw [hR]
  dsimp only
  rw [hp, hn2, hs5]
  exact rdL_sticky rdS_sticky 0 _ (Nat.zero_le _) _ (getS_badT _ 1 hb)
 have e2 := h2 (by simpa using b2)
 have hb := rdL_sticky rdS_sticky k n3 hk s6 (by rw [ht]; exact h)
 subst e1; subst hn1; subst hs4; subst e2; subst hn2; subst hs5
 rw [hR]
 dsimp only
 rw [hp, hv, hn3, hs6]
 exact hb
def refC (xs : List UInt8) (s : RS) : Prop := (rdC false s).2.bad = false ∧ goodP (rdC false s).1 ∧ cfgB (rdC false s).1 = xs
theorem RParse_spec (v : Value) (xs : List UInt8) (HA : Old D w (Rep.rep xs [v])) :
  Calls Tryz.prog 53 #[v] w fun e w' => ∃ r : ParseT (refC xs ⟨xs, v, false⟩) (rdC false ⟨xs, v, false⟩).1, e = .returned (.tuple #[.agg (cfgA r.1.2.1 r.1.1).toArray, .int .i64 r.1.2.2]) ∧ Own D w w' (cfgR r.1.2.1 r.1.1) := by
 have HA0 := HA
 obtain ⟨Ax, capx, rfl, _, _, HSx⟩ := HA0.openB
 obtain ⟨s, hs⟩ : ∃ s : RS, s = ⟨xs, .slice Ax xs.length capx, false⟩ := ⟨_, rfl⟩
 have HA : Old D w (Rep.rep s.rem [s.v]) := by rw [hs]; exact HA
 rw [← hs]
 have hB : ∀ (s : RS) (k : Nat), k ≤ 6 → getN s k < 281474976710656 := fun s k hk => Nat.lt_of_lt_of_le (getN_lt s k) (by have : 256 ^ k ≤ 256 ^ 6 := Nat.pow_le_pow_right Z63 hk; exact this)
 have HA1 := old_get 2 HA
 have HA2 := old_get 1 HA1
 have HA3 := old_get 1 HA2
 have HA4 := old_get 1 HA3
 have hear := fun (i j k : Nat) (s4 s5 s6 : RS) (p : List PortC × RS) (v : List VlanC × RS) (t : List StatC × RS) (n1 n2 n3 : Nat) => fun hs4 hn1 hi hp h1 hs5 hn2 hj hv h2 hs6 hn3 hk ht h3 => early (getS (getS (getS s 2) 1) 1) (getN s 2 : Int) (getN (getS s 2) 1 : Int) (getN (getS (getS s 2) 1) 1 : Int) i j k s4 s5 s6 p v t n1 n2 n3 hs4 hn1 hi hp h1 hs5 hn2 hj hv h2 hs6 hn3 hk ht h3 (rdC false s) rfl
 have hrefC : refC xs s ↔ (rdC false s).2.bad = false ∧ goodP (rdC false s).1 ∧ cfgB (rdC false s).1 = xs := Iff.rfl
 generalize rdC false s = R at *
 have hn : getN (getS (getS (getS s 2) 1) 1) 1 < 256 := getN_lt _ 1
 have hb1 := hB s 2 Z63
 have hb2 := hB (getS s 2) 1 Z63
 have hb3 := hB (getS (getS s 2) 1) 1 Z63
 have hin1 := getN_in s 2 Z63
 have hin2 := getN_in (getS s 2) 1 Z63
 have hin3 := getN_in (getS (getS s 2) 1) 1 Z63
 generalize hs1 : getS s 2 = s1 at *
 generalize hs2 : getS s1 1 = s2 at *
 generalize hs3 : getS s2 1 = s3 at *
 generalize hs4 : getS s3 1 = s4 at *
 generalize hc1 : getN s 2 = c1 at *
 generalize hc2 : getN s1 1 = c2 at *
 generalize hc3 : getN s2 1 = c3 at *
 generalize hnn : getN s3 1 = n at *
 refine hc_enter (vs := [.slice Ax xs.length capx]) Tryz.func53 rfl _ Tryz.ntmps53 rfl (Own.start D w) ?_
 simp only [argSlots, Nat.zero_add]
 refine zg <| hl_new (on_alloc) rfl rfl rfl fun b2 =>
  zs rfl <| zn <| ?_
 refine zg <| zm rfl <| zv (ov_buildSN rfl rfl) <| ?_
 refine hl_new (on_boxN rfl rfl) rfl rfl rfl fun b13 =>  ?_
 refine zs rfl <| zn <| zg <| zm rfl <| HL.ent (show Ent _ [blk b13 188 [s.v, .bool s.bad], blk b2 49 [.int .i64 0, .int .i64 0, .int .i64 0, .slice none 0 0, .slice none 0 0, .slice none 0 0]] by rw [hs]; exact Z8) ?_
 obtain ⟨rd, hrd⟩ : ∃ k, k = b13 := ⟨_, rfl⟩
 rw [← hrd]
 refine hl_c Tryz.call89 rfl rfl (fun w1 => zp (blk rd 188 [s.v, .bool s.bad]) fun D' hold _ H2 => num_spec D' w1 rd 188 2 s Z63 H2 (hold _ HA)) ?_
 rw [hs1, hc1]
 refine zv (ov_conv rfl Z28) <| ?_
 refine zm rfl <| hl_c Tryz.call89 rfl rfl (fun w1 => zp (blk rd 188 [s1.v, .bool s1.bad]) fun D' hold _ H2 => num_spec D' w1 rd 188 1 s1 Z63 H2 (hold _ HA1)) ?_
 rw [hs2, hc2]
 refine zv (ov_conv rfl Z28) <| ?_
 refine zm rfl <| hl_c Tryz.call89 rfl rfl (fun w1 => zp (blk rd 188 [s2.v, .bool s2.bad]) fun D' hold _ H2 => num_spec D' w1 rd 188 1 s2 Z63 H2 (hold _ HA2)) ?_
 rw [hs3, hc3]
 refine zv (ov_conv rfl Z28) <| ?_
 refine zv (ov_buildSN rfl rfl) <| ?_
 refine hl_new (on_alloc) rfl rfl rfl fun b5 => 
  hl_u0 (on_storeGN rfl rfl rfl rfl rfl rfl) rfl rfl <| zn <| hc_seq <| hc_seq <| ?_
 refine hc_region <| zm rfl <| hl_c Tryz.call89 rfl rfl (fun w1 => zp (blk rd 188 [s3.v, .bool s3.bad]) fun D' hold _ H2 => num_spec D' w1 rd 188 1 s3 Z63 H2 (hold _ HA3)) ?_
 rw [hs4, hnn]
 obtain ⟨cf, hcf⟩ : ∃ k, k = b5 := ⟨_, rfl⟩
 rw [← hcf]
 refine zv (ov_conv rfl Z28) <| ?_
 refine zs rfl <| zn <| hc_cutK0 (σ := Nat × Option Addr × Nat) [0, 2, 4, 5] rfl  (fun u => [pureP (u.1 ≤ n ∧ ((rdL (rdP false) u.1 s4).2.bad = false → u.1 = n)), row u.2.1 83 3 u.1 u.2.2 ((rdL (rdP false) u.1 s4).1.flatMap portV), blk rd 188 [(rdL (rdP false) u.1 s4).2.v, .bool (rdL (rdP false) u.1 s4).2.bad], blk cf 49 [.int .i64 c1, .int .i64 c2, .int .i64 c3, .slice u.2.1 u.1 u.2.2, .slice none 0 0, .slice none 0 0], blk b2 49 [.int .i64 0, .int .i64 0, .int .i64 0, .slice none 0 0, .slice none 0 0, .slice none 0 0]]) (fun K1 hK1 => ?_) (fun u => ?_)
 ·refine hc_block <| hc_loopK1 (σ := Nat × Option Addr × Nat) [0, 2, 4, 5] rfl 6 (fun u => .int .i64 ((n : Int) - (u.1 : Int))) (fun u => [row u.2.1 83 3 u.1 u.2.2 ((rdL (rdP false) u.1 s4).1.flatMap portV), blk rd 188 [(rdL (rdP false) u.1 s4).2.v, .bool (rdL (rdP false) u.1 s4).2.bad], blk cf 49 [.int .i64 c1, .int .i64 c2, .int .i64 c3, .slice u.2.1 u.1 u.2.2, .slice none 0 0, .slice none 0 0], blk b2 49 [.int .i64 0, .int .i64 0, .int .i64 0, .slice none 0 0, .slice none 0 0, .slice none 0 0]]) (fun u => u.1 ≤ n) (fun u => n - u.1) ((0, none, 0)) (Nat.zero_le _) rfl (Ent.nil_row 83 3) ?_
  rintro ⟨i, A, c⟩ hi K2 hK2
  dsimp only at hi ⊢
  have HAi := old_rdL (old_rdP false) i HA4
  refine hc_seq <| zg <| zm rfl <| zv (ov_gtr rfl rfl) <| zm rfl <| hl_part (t := 29) rfl (fun p1 => ?_) (fun p1 => ?_)
  ·refine hl_on rfl rfl <| zm rfl <| hl_on rfl rfl <| zv (ov_nil rfl) <| hl_on rfl rfl <| zf rfl <| hl_on rfl rfl <| zl rfl rfl <| hl_on rfl rfl <| zv Z26 <| ?_
   refine zv (ov_pickT rfl rfl) <| zn <| hc_cond_bool rfl (fun p2 => ?_) (fun p2 => ?_)
   ·have hlt : i < n := by omega
    have hme : n - (i + 1) < n - i := by omega
    have hce : portV (rdP false (rdL (rdP false) i s4).2).1 = [.bool (decide ((getN (rdL (rdP false) i s4).2 1 : Int) = 1)), .int .u32 (getN (getS (rdL (rdP false) i s4).2 1) 4), .int .i64 (getN (getS (getS (rdL (rdP false) i s4).2 1) 4) 2)] := rdP_cells false _
    have hl7 := snocF portV (rdP false) i s4
    have hs7 : (rdL (rdP false) (i + 1) s4).2 = getS (getS (getS (rdL (rdP false) i s4).2 1) 4) 2 := rfl
    generalize (rdL (rdP false) i s4).2 = r0 at *
    have K0 := HAi
    have KA := old_get 1 K0
    have KB := old_get 4 KA
    have z1 : getN (getS r0 1) 4 < 4294967296 := getN_lt _ 4
    have z2 : getN (getS (getS r0 1) 4) 2 < 65536 := getN_lt _ 2
    generalize hsA : getS r0 1 = sA at *
    generalize hsB : getS sA 4 = sB at *
    refine zk <| hc_seq <| hc_block <| hc_any [] mixed 16 rfl ?_
    refine ha_v 0 rfl (ov_fieldA rfl) rfl <| ha_v 2 rfl (ov_move rfl) rfl <| ha_v 5 rfl (ov_move rfl) rfl <| ha_v 8 rfl (ov_move rfl) rfl <| ha_two 1 3 Z61 ?_ ?_
    ·skip
     refine ho_v rfl (zw rfl rfl) rfl <| ha_one 3 Z61 <| ho_k rfl Tryz.call89 rfl (fun w1 => zp (blk rd 188 [r0.v, .bool r0.bad]) fun D' hold _ H2 => num_spec D' w1 rd 188 1 r0 Z63 H2 (hold _ K0)) ?_
     rw [hsA]
     refine ha_v 4 rfl (ov_eql rfl rfl) rfl <| ha_one 6 Z61 <| ho_k rfl Tryz.call89 rfl (fun w1 => zp (blk rd 188 [sA.v, .bool sA.bad]) fun D' hold _ H2 => num_spec D' w1 rd 188 4 sA Z63 H2 (hold _ KA)) ?_
     rw [hsB]
     refine ha_v 7 rfl (ov_conv rfl Z30) rfl <| ?_
     refine ha_one 9 Z61 <| ho_k rfl Tryz.call89 rfl (fun w1 => zp (blk rd 188 [sB.v, .bool sB.bad]) fun D' hold _ H2 => num_spec D' w1 rd 188 2 sB Z63 H2 (hold _ KB)) ?_
     refine ha_v 10 rfl (ov_conv rfl Z28) rfl <| ?_
     refine ha_v 11 rfl (ov_buildSN rfl rfl) rfl <| ?_
     refine ha_one 12 Z61 <| ho_n rfl (on_buildSliceN rfl rfl rfl) rfl fun b50 =>  ?_
     refine ha_one 13 Z61 <| ?_
     rw [← hce]
     refine ho_n rfl (on_appendR (A := A) (news := portV (rdP false r0).1) rfl rfl (SrcIs.blk (b := b50)) rfl Z49 Z63 Z64) rfl (fun q2 => ?_)
     rw [hl7]
     refine ha_v 14 rfl (ov_fieldA rfl) rfl <| ha_one 15 Z61 <| ho_w0 rfl (on_storeE [.int .i64 c1, .int .i64 c2, .int .i64 c3, .slice q2.1 (i + 1) q2.2, .slice none 0 0, .slice none 0 0] rfl rfl (by simp) rfl rfl) rfl ?_
     refine ha_done Z61 <| ?_
     refine zb <| zt <| hc_region <| zm rfl <| hl_v (ov_sub (m := (n : Int) - ((i + 1 : Nat) : Int)) rfl rfl Z36) rfl ?_
     refine zs rfl <| hl_nil <| ?_
     rw [← hs7]
     refine hx_next hK2 ((i + 1, q2)) (hlt) (hme) Z16 Z10
    skip
    refine ho_k rfl Tryz.call89 rfl (fun w1 => zp (blk rd 188 [r0.v, .bool r0.bad]) fun D' hold _ H2 => num_spec D' w1 rd 188 1 r0 Z63 H2 (hold _ K0)) ?_
    rw [hsA]
    refine ha_v 4 rfl (ov_eql rfl rfl) rfl <| ha_two 1 6 Z61 ?_ ?_
    ·skip
     refine ho_v rfl (zw rfl rfl) rfl <| ha_one 6 Z61 <| ho_k rfl Tryz.call89 rfl (fun w1 => zp (blk rd 188 [sA.v, .bool sA.bad]) fun D' hold _ H2 => num_spec D' w1 rd 188 4 sA Z63 H2 (hold _ KA)) ?_
     rw [hsB]
     refine ha_v 7 rfl (ov_conv rfl Z30) rfl <| ?_
     refine ha_one 9 Z61 <| ho_k rfl Tryz.call89 rfl (fun w1 => zp (blk rd 188 [sB.v, .bool sB.bad]) fun D' hold _ H2 => num_spec D' w1 rd 188 2 sB Z63 H2 (hold _ KB)) ?_
     refine ha_v 10 rfl (ov_conv rfl Z28) rfl <| ?_
     refine ha_v 11 rfl (ov_buildSN rfl rfl) rfl <| ?_
     refine ha_one 12 Z61 <| ho_n rfl (on_buildSliceN rfl rfl rfl) rfl fun b50 =>  ?_
     refine ha_one 13 Z61 <| ?_
     rw [← hce]
     refine ho_n rfl (on_appendR (A := A) (news := portV (rdP false r0).1) rfl rfl (SrcIs.blk (b := b50)) rfl Z49 Z63 Z64) rfl (fun q2 => ?_)
     rw [hl7]
     refine ha_v 14 rfl (ov_fieldA rfl) rfl <| ha_one 15 Z61 <| ho_w0 rfl (on_storeE [.int .i64 c1, .int .i64 c2, .int .i64 c3, .slice q2.1 (i + 1) q2.2, .slice none 0 0, .slice none 0 0] rfl rfl (by simp) rfl rfl) rfl ?_
     refine ha_done Z61 <| ?_
     refine zb <| zt <| hc_region <| zm rfl <| hl_v (ov_sub (m := (n : Int) - ((i + 1 : Nat) : Int)) rfl rfl Z36) rfl ?_
     refine zs rfl <| hl_nil <| ?_
     rw [← hs7]
     refine hx_next hK2 ((i + 1, q2)) (hlt) (hme) Z16 Z10
    skip
    refine ho_k rfl Tryz.call89 rfl (fun w1 => zp (blk rd 188 [sA.v, .bool sA.bad]) fun D' hold _ H2 => num_spec D' w1 rd 188 4 sA Z63 H2 (hold _ KA)) ?_
    rw [hsB]
    refine ha_v 7 rfl (ov_conv rfl Z30) rfl <| ?_
    refine ha_two 1 9 Z61 ?_ ?_
    ·skip
     refine ho_v rfl (zw rfl rfl) rfl <| ha_one 9 Z61 <| ho_k rfl Tryz.call89 rfl (fun w1 => zp (blk rd 188 [sB.v, .bool sB.bad]) fun D' hold _ H2 => num_spec D' w1 rd 188 2 sB Z63 H2 (hold _ KB)) ?_
     refine ha_v 10 rfl (ov_conv rfl Z28) rfl <| ?_
     refine ha_v 11 rfl (ov_buildSN rfl rfl) rfl <| ?_
     refine ha_one 12 Z61 <| ho_n rfl (on_buildSliceN rfl rfl rfl) rfl fun b50 =>  ?_
     refine ha_one 13 Z61 <| ?_
     rw [← hce]
     refine ho_n rfl (on_appendR (A := A) (news := portV (rdP false r0).1) rfl rfl (SrcIs.blk (b := b50)) rfl Z49 Z63 Z64) rfl (fun q2 => ?_)
     rw [hl7]
     refine ha_v 14 rfl (ov_fieldA rfl) rfl <| ha_one 15 Z61 <| ho_w0 rfl (on_storeE [.int .i64 c1, .int .i64 c2, .int .i64 c3, .slice q2.1 (i + 1) q2.2, .slice none 0 0, .slice none 0 0] rfl rfl (by simp) rfl rfl) rfl ?_
     refine ha_done Z61 <| ?_
     refine zb <| zt <| hc_region <| zm rfl <| hl_v (ov_sub (m := (n : Int) - ((i + 1 : Nat) : Int)) rfl rfl Z36) rfl ?_
     refine zs rfl <| hl_nil <| ?_
     rw [← hs7]
     refine hx_next hK2 ((i + 1, q2)) (hlt) (hme) Z16 Z10
    skip
    refine ho_k rfl Tryz.call89 rfl (fun w1 => zp (blk rd 188 [sB.v, .bool sB.bad]) fun D' hold _ H2 => num_spec D' w1 rd 188 2 sB Z63 H2 (hold _ KB)) ?_
    refine ha_v 10 rfl (ov_conv rfl Z28) rfl <| ?_
    refine ha_v 11 rfl (ov_buildSN rfl rfl) rfl <| ?_
    refine ha_two 1 12 Z61 ?_ ?_
    ·skip
     refine ho_v rfl (zw rfl rfl) rfl <| ha_one 12 Z61 <| ho_n rfl (on_buildSliceN rfl rfl rfl) rfl fun b50 =>  ?_
     refine ha_one 13 Z61 <| ?_
     rw [← hce]
     refine ho_n rfl (on_appendR (A := A) (news := portV (rdP false r0).1) rfl rfl (SrcIs.blk (b := b50)) rfl Z49 Z63 Z64) rfl (fun q2 => ?_)
     rw [hl7]
     refine ha_v 14 rfl (ov_fieldA rfl) rfl <| ha_one 15 Z61 <| ho_w0 rfl (on_storeE [.int .i64 c1, .int .i64 c2, .int .i64 c3, .slice q2.1 (i + 1) q2.2, .slice none 0 0, .slice none 0 0] rfl rfl (by simp) rfl rfl) rfl ?_
     refine ha_done Z61 <| ?_
     refine zb <| zt <| hc_region <| zm rfl <| hl_v (ov_sub (m := (n : Int) - ((i + 1 : Nat) : Int)) rfl rfl Z36) rfl ?_
     refine zs rfl <| hl_nil <| ?_
     rw [← hs7]
     refine hx_next hK2 ((i + 1, q2)) (hlt) (hme) Z16 Z10
    skip
    refine ho_n rfl (on_buildSliceN rfl rfl rfl) rfl fun b50 =>  ?_
    refine ha_one 1 Z61 <| ho_v rfl (zw rfl rfl) rfl <| ha_one 13 Z61 <| ?_
    rw [← hce]
    refine ho_n rfl (on_appendR (A := A) (news := portV (rdP false r0).1) rfl rfl (SrcIs.blk (b := b50)) rfl Z49 Z63 Z64) rfl (fun q2 => ?_)
    rw [hl7]
    refine ha_v 14 rfl (ov_fieldA rfl) rfl <| ha_one 15 Z61 <| ho_w0 rfl (on_storeE [.int .i64 c1, .int .i64 c2, .int .i64 c3, .slice q2.1 (i + 1) q2.2, .slice none 0 0, .slice none 0 0] rfl rfl (by simp) rfl rfl) rfl ?_
    refine ha_done Z61 <| ?_
    refine zb <| zt <| hc_region <| zm rfl <| hl_v (ov_sub (m := (n : Int) - ((i + 1 : Nat) : Int)) rfl rfl Z36) rfl ?_
    refine zs rfl <| hl_nil <| ?_
    rw [← hs7]
    refine hx_next hK2 ((i + 1, q2)) (hlt) (hme) Z16 Z10
   have hX : (rdL (rdP false) i s4).2.bad = false → i = n := fun h => by rw [h] at p2; cases p2
   refine hc_exit <| ze <| ze <| hx_block_out <| ?_
   exact hx_cut hK1 ((i, A, c)) Z16 (Ent.pureR ⟨hi, hX⟩ Z8)
  have hX : (rdL (rdP false) i s4).2.bad = false → i = n := fun _ => by omega
  refine zo rfl rfl <| zo rfl rfl <| zo rfl rfl <| zo rfl rfl <| zo rfl rfl <| zv (ov_pickF rfl rfl) <| zn <| hc_cond_false rfl <| hc_exit <| ze <| ze <| hx_block_out <| ?_
  exact hx_cut hK1 ((i, A, c)) Z16 (Ent.pureR ⟨hi, hX⟩ Z8)
 obtain ⟨i, A, c⟩ := u
 refine HX.pure ?_
 dsimp only
 rintro ⟨hi1, hX1⟩
 have HA5 := old_rdL (old_rdP false) i HA4
 have hPl : (rdL (rdP false) i s4).1.length = i := rdL_len _ _
 have hPo := rdL_mem (rdP_ok false) i s4
 generalize hPL : rdL (rdP false) i s4 = PL at *
 have hn5 : getN PL.2 1 < 256 := getN_lt _ 1
 have HA6 := old_get 1 HA5
 generalize hs5 : getS PL.2 1 = s5 at *
 generalize hnv : getN PL.2 1 = n2 at *
 refine zt <| hc_seq <| zg <| zm rfl <| hl_c Tryz.call89 rfl rfl (fun w1 => zp (blk rd 188 [PL.2.v, .bool PL.2.bad]) fun D' hold _ H2 => num_spec D' w1 rd 188 1 PL.2 Z63 H2 (hold _ HA5)) ?_
 rw [hs5, hnv]
 refine zv (ov_conv rfl Z28) <| ?_
 refine zs rfl <| zn <| hc_cutK0 (σ := Nat × Option Addr × Nat) [0, 2, 4, 5] rfl  (fun u => [pureP (u.1 ≤ n2 ∧ ((rdL rdV u.1 s5).2.bad = false → u.1 = n2)), row u.2.1 147 3 u.1 u.2.2 ((rdL rdV u.1 s5).1.flatMap vlanV), blk rd 188 [(rdL rdV u.1 s5).2.v, .bool (rdL rdV u.1 s5).2.bad], row A 83 3 i c (PL.1.flatMap portV), blk cf 49 [.int .i64 c1, .int .i64 c2, .int .i64 c3, .slice A i c, .slice u.2.1 u.1 u.2.2, .slice none 0 0], blk b2 49 [.int .i64 0, .int .i64 0, .int .i64 0, .slice none 0 0, .slice none 0 0, .slice none 0 0]]) (fun K3 hK3 => ?_) (fun u => ?_)
 ·refine hc_block <| hc_loopK1 (σ := Nat × Option Addr × Nat) [0, 2, 4, 5] rfl 7 (fun u => .int .i64 ((n2 : Int) - (u.1 : Int))) (fun u => [row u.2.1 147 3 u.1 u.2.2 ((rdL rdV u.1 s5).1.flatMap vlanV), blk rd 188 [(rdL rdV u.1 s5).2.v, .bool (rdL rdV u.1 s5).2.bad], row A 83 3 i c (PL.1.flatMap portV), blk cf 49 [.int .i64 c1, .int .i64 c2, .int .i64 c3, .slice A i c, .slice u.2.1 u.1 u.2.2, .slice none 0 0], blk b2 49 [.int .i64 0, .int .i64 0, .int .i64 0, .slice none 0 0, .slice none 0 0, .slice none 0 0]]) (fun u => u.1 ≤ n2) (fun u => n2 - u.1) ((0, none, 0)) (Nat.zero_le _) rfl (Ent.nil_row 147 3) ?_
  rintro ⟨j, B, d⟩ hi K4 hK4
  dsimp only at hi ⊢
  have HAi := old_rdL old_rdV j HA6
  refine hc_seq <| zg <| zm rfl <| zv (ov_gtr rfl rfl) <| zm rfl <| hl_part (t := 58) rfl (fun p1 => ?_) (fun p1 => ?_)
  ·refine hl_on rfl rfl <| zm rfl <| hl_on rfl rfl <| zv (ov_nil rfl) <| hl_on rfl rfl <| zf rfl <| hl_on rfl rfl <| zl rfl rfl <| hl_on rfl rfl <| zv Z26 <| ?_
   refine zv (ov_pickT rfl rfl) <| zn <| hc_cond_bool rfl (fun p2 => ?_) (fun p2 => ?_)
   ·have hlt : j < n2 := by omega
    have hme : n2 - (j + 1) < n2 - j := by omega
    have hce := rdV_cells' (rdL rdV j s5).2
    have hl7 := snocF vlanV rdV j s5
    have hs7 : (rdL rdV (j + 1) s5).2 = getS (getS (getS (rdL rdV j s5).2 2) 1) 1 := rfl
    generalize (rdL rdV j s5).2 = r0 at *
    have K0 := HAi
    have KA := old_get 2 K0
    have KB := old_get 1 KA
    have z1 : getN r0 2 < 65536 := getN_lt _ 2
    have z2 : getN (getS r0 2) 1 < 256 := getN_lt _ 1
    have z3 : getN (getS (getS r0 2) 1) 1 < 256 := getN_lt _ 1
    generalize hsA : getS r0 2 = sA at *
    generalize hsB : getS sA 1 = sB at *
    refine zk <| hc_seq <| hc_block <| hc_any [] mixed 16 rfl ?_
    refine ha_v 0 rfl (ov_fieldA rfl) rfl <| ha_v 2 rfl (ov_move rfl) rfl <| ha_v 5 rfl (ov_move rfl) rfl <| ha_v 8 rfl (ov_move rfl) rfl <| ha_two 1 3 Z61 ?_ ?_
    ·skip
     refine ho_v rfl (zw rfl rfl) rfl <| ha_one 3 Z61 <| ho_k rfl Tryz.call89 rfl (fun w1 => zp (blk rd 188 [r0.v, .bool r0.bad]) fun D' hold _ H2 => num_spec D' w1 rd 188 2 r0 Z63 H2 (hold _ K0)) ?_
     rw [hsA]
     refine ha_v 4 rfl (ov_conv rfl Z28) rfl <| ?_
     refine ha_one 6 Z61 <| ho_k rfl Tryz.call89 rfl (fun w1 => zp (blk rd 188 [sA.v, .bool sA.bad]) fun D' hold _ H2 => num_spec D' w1 rd 188 1 sA Z63 H2 (hold _ KA)) ?_
     rw [hsB]
     refine ha_v 7 rfl (ov_conv rfl Z31) rfl <| ?_
     refine ha_one 9 Z61 <| ho_k rfl Tryz.call89 rfl (fun w1 => zp (blk rd 188 [sB.v, .bool sB.bad]) fun D' hold _ H2 => num_spec D' w1 rd 188 1 sB Z63 H2 (hold _ KB)) ?_
     refine ha_v 10 rfl (ov_conv rfl Z31) rfl <| ?_
     refine ha_v 11 rfl (ov_buildSN rfl rfl) rfl <| ?_
     refine ha_one 12 Z61 <| ho_n rfl (on_buildSliceN rfl rfl rfl) rfl fun b79 =>  ?_
     refine ha_one 13 Z61 <| ?_
     rw [← hce]
     refine ho_n rfl (on_appendR (A := B) (news := vlanV (rdV r0).1) rfl rfl (SrcIs.blk (b := b79)) rfl Z44 Z63 Z64) rfl (fun q2 => ?_)
     rw [hl7]
     refine ha_v 14 rfl (ov_fieldA rfl) rfl <| ha_one 15 Z61 <| ho_w0 rfl (on_storeE [.int .i64 c1, .int .i64 c2, .int .i64 c3, .slice A i c, .slice q2.1 (j + 1) q2.2, .slice none 0 0] rfl rfl (by simp) rfl rfl) rfl ?_
     refine ha_done Z61 <| ?_
     refine zb <| zt <| hc_region <| zm rfl <| hl_v (ov_sub (m := (n2 : Int) - ((j + 1 : Nat) : Int)) rfl rfl Z36) rfl ?_
     refine zs rfl <| hl_nil <| ?_
     rw [← hs7]
     refine hx_next hK4 ((j + 1, q2)) (hlt) (hme) Z16 Z10
    skip
    refine ho_k rfl Tryz.call89 rfl (fun w1 => zp (blk rd 188 [r0.v, .bool r0.bad]) fun D' hold _ H2 => num_spec D' w1 rd 188 2 r0 Z63 H2 (hold _ K0)) ?_
    rw [hsA]
    refine ha_v 4 rfl (ov_conv rfl Z28) rfl <| ?_
    refine ha_two 1 6 Z61 ?_ ?_
    ·skip
     refine ho_v rfl (zw rfl rfl) rfl <| ha_one 6 Z61 <| ho_k rfl Tryz.call89 rfl (fun w1 => zp (blk rd 188 [sA.v, .bool sA.bad]) fun D' hold _ H2 => num_spec D' w1 rd 188 1 sA Z63 H2 (hold _ KA)) ?_
     rw [hsB]
     refine ha_v 7 rfl (ov_conv rfl Z31) rfl <| ?_
     refine ha_one 9 Z61 <| ho_k rfl Tryz.call89 rfl (fun w1 => zp (blk rd 188 [sB.v, .bool sB.bad]) fun D' hold _ H2 => num_spec D' w1 rd 188 1 sB Z63 H2 (hold _ KB)) ?_
     refine ha_v 10 rfl (ov_conv rfl Z31) rfl <| ?_
     refine ha_v 11 rfl (ov_buildSN rfl rfl) rfl <| ?_
     refine ha_one 12 Z61 <| ho_n rfl (on_buildSliceN rfl rfl rfl) rfl fun b79 =>  ?_
     refine ha_one 13 Z61 <| ?_
     rw [← hce]
     refine ho_n rfl (on_appendR (A := B) (news := vlanV (rdV r0).1) rfl rfl (SrcIs.blk (b := b79)) rfl Z44 Z63 Z64) rfl (fun q2 => ?_)
     rw [hl7]
     refine ha_v 14 rfl (ov_fieldA rfl) rfl <| ha_one 15 Z61 <| ho_w0 rfl (on_storeE [.int .i64 c1, .int .i64 c2, .int .i64 c3, .slice A i c, .slice q2.1 (j + 1) q2.2, .slice none 0 0] rfl rfl (by simp) rfl rfl) rfl ?_
     refine ha_done Z61 <| ?_
     refine zb <| zt <| hc_region <| zm rfl <| hl_v (ov_sub (m := (n2 : Int) - ((j + 1 : Nat) : Int)) rfl rfl Z36) rfl ?_
     refine zs rfl <| hl_nil <| ?_
     rw [← hs7]
     refine hx_next hK4 ((j + 1, q2)) (hlt) (hme) Z16 Z10
    skip
    refine ho_k rfl Tryz.call89 rfl (fun w1 => zp (blk rd 188 [sA.v, .bool sA.bad]) fun D' hold _ H2 => num_spec D' w1 rd 188 1 sA Z63 H2 (hold _ KA)) ?_
    rw [hsB]
    refine ha_v 7 rfl (ov_conv rfl Z31) rfl <| ?_
    refine ha_two 1 9 Z61 ?_ ?_
    ·skip
     refine ho_v rfl (zw rfl rfl) rfl <| ha_one 9 Z61 <| ho_k rfl Tryz.call89 rfl (fun w1 => zp (blk rd 188 [sB.v, .bool sB.bad]) fun D' hold _ H2 => num_spec D' w1 rd 188 1 sB Z63 H2 (hold _ KB)) ?_
     refine ha_v 10 rfl (ov_conv rfl Z31) rfl <| ?_
     refine ha_v 11 rfl (ov_buildSN rfl rfl) rfl <| ?_
     refine ha_one 12 Z61 <| ho_n rfl (on_buildSliceN rfl rfl rfl) rfl fun b79 =>  ?_
     refine ha_one 13 Z61 <| ?_
     rw [← hce]
     refine ho_n rfl (on_appendR (A := B) (news := vlanV (rdV r0).1) rfl rfl (SrcIs.blk (b := b79)) rfl Z44 Z63 Z64) rfl (fun q2 => ?_)
     rw [hl7]
     refine ha_v 14 rfl (ov_fieldA rfl) rfl <| ha_one 15 Z61 <| ho_w0 rfl (on_storeE [.int .i64 c1, .int .i64 c2, .int .i64 c3, .slice A i c, .slice q2.1 (j + 1) q2.2, .slice none 0 0] rfl rfl (by simp) rfl rfl) rfl ?_
     refine ha_done Z61 <| ?_
     refine zb <| zt <| hc_region <| zm rfl <| hl_v (ov_sub (m := (n2 : Int) - ((j + 1 : Nat) : Int)) rfl rfl Z36) rfl ?_
     refine zs rfl <| hl_nil <| ?_
     rw [← hs7]
     refine hx_next hK4 ((j + 1, q2)) (hlt) (hme) Z16 Z10
    skip
    refine ho_k rfl Tryz.call89 rfl (fun w1 => zp (blk rd 188 [sB.v, .bool sB.bad]) fun D' hold _ H2 => num_spec D' w1 rd 188 1 sB Z63 H2 (hold _ KB)) ?_
    refine ha_v 10 rfl (ov_conv rfl Z31) rfl <| ?_
    refine ha_v 11 rfl (ov_buildSN rfl rfl) rfl <| ?_
    refine ha_two 1 12 Z61 ?_ ?_
    ·skip
     refine ho_v rfl (zw rfl rfl) rfl <| ha_one 12 Z61 <| ho_n rfl (on_buildSliceN rfl rfl rfl) rfl fun b79 =>  ?_
     refine ha_one 13 Z61 <| ?_
     rw [← hce]
     refine ho_n rfl (on_appendR (A := B) (news := vlanV (rdV r0).1) rfl rfl (SrcIs.blk (b := b79)) rfl Z44 Z63 Z64) rfl (fun q2 => ?_)
     rw [hl7]
     refine ha_v 14 rfl (ov_fieldA rfl) rfl <| ha_one 15 Z61 <| ho_w0 rfl (on_storeE [.int .i64 c1, .int .i64 c2, .int .i64 c3, .slice A i c, .slice q2.1 (j + 1) q2.2, .slice none 0 0] rfl rfl (by simp) rfl rfl) rfl ?_
     refine ha_done Z61 <| ?_
     refine zb <| zt <| hc_region <| zm rfl <| hl_v (ov_sub (m := (n2 : Int) - ((j + 1 : Nat) : Int)) rfl rfl Z36) rfl ?_
     refine zs rfl <| hl_nil <| ?_
     rw [← hs7]
     refine hx_next hK4 ((j + 1, q2)) (hlt) (hme) Z16 Z10
    skip
    refine ho_n rfl (on_buildSliceN rfl rfl rfl) rfl fun b79 =>  ?_
    refine ha_one 1 Z61 <| ho_v rfl (zw rfl rfl) rfl <| ha_one 13 Z61 <| ?_
    rw [← hce]
    refine ho_n rfl (on_appendR (A := B) (news := vlanV (rdV r0).1) rfl rfl (SrcIs.blk (b := b79)) rfl Z44 Z63 Z64) rfl (fun q2 => ?_)
    rw [hl7]
    refine ha_v 14 rfl (ov_fieldA rfl) rfl <| ha_one 15 Z61 <| ho_w0 rfl (on_storeE [.int .i64 c1, .int .i64 c2, .int .i64 c3, .slice A i c, .slice q2.1 (j + 1) q2.2, .slice none 0 0] rfl rfl (by simp) rfl rfl) rfl ?_
    refine ha_done Z61 <| ?_
    refine zb <| zt <| hc_region <| zm rfl <| hl_v (ov_sub (m := (n2 : Int) - ((j + 1 : Nat) : Int)) rfl rfl Z36) rfl ?_
    refine zs rfl <| hl_nil <| ?_
    rw [← hs7]
    refine hx_next hK4 ((j + 1, q2)) (hlt) (hme) Z16 Z10
   have hX : (rdL rdV j s5).2.bad = false → j = n2 := fun h => by rw [h] at p2; cases p2
   refine hc_exit <| ze <| ze <| hx_block_out <| ?_
   exact hx_cut hK3 ((j, B, d)) Z16 (Ent.pureR ⟨hi, hX⟩ Z8)
  have hX : (rdL rdV j s5).2.bad = false → j = n2 := fun _ => by omega
  refine zo rfl rfl <| zo rfl rfl <| zo rfl rfl <| zo rfl rfl <| zo rfl rfl <| zv (ov_pickF rfl rfl) <| zn <| hc_cond_false rfl <| hc_exit <| ze <| ze <| hx_block_out <| ?_
  exact hx_cut hK3 ((j, B, d)) Z16 (Ent.pureR ⟨hi, hX⟩ Z8)
 obtain ⟨j, B, d⟩ := u
 refine HX.pure ?_
 dsimp only
 rintro ⟨hi2, hX2⟩
 have HA7 := old_rdL old_rdV j HA6
 have hVl : (rdL rdV j s5).1.length = j := rdL_len _ _
 have hVo := rdL_mem rdV_ok j s5
 generalize hVL : rdL rdV j s5 = VL at *
 have hn6 : getN VL.2 1 < 256 := getN_lt _ 1
 have HA8 := old_get 1 HA7
 generalize hs6 : getS VL.2 1 = s6 at *
 generalize hns : getN VL.2 1 = n3 at *
 refine zt <| hc_seq <| zg <| zm rfl <| hl_c Tryz.call89 rfl rfl (fun w1 => zp (blk rd 188 [VL.2.v, .bool VL.2.bad]) fun D' hold _ H2 => num_spec D' w1 rd 188 1 VL.2 Z63 H2 (hold _ HA7)) ?_
 rw [hs6, hns]
 refine zv (ov_conv rfl Z28) <| ?_
 refine zs rfl <| zn <| hc_cutK0 (σ := Nat × Option Addr × Nat) [0, 2, 4, 5] rfl  (fun u => [pureP (u.1 ≤ n3 ∧ ((rdL rdS u.1 s6).2.bad = false → u.1 = n3)), row u.2.1 149 3 u.1 u.2.2 ((rdL rdS u.1 s6).1.flatMap statV), blk rd 188 [(rdL rdS u.1 s6).2.v, .bool (rdL rdS u.1 s6).2.bad], row B 147 3 j d (VL.1.flatMap vlanV), row A 83 3 i c (PL.1.flatMap portV), blk cf 49 [.int .i64 c1, .int .i64 c2, .int .i64 c3, .slice A i c, .slice B j d, .slice u.2.1 u.1 u.2.2], blk b2 49 [.int .i64 0, .int .i64 0, .int .i64 0, .slice none 0 0, .slice none 0 0, .slice none 0 0]]) (fun K5 hK5 => ?_) (fun u => ?_)
 ·refine hc_block <| hc_loopK1 (σ := Nat × Option Addr × Nat) [0, 2, 4, 5] rfl 8 (fun u => .int .i64 ((n3 : Int) - (u.1 : Int))) (fun u => [row u.2.1 149 3 u.1 u.2.2 ((rdL rdS u.1 s6).1.flatMap statV), blk rd 188 [(rdL rdS u.1 s6).2.v, .bool (rdL rdS u.1 s6).2.bad], row B 147 3 j d (VL.1.flatMap vlanV), row A 83 3 i c (PL.1.flatMap portV), blk cf 49 [.int .i64 c1, .int .i64 c2, .int .i64 c3, .slice A i c, .slice B j d, .slice u.2.1 u.1 u.2.2], blk b2 49 [.int .i64 0, .int .i64 0, .int .i64 0, .slice none 0 0, .slice none 0 0, .slice none 0 0]]) (fun u => u.1 ≤ n3) (fun u => n3 - u.1) ((0, none, 0)) (Nat.zero_le _) rfl (Ent.nil_row 149 3) ?_
  rintro ⟨k, C, e⟩ hi K6 hK6
  dsimp only at hi ⊢
  have HAi := old_rdL old_rdS k HA8
  refine hc_seq <| zg <| zm rfl <| zv (ov_gtr rfl rfl) <| zm rfl <| hl_part (t := 87) rfl (fun p1 => ?_) (fun p1 => ?_)
  ·refine hl_on rfl rfl <| zm rfl <| hl_on rfl rfl <| zv (ov_nil rfl) <| hl_on rfl rfl <| zf rfl <| hl_on rfl rfl <| zl rfl rfl <| hl_on rfl rfl <| zv Z26 <| ?_
   refine zv (ov_pickT rfl rfl) <| zn <| hc_cond_bool rfl (fun p2 => ?_) (fun p2 => ?_)
   ·have hlt : k < n3 := by omega
    have hme : n3 - (k + 1) < n3 - k := by omega
    have hce := rdS_cells (rdL rdS k s6).2
    have hl7 := snocF statV rdS k s6
    have hs7 : (rdL rdS (k + 1) s6).2 = getS (getS (getS (rdL rdS k s6).2 6) 2) 1 := rfl
    generalize (rdL rdS k s6).2 = r0 at *
    have K0 := HAi
    have KA := old_get 6 K0
    have KB := old_get 2 KA
    have z2 : getN (getS r0 6) 2 < 65536 := getN_lt _ 2
    have z3 : getN (getS (getS r0 6) 2) 1 < 256 := getN_lt _ 1
    generalize hsA : getS r0 6 = sA at *
    generalize hsB : getS sA 2 = sB at *
    refine zk <| hc_seq <| hc_block <| hc_any [] mixed 15 rfl ?_
    refine ha_v 0 rfl (ov_fieldA rfl) rfl <| ha_v 2 rfl (ov_move rfl) rfl <| ha_v 4 rfl (ov_move rfl) rfl <| ha_v 7 rfl (ov_move rfl) rfl <| ha_two 1 3 Z61 ?_ ?_
    ·skip
     refine ho_v rfl (zw rfl rfl) rfl <| ha_one 3 Z61 <| ho_k rfl Tryz.call89 rfl (fun w1 => zp (blk rd 188 [r0.v, .bool r0.bad]) fun D' hold _ H2 => num_spec D' w1 rd 188 6 r0 Z63 H2 (hold _ K0)) ?_
     rw [hsA]
     refine ha_one 5 Z61 <| ho_k rfl Tryz.call89 rfl (fun w1 => zp (blk rd 188 [sA.v, .bool sA.bad]) fun D' hold _ H2 => num_spec D' w1 rd 188 2 sA Z63 H2 (hold _ KA)) ?_
     rw [hsB]
     refine ha_v 6 rfl (ov_conv rfl Z28) rfl <| ?_
     refine ha_one 8 Z61 <| ho_k rfl Tryz.call89 rfl (fun w1 => zp (blk rd 188 [sB.v, .bool sB.bad]) fun D' hold _ H2 => num_spec D' w1 rd 188 1 sB Z63 H2 (hold _ KB)) ?_
     refine ha_v 9 rfl (ov_conv rfl Z28) rfl <| ?_
     refine ha_v 10 rfl (ov_buildSN rfl rfl) rfl <| ?_
     refine ha_one 11 Z61 <| ho_n rfl (on_buildSliceN rfl rfl rfl) rfl fun b107 =>  ?_
     refine ha_one 12 Z61 <| ?_
     rw [← hce]
     refine ho_n rfl (on_appendR (A := C) (news := statV (rdS r0).1) rfl rfl (SrcIs.blk (b := b107)) rfl Z49 Z63 Z64) rfl (fun q2 => ?_)
     rw [hl7]
     refine ha_v 13 rfl (ov_fieldA rfl) rfl <| ha_one 14 Z61 <| ho_w0 rfl (on_storeE [.int .i64 c1, .int .i64 c2, .int .i64 c3, .slice A i c, .slice B j d, .slice q2.1 (k + 1) q2.2] rfl rfl (by simp) rfl rfl) rfl ?_
     refine ha_done Z61 <| ?_
     refine zb <| zt <| hc_region <| zm rfl <| hl_v (ov_sub (m := (n3 : Int) - ((k + 1 : Nat) : Int)) rfl rfl Z36) rfl ?_
     refine zs rfl <| hl_nil <| ?_
     rw [← hs7]
     refine hx_next hK6 ((k + 1, q2)) (hlt) (hme) Z16 Z10
    skip
    refine ho_k rfl Tryz.call89 rfl (fun w1 => zp (blk rd 188 [r0.v, .bool r0.bad]) fun D' hold _ H2 => num_spec D' w1 rd 188 6 r0 Z63 H2 (hold _ K0)) ?_
    rw [hsA]
    refine ha_two 1 5 Z61 ?_ ?_
    ·skip
     refine ho_v rfl (zw rfl rfl) rfl <| ha_one 5 Z61 <| ho_k rfl Tryz.call89 rfl (fun w1 => zp (blk rd 188 [sA.v, .bool sA.bad]) fun D' hold _ H2 => num_spec D' w1 rd 188 2 sA Z63 H2 (hold _ KA)) ?_
     rw [hsB]
     refine ha_v 6 rfl (ov_conv rfl Z28) rfl <| ?_
     refine ha_one 8 Z61 <| ho_k rfl Tryz.call89 rfl (fun w1 => zp (blk rd 188 [sB.v, .bool sB.bad]) fun D' hold _ H2 => num_spec D' w1 rd 188 1 sB Z63 H2 (hold _ KB)) ?_
     refine ha_v 9 rfl (ov_conv rfl Z28) rfl <| ?_
     refine ha_v 10 rfl (ov_buildSN rfl rfl) rfl <| ?_
     refine ha_one 11 Z61 <| ho_n rfl (on_buildSliceN rfl rfl rfl) rfl fun b107 =>  ?_
     refine ha_one 12 Z61 <| ?_
     rw [← hce]
     refine ho_n rfl (on_appendR (A := C) (news := statV (rdS r0).1) rfl rfl (SrcIs.blk (b := b107)) rfl Z49 Z63 Z64) rfl (fun q2 => ?_)
     rw [hl7]
     refine ha_v 13 rfl (ov_fieldA rfl) rfl <| ha_one 14 Z61 <| ho_w0 rfl (on_storeE [.int .i64 c1, .int .i64 c2, .int .i64 c3, .slice A i c, .slice B j d, .slice q2.1 (k + 1) q2.2] rfl rfl (by simp) rfl rfl) rfl ?_
     refine ha_done Z61 <| ?_
     refine zb <| zt <| hc_region <| zm rfl <| hl_v (ov_sub (m := (n3 : Int) - ((k + 1 : Nat) : Int)) rfl rfl Z36) rfl ?_
     refine zs rfl <| hl_nil <| ?_
     rw [← hs7]
     refine hx_next hK6 ((k + 1, q2)) (hlt) (hme) Z16 Z10
    skip
    refine ho_k rfl Tryz.call89 rfl (fun w1 => zp (blk rd 188 [sA.v, .bool sA.bad]) fun D' hold _ H2 => num_spec D' w1 rd 188 2 sA Z63 H2 (hold _ KA)) ?_
    rw [hsB]
    refine ha_v 6 rfl (ov_conv rfl Z28) rfl <| ?_
    refine ha_two 1 8 Z61 ?_ ?_
    ·skip
     refine ho_v rfl (zw rfl rfl) rfl <| ha_one 8 Z61 <| ho_k rfl Tryz.call89 rfl (fun w1 => zp (blk rd 188 [sB.v, .bool sB.bad]) fun D' hold _ H2 => num_spec D' w1 rd 188 1 sB Z63 H2 (hold _ KB)) ?_
     refine ha_v 9 rfl (ov_conv rfl Z28) rfl <| ?_
     refine ha_v 10 rfl (ov_buildSN rfl rfl) rfl <| ?_
     refine ha_one 11 Z61 <| ho_n rfl (on_buildSliceN rfl rfl rfl) rfl fun b107 =>  ?_
     refine ha_one 12 Z61 <| ?_
     rw [← hce]
     refine ho_n rfl (on_appendR (A := C) (news := statV (rdS r0).1) rfl rfl (SrcIs.blk (b := b107)) rfl Z49 Z63 Z64) rfl (fun q2 => ?_)
     rw [hl7]
     refine ha_v 13 rfl (ov_fieldA rfl) rfl <| ha_one 14 Z61 <| ho_w0 rfl (on_storeE [.int .i64 c1, .int .i64 c2, .int .i64 c3, .slice A i c, .slice B j d, .slice q2.1 (k + 1) q2.2] rfl rfl (by simp) rfl rfl) rfl ?_
     refine ha_done Z61 <| ?_
     refine zb <| zt <| hc_region <| zm rfl <| hl_v (ov_sub (m := (n3 : Int) - ((k + 1 : Nat) : Int)) rfl rfl Z36) rfl ?_
     refine zs rfl <| hl_nil <| ?_
     rw [← hs7]
     refine hx_next hK6 ((k + 1, q2)) (hlt) (hme) Z16 Z10
    skip
    refine ho_k rfl Tryz.call89 rfl (fun w1 => zp (blk rd 188 [sB.v, .bool sB.bad]) fun D' hold _ H2 => num_spec D' w1 rd 188 1 sB Z63 H2 (hold _ KB)) ?_
    refine ha_v 9 rfl (ov_conv rfl Z28) rfl <| ?_
    refine ha_v 10 rfl (ov_buildSN rfl rfl) rfl <| ?_
    refine ha_two 1 11 Z61 ?_ ?_
    ·skip
     refine ho_v rfl (zw rfl rfl) rfl <| ha_one 11 Z61 <| ho_n rfl (on_buildSliceN rfl rfl rfl) rfl fun b107 =>  ?_
     refine ha_one 12 Z61 <| ?_
     rw [← hce]
     refine ho_n rfl (on_appendR (A := C) (news := statV (rdS r0).1) rfl rfl (SrcIs.blk (b := b107)) rfl Z49 Z63 Z64) rfl (fun q2 => ?_)
     rw [hl7]
     refine ha_v 13 rfl (ov_fieldA rfl) rfl <| ha_one 14 Z61 <| ho_w0 rfl (on_storeE [.int .i64 c1, .int .i64 c2, .int .i64 c3, .slice A i c, .slice B j d, .slice q2.1 (k + 1) q2.2] rfl rfl (by simp) rfl rfl) rfl ?_
     refine ha_done Z61 <| ?_
     refine zb <| zt <| hc_region <| zm rfl <| hl_v (ov_sub (m := (n3 : Int) - ((k + 1 : Nat) : Int)) rfl rfl Z36) rfl ?_
     refine zs rfl <| hl_nil <| ?_
     rw [← hs7]
     refine hx_next hK6 ((k + 1, q2)) (hlt) (hme) Z16 Z10
    skip
    refine ho_n rfl (on_buildSliceN rfl rfl rfl) rfl fun b107 =>  ?_
    refine ha_one 1 Z61 <| ho_v rfl (zw rfl rfl) rfl <| ha_one 12 Z61 <| ?_
    rw [← hce]
    refine ho_n rfl (on_appendR (A := C) (news := statV (rdS r0).1) rfl rfl (SrcIs.blk (b := b107)) rfl Z49 Z63 Z64) rfl (fun q2 => ?_)
    rw [hl7]
    refine ha_v 13 rfl (ov_fieldA rfl) rfl <| ha_one 14 Z61 <| ho_w0 rfl (on_storeE [.int .i64 c1, .int .i64 c2, .int .i64 c3, .slice A i c, .slice B j d, .slice q2.1 (k + 1) q2.2] rfl rfl (by simp) rfl rfl) rfl ?_
    refine ha_done Z61 <| ?_
    refine zb <| zt <| hc_region <| zm rfl <| hl_v (ov_sub (m := (n3 : Int) - ((k + 1 : Nat) : Int)) rfl rfl Z36) rfl ?_
    refine zs rfl <| hl_nil <| ?_
    rw [← hs7]
    refine hx_next hK6 ((k + 1, q2)) (hlt) (hme) Z16 Z10
   have hX : (rdL rdS k s6).2.bad = false → k = n3 := fun h => by rw [h] at p2; cases p2
   refine hc_exit <| ze <| ze <| hx_block_out <| ?_
   exact hx_cut hK5 ((k, C, e)) Z16 (Ent.pureR ⟨hi, hX⟩ Z8)
  have hX : (rdL rdS k s6).2.bad = false → k = n3 := fun _ => by omega
  refine zo rfl rfl <| zo rfl rfl <| zo rfl rfl <| zo rfl rfl <| zo rfl rfl <| zv (ov_pickF rfl rfl) <| zn <| hc_cond_false rfl <| hc_exit <| ze <| ze <| hx_block_out <| ?_
  exact hx_cut hK5 ((k, C, e)) Z16 (Ent.pureR ⟨hi, hX⟩ Z8)
 obtain ⟨k, C, e⟩ := u
 refine HX.pure ?_
 dsimp only
 rintro ⟨hi3, hX3⟩
 have HA9 := old_rdL old_rdS k HA8
 have hSl : (rdL rdS k s6).1.length = k := rdL_len _ _
 have hSo := rdL_mem rdS_ok k s6
 generalize hSL : rdL rdS k s6 = SL at *
 obtain ⟨e1, e2⟩ := hear i j k s4 s5 s6 PL VL SL n n2 n3 rfl rfl hi1 hPL hX1 hs5 hnv hi2 hVL hX2 hs6 hns hi3 hSL hX3
 clear hear
 obtain ⟨cc, hcc⟩ : ∃ x : ConfC, x = ((c1 : Int), (c2 : Int), (c3 : Int), PL.1, VL.1, SL.1) := ⟨_, rfl⟩
 obtain ⟨q, hq⟩ : ∃ x : Three, x = ((A, c), (B, d), (C, e)) := ⟨_, rfl⟩
 have hokc : OkC cc := by rw [hcc]; exact ⟨hin1, hin2, hin3, hPo, hVo, hSo, (show PL.1.length ≤ 1000 by omega), (show VL.1.length ≤ 1000 by omega), (show SL.1.length ≤ 1000 by omega)⟩
 have hE : Ent [row C 149 3 k e (SL.1.flatMap statV), blk rd 188 [SL.2.v, .bool SL.2.bad], row B 147 3 j d (VL.1.flatMap vlanV), row A 83 3 i c (PL.1.flatMap portV), blk cf 49 [.int .i64 c1, .int .i64 c2, .int .i64 c3, .slice A i c, .slice B j d, .slice C k e], blk b2 49 [.int .i64 0, .int .i64 0, .int .i64 0, .slice none 0 0, .slice none 0 0, .slice none 0 0]] (cfgR cc q ++ [blk cf 49 (cfgA cc q), blk rd 188 [SL.2.v, .bool SL.2.bad], blk b2 49 [.int .i64 0, .int .i64 0, .int .i64 0, .slice none 0 0, .slice none 0 0, .slice none 0 0]]) := by
  rw [hcc, hq]
  dsimp only [cfgR, cfgA]
  rw [hPl, hVl, hSl]
  exact Z8
 refine HX.ent hE ?_
 rw [← hcc] at e1
 clear hE hPl hVl hSl hPo hVo hSo
 refine zt <| zg <| zv Z17 <| ?_
 refine hl_call (σ := ResT (goodP cc) (cfgB cc) (fun e => e = 14)) Tryz.call51 rfl rfl (fun w1 => zu fun D' _ hin _ => RConfig_res D' w1 cc _ _ _ (ConfOld.rows (q := q) hokc hin)) ?_
 intro s9
 try rw [List.nil_append]
 obtain ⟨⟨⟨A9, k9⟩, b9, e9⟩, hs9⟩ := s9
 dsimp only at hs9 ⊢
 refine HL.fact (fun w H => Own.factR A9 H) ?_
 rintro ⟨_, _, _, hA9⟩
 refine zm rfl <| zx rfl rfl <| zx rfl rfl <| zs rfl <| zs rfl <| hl_nil <| zt <| hc_seq <| zg <| zm rfl <| zv (ov_nil rfl) <| zf rfl <| zl rfl rfl <| zm rfl <| ?_
 refine hl_partb (t := 119) rfl (fun d1 => ?_) (fun d1 => ?_)
 ·have hno : ¬ refC xs s := fun h => by have := (hrefC.1 h).1; rw [e2 d1] at this; cases this
  refine zo rfl rfl <| zo rfl rfl <| zv (ov_pickT rfl rfl) <| zm rfl <| zo rfl rfl <| zo rfl rfl <| zo rfl rfl <| zo rfl rfl <| zo rfl rfl <| zv (ov_pickT rfl rfl) <| zn <| hc_cond_true rfl <| zg <| zv (ov_buildSN rfl rfl) <| ?_
  refine hl_u0 (on_storeGN rfl rfl rfl rfl rfl rfl) rfl rfl <| zs rfl <| zn <| zq <| zr <| ?_
  exact results_ct (.inr rfl) rfl rfl (by simp) rfl fun w' H' => ⟨⟨(q0, zeroC, 11), .inl ⟨hno, rfl, rfl⟩⟩, rfl, H'.ent (Ent.trans (Ent.cfgR0 _) Ent.append_l)⟩
 have hRe := e1 d1
 rcases hs9 with ⟨hno9, rfl, hne9, he9⟩ | ⟨hg9, rfl, rfl⟩
 ·have hno : ¬ refC xs s := fun h => hno9 (by have := (hrefC.1 h).2.1; rw [hRe] at this; exact this)
  refine hl_on rfl rfl <| zm rfl <| hl_on rfl rfl <| zv (ov_neq rfl rfl) <| zv (ov_pickF rfl rfl) <| zm rfl <| hl_partT (t := 123) rfl (hne9) <| zo rfl rfl <| zo rfl rfl <| zo rfl rfl <| zo rfl rfl <| zo rfl rfl <| zv (ov_pickT rfl rfl) <| zn <| hc_cond_true rfl <| zg <| zv (ov_buildSN rfl rfl) <| ?_
  refine hl_u0 (on_storeGN rfl rfl rfl rfl rfl rfl) rfl rfl <| zs rfl <| zn <| zq <| zr <| ?_
  exact results_ct (.inr rfl) rfl rfl (by simp) rfl fun w' H' => ⟨⟨(q0, zeroC, 11), .inl ⟨hno, rfl, rfl⟩⟩, rfl, H'.ent (Ent.trans (Ent.cfgR0 _) Ent.append_l)⟩
 refine hl_on rfl rfl <| zm rfl <| hl_on rfl rfl <| zv (ov_neq rfl rfl) <| zv (ov_pickF rfl rfl) <| zm rfl <| hl_partF (t := 123) rfl ((fun h => h rfl)) <| hl_on rfl rfl <| zm rfl <| hl_on rfl rfl <| hl_v (ov_string (xs := cfgB cc) rfl (SrcIs.rowR (A := A9) hA9)) rfl <| hl_on rfl rfl <| zm rfl <| hl_on rfl rfl <| hl_v (ov_string (xs := xs) rfl (SrcIs.old HSx)) rfl <| hl_on rfl rfl <| zv Z22 <| ?_
 refine zv (ov_pickF rfl rfl) <| zn <| hc_cond rfl (fun d3 => ?_) (fun d3 => ?_)
 ·have hno : ¬ refC xs s := fun h => d3 (by have := (hrefC.1 h).2.2; rw [hRe] at this; exact this)
  refine zg <| zv (ov_buildSN rfl rfl) <| ?_
  refine hl_u0 (on_storeGN rfl rfl rfl rfl rfl rfl) rfl rfl <| zs rfl <| zn <| zq <| zr <| ?_
  exact results_ct (.inr rfl) rfl rfl (by simp) rfl fun w' H' => ⟨⟨(q0, zeroC, 11), .inl ⟨hno, rfl, rfl⟩⟩, rfl, H'.ent (Ent.trans (Ent.cfgR0 _) Ent.append_l)⟩
 have hyes : refC xs s := hrefC.2 ⟨by rw [hRe]; exact d1, by rw [hRe]; exact hg9, by rw [hRe]; exact Classical.not_not.1 d3⟩
 refine zk <| zg <| zv Z17 <| ?_
 refine hl_u0 (on_storeGN rfl rfl rfl rfl rfl rfl) rfl rfl <| zs rfl <| zn <| zq <| ?_
 exact results_ct (.inr rfl) rfl rfl (by simp) rfl fun w' H' => ⟨⟨(q, cc, 0), .inr ⟨hyes, by rw [hRe], rfl⟩⟩, rfl, H'.ent Z8⟩
theorem RConfig_g (c : ConfC) (vp vv vs : Value) (hg : goodP c) (H : ConfOld D w c vp vv vs) :
  Calls Tryz.prog 51 #[.agg (cfgV c vp vv vs).toArray] w fun e w' => ∃ q : Option Addr × Nat, e = .returned (.tuple #[.slice q.1 (cfgB c).length q.2, .int .i64 0]) ∧ Own D w w' [row q.1 5 1 (cfgB c).length q.2 ((cfgB c).map u8v)] :=
 (RConfig_res D w c vp vv vs H).mono fun e w' ⟨⟨⟨q, B, er⟩, hR⟩, he, H'⟩ => by
  rcases hR with ⟨h, _⟩ | ⟨_, h2, h3⟩
  ·exact absurd hg h
  ·have he : e = .returned (.tuple #[.slice q.1 B.length q.2, .int .i64 er]) := he
   have H' : Own D w w' [row q.1 5 1 B.length q.2 (B.map u8v)] := H'
   have h2 : B = cfgB c := h2
   have h3 : er = 0 := h3
   rw [h2, h3] at he; rw [h2] at H'
   exact ⟨q, he, H'⟩
theorem REdits_g (v : Value) (l : List EditC) (hl : okEds l) (HA : Old D w (Rep.rep l [v])) :
  Calls Tryz.prog 59 #[v] w fun e w' => ∃ q : Option Addr × Nat, e = .returned (.tuple #[.slice q.1 (edsB l).length q.2, .int .i64 0]) ∧ Own D w w' [row q.1 5 1 (edsB l).length q.2 ((edsB l).map u8v)] :=
 (REdits_spec D w v l (by have := hl.1; omega) HA).mono fun e w' ⟨⟨⟨q, B, er⟩, hR⟩, he, H'⟩ => by
  rcases hR with ⟨h, _⟩ | ⟨_, h2, h3⟩
  ·exact absurd hl h
  ·have he : e = .returned (.tuple #[.slice q.1 B.length q.2, .int .i64 er]) := he
   have H' : Own D w w' [row q.1 5 1 B.length q.2 (B.map u8v)] := H'
   have h2 : B = edsB l := h2
   have h3 : er = 0 := h3
   rw [h2, h3] at he; rw [h2] at H'
   exact ⟨q, he, H'⟩
theorem REdits_b (v : Value) (l : List EditC) (h32 : l.length ≤ 32) (hl : ¬ okEds l) (HA : Old D w (Rep.rep l [v])) :
  Calls Tryz.prog 59 #[v] w fun e w' => ∃ q : Option Addr × Nat, e = .returned (.tuple #[.slice q.1 0 q.2, .int .i64 11]) ∧ Own D w w' [] :=
 (REdits_spec D w v l Z64 HA).mono fun e w' ⟨⟨⟨q, B, er⟩, hR⟩, he, H'⟩ => by
  rcases hR with ⟨_, h2, _, h3⟩ | ⟨h, _⟩
  ·have he : e = .returned (.tuple #[.slice q.1 B.length q.2, .int .i64 er]) := he
   have H' : Own D w w' [row q.1 5 1 B.length q.2 (B.map u8v)] := H'
   have h2 : B = [] := h2
   have h3 : er = if 32 < l.length then 3 else 11 := h3
   rw [if_neg Z64] at h3
   rw [h2, h3] at he; rw [h2] at H'
   exact ⟨q, he, H'.ent (Ent.nil _)⟩
  ·exact absurd h hl
theorem RParse_g (v : Value) (c : ConfC) (hg : goodP c) (HA : Old D w (Rep.rep (cfgB c) [v])) :
  Calls Tryz.prog 53 #[v] w fun e w' => ∃ q : Three, e = .returned (.tuple #[.agg (cfgA c q).toArray, .int .i64 0]) ∧ Own D w w' (cfgR c q) :=
 (RParse_spec D w v (cfgB c) HA).mono fun e w' ⟨⟨⟨q, d, er⟩, hR⟩, he, H'⟩ => by
  obtain ⟨a, b, dd⟩ := rdC_read false c [] ⟨cfgB c, v, false⟩ hg.wok (by rw [List.append_nil]) rfl
  have href : refC (cfgB c) ⟨cfgB c, v, false⟩ := ⟨dd, by rw [a]; exact hg, by rw [a]⟩
  rcases hR with ⟨h, _⟩ | ⟨_, h2, h3⟩
  ·exact absurd href h
  ·have he : e = .returned (.tuple #[.agg (cfgA d q).toArray, .int .i64 er]) := he
   have H' : Own D w w' (cfgR d q) := H'
   have h2 : d = c := h2.trans a
   have h3 : er = 0 := h3
   rw [h2, h3] at he; rw [h2] at H'
   exact ⟨q, he, H'⟩
theorem RList_g (v : Value) (l : List EditC) (hl : okEds l) (HA : Old D w (Rep.rep (edsB l) [v])) :
  Calls Tryz.prog 55 #[v] w fun e w' => ∃ q : Option Addr × Nat, e = .returned (.tuple #[.slice q.1 l.length q.2, .int .i64 0]) ∧ Own D w w' [row q.1 81 7 l.length q.2 (l.flatMap editV)] :=
 (RList_spec D w v (edsB l) HA).mono fun e w' ⟨⟨⟨q, d, er⟩, hR⟩, he, H'⟩ => by
  obtain ⟨h1, a⟩ := list_of (l := l) v hl
  have href : refP (edsB l) ⟨edsB l, v, false⟩ := ⟨h1.1.1, by rw [a]; exact hl, by rw [a]⟩
  rcases hR with ⟨h, _⟩ | ⟨_, h2, h3⟩
  ·exact absurd href h
  ·have he : e = .returned (.tuple #[.slice q.1 d.length q.2, .int .i64 er]) := he
   have H' : Own D w w' [row q.1 81 7 d.length q.2 (d.flatMap editV)] := H'
   have h2 : d = l := h2.trans a
   have h3 : er = 0 := h3
   rw [h2, h3] at he; rw [h2] at H'
   exact ⟨q, he, H'⟩
theorem RLoad_old (g : Nat) (S : List Sec) (ep : Nat) (xs : List UInt8) (hL : loadE S = (ep, xs, 0)) (hS : 32 ≤ S.length) (H : Own D w w [rdsk g S []]) :
  Calls Tryz.prog 50 #[.pointer (some ⟨g, 0, none⟩)] w fun e w' => ∃ q : (Option Addr × Nat) × Int, e = .returned (.agg #[.int .u32 (ep : Int), .slice q.1.1 xs.length q.1.2, .int .i64 q.2, .int .i64 0]) ∧ Own D w w' [rdsk g S [], row q.1.1 5 1 xs.length q.1.2 (xs.map u8v)] :=
 (RLoad_spec D w g S hS H).mono fun e w' ⟨q, he, H'⟩ => by
  unfold loadE at hL
  rcases hn : newS S with _ | y
  ·rw [hn] at hL; cases hL
  ·rw [hn] at hL he H'
   obtain ⟨x, p⟩ := y
   have hL : (x.2.1, x.2.2.2, (0 : Int)) = (ep, xs, 0) := hL
   simp only [Prod.mk.injEq] at hL
   obtain ⟨rfl, rfl, _⟩ := hL
   exact ⟨(q, ((p / 16 : Nat) : Int)), he, H'⟩
theorem RLoad_new (g : Nat) (S : List Sec) (hL : loadE S = (0, [], 13)) (hS : 32 ≤ S.length) (H : Own D w w [rdsk g S []]) :
  Calls Tryz.prog 50 #[.pointer (some ⟨g, 0, none⟩)] w fun e w' => e = .returned (.agg #[.int .u32 0, .slice none 0 0, .int .i64 0, .int .i64 13]) ∧ Own D w w' [rdsk g S []] :=
 (RLoad_spec D w g S hS H).mono fun e w' ⟨q, he, H'⟩ => by
  unfold loadE at hL
  rcases hn : newS S with _ | y
  ·rw [hn] at he H'
   exact ⟨he, H'⟩
  ·rw [hn] at hL
   obtain ⟨x, p⟩ := y
   have hL : (x.2.1, x.2.2.2, (0 : Int)) = (0, [], 13) := hL
   simp only [Prod.mk.injEq] at hL
   exact absurd hL.2.2 Z63
end Go.Proofs.YtjlolpmmpafjeaaGreat
