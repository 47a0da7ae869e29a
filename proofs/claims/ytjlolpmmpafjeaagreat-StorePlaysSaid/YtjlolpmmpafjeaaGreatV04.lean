import Derived.Test.YtjlolpmmpafjeaaGreatV03
set_option linter.unusedVariables false
set_option linter.unusedSimpArgs false
namespace Go.Proofs.YtjlolpmmpafjeaaGreat
open Slk
def beB (n k : Nat) : List UInt8 := (List.range k).map fun i => UInt8.ofNat (n / 2 ^ (8 * (k - 1 - i)))
theorem beB_len (n k : Nat) : (beB n k).length = k := by simp [beB]
theorem beB_take (n k i : Nat) (h : i < k) : (beB n k).take (i + 1) = (beB n k).take i ++ [UInt8.ofNat (n / 2 ^ (8 * (k - 1 - i)))] := by
 have hl : i < (beB n k).length := by rw [beB_len]; exact h
 rw [List.take_succ_eq_append_getElem hl]
 simp [beB]
theorem u8v_ofNat (m : Nat) : u8v (UInt8.ofNat m) = .int .u8 ((m % 256 : Nat) : Int) := by simp [u8v]
theorem wrap8 (m : Nat) : IntKind.u8.wrap (m : Int) = ((m % 256 : Nat) : Int) := by
 show ((m : Int) % 2 ^ 8) = _
 omega
def wrt (g : Nat) (xs : List UInt8) : HProp := exS fun q : Option Addr × Nat => [blk g 203 [.slice q.1 xs.length q.2], row q.1 5 1 xs.length q.2 (xs.map u8v)]
theorem put_spec (D : Nat → Prop) (w : World) (g n k : Nat) (xs : List UInt8) (hn : n < 18446744073709551616) (hk : k ≤ 6) (hx : xs.length ≤ 1000000) (H : Own D w w [wrt g xs]) :
  Calls Tryz.prog 137 #[.pointer (some ⟨g, 0, none⟩), .int .u64 n, .int .i64 k] w fun e w' => e = .returned (.tuple #[]) ∧ Own D w w' [wrt g (xs ++ beB n k)] := by
 obtain ⟨⟨A0, c0⟩, H⟩ := Own.exs H
 refine hc_enter (vs := [.pointer (some ⟨g, 0, none⟩), .int .u64 n, .int .i64 k]) Tryz.func137 rfl _ Tryz.ntmps137 rfl H ?_
 simp only [argSlots, Nat.zero_add]
 refine HC.ent (l' := [blk g 203 [.slice A0 xs.length c0], row A0 5 1 xs.length c0 (xs.map u8v)]) (fun _ h => h) ?_
 refine zg <| zm rfl <| zm rfl <| zn <| hc_block <| hc_loopK1 (σ := Nat × Nat × List Value × Option Addr × Nat) [0, 1, 2, 7] rfl 8 (fun s => .int .i64 (s.1 : Int)) (fun s => [blk g 203 [.slice s.2.2.2.1 s.2.1 s.2.2.2.2], row s.2.2.2.1 5 1 s.2.1 s.2.2.2.2 s.2.2.1]) (fun s => s.1 ≤ k ∧ s.2.1 = xs.length + s.1 ∧ s.2.2.1 = (xs ++ (beB n k).take s.1).map u8v) (fun s => k - s.1) ((0, xs.length, xs.map u8v, A0, c0)) (⟨Nat.zero_le _, rfl, by simp⟩) rfl Z10 ?_
 rintro ⟨i, m, cs, A, c⟩ hj_ K1 hK1
 dsimp only at hj_ ⊢
 obtain ⟨hi, hm, hcs⟩ := hj_
 refine zg <| zv (ov_lss rfl rfl) <| zn <| hc_seq <| hc_cond rfl (fun h => ?_) (fun h => ?_)
 ·have hlt : i < k := by omega
  have hcs' : cs ++ [.int .u8 ((n / 2 ^ (8 * (k - 1 - i)) % 256 : Nat) : Int)] = (xs ++ (beB n k).take (i + 1)).map u8v := by
   rw [hcs, beB_take n k i hlt, ← u8v_ofNat]; simp
  have hm' : m + 1 = xs.length + (i + 1) := by omega
  have hme : k - (i + 1) < k - i := by omega
  refine zk <| hc_seq <| hc_block <| zg <| zm rfl <| zs rfl <| zn <| hc_any [] mixed 18 rfl ?_
  refine ha_v 0 rfl (ov_move rfl) rfl <| ha_v 1 rfl (ov_move rfl) rfl <| ha_v 2 rfl (ov_nil rfl) rfl <| ha_v 3 rfl (ov_fieldA rfl) rfl <| ha_v 5 rfl (ov_move rfl) rfl <| ha_v 6 rfl (ov_move rfl) rfl <| ha_v 7 rfl (ov_sub rfl rfl Z28) rfl <| ?_
  refine ha_v 8 rfl (ov_move rfl) rfl <| ha_v 9 rfl (ov_sub rfl rfl Z28) rfl <| ?_
  refine ha_v 10 rfl (ov_mul rfl rfl Z28) rfl <| ?_
  refine ha_v 11 rfl (ov_shr (m := ((n / 2 ^ (8 * (k - 1 - i)) : Nat) : Int)) rfl rfl Z64 (shrK n (8 * (k - 1 - i)) _ 64 Z64)) rfl ?_
  refine ha_v 12 rfl (ov_conv (m := ((n / 2 ^ (8 * (k - 1 - i)) % 256 : Nat) : Int)) rfl (wrap8 _)) rfl <| ha_two 4 13 Z61 ?_ ?_
  ·skip
   refine ho_v rfl (zw rfl rfl) rfl <| ha_one 13 Z61 <| ho_n rfl (on_buildSliceN rfl rfl rfl) rfl fun b24 =>  ?_
   refine ha_one 14 Z61 <| ho_n rfl (on_appendR (A := A) (news := [.int .u8 ((n / 2 ^ (8 * (k - 1 - i)) % 256 : Nat) : Int)]) rfl rfl (SrcIs.blk (b := b24)) rfl Z49 Z63 Z64) rfl (fun q2 => ?_)
   refine ha_v 15 rfl (ov_nil rfl) rfl <| ha_v 16 rfl (ov_fieldA rfl) rfl <| ha_one 17 Z61 <| ho_w0 rfl (on_storeE [.slice q2.1 (m + 1) q2.2] rfl rfl (by simp) rfl rfl) rfl ?_
   refine ha_done Z61 <| zb <| zt <| hc_region <| zv (ov_add rfl rfl Z28) <| ?_
   refine zm rfl <| hl_nil <| hx_next hK1 ((i + 1, m + 1, cs ++ [.int .u8 ((n / 2 ^ (8 * (k - 1 - i)) % 256 : Nat) : Int)], q2)) (⟨hlt, hm', hcs'⟩) (hme) Z16 Z10
  skip
  refine ho_n rfl (on_buildSliceN rfl rfl rfl) rfl (fun b24 => ?_)
  refine ha_one 4 Z61 <| ho_v rfl (zw rfl rfl) rfl <| ha_one 14 Z61 <| ho_n rfl (on_appendR (A := A) (news := [.int .u8 ((n / 2 ^ (8 * (k - 1 - i)) % 256 : Nat) : Int)]) rfl rfl (SrcIs.blk (b := b24)) rfl Z49 Z63 Z64) rfl (fun q2 => ?_)
  refine ha_v 15 rfl (ov_nil rfl) rfl <| ha_v 16 rfl (ov_fieldA rfl) rfl <| ha_one 17 Z61 <| ho_w0 rfl (on_storeE [.slice q2.1 (m + 1) q2.2] rfl rfl (by simp) rfl rfl) rfl ?_
  refine ha_done Z61 <| zb <| zt <| hc_region <| zv (ov_add rfl rfl Z28) <| ?_
  refine zm rfl <| hl_nil <| hx_next hK1 ((i + 1, m + 1, cs ++ [.int .u8 ((n / 2 ^ (8 * (k - 1 - i)) % 256 : Nat) : Int)], q2)) (⟨hlt, hm', hcs'⟩) (hme) Z16 Z10
 have hik : i = k := by omega
 subst hik
 refine hc_exit <| ze <| ze <| hx_block_out <| ?_
 have hl : (xs ++ beB n i).length = xs.length + i := by rw [List.length_append, beB_len]
 rw [List.take_of_length_le Z34] at hcs
 rw [← hl] at hm
 subst hm; subst hcs
 exact results_0 (.inl rfl) rfl fun w' H' => ⟨rfl, H'.ent (Ent.exS (L := fun q : Option Addr × Nat => [blk g 203 [.slice q.1 (xs ++ beB n i).length q.2], row q.1 5 1 (xs ++ beB n i).length q.2 ((xs ++ beB n i).map u8v)]) (l := []) (A, c))⟩
end Go.Proofs.YtjlolpmmpafjeaaGreat

set_option linter.unusedVariables false
set_option linter.unusedSimpArgs false
namespace Go.Proofs.YtjlolpmmpafjeaaGreat
open Slk
instance : Flat EditC where
 f := editV
 ok x := inI64 x.1 ∧ inI64 x.2.1 ∧ inI64 x.2.2.1 ∧ inI64 x.2.2.2.1
 iff := by
  intro x c h
  constructor
  ·rintro ⟨c1, d1, rfl, k1, c2, d2, rfl, k2, c3, d3, rfl, k3, c4, d4, rfl, k4, c5, d5, rfl, k5, c6, c7, rfl, k6, k7⟩
   obtain ⟨k1, o1⟩ : c1 = [.int .i64 x.1] ∧ inI64 x.1 := k1
   obtain ⟨k2, o2⟩ : c2 = [.int .i64 x.2.1] ∧ inI64 x.2.1 := k2
   obtain ⟨k3, o3⟩ : c3 = [.int .i64 x.2.2.1] ∧ inI64 x.2.2.1 := k3
   obtain ⟨k4, o4⟩ : c4 = [.int .i64 x.2.2.2.1] ∧ inI64 x.2.2.2.1 := k4
   have k5 : c5 = [u8v x.2.2.2.2.1] := k5
   have k6 : c6 = [u8v x.2.2.2.2.2.1] := k6
   have k7 : c7 = [.int .u64 (x.2.2.2.2.2.2.toNat : Int)] := k7
   subst k1; subst k2; subst k3; subst k4; subst k5; subst k6; subst k7
   exact ⟨rfl, o1, o2, o3, o4⟩
  ·rintro ⟨rfl, o1, o2, o3, o4⟩
   exact ⟨[.int .i64 x.1], _, rfl, ⟨rfl, o1⟩, [.int .i64 x.2.1], _, rfl, ⟨rfl, o2⟩, [.int .i64 x.2.2.1], _, rfl, ⟨rfl, o3⟩, [.int .i64 x.2.2.2.1], _, rfl, ⟨rfl, o4⟩, [u8v x.2.2.2.2.1], _, rfl, rfl, [u8v x.2.2.2.2.2.1], [.int .u64 (x.2.2.2.2.2.2.toNat : Int)], rfl, rfl, rfl⟩
def goodE (e : EditC) : Prop := 1 ≤ e.1 ∧ e.1 ≤ 10 ∧ 0 ≤ e.2.1 ∧ e.2.1 < 256 ∧ 0 ≤ e.2.2.1 ∧ e.2.2.1 < 4294967296 ∧ 0 ≤ e.2.2.2.1 ∧ e.2.2.2.1 < 65536 ∧ e.2.2.2.2.2.2.toNat < 281474976710656
set_option maxRecDepth 20000 in
theorem good_spec (D : Nat → Prop) (w : World) (e : EditC) : Calls Tryz.prog 136 #[.agg (editV e).toArray] w fun r w' => ∃ b : BIff (goodE e), r = .returned (.bool b.1) ∧ Own D w w' [] := by
 refine hc_enter (vs := [.agg (editV e).toArray]) Tryz.func136 rfl _ Tryz.ntmps136 rfl (Own.start D w) ?_
 simp only [argSlots, Nat.zero_add]
 refine zg <| hl_new (on_boxN rfl rfl) rfl rfl rfl fun b1 =>  ?_
 refine zs rfl <| zn <| zg <| zf rfl <| ?_
 refine zl rfl rfl <| zv (ov_geq rfl rfl) <| zm rfl <| hl_part (t := 6) rfl (fun h1 => ?_) (fun h1 => ?_)
 ·skip
  refine hl_on rfl rfl <| zf rfl <| hl_on rfl rfl <| zl rfl rfl <| hl_on rfl rfl <| zv (ov_leq rfl rfl) <| zv (ov_pickT rfl rfl) <| zm rfl <| ?_
  refine hl_part (t := 11) rfl (fun h2 => ?_) (fun h2 => ?_)
  ·skip
   refine hl_on rfl rfl <| zf rfl <| hl_on rfl rfl <| zl rfl rfl <| hl_on rfl rfl <| zv (ov_geq rfl rfl) <| zv (ov_pickT rfl rfl) <| zm rfl <| ?_
   refine hl_part (t := 16) rfl (fun h3 => ?_) (fun h3 => ?_)
   ·skip
    refine hl_on rfl rfl <| zf rfl <| hl_on rfl rfl <| zl rfl rfl <| hl_on rfl rfl <| zv (ov_lss rfl rfl) <| zv (ov_pickT rfl rfl) <| zm rfl <| ?_
    refine hl_part (t := 21) rfl (fun h4 => ?_) (fun h4 => ?_)
    ·skip
     refine hl_on rfl rfl <| zf rfl <| hl_on rfl rfl <| zl rfl rfl <| hl_on rfl rfl <| zv (ov_geq rfl rfl) <| zv (ov_pickT rfl rfl) <| zm rfl <| ?_
     refine hl_part (t := 26) rfl (fun h5 => ?_) (fun h5 => ?_)
     ·skip
      refine hl_on rfl rfl <| zf rfl <| hl_on rfl rfl <| zl rfl rfl <| hl_on rfl rfl <| zv (ov_lss rfl rfl) <| zv (ov_pickT rfl rfl) <| zm rfl <| ?_
      refine hl_part (t := 31) rfl (fun h6 => ?_) (fun h6 => ?_)
      ·skip
       refine hl_on rfl rfl <| zf rfl <| hl_on rfl rfl <| zl rfl rfl <| hl_on rfl rfl <| zv (ov_geq rfl rfl) <| zv (ov_pickT rfl rfl) <| zm rfl <| ?_
       refine hl_part (t := 36) rfl (fun h7 => ?_) (fun h7 => ?_)
       ·skip
        refine hl_on rfl rfl <| zf rfl <| hl_on rfl rfl <| zl rfl rfl <| hl_on rfl rfl <| zv (ov_lss rfl rfl) <| zv (ov_pickT rfl rfl) <| zm rfl <| ?_
        refine hl_part (t := 41) rfl (fun h8 => ?_) (fun h8 => ?_)
        ·skip
         refine hl_on rfl rfl <| zf rfl <| hl_on rfl rfl <| zl rfl rfl <| hl_on rfl rfl <| zv (ov_lss rfl rfl) <| ?_
         refine hl_part (t := 44) rfl (fun h9 => ?_) (fun h9 => ?_)
         ·have hyes : goodE e := ⟨h1, h2, h3, Z64, h5, h6, h7, h8, by omega⟩
          refine zv (ov_pickT rfl rfl) <| zs rfl <| zn <| zq <| ?_
          exact zz rfl rfl fun w' H' => ⟨bT hyes, rfl, H'.ent (Ent.nil _)⟩
         have hno : ¬ goodE e := fun h => h9 (by have := h.2.2.2.2.2.2.2.2; omega)
         refine zv (ov_pickT rfl rfl) <| zs rfl <| zn <| zq <| ?_
         exact zz rfl rfl fun w' H' => ⟨bF hno, rfl, H'.ent (Ent.nil _)⟩
        have hno : ¬ goodE e := fun h => h8 (by have := h.2.2.2.2.2.2.2.1; omega)
        refine zo rfl rfl <| zo rfl rfl <| zo rfl rfl <| zv (ov_pickF rfl rfl) <| zs rfl <| hl_nil <| zt <| zq <| ?_
        exact zz rfl rfl fun w' H' => ⟨bF hno, rfl, H'.ent (Ent.nil _)⟩
       have hno : ¬ goodE e := fun h => h7 (by have := h.2.2.2.2.2.2.1; omega)
       refine zo rfl rfl <| zo rfl rfl <| zo rfl rfl <| zv (ov_pickF rfl rfl) <| zm rfl <| zo rfl rfl <| zo rfl rfl <| zo rfl rfl <| zv (ov_pickF rfl rfl) <| zs rfl <| zn <| zq <| ?_
       exact zz rfl rfl fun w' H' => ⟨bF hno, rfl, H'.ent (Ent.nil _)⟩
      have hno : ¬ goodE e := fun h => h6 (by have := h.2.2.2.2.2.1; omega)
      refine zo rfl rfl <| zo rfl rfl <| zo rfl rfl <| zv (ov_pickF rfl rfl) <| zm rfl <| zo rfl rfl <| zo rfl rfl <| zo rfl rfl <| zv (ov_pickF rfl rfl) <| zm rfl <| zo rfl rfl <| zo rfl rfl <| zo rfl rfl <| zv (ov_pickF rfl rfl) <| zs rfl <| zn <| zq <| ?_
      exact zz rfl rfl fun w' H' => ⟨bF hno, rfl, H'.ent (Ent.nil _)⟩
     have hno : ¬ goodE e := fun h => h5 (by have := h.2.2.2.2.1; omega)
     refine zo rfl rfl <| zo rfl rfl <| zo rfl rfl <| zv (ov_pickF rfl rfl) <| zm rfl <| zo rfl rfl <| zo rfl rfl <| zo rfl rfl <| zv (ov_pickF rfl rfl) <| zm rfl <| zo rfl rfl <| zo rfl rfl <| zo rfl rfl <| zv (ov_pickF rfl rfl) <| zm rfl <| zo rfl rfl <| zo rfl rfl <| zo rfl rfl <| zv (ov_pickF rfl rfl) <| zs rfl <| zn <| zq <| ?_
     exact zz rfl rfl fun w' H' => ⟨bF hno, rfl, H'.ent (Ent.nil _)⟩
    have hno : ¬ goodE e := fun h => h4 (by have := h.2.2.2.1; omega)
    refine zo rfl rfl <| zo rfl rfl <| zo rfl rfl <| zv (ov_pickF rfl rfl) <| zm rfl <| zo rfl rfl <| zo rfl rfl <| zo rfl rfl <| zv (ov_pickF rfl rfl) <| zm rfl <| zo rfl rfl <| zo rfl rfl <| zo rfl rfl <| zv (ov_pickF rfl rfl) <| zm rfl <| zo rfl rfl <| zo rfl rfl <| zo rfl rfl <| zv (ov_pickF rfl rfl) <| zm rfl <| zo rfl rfl <| zo rfl rfl <| zo rfl rfl <| zv (ov_pickF rfl rfl) <| zs rfl <| zn <| zq <| ?_
    exact zz rfl rfl fun w' H' => ⟨bF hno, rfl, H'.ent (Ent.nil _)⟩
   have hno : ¬ goodE e := fun h => h3 (by have := h.2.2.1; omega)
   refine zo rfl rfl <| zo rfl rfl <| zo rfl rfl <| zv (ov_pickF rfl rfl) <| zm rfl <| zo rfl rfl <| zo rfl rfl <| zo rfl rfl <| zv (ov_pickF rfl rfl) <| zm rfl <| zo rfl rfl <| zo rfl rfl <| zo rfl rfl <| zv (ov_pickF rfl rfl) <| zm rfl <| zo rfl rfl <| zo rfl rfl <| zo rfl rfl <| zv (ov_pickF rfl rfl) <| zm rfl <| zo rfl rfl <| zo rfl rfl <| zo rfl rfl <| zv (ov_pickF rfl rfl) <| zm rfl <| zo rfl rfl <| zo rfl rfl <| zo rfl rfl <| zv (ov_pickF rfl rfl) <| zs rfl <| zn <| zq <| ?_
   exact zz rfl rfl fun w' H' => ⟨bF hno, rfl, H'.ent (Ent.nil _)⟩
  have hno : ¬ goodE e := fun h => h2 (by have := h.2.1; omega)
  refine zo rfl rfl <| zo rfl rfl <| zo rfl rfl <| zv (ov_pickF rfl rfl) <| zm rfl <| zo rfl rfl <| zo rfl rfl <| zo rfl rfl <| zv (ov_pickF rfl rfl) <| zm rfl <| zo rfl rfl <| zo rfl rfl <| zo rfl rfl <| zv (ov_pickF rfl rfl) <| zm rfl <| zo rfl rfl <| zo rfl rfl <| zo rfl rfl <| zv (ov_pickF rfl rfl) <| zm rfl <| zo rfl rfl <| zo rfl rfl <| zo rfl rfl <| zv (ov_pickF rfl rfl) <| zm rfl <| zo rfl rfl <| zo rfl rfl <| zo rfl rfl <| zv (ov_pickF rfl rfl) <| zm rfl <| zo rfl rfl <| zo rfl rfl <| zo rfl rfl <| zv (ov_pickF rfl rfl) <| zs rfl <| hl_nil <| zt <| zq <| ?_
  exact zz rfl rfl fun w' H' => ⟨bF hno, rfl, H'.ent (Ent.nil _)⟩
 have hno : ¬ goodE e := fun h => h1 (by have := h.1; omega)
 refine zo rfl rfl <| zo rfl rfl <| zo rfl rfl <| zv (ov_pickF rfl rfl) <| zm rfl <| zo rfl rfl <| zo rfl rfl <| zo rfl rfl <| zv (ov_pickF rfl rfl) <| zm rfl <| zo rfl rfl <| zo rfl rfl <| zo rfl rfl <| zv (ov_pickF rfl rfl) <| zm rfl <| zo rfl rfl <| zo rfl rfl <| zo rfl rfl <| zv (ov_pickF rfl rfl) <| zm rfl <| zo rfl rfl <| zo rfl rfl <| zo rfl rfl <| zv (ov_pickF rfl rfl) <| zm rfl <| zo rfl rfl <| zo rfl rfl <| zo rfl rfl <| zv (ov_pickF rfl rfl) <| zm rfl <| zo rfl rfl <| zo rfl rfl <| zo rfl rfl <| zv (ov_pickF rfl rfl) <| zm rfl <| zo rfl rfl <| ?_
 refine zo rfl rfl <| zo rfl rfl <| zv (ov_pickF rfl rfl) <| zs rfl <| zn <| zq <| ?_
 exact zz rfl rfl fun w' H' => ⟨bF hno, rfl, H'.ent (Ent.nil _)⟩
set_option maxRecDepth 20000 in
theorem form_spec (D : Nat → Prop) (w : World) (e : EditC) : Calls Tryz.prog 101 #[.agg (editV e).toArray] w fun r w' => ∃ b : BIff (goodE e), r = .returned (.bool b.1) ∧ Own D w w' [] := by
 refine hc_enter (vs := [.agg (editV e).toArray]) Tryz.func101 rfl _ Tryz.ntmps101 rfl (Own.start D w) ?_
 simp only [argSlots, Nat.zero_add]
 refine zg <| hl_new (on_boxN rfl rfl) rfl rfl rfl fun b1 =>  ?_
 refine zs rfl <| zn <| zg <| zf rfl <| ?_
 refine zl rfl rfl <| zv (ov_geq rfl rfl) <| zm rfl <| hl_part (t := 6) rfl (fun h1 => ?_) (fun h1 => ?_)
 ·skip
  refine hl_on rfl rfl <| zf rfl <| hl_on rfl rfl <| zl rfl rfl <| hl_on rfl rfl <| zv (ov_leq rfl rfl) <| zv (ov_pickT rfl rfl) <| zm rfl <| ?_
  refine hl_part (t := 11) rfl (fun h2 => ?_) (fun h2 => ?_)
  ·skip
   refine hl_on rfl rfl <| zf rfl <| hl_on rfl rfl <| zl rfl rfl <| hl_on rfl rfl <| zv (ov_geq rfl rfl) <| zv (ov_pickT rfl rfl) <| zm rfl <| ?_
   refine hl_part (t := 16) rfl (fun h3 => ?_) (fun h3 => ?_)
   ·skip
    refine hl_on rfl rfl <| zf rfl <| hl_on rfl rfl <| zl rfl rfl <| hl_on rfl rfl <| zv (ov_leq rfl rfl) <| zv (ov_pickT rfl rfl) <| zm rfl <| ?_
    refine hl_part (t := 21) rfl (fun h4 => ?_) (fun h4 => ?_)
    ·skip
     refine hl_on rfl rfl <| zf rfl <| hl_on rfl rfl <| zl rfl rfl <| hl_on rfl rfl <| zv (ov_geq rfl rfl) <| zv (ov_pickT rfl rfl) <| zm rfl <| ?_
     refine hl_part (t := 26) rfl (fun h5 => ?_) (fun h5 => ?_)
     ·skip
      refine hl_on rfl rfl <| zf rfl <| hl_on rfl rfl <| zl rfl rfl <| hl_on rfl rfl <| zv (ov_lss rfl rfl) <| zv (ov_pickT rfl rfl) <| zm rfl <| ?_
      refine hl_part (t := 31) rfl (fun h6 => ?_) (fun h6 => ?_)
      ·skip
       refine hl_on rfl rfl <| zf rfl <| hl_on rfl rfl <| zl rfl rfl <| hl_on rfl rfl <| zv (ov_geq rfl rfl) <| zv (ov_pickT rfl rfl) <| zm rfl <| ?_
       refine hl_part (t := 36) rfl (fun h7 => ?_) (fun h7 => ?_)
       ·skip
        refine hl_on rfl rfl <| zf rfl <| hl_on rfl rfl <| zl rfl rfl <| hl_on rfl rfl <| zv (ov_lss rfl rfl) <| zv (ov_pickT rfl rfl) <| zm rfl <| ?_
        refine hl_part (t := 41) rfl (fun h8 => ?_) (fun h8 => ?_)
        ·skip
         refine hl_on rfl rfl <| zf rfl <| hl_on rfl rfl <| zl rfl rfl <| hl_on rfl rfl <| zv (ov_lss rfl rfl) <| ?_
         refine hl_part (t := 44) rfl (fun h9 => ?_) (fun h9 => ?_)
         ·have hyes : goodE e := ⟨h1, h2, h3, Z64, h5, h6, h7, h8, by omega⟩
          refine zv (ov_pickT rfl rfl) <| zs rfl <| zn <| zq <| ?_
          exact zz rfl rfl fun w' H' => ⟨bT hyes, rfl, H'.ent (Ent.nil _)⟩
         have hno : ¬ goodE e := fun h => h9 (by have := h.2.2.2.2.2.2.2.2; omega)
         refine zv (ov_pickT rfl rfl) <| zs rfl <| zn <| zq <| ?_
         exact zz rfl rfl fun w' H' => ⟨bF hno, rfl, H'.ent (Ent.nil _)⟩
        have hno : ¬ goodE e := fun h => h8 (by have := h.2.2.2.2.2.2.2.1; omega)
        refine zo rfl rfl <| zo rfl rfl <| zo rfl rfl <| zv (ov_pickF rfl rfl) <| zs rfl <| hl_nil <| zt <| zq <| ?_
        exact zz rfl rfl fun w' H' => ⟨bF hno, rfl, H'.ent (Ent.nil _)⟩
       have hno : ¬ goodE e := fun h => h7 (by have := h.2.2.2.2.2.2.1; omega)
       refine zo rfl rfl <| zo rfl rfl <| zo rfl rfl <| zv (ov_pickF rfl rfl) <| zm rfl <| zo rfl rfl <| zo rfl rfl <| zo rfl rfl <| zv (ov_pickF rfl rfl) <| zs rfl <| zn <| zq <| ?_
       exact zz rfl rfl fun w' H' => ⟨bF hno, rfl, H'.ent (Ent.nil _)⟩
      have hno : ¬ goodE e := fun h => h6 (by have := h.2.2.2.2.2.1; omega)
      refine zo rfl rfl <| zo rfl rfl <| zo rfl rfl <| zv (ov_pickF rfl rfl) <| zm rfl <| zo rfl rfl <| zo rfl rfl <| zo rfl rfl <| zv (ov_pickF rfl rfl) <| zm rfl <| zo rfl rfl <| zo rfl rfl <| zo rfl rfl <| zv (ov_pickF rfl rfl) <| zs rfl <| zn <| zq <| ?_
      exact zz rfl rfl fun w' H' => ⟨bF hno, rfl, H'.ent (Ent.nil _)⟩
     have hno : ¬ goodE e := fun h => h5 (by have := h.2.2.2.2.1; omega)
     refine zo rfl rfl <| zo rfl rfl <| zo rfl rfl <| zv (ov_pickF rfl rfl) <| zm rfl <| zo rfl rfl <| zo rfl rfl <| zo rfl rfl <| zv (ov_pickF rfl rfl) <| zm rfl <| zo rfl rfl <| zo rfl rfl <| zo rfl rfl <| zv (ov_pickF rfl rfl) <| zm rfl <| zo rfl rfl <| zo rfl rfl <| zo rfl rfl <| zv (ov_pickF rfl rfl) <| zs rfl <| zn <| zq <| ?_
     exact zz rfl rfl fun w' H' => ⟨bF hno, rfl, H'.ent (Ent.nil _)⟩
    have hno : ¬ goodE e := fun h => h4 (by have := h.2.2.2.1; omega)
    refine zo rfl rfl <| zo rfl rfl <| zo rfl rfl <| zv (ov_pickF rfl rfl) <| zm rfl <| zo rfl rfl <| zo rfl rfl <| zo rfl rfl <| zv (ov_pickF rfl rfl) <| zm rfl <| zo rfl rfl <| zo rfl rfl <| zo rfl rfl <| zv (ov_pickF rfl rfl) <| zm rfl <| zo rfl rfl <| zo rfl rfl <| zo rfl rfl <| zv (ov_pickF rfl rfl) <| zm rfl <| zo rfl rfl <| zo rfl rfl <| zo rfl rfl <| zv (ov_pickF rfl rfl) <| zs rfl <| zn <| zq <| ?_
    exact zz rfl rfl fun w' H' => ⟨bF hno, rfl, H'.ent (Ent.nil _)⟩
   have hno : ¬ goodE e := fun h => h3 (by have := h.2.2.1; omega)
   refine zo rfl rfl <| zo rfl rfl <| zo rfl rfl <| zv (ov_pickF rfl rfl) <| zm rfl <| zo rfl rfl <| zo rfl rfl <| zo rfl rfl <| zv (ov_pickF rfl rfl) <| zm rfl <| zo rfl rfl <| zo rfl rfl <| zo rfl rfl <| zv (ov_pickF rfl rfl) <| zm rfl <| zo rfl rfl <| zo rfl rfl <| zo rfl rfl <| zv (ov_pickF rfl rfl) <| zm rfl <| zo rfl rfl <| zo rfl rfl <| zo rfl rfl <| zv (ov_pickF rfl rfl) <| zm rfl <| zo rfl rfl <| zo rfl rfl <| zo rfl rfl <| zv (ov_pickF rfl rfl) <| zs rfl <| zn <| zq <| ?_
   exact zz rfl rfl fun w' H' => ⟨bF hno, rfl, H'.ent (Ent.nil _)⟩
  have hno : ¬ goodE e := fun h => h2 (by have := h.2.1; omega)
  refine zo rfl rfl <| zo rfl rfl <| zo rfl rfl <| zv (ov_pickF rfl rfl) <| zm rfl <| zo rfl rfl <| zo rfl rfl <| zo rfl rfl <| zv (ov_pickF rfl rfl) <| zm rfl <| zo rfl rfl <| zo rfl rfl <| zo rfl rfl <| zv (ov_pickF rfl rfl) <| zm rfl <| zo rfl rfl <| zo rfl rfl <| zo rfl rfl <| zv (ov_pickF rfl rfl) <| zm rfl <| zo rfl rfl <| zo rfl rfl <| zo rfl rfl <| zv (ov_pickF rfl rfl) <| zm rfl <| zo rfl rfl <| zo rfl rfl <| zo rfl rfl <| zv (ov_pickF rfl rfl) <| zm rfl <| zo rfl rfl <| zo rfl rfl <| zo rfl rfl <| zv (ov_pickF rfl rfl) <| zs rfl <| hl_nil <| zt <| zq <| ?_
  exact zz rfl rfl fun w' H' => ⟨bF hno, rfl, H'.ent (Ent.nil _)⟩
 have hno : ¬ goodE e := fun h => h1 (by have := h.1; omega)
 refine zo rfl rfl <| zo rfl rfl <| zo rfl rfl <| zv (ov_pickF rfl rfl) <| zm rfl <| zo rfl rfl <| zo rfl rfl <| zo rfl rfl <| zv (ov_pickF rfl rfl) <| zm rfl <| zo rfl rfl <| zo rfl rfl <| zo rfl rfl <| zv (ov_pickF rfl rfl) <| zm rfl <| zo rfl rfl <| zo rfl rfl <| zo rfl rfl <| zv (ov_pickF rfl rfl) <| zm rfl <| zo rfl rfl <| zo rfl rfl <| zo rfl rfl <| zv (ov_pickF rfl rfl) <| zm rfl <| zo rfl rfl <| zo rfl rfl <| zo rfl rfl <| zv (ov_pickF rfl rfl) <| zm rfl <| zo rfl rfl <| zo rfl rfl <| zo rfl rfl <| zv (ov_pickF rfl rfl) <| zm rfl <| zo rfl rfl <| ?_
 refine zo rfl rfl <| zo rfl rfl <| zv (ov_pickF rfl rfl) <| zs rfl <| zn <| zq <| ?_
 exact zz rfl rfl fun w' H' => ⟨bF hno, rfl, H'.ent (Ent.nil _)⟩
theorem bad_spec (D : Nat → Prop) (w : World) (e : EditC) : Calls Tryz.prog 94 #[.agg (editV e).toArray] w fun r w' => ∃ b : BIff (¬ goodE e), r = .returned (.bool b.1) ∧ Own D w w' [] := by
 refine hc_enter (vs := [.agg (editV e).toArray]) Tryz.func94 rfl _ Tryz.ntmps94 rfl (Own.start D w) ?_
 simp only [argSlots, Nat.zero_add]
 refine zg <| hl_new (on_boxN rfl rfl) rfl rfl rfl fun b1 =>  ?_
 refine zs rfl <| zn <| zg <| zv Z17 <| ?_
 refine hl_call (σ := BIff (goodE e)) Tryz.call136 rfl rfl (fun w1 => zu fun D' _ _ _ => good_spec D' w1 e) ?_
 intro r
 try rw [List.nil_append]
 refine zv Z26 <| ?_
 refine zs rfl <| zn <| zq <| ?_
 exact zz rfl rfl fun w' H' => ⟨⟨!r.1, by have := r.2; cases h : r.1 <;> simp_all⟩, rfl, H'.ent (Ent.nil _)⟩
def badE (l : List EditC) (i : Nat) : Prop := ∃ h : i < l.length, ¬ goodE l[i]
theorem IdxE_spec (D : Nat → Prop) (w : World) (v : Value) (l : List EditC) (hl : l.length ≤ 1000000) (HA : Old D w (Rep.rep l [v])) :
  Calls Tryz.prog 135 #[v, .func (.func 94) #[] #[]] w fun e w' => ∃ r : { r : Int // 0 ≤ r ↔ ∃ i, badE l i }, e = .returned (.int .i64 r.1) ∧ Own D w w' [] := by
 obtain ⟨As, caps, rfl, hs1, hs2, HSs, hsok⟩ := HA.openF
 have HSs : OldS D w As (l.flatMap editV) := HSs
 refine hc_enter (vs := [.slice As l.length caps, .func (.func 94) #[] #[]]) Tryz.func135 rfl _ Tryz.ntmps135 rfl (Own.start D w) ?_
 simp only [argSlots, Nat.zero_add]
 refine zg <| zs rfl <| zn <| hc_seq <| zg <| zm rfl <| zv Z25 <| ?_
 refine zm rfl <| zn <| hc_block <| hc_loops1 (σ := Nat) [0, 1, 7] rfl 8 (fun i => .int .i64 (i : Int)) (fun i => i ≤ l.length ∧ ∀ j, j < i → ¬ badE l j) (fun i => l.length - i) (0) (⟨Nat.zero_le _, fun j h => absurd h (Nat.not_lt_zero _)⟩) rfl ?_
 rintro i ⟨hi, hall⟩ K1 hK1
 refine zg <| zv (ov_lss rfl rfl) <| zn <| hc_seq <| hc_cond rfl (fun h => ?_) (fun h => ?_)
 ·have hlt : i < l.length := by omega
  obtain ⟨hA, hc⟩ := OldS.cells_flat (D := D) (w0 := w) (f := editV) (sz := 7) (fun _ => rfl) Z63 HSs hlt []
  have hbi : badE l i ↔ ¬ goodE l[i] := ⟨fun ⟨_, h⟩ => h, fun h => ⟨hlt, h⟩⟩
  generalize l[i] = x at *
  refine zk <| hc_seq <| hc_block <| zg <| zm rfl <| zs rfl <| zn <| zg <| zm rfl <| zm rfl <| zm rfl <| zv (ov_idxS rfl Z62 rfl _ rfl Z64) <| ?_
  refine hl_v (ov_loadG (cs := editV x) rfl rfl hc) rfl <| hl_callv (σ := BIff (¬ goodE x)) rfl (fun _ _ => Tryz.call94 _ _) rfl rfl (fun w1 => zu fun D' _ _ _ => bad_spec D' w1 x) ?_
  intro r
  try rw [List.nil_append]
  refine zn <| hc_cond_bool rfl (fun hb => ?_) (fun hb => ?_)
  ·have hbad := hbi.2 (r.2.1 hb)
   refine zg <| zm rfl <| zs rfl <| zn <| zq <| hx_block_ret <| zr <| zr <| hx_block_ret <| zr <| ?_
   exact zz rfl rfl fun w' H' => ⟨⟨i, ⟨fun _ => ⟨i, hbad⟩, fun _ => by omega⟩⟩, rfl, H'⟩
  have hok : ¬ badE l i := fun h => by have := r.2.2 (hbi.1 h); rw [this] at hb; cases hb
  have hn : ∀ j, j < i + 1 → ¬ badE l j := fun j hj => by
   rcases Nat.lt_or_ge j i with h3 | h3
   ·exact hall j h3
   ·obtain rfl : j = i := by omega
    exact hok
  refine hc_skip <| zb <| zt <| hc_region <| zv (ov_add rfl rfl Z28) <| ?_
  refine zm rfl <| hl_nil <| hx_next hK1 (i + 1) (⟨hlt, hn⟩) Z64 Z16 Z10
 refine hc_exit <| ze <| ze <| hx_block_out <| zt <| hc_seq <| hc_region <| zs rfl <| zn <| zq <| ?_
 exact zz rfl rfl fun w' H' => ⟨⟨-1, ⟨fun h => by omega, fun ⟨j, hj⟩ => absurd hj (hall j (by obtain ⟨hj2, _⟩ := hj; omega))⟩⟩, rfl, H'⟩
theorem HasE_spec (D : Nat → Prop) (w : World) (v : Value) (l : List EditC) (hl : l.length ≤ 1000000) (HA : Old D w (Rep.rep l [v])) :
  Calls Tryz.prog 93 #[v, .func (.func 94) #[] #[]] w fun e w' => ∃ r : BIff (∃ i, badE l i), e = .returned (.bool r.1) ∧ Own D w w' [] := by
 refine hc_enter (vs := [v, .func (.func 94) #[] #[]]) Tryz.func93 rfl _ Tryz.ntmps93 rfl (Own.start D w) ?_
 simp only [argSlots, Nat.zero_add]
 refine zg <| zs rfl <| zn <| hc_seq <| hc_region <| zm rfl <| zm rfl <| hl_call (σ := { r : Int // 0 ≤ r ↔ ∃ i, badE l i }) Tryz.call135 rfl rfl (fun w1 => zu fun D' hold _ _ => IdxE_spec D' w1 v l hl (hold _ HA)) ?_
 intro r
 try rw [List.nil_append]
 refine zv (ov_geq rfl rfl) <| zs rfl <| zn <| zq <| ?_
 exact zz rfl rfl fun w' H' => ⟨⟨decide (0 ≤ r.1), by rw [decide_eq_true_iff]; exact r.2⟩, rfl, H'⟩
def edB (e : EditC) : List UInt8 := beB e.1.toNat 1 ++ beB e.2.1.toNat 1 ++ beB e.2.2.1.toNat 4 ++ beB e.2.2.2.1.toNat 2 ++ beB e.2.2.2.2.1.toNat 1 ++ beB e.2.2.2.2.2.1.toNat 1 ++ beB e.2.2.2.2.2.2.toNat 6
theorem edB_len (e : EditC) : (edB e).length = 16 := by simp [edB, beB_len]
def edsB (l : List EditC) : List UInt8 := beB l.length 1 ++ l.flatMap edB
theorem convN {x : Int} (h0 : 0 ≤ x) (h1 : x < 18446744073709551616) : IntKind.u64.wrap x = ((x.toNat : Nat) : Int) := by
 rw [wrap_u64 Z64, Int.toNat_of_nonneg h0]
theorem edsB_to (xs : List UInt8) (l : List EditC) (k : Nat) (h : k < l.length) : ((((((((xs ++ (l.take k).flatMap edB) ++ beB l[k].1.toNat 1) ++ beB l[k].2.1.toNat 1) ++ beB l[k].2.2.1.toNat 4) ++ beB l[k].2.2.2.1.toNat 2) ++ beB l[k].2.2.2.2.1.toNat 1) ++ beB l[k].2.2.2.2.2.1.toNat 1) ++ beB l[k].2.2.2.2.2.2.toNat 6) = xs ++ (l.take (k + 1)).flatMap edB := by
 rw [List.take_succ_eq_append_getElem h, List.flatMap_append, List.flatMap_singleton, edB]
 simp only [List.append_assoc]
theorem wedits_spec (D : Nat → Prop) (w : World) (g : Nat) (v : Value) (l : List EditC) (hl : l.length ≤ 32) (hg : ∀ i (h : i < l.length), goodE l[i]) (H : Own D w w [wrt g []]) (HA : Old D w (Rep.rep l [v])) :
  Calls Tryz.prog 95 #[.pointer (some ⟨g, 0, none⟩), v] w fun e w' => e = .returned (.tuple #[]) ∧ Own D w w' [wrt g (edsB l)] := by
 obtain ⟨As, caps, rfl, hs1, hs2, HSs, hsok⟩ := HA.openF
 have HSs : OldS D w As (l.flatMap editV) := HSs
 refine hc_enter (vs := [.pointer (some ⟨g, 0, none⟩), .slice As l.length caps]) Tryz.func95 rfl _ Tryz.ntmps95 rfl H ?_
 simp only [argSlots, Nat.zero_add]
 refine zg <| zm rfl <| zv (ov_nil rfl) <| zf rfl <| zm rfl <| ?_
 refine zv Z25 <| ?_
 refine zv (ov_conv rfl Z29) <| ?_
 refine hl_c Tryz.call137 rfl rfl (fun w1 => zp (wrt g []) fun D' _ _ H2 => put_spec D' w1 g l.length 1 [] Z64 Z63 (by simp) H2) ?_
 refine zn <| zg <| zm rfl <| zv Z25 <| ?_
 refine zm rfl <| zn <| hc_block <| hc_loopK1 (σ := Nat) [0, 13, 14] rfl 15 (fun i => .int .i64 (i : Int)) (fun i => [wrt g (beB l.length 1 ++ (l.take i).flatMap edB)]) (fun i => i ≤ l.length) (fun i => l.length - i) (0) (Nat.zero_le _) rfl Z10 ?_
 rintro i hj K1 hK1
 refine zg <| zv (ov_lss rfl rfl) <| zn <| hc_seq <| hc_cond rfl (fun h => ?_) (fun h => ?_)
 ·have hlt : i < l.length := by omega
  obtain ⟨hA, _⟩ := OldS.cells_flat (D := D) (w0 := w) (f := editV) (sz := 7) (fun _ => rfl) Z63 HSs hlt []
  have hc := fun l' => (OldS.cells_flat (D := D) (w0 := w) (f := editV) (sz := 7) (fun _ => rfl) Z63 HSs hlt l').2
  have hgx := hg i hlt
  have heq := edsB_to (beB l.length 1) l i hlt
  generalize l[i] = x at *
  have hu1 := x.2.2.2.2.1.toNat_lt
  have hu2 := x.2.2.2.2.2.1.toNat_lt
  obtain ⟨g1, g2, g3, g4, g5, g6, g7, g8, g9⟩ := hgx
  obtain ⟨B0, hB0⟩ : ∃ B, B = beB l.length 1 ++ (l.take i).flatMap edB := ⟨_, rfl⟩
  have hB0l : B0.length ≤ 600 := by
   rw [hB0, List.length_append, beB_len, flat_len (f := edB) (sz := 16) edB_len, List.length_take]; omega
  rw [← hB0] at heq ⊢
  refine zk <| hc_seq <| hc_block <| zg <| zv (ov_idxS rfl Z62 rfl _ rfl Z64) <| ?_
  refine hl_v (ov_loadG (cs := editV x) rfl rfl (hc _)) rfl <| hl_new (on_alloc) rfl rfl rfl fun b5 =>  ?_
  refine hl_u0 (on_storeW (vs := editV x) rfl rfl (by simp) (by simp) Z44) rfl rfl ?_
  refine zn <| hc_seq <| hc_tail 6 mixed Z61 ?_
  refine ht_v (ov_move rfl) rfl <| ht_v (ov_nil rfl) rfl <| ht_v (ov_fieldA rfl) rfl <| ht_v (ov_fieldA rfl) rfl <| ht_v (zw rfl rfl) rfl <| ?_
  refine ht_v (ov_conv (m := ((x.1.toNat : Nat) : Int)) rfl (convN Z64 Z64)) rfl ?_
  refine ht_nil <| ?_
  refine hl_c Tryz.call137 rfl rfl (fun w1 => zp (wrt g (B0)) fun D' _ _ H2 => put_spec D' w1 g x.1.toNat 1 (B0) Z64 Z63 Z64 H2) ?_
  refine zn <| hc_seq <| hc_tail 6 mixed Z61 ?_
  refine ht_v (ov_move rfl) rfl <| ht_v (ov_nil rfl) rfl <| ht_v (ov_fieldA rfl) rfl <| ht_v (ov_fieldA rfl) rfl <| ht_v (zw rfl rfl) rfl <| ?_
  refine ht_v (ov_conv (m := ((x.2.1.toNat : Nat) : Int)) rfl (convN Z64 Z64)) rfl ?_
  refine ht_nil <| ?_
  refine hl_c Tryz.call137 rfl rfl (fun w1 => zp (wrt g ((B0 ++ beB x.1.toNat 1))) fun D' _ _ H2 => put_spec D' w1 g x.2.1.toNat 1 ((B0 ++ beB x.1.toNat 1)) Z64 Z63 Z23 H2) ?_
  refine zn <| hc_seq <| hc_tail 6 mixed Z61 ?_
  refine ht_v (ov_move rfl) rfl <| ht_v (ov_nil rfl) rfl <| ht_v (ov_fieldA rfl) rfl <| ht_v (ov_fieldA rfl) rfl <| ht_v (zw rfl rfl) rfl <| ?_
  refine ht_v (ov_conv (m := ((x.2.2.1.toNat : Nat) : Int)) rfl (convN Z64 Z64)) rfl ?_
  refine ht_nil <| ?_
  refine hl_c Tryz.call137 rfl rfl (fun w1 => zp (wrt g (((B0 ++ beB x.1.toNat 1) ++ beB x.2.1.toNat 1))) fun D' _ _ H2 => put_spec D' w1 g x.2.2.1.toNat 4 (((B0 ++ beB x.1.toNat 1) ++ beB x.2.1.toNat 1)) Z64 Z63 Z23 H2) ?_
  refine zn <| hc_seq <| hc_tail 6 mixed Z61 ?_
  refine ht_v (ov_move rfl) rfl <| ht_v (ov_nil rfl) rfl <| ht_v (ov_fieldA rfl) rfl <| ht_v (ov_fieldA rfl) rfl <| ht_v (zw rfl rfl) rfl <| ?_
  refine ht_v (ov_conv (m := ((x.2.2.2.1.toNat : Nat) : Int)) rfl (convN Z64 Z64)) rfl ?_
  refine ht_nil <| ?_
  refine hl_c Tryz.call137 rfl rfl (fun w1 => zp (wrt g ((((B0 ++ beB x.1.toNat 1) ++ beB x.2.1.toNat 1) ++ beB x.2.2.1.toNat 4))) fun D' _ _ H2 => put_spec D' w1 g x.2.2.2.1.toNat 2 ((((B0 ++ beB x.1.toNat 1) ++ beB x.2.1.toNat 1) ++ beB x.2.2.1.toNat 4)) Z64 Z63 Z23 H2) ?_
  refine zn <| hc_seq <| hc_tail 6 mixed Z61 ?_
  refine ht_v (ov_move rfl) rfl <| ht_v (ov_nil rfl) rfl <| ht_v (ov_fieldA rfl) rfl <| ht_v (ov_fieldA rfl) rfl <| ht_v (zw rfl rfl) rfl <| ht_v (ov_conv rfl Z29) rfl <| ?_
  refine ht_nil <| ?_
  refine hl_c Tryz.call137 rfl rfl (fun w1 => zp (wrt g (((((B0 ++ beB x.1.toNat 1) ++ beB x.2.1.toNat 1) ++ beB x.2.2.1.toNat 4) ++ beB x.2.2.2.1.toNat 2))) fun D' _ _ H2 => put_spec D' w1 g x.2.2.2.2.1.toNat 1 (((((B0 ++ beB x.1.toNat 1) ++ beB x.2.1.toNat 1) ++ beB x.2.2.1.toNat 4) ++ beB x.2.2.2.1.toNat 2)) Z64 Z63 Z23 H2) ?_
  refine zn <| hc_seq <| hc_tail 6 mixed Z61 ?_
  refine ht_v (ov_move rfl) rfl <| ht_v (ov_nil rfl) rfl <| ht_v (ov_fieldA rfl) rfl <| ht_v (ov_fieldA rfl) rfl <| ht_v (zw rfl rfl) rfl <| ht_v (ov_conv rfl Z29) rfl <| ?_
  refine ht_nil <| ?_
  refine hl_c Tryz.call137 rfl rfl (fun w1 => zp (wrt g ((((((B0 ++ beB x.1.toNat 1) ++ beB x.2.1.toNat 1) ++ beB x.2.2.1.toNat 4) ++ beB x.2.2.2.1.toNat 2) ++ beB x.2.2.2.2.1.toNat 1))) fun D' _ _ H2 => put_spec D' w1 g x.2.2.2.2.2.1.toNat 1 ((((((B0 ++ beB x.1.toNat 1) ++ beB x.2.1.toNat 1) ++ beB x.2.2.1.toNat 4) ++ beB x.2.2.2.1.toNat 2) ++ beB x.2.2.2.2.1.toNat 1)) Z64 Z63 Z23 H2) ?_
  refine zn <| hc_tail 5 mixed Z61 ?_
  refine ht_v (ov_move rfl) rfl <| ht_v (ov_nil rfl) rfl <| ht_v (ov_fieldA rfl) rfl <| ht_v (ov_fieldA rfl) rfl <| ht_v (zw rfl rfl) rfl <| ht_nil <| ?_
  refine hl_c Tryz.call137 rfl rfl (fun w1 => zp (wrt g (((((((B0 ++ beB x.1.toNat 1) ++ beB x.2.1.toNat 1) ++ beB x.2.2.1.toNat 4) ++ beB x.2.2.2.1.toNat 2) ++ beB x.2.2.2.2.1.toNat 1) ++ beB x.2.2.2.2.2.1.toNat 1))) fun D' _ _ H2 => put_spec D' w1 g x.2.2.2.2.2.2.toNat 6 (((((((B0 ++ beB x.1.toNat 1) ++ beB x.2.1.toNat 1) ++ beB x.2.2.1.toNat 4) ++ beB x.2.2.2.1.toNat 2) ++ beB x.2.2.2.2.1.toNat 1) ++ beB x.2.2.2.2.2.1.toNat 1)) Z64 Z63 Z23 H2) ?_
  refine hl_nil <| zb <| zt <| hc_region <| zv (ov_add rfl rfl Z28) <| ?_
  refine zm rfl <| hl_nil <| ?_
  rw [heq]
  refine hx_next hK1 (i + 1) (hlt) Z64 Z16 Z10
 have hie : i = l.length := by omega
 subst hie
 rw [List.take_length]
 refine hc_exit <| ze <| ze <| hx_block_out <| ?_
 exact results_0 (.inl rfl) rfl fun w' H' => ⟨rfl, H'⟩
theorem wrt_new (b : Nat) (l : List HProp) : Ent (blk b 203 [.slice none 0 0] :: l) (wrt b [] :: l) :=
 Ent.trans (b := blk b 203 [.slice none 0 0] :: row none 5 1 0 0 [] :: l) (Ent.cons (Ent.nil_row 5 1)) (Ent.exS (L := fun q : Option Addr × Nat => [blk b 203 [.slice q.1 ([] : List UInt8).length q.2], row q.1 5 1 ([] : List UInt8).length q.2 (([] : List UInt8).map u8v)]) (l := l) (none, 0))
theorem Edits_spec (D : Nat → Prop) (w : World) (v : Value) (l : List EditC) (hl : l.length ≤ 1000000) (HA : Old D w (Rep.rep l [v])) :
  Calls Tryz.prog 57 #[v] w fun e w' => (32 < l.length ∧ e = .returned (.tuple #[.slice none 0 0, .int .i64 3]) ∧ Own D w w' []) ∨ (l.length ≤ 32 ∧ (∃ i, badE l i) ∧ e = .returned (.tuple #[.slice none 0 0, .int .i64 11]) ∧ Own D w w' []) ∨
   (l.length ≤ 32 ∧ (∀ i (h : i < l.length), goodE l[i]) ∧ ∃ q : Option Addr × Nat, e = .returned (.tuple #[.slice q.1 (edsB l).length q.2, .int .i64 0]) ∧ Own D w w' [row q.1 5 1 (edsB l).length q.2 ((edsB l).map u8v)]) := by
 have HA0 := HA
 obtain ⟨As, caps, rfl, hs1, hs2, HSs, hsok⟩ := HA.openF
 refine hc_enter (vs := [.slice As l.length caps]) Tryz.func57 rfl _ Tryz.ntmps57 rfl (Own.start D w) ?_
 simp only [argSlots, Nat.zero_add]
 refine zg <| zs rfl <| zs rfl <| zn <| hc_seq <| hc_block <| zg <| zm rfl <| zv Z25 <| ?_
 refine zv (ov_gtr rfl rfl) <| zs rfl <| zn <| hc_cond rfl (fun h => ?_) (fun h => ?_)
 ·refine zg <| zs rfl <| zs rfl <| zn <| zq <| hx_block_ret <| zr <| ?_
  exact results_2 (.inr rfl) rfl rfl rfl fun w' H' => .inl ⟨by omega, rfl, H'⟩
 refine zg <| zm rfl <| hl_call (σ := BIff (∃ i, badE l i)) Tryz.call93 rfl rfl (fun w1 => zu fun D' hold _ _ => HasE_spec D' w1 _ l hl (hold _ HA0)) ?_
 intro r
 try rw [List.nil_append]
 refine zs rfl <| zn <| hc_cond_bool rfl (fun hb => ?_) (fun hb => ?_)
 ·have hbad := r.2.1 hb
  refine zg <| zs rfl <| zs rfl <| zn <| zq <| hx_block_ret <| zr <| ?_
  exact results_2 (.inr rfl) rfl rfl rfl fun w' H' => .inr (.inl ⟨by omega, hbad, rfl, H'⟩)
 have hall : ∀ i (h : i < l.length), goodE l[i] := fun i hi => Classical.byContradiction fun hx => by
  have := r.2.2 ⟨i, hi, hx⟩
  rw [this] at hb; cases hb
 refine hc_skip <| zb <| zt <| zg <| zv (ov_buildSN rfl rfl) <| ?_
 refine hl_new (on_boxN rfl rfl) rfl rfl rfl fun b13 =>  ?_
 refine zs rfl <| zn <| zg <| HL.ent (wrt_new b13 _) ?_
 refine zm rfl <| zm rfl <| hl_c Tryz.call95 rfl rfl (fun w1 => zp (wrt b13 []) fun D' hold _ H2 => wedits_spec D' w1 b13 _ l Z64 hall H2 (hold _ HA0)) ?_
 refine zn <| zg <| HL.exs ?_
 rintro ⟨A, c⟩
 dsimp only [List.cons_append, List.nil_append]
 refine zm rfl <| zv (ov_nil rfl) <| zf rfl <| zf rfl <| zl rfl rfl <| zs rfl <| ?_
 refine zs rfl <| zn <| zq <| ?_
 exact results_2 (.inr rfl) rfl rfl rfl fun w' H' => .inr (.inr ⟨by omega, hall, (A, c), rfl, H'.ent Z8⟩)
end Go.Proofs.YtjlolpmmpafjeaaGreat

set_option linter.unusedVariables false
set_option linter.unusedSimpArgs false
namespace Go.Proofs.YtjlolpmmpafjeaaGreat
open Slk
def portB (p : PortC) : List UInt8 := beB (if p.1 then 1 else 0) 1 ++ beB p.2.1.toNat 4 ++ beB p.2.2.toNat 2
def vlanB (v : VlanC) : List UInt8 := beB v.1.toNat 2 ++ beB v.2.1.toNat 1 ++ beB v.2.2.toNat 1
def statB (s : StatC) : List UInt8 := beB s.1.toNat 6 ++ beB s.2.1.toNat 2 ++ beB s.2.2.toNat 1
theorem portB_len (p : PortC) : (portB p).length = 7 := by simp [portB, beB_len]
theorem vlanB_len (p : VlanC) : (vlanB p).length = 4 := by simp [vlanB, beB_len]
theorem statB_len (p : StatC) : (statB p).length = 9 := by simp [statB, beB_len]
def headB (c : ConfC) : List UInt8 := beB c.1.toNat 2 ++ beB c.2.1.toNat 1 ++ beB c.2.2.1.toNat 1
def cfgB (c : ConfC) : List UInt8 := headB c ++ (beB c.2.2.2.1.length 1 ++ c.2.2.2.1.flatMap portB) ++ (beB c.2.2.2.2.1.length 1 ++ c.2.2.2.2.1.flatMap vlanB) ++ (beB c.2.2.2.2.2.length 1 ++ c.2.2.2.2.2.flatMap statB)
theorem snocB {α : Type} (f : α → List UInt8) (xs : List UInt8) (l : List α) (k : Nat) (h : k < l.length) : (xs ++ (l.take k).flatMap f) ++ f l[k] = xs ++ (l.take (k + 1)).flatMap f := by
 rw [List.take_succ_eq_append_getElem h, List.flatMap_append, List.flatMap_singleton, List.append_assoc]
structure Wok (c : ConfC) : Prop where
 a : 0 ≤ c.1 ∧ c.1 ≤ 61440
 b : 0 ≤ c.2.1 ∧ c.2.1 ≤ 40
 d : 0 ≤ c.2.2.1 ∧ c.2.2.1 ≤ 30
 lp : c.2.2.2.1.length ≤ 8
 lv : c.2.2.2.2.1.length ≤ 16
 ls : c.2.2.2.2.2.length ≤ 16
 p : ∀ i (h : i < c.2.2.2.1.length), 0 ≤ c.2.2.2.1[i].2.2 ∧ c.2.2.2.1[i].2.2 ≤ 4094
 v : ∀ i (h : i < c.2.2.2.2.1.length), 0 ≤ c.2.2.2.2.1[i].1 ∧ c.2.2.2.2.1[i].1 ≤ 4094
 s : ∀ i (h : i < c.2.2.2.2.2.length), (0 ≤ c.2.2.2.2.2[i].2.1 ∧ c.2.2.2.2.2[i].2.1 ≤ 4094) ∧ 0 ≤ c.2.2.2.2.2[i].2.2 ∧ c.2.2.2.2.2[i].2.2 < 8 ∧ c.2.2.2.2.2[i].1.toNat < 281474976710656
theorem goodP.wok {c : ConfC} (h : goodP c) : Wok c := by
 obtain ⟨⟨t1, t2, _, t4, t5, t6, t7, _⟩, ⟨v1, v2, v3, v4⟩, ⟨p1, p2, p3⟩, s1, s2, s3⟩ := h
 refine ⟨⟨t1, t2⟩, ⟨by omega, t5⟩, ⟨by omega, t7⟩, p2, v2, s1, fun i hi => ?_, fun i hi => ?_, fun i hi => ?_⟩
 ·obtain ⟨⟨j, hj, e⟩, _⟩ := p3 i hi
  have := v3 j hj
  rw [← e]; exact ⟨by have := this.1; omega, this.2.1⟩
 ·have := v3 i hi
  exact ⟨by have := this.1; omega, this.2.1⟩
 obtain ⟨m1, m2, m3, q1, q2, j, hj, e, _⟩ := s3 i hi
 have := v3 j hj
 refine ⟨by rw [← e]; exact ⟨by have := this.1; omega, this.2.1⟩, q1, by omega, ?_⟩
 rw [Nat.div_eq_zero_iff_lt (Nat.pow_pos Z63)] at m2
 exact m2
theorem wconfig_spec (D : Nat → Prop) (w : World) (g : Nat) (c : ConfC) (vp vv vs : Value) (hok : Wok c) (HC0 : ConfOld D w c vp vv vs) (H : Own D w w [wrt g []]) :
  Calls Tryz.prog 142 #[.pointer (some ⟨g, 0, none⟩), .agg (cfgV c vp vv vs).toArray] w fun e w' => e = .returned (.tuple #[]) ∧ Own D w w' [wrt g (cfgB c)] := by
 obtain ⟨oa, ob', od, olp, olv, ols, op', ov', os'⟩ := hok
 obtain ⟨Ap, capp, hvp, _, _, HSp, _⟩ := HC0.p.openF
 obtain ⟨Av, capv, hvv, _, _, HSv, _⟩ := HC0.v.openF
 obtain ⟨As, caps, hvs, _, _, HSs, _⟩ := HC0.s.openF
 have HSp : OldS D w Ap (c.2.2.2.1.flatMap portV) := HSp
 have HSv : OldS D w Av (c.2.2.2.2.1.flatMap vlanV) := HSv
 have HSs : OldS D w As (c.2.2.2.2.2.flatMap statV) := HSs
 subst hvp; subst hvv; subst hvs
 have hcB : cfgB c = headB c ++ (beB c.2.2.2.1.length 1 ++ c.2.2.2.1.flatMap portB) ++ (beB c.2.2.2.2.1.length 1 ++ c.2.2.2.2.1.flatMap vlanB) ++ (beB c.2.2.2.2.2.length 1 ++ c.2.2.2.2.2.flatMap statB) := rfl
 have hhd : headB c = beB c.1.toNat 2 ++ beB c.2.1.toNat 1 ++ beB c.2.2.1.toNat 1 := rfl
 rw [hcB]
 generalize c.2.2.2.1 = lp at *
 generalize c.2.2.2.2.1 = lv at *
 generalize c.2.2.2.2.2 = ls at *
 refine hc_enter (vs := [.pointer (some ⟨g, 0, none⟩), .agg #[.int .i64 c.1, .int .i64 c.2.1, .int .i64 c.2.2.1, .slice Ap lp.length capp, .slice Av lv.length capv, .slice As ls.length caps]]) Tryz.func142 rfl _ Tryz.ntmps142 rfl H ?_
 simp only [argSlots, Nat.zero_add]
 refine zg <| hl_new (on_boxN rfl rfl) rfl rfl rfl fun b3 =>  ?_
 refine zn <| hc_seq <| hc_tail 6 mixed Z61 ?_
 refine ht_v (ov_move rfl) rfl <| ht_v (ov_nil rfl) rfl <| ht_v (ov_fieldA rfl) rfl <| ht_v (ov_fieldA rfl) rfl <| ht_v (zw rfl rfl) rfl <| ?_
 refine ht_v (ov_conv (m := ((c.1.toNat : Nat) : Int)) rfl (convN Z64 Z64)) rfl ?_
 refine ht_nil <| ?_
 refine hl_c Tryz.call137 rfl rfl (fun w1 => zp (wrt g ([])) fun D' _ _ H2 => put_spec D' w1 g (c.1.toNat) 2 ([]) Z64 Z63 (by simp) H2) ?_
 refine zn <| hc_seq <| hc_tail 6 mixed Z61 ?_
 refine ht_v (ov_move rfl) rfl <| ht_v (ov_nil rfl) rfl <| ht_v (ov_fieldA rfl) rfl <| ht_v (ov_fieldA rfl) rfl <| ht_v (zw rfl rfl) rfl <| ?_
 refine ht_v (ov_conv (m := ((c.2.1.toNat : Nat) : Int)) rfl (convN Z64 Z64)) rfl ?_
 refine ht_nil <| ?_
 refine hl_c Tryz.call137 rfl rfl (fun w1 => zp (wrt g (([] ++ beB (c.1.toNat) 2))) fun D' _ _ H2 => put_spec D' w1 g (c.2.1.toNat) 1 (([] ++ beB (c.1.toNat) 2)) Z64 Z63 Z19 H2) ?_
 refine zn <| hc_seq <| hc_tail 6 mixed Z61 ?_
 refine ht_v (ov_move rfl) rfl <| ht_v (ov_nil rfl) rfl <| ht_v (ov_fieldA rfl) rfl <| ht_v (ov_fieldA rfl) rfl <| ht_v (zw rfl rfl) rfl <| ?_
 refine ht_v (ov_conv (m := ((c.2.2.1.toNat : Nat) : Int)) rfl (convN Z64 Z64)) rfl ?_
 refine ht_nil <| ?_
 refine hl_c Tryz.call137 rfl rfl (fun w1 => zp (wrt g ((([] ++ beB (c.1.toNat) 2) ++ beB (c.2.1.toNat) 1))) fun D' _ _ H2 => put_spec D' w1 g (c.2.2.1.toNat) 1 ((([] ++ beB (c.1.toNat) 2) ++ beB (c.2.1.toNat) 1)) Z64 Z63 Z19 H2) ?_
 refine zn <| hc_seq <| ?_
 rw [List.nil_append, ← hhd]
 have hhl : (headB c).length = 4 := by rw [hhd]; simp [beB_len]
 refine hc_tail 7 mixed Z61 ?_
 refine ht_v (ov_move rfl) rfl <| ht_v (ov_nil rfl) rfl <| ht_v (ov_fieldA rfl) rfl <| ht_v (ov_fieldA rfl) rfl <| ht_v (zw rfl rfl) rfl <| ht_v Z25 rfl <| ?_
 refine ht_v (ov_conv rfl Z29) rfl <| ?_
 refine ht_nil <| ?_
 refine hl_c Tryz.call137 rfl rfl (fun w1 => zp (wrt g (headB c)) fun D' _ _ H2 => put_spec D' w1 g (lp.length) 1 (headB c) Z64 Z63 Z64 H2) ?_
 refine zn <| hc_seq <| zg <| zf rfl <| ?_
 refine zl rfl rfl <| zv Z25 <| ?_
 refine zm rfl <| zn <| hc_block <| ?_
 obtain ⟨P1, hP1⟩ : ∃ B, B = headB c ++ beB lp.length 1 := ⟨_, rfl⟩
 rw [← hP1]
 have hP1l : P1.length = 5 := by rw [hP1, List.length_append, beB_len, hhl]
 refine hc_loopK1 (σ := Nat) [0, 3, 41, 42] rfl 43 (fun i => .int .i64 (i : Int)) (fun i => [wrt g (P1 ++ (lp.take i).flatMap portB), blk b3 49 [.int .i64 c.1, .int .i64 c.2.1, .int .i64 c.2.2.1, .slice Ap lp.length capp, .slice Av lv.length capv, .slice As ls.length caps]]) (fun i => i ≤ lp.length) (fun i => lp.length - i) (0) (Nat.zero_le _) rfl Z15 ?_
 rintro i hj K1 hK1
 refine zg <| zv (ov_lss rfl rfl) <| zn <| hc_seq <| hc_cond rfl (fun h => ?_) (fun h => ?_)
 ·have hlt : i < lp.length := by omega
  obtain ⟨hA, _⟩ := OldS.cells_flat (D := D) (w0 := w) (f := portV) (sz := 3) (fun _ => rfl) Z63 HSp hlt []
  have hc := fun l' => (OldS.cells_flat (D := D) (w0 := w) (f := portV) (sz := 3) (fun _ => rfl) Z63 HSp hlt l').2
  have hx := op' i hlt
  have hsn := snocB portB P1 lp i hlt
  obtain ⟨B0, hB0⟩ : ∃ B, B = P1 ++ (lp.take i).flatMap portB := ⟨_, rfl⟩
  have hB0l : B0.length ≤ 600 := by rw [hB0, List.length_append, flat_len (f := portB) (sz := 7) portB_len, List.length_take]; omega
  rw [← hB0] at hsn ⊢
  generalize lp[i] = x at *
  have hsn' : ((B0 ++ beB (if x.1 then 1 else 0) 1) ++ beB x.2.1.toNat 4) ++ beB x.2.2.toNat 2 = P1 ++ (lp.take (i + 1)).flatMap portB := by rw [← hsn]; simp only [portB, List.append_assoc]
  refine zk <| hc_seq <| hc_block <| zg <| zv (ov_idxS rfl Z62 rfl _ rfl Z64) <| ?_
  refine hl_v (ov_loadG (cs := portV x) rfl rfl (hc _)) rfl <| hl_new (on_alloc) rfl rfl rfl fun b5 =>  ?_
  refine hl_u0 (on_storeW (vs := portV x) rfl rfl (by simp) (by simp) Z44) rfl rfl ?_
  refine zn <| zg <| zs rfl <| hl_nil <| zt <| hc_seq <| zg <| zf rfl <| zl rfl rfl <| ?_
  refine zn <| ?_
  have hco := x.2.1.toNat_lt
  refine hc_cond_bool rfl (fun hb => ?_) (fun hb => ?_)
  ·rw [if_pos hb] at hsn'
   refine hc_region <| zs rfl <| zn <| zg <| zm rfl <| zv (ov_nil rfl) <| zf rfl <| zm rfl <| ?_
   refine hl_c Tryz.call137 rfl rfl (fun w1 => zp (wrt g B0) fun D' _ _ H2 => put_spec D' w1 g 1 1 B0 Z63 Z63 Z64 H2) ?_
   refine zn <| hc_seq <| hc_tail 6 mixed Z61 ?_
   refine ht_v (ov_move rfl) rfl <| ht_v (ov_nil rfl) rfl <| ht_v (ov_fieldA rfl) rfl <| ht_v (ov_fieldA rfl) rfl <| ht_v (zw rfl rfl) rfl <| ht_v (ov_conv rfl Z29) rfl <| ?_
   refine ht_nil <| ?_
   refine hl_c Tryz.call137 rfl rfl (fun w1 => zp (wrt g ((B0 ++ beB 1 1))) fun D' _ _ H2 => put_spec D' w1 g (x.2.1.toNat) 4 ((B0 ++ beB 1 1)) Z64 Z63 Z19 H2) ?_
   refine zn <| hc_tail 6 mixed Z61 ?_
   refine ht_v (ov_move rfl) rfl <| ht_v (ov_nil rfl) rfl <| ht_v (ov_fieldA rfl) rfl <| ht_v (ov_fieldA rfl) rfl <| ht_v (zw rfl rfl) rfl <| ?_
   refine ht_v (ov_conv (m := ((x.2.2.toNat : Nat) : Int)) rfl (convN Z64 Z64)) rfl ?_
   refine ht_nil <| ?_
   refine hl_c Tryz.call137 rfl rfl (fun w1 => zp (wrt g (((B0 ++ beB 1 1) ++ beB (x.2.1.toNat) 4))) fun D' _ _ H2 => put_spec D' w1 g (x.2.2.toNat) 2 (((B0 ++ beB 1 1) ++ beB (x.2.1.toNat) 4)) Z64 Z63 Z19 H2) ?_
   refine hl_nil <| zb <| zt <| hc_region <| zv (ov_add rfl rfl Z28) <| ?_
   refine zm rfl <| hl_nil <| ?_
   rw [hsn']
   refine hx_next hK1 (i + 1) (hlt) Z64 Z16 Z10
  rw [if_neg (by rw [hb]; decide)] at hsn'
  refine zk <| zg <| zm rfl <| zv (ov_nil rfl) <| zf rfl <| zm rfl <| ?_
  refine hl_c Tryz.call137 rfl rfl (fun w1 => zp (wrt g B0) fun D' _ _ H2 => put_spec D' w1 g 0 1 B0 Z63 Z63 Z64 H2) ?_
  refine zn <| hc_seq <| hc_tail 6 mixed Z61 ?_
  refine ht_v (ov_move rfl) rfl <| ht_v (ov_nil rfl) rfl <| ht_v (ov_fieldA rfl) rfl <| ht_v (ov_fieldA rfl) rfl <| ht_v (zw rfl rfl) rfl <| ht_v (ov_conv rfl Z29) rfl <| ?_
  refine ht_nil <| ?_
  refine hl_c Tryz.call137 rfl rfl (fun w1 => zp (wrt g ((B0 ++ beB 0 1))) fun D' _ _ H2 => put_spec D' w1 g (x.2.1.toNat) 4 ((B0 ++ beB 0 1)) Z64 Z63 Z19 H2) ?_
  refine zn <| hc_tail 6 mixed Z61 ?_
  refine ht_v (ov_move rfl) rfl <| ht_v (ov_nil rfl) rfl <| ht_v (ov_fieldA rfl) rfl <| ht_v (ov_fieldA rfl) rfl <| ht_v (zw rfl rfl) rfl <| ?_
  refine ht_v (ov_conv (m := ((x.2.2.toNat : Nat) : Int)) rfl (convN Z64 Z64)) rfl ?_
  refine ht_nil <| ?_
  refine hl_c Tryz.call137 rfl rfl (fun w1 => zp (wrt g (((B0 ++ beB 0 1) ++ beB (x.2.1.toNat) 4))) fun D' _ _ H2 => put_spec D' w1 g (x.2.2.toNat) 2 (((B0 ++ beB 0 1) ++ beB (x.2.1.toNat) 4)) Z64 Z63 Z19 H2) ?_
  refine hl_nil <| zb <| zt <| hc_region <| zv (ov_add rfl rfl Z28) <| ?_
  refine zm rfl <| hl_nil <| ?_
  rw [hsn']
  refine hx_next hK1 (i + 1) (hlt) Z64 Z16 Z10
 have hie : i = lp.length := by omega
 subst hie
 rw [List.take_length]
 obtain ⟨Q1, hQ1⟩ : ∃ B, B = P1 ++ lp.flatMap portB := ⟨_, rfl⟩
 have hQ1l : Q1.length = P1.length + lp.length * 7 := by rw [hQ1, List.length_append, flat_len (f := portB) (sz := 7) portB_len]
 rw [← hQ1]
 refine hc_exit <| ze <| ze <| hx_block_out <| zt <| hc_seq <| hc_tail 7 mixed Z61 ?_
 refine ht_v (ov_move rfl) rfl <| ht_v (ov_nil rfl) rfl <| ht_v (ov_fieldA rfl) rfl <| ht_v (ov_fieldA rfl) rfl <| ht_v (zw rfl rfl) rfl <| ht_v Z25 rfl <| ?_
 refine ht_v (ov_conv rfl Z29) rfl <| ?_
 refine ht_nil <| ?_
 refine hl_c Tryz.call137 rfl rfl (fun w1 => zp (wrt g (Q1)) fun D' _ _ H2 => put_spec D' w1 g (lv.length) 1 (Q1) Z64 Z63 Z64 H2) ?_
 refine zn <| hc_seq <| zg <| zf rfl <| ?_
 refine zl rfl rfl <| zv Z25 <| ?_
 refine zm rfl <| zn <| hc_block <| ?_
 obtain ⟨P2, hP2⟩ : ∃ B, B = Q1 ++ beB lv.length 1 := ⟨_, rfl⟩
 rw [← hP2]
 have hP2l : P2.length ≤ 70 := by rw [hP2, List.length_append, beB_len]; omega
 refine hc_loopK1 (σ := Nat) [0, 3, 78, 79] rfl 80 (fun i => .int .i64 (i : Int)) (fun i => [wrt g (P2 ++ (lv.take i).flatMap vlanB), blk b3 49 [.int .i64 c.1, .int .i64 c.2.1, .int .i64 c.2.2.1, .slice Ap lp.length capp, .slice Av lv.length capv, .slice As ls.length caps]]) (fun i => i ≤ lv.length) (fun i => lv.length - i) (0) (Nat.zero_le _) rfl Z15 ?_
 rintro i hj K2 hK2
 refine zg <| zv (ov_lss rfl rfl) <| zn <| hc_seq <| hc_cond rfl (fun h => ?_) (fun h => ?_)
 ·have hlt : i < lv.length := by omega
  obtain ⟨hA, _⟩ := OldS.cells_flat (D := D) (w0 := w) (f := vlanV) (sz := 3) (fun _ => rfl) Z63 HSv hlt []
  have hc := fun l' => (OldS.cells_flat (D := D) (w0 := w) (f := vlanV) (sz := 3) (fun _ => rfl) Z63 HSv hlt l').2
  have hx := ov' i hlt
  have hsn := snocB vlanB P2 lv i hlt
  obtain ⟨B0, hB0⟩ : ∃ B, B = P2 ++ (lv.take i).flatMap vlanB := ⟨_, rfl⟩
  have hB0l : B0.length ≤ 600 := by rw [hB0, List.length_append, flat_len (f := vlanB) (sz := 4) vlanB_len, List.length_take]; omega
  rw [← hB0] at hsn ⊢
  generalize lv[i] = x at *
  have hsn' : ((B0 ++ beB x.1.toNat 2) ++ beB x.2.1.toNat 1) ++ beB x.2.2.toNat 1 = P2 ++ (lv.take (i + 1)).flatMap vlanB := by rw [← hsn]; simp only [vlanB, List.append_assoc]
  refine zk <| hc_seq <| hc_block <| zg <| zv (ov_idxS rfl Z62 rfl _ rfl Z64) <| ?_
  refine hl_v (ov_loadG (cs := vlanV x) rfl rfl (hc _)) rfl <| hl_new (on_alloc) rfl rfl rfl fun b8 =>  ?_
  refine hl_u0 (on_storeW (vs := vlanV x) rfl rfl (by simp) (by simp) Z44) rfl rfl ?_
  refine zn <| hc_seq <| ?_
  have hu1 := x.2.1.toNat_lt
  have hu2 := x.2.2.toNat_lt
  refine hc_tail 6 mixed Z61 ?_
  refine ht_v (ov_move rfl) rfl <| ht_v (ov_nil rfl) rfl <| ht_v (ov_fieldA rfl) rfl <| ht_v (ov_fieldA rfl) rfl <| ht_v (zw rfl rfl) rfl <| ?_
  refine ht_v (ov_conv (m := ((x.1.toNat : Nat) : Int)) rfl (convN Z64 Z64)) rfl ?_
  refine ht_nil <| ?_
  refine hl_c Tryz.call137 rfl rfl (fun w1 => zp (wrt g (B0)) fun D' _ _ H2 => put_spec D' w1 g (x.1.toNat) 2 (B0) Z64 Z63 Z64 H2) ?_
  refine zn <| hc_seq <| hc_tail 6 mixed Z61 ?_
  refine ht_v (ov_move rfl) rfl <| ht_v (ov_nil rfl) rfl <| ht_v (ov_fieldA rfl) rfl <| ht_v (ov_fieldA rfl) rfl <| ht_v (zw rfl rfl) rfl <| ht_v (ov_conv rfl Z29) rfl <| ?_
  refine ht_nil <| ?_
  refine hl_c Tryz.call137 rfl rfl (fun w1 => zp (wrt g ((B0 ++ beB (x.1.toNat) 2))) fun D' _ _ H2 => put_spec D' w1 g (x.2.1.toNat) 1 ((B0 ++ beB (x.1.toNat) 2)) Z64 Z63 Z19 H2) ?_
  refine zn <| hc_tail 6 mixed Z61 ?_
  refine ht_v (ov_move rfl) rfl <| ht_v (ov_nil rfl) rfl <| ht_v (ov_fieldA rfl) rfl <| ht_v (ov_fieldA rfl) rfl <| ht_v (zw rfl rfl) rfl <| ht_v (ov_conv rfl Z29) rfl <| ?_
  refine ht_nil <| ?_
  refine hl_c Tryz.call137 rfl rfl (fun w1 => zp (wrt g (((B0 ++ beB (x.1.toNat) 2) ++ beB (x.2.1.toNat) 1))) fun D' _ _ H2 => put_spec D' w1 g (x.2.2.toNat) 1 (((B0 ++ beB (x.1.toNat) 2) ++ beB (x.2.1.toNat) 1)) Z64 Z63 Z19 H2) ?_
  refine hl_nil <| zb <| zt <| hc_region <| zv (ov_add rfl rfl Z28) <| ?_
  refine zm rfl <| hl_nil <| ?_
  rw [hsn']
  refine hx_next hK2 (i + 1) (hlt) Z64 Z16 Z10
 have hie : i = lv.length := by omega
 subst hie
 rw [List.take_length]
 obtain ⟨Q2, hQ2⟩ : ∃ B, B = P2 ++ lv.flatMap vlanB := ⟨_, rfl⟩
 have hQ2l : Q2.length = P2.length + lv.length * 4 := by rw [hQ2, List.length_append, flat_len (f := vlanB) (sz := 4) vlanB_len]
 rw [← hQ2]
 refine hc_exit <| ze <| ze <| hx_block_out <| zt <| hc_seq <| hc_tail 7 mixed Z61 ?_
 refine ht_v (ov_move rfl) rfl <| ht_v (ov_nil rfl) rfl <| ht_v (ov_fieldA rfl) rfl <| ht_v (ov_fieldA rfl) rfl <| ht_v (zw rfl rfl) rfl <| ht_v Z25 rfl <| ?_
 refine ht_v (ov_conv rfl Z29) rfl <| ?_
 refine ht_nil <| ?_
 refine hl_c Tryz.call137 rfl rfl (fun w1 => zp (wrt g (Q2)) fun D' _ _ H2 => put_spec D' w1 g (ls.length) 1 (Q2) Z64 Z63 Z64 H2) ?_
 refine zn <| zg <| zf rfl <| zl rfl rfl <| ?_
 refine zv Z25 <| ?_
 refine zm rfl <| zn <| hc_block <| ?_
 obtain ⟨P3, hP3⟩ : ∃ B, B = Q2 ++ beB ls.length 1 := ⟨_, rfl⟩
 rw [← hP3]
 have hP3l : P3.length ≤ 140 := by rw [hP3, List.length_append, beB_len]; omega
 refine hc_loopK1 (σ := Nat) [0, 115, 116] rfl 117 (fun i => .int .i64 (i : Int)) (fun i => [wrt g (P3 ++ (ls.take i).flatMap statB), blk b3 49 [.int .i64 c.1, .int .i64 c.2.1, .int .i64 c.2.2.1, .slice Ap lp.length capp, .slice Av lv.length capv, .slice As ls.length caps]]) (fun i => i ≤ ls.length) (fun i => ls.length - i) (0) (Nat.zero_le _) rfl Z15 ?_
 rintro i hj K3 hK3
 refine zg <| zv (ov_lss rfl rfl) <| zn <| hc_seq <| hc_cond rfl (fun h => ?_) (fun h => ?_)
 ·have hlt : i < ls.length := by omega
  obtain ⟨hA, _⟩ := OldS.cells_flat (D := D) (w0 := w) (f := statV) (sz := 3) (fun _ => rfl) Z63 HSs hlt []
  have hc := fun l' => (OldS.cells_flat (D := D) (w0 := w) (f := statV) (sz := 3) (fun _ => rfl) Z63 HSs hlt l').2
  have hx := os' i hlt
  have hsn := snocB statB P3 ls i hlt
  obtain ⟨B0, hB0⟩ : ∃ B, B = P3 ++ (ls.take i).flatMap statB := ⟨_, rfl⟩
  have hB0l : B0.length ≤ 600 := by rw [hB0, List.length_append, flat_len (f := statB) (sz := 9) statB_len, List.length_take]; omega
  rw [← hB0] at hsn ⊢
  generalize ls[i] = x at *
  have hsn' : ((B0 ++ beB x.1.toNat 6) ++ beB x.2.1.toNat 2) ++ beB x.2.2.toNat 1 = P3 ++ (ls.take (i + 1)).flatMap statB := by rw [← hsn]; simp only [statB, List.append_assoc]
  refine zk <| hc_seq <| hc_block <| zg <| zv (ov_idxS rfl Z62 rfl _ rfl Z64) <| ?_
  refine hl_v (ov_loadG (cs := statV x) rfl rfl (hc _)) rfl <| hl_new (on_alloc) rfl rfl rfl fun b10 =>  ?_
  refine hl_u0 (on_storeW (vs := statV x) rfl rfl (by simp) (by simp) Z49) rfl rfl ?_
  refine zn <| hc_seq <| ?_
  obtain ⟨⟨x1, x2⟩, x3, x4, x5⟩ := hx
  refine hc_tail 5 mixed Z61 ?_
  refine ht_v (ov_move rfl) rfl <| ht_v (ov_nil rfl) rfl <| ht_v (ov_fieldA rfl) rfl <| ht_v (ov_fieldA rfl) rfl <| ht_v (zw rfl rfl) rfl <| ht_nil <| ?_
  refine hl_c Tryz.call137 rfl rfl (fun w1 => zp (wrt g (B0)) fun D' _ _ H2 => put_spec D' w1 g (x.1.toNat) 6 (B0) Z64 Z63 Z64 H2) ?_
  refine zn <| hc_seq <| hc_tail 6 mixed Z61 ?_
  refine ht_v (ov_move rfl) rfl <| ht_v (ov_nil rfl) rfl <| ht_v (ov_fieldA rfl) rfl <| ht_v (ov_fieldA rfl) rfl <| ht_v (zw rfl rfl) rfl <| ?_
  refine ht_v (ov_conv (m := ((x.2.1.toNat : Nat) : Int)) rfl (convN Z64 Z64)) rfl ?_
  refine ht_nil <| ?_
  refine hl_c Tryz.call137 rfl rfl (fun w1 => zp (wrt g ((B0 ++ beB (x.1.toNat) 6))) fun D' _ _ H2 => put_spec D' w1 g (x.2.1.toNat) 2 ((B0 ++ beB (x.1.toNat) 6)) Z64 Z63 Z19 H2) ?_
  refine zn <| hc_tail 6 mixed Z61 ?_
  refine ht_v (ov_move rfl) rfl <| ht_v (ov_nil rfl) rfl <| ht_v (ov_fieldA rfl) rfl <| ht_v (ov_fieldA rfl) rfl <| ht_v (zw rfl rfl) rfl <| ?_
  refine ht_v (ov_conv (m := ((x.2.2.toNat : Nat) : Int)) rfl (convN Z64 Z64)) rfl ?_
  refine ht_nil <| ?_
  refine hl_c Tryz.call137 rfl rfl (fun w1 => zp (wrt g (((B0 ++ beB (x.1.toNat) 6) ++ beB (x.2.1.toNat) 2))) fun D' _ _ H2 => put_spec D' w1 g (x.2.2.toNat) 1 (((B0 ++ beB (x.1.toNat) 6) ++ beB (x.2.1.toNat) 2)) Z64 Z63 Z19 H2) ?_
  refine hl_nil <| zb <| zt <| hc_region <| zv (ov_add rfl rfl Z28) <| ?_
  refine zm rfl <| hl_nil <| ?_
  rw [hsn']
  refine hx_next hK3 (i + 1) (hlt) Z64 Z16 Z10
 have hie : i = ls.length := by omega
 subst hie
 rw [List.take_length]
 obtain ⟨Q3, hQ3⟩ : ∃ B, B = P3 ++ ls.flatMap statB := ⟨_, rfl⟩
 have hQ3l : Q3.length = P3.length + ls.length * 9 := by rw [hQ3, List.length_append, flat_len (f := statB) (sz := 9) statB_len]
 rw [← hQ3]
 refine hc_exit <| ze <| ze <| hx_block_out <| ?_
 have hall : Q3 = headB c ++ (beB lp.length 1 ++ lp.flatMap portB) ++ (beB lv.length 1 ++ lv.flatMap vlanB) ++ (beB ls.length 1 ++ ls.flatMap statB) := by rw [hQ3, hP3, hQ2, hP2, hQ1, hP1]; simp only [List.append_assoc]
 rw [← hall]
 exact results_0 (.inl rfl) rfl fun w' H' => ⟨rfl, H'.ent (Ent.cons (Ent.nil _))⟩
theorem Config_spec (D : Nat → Prop) (w : World) (c : ConfC) (vp vv vs : Value) (H : ConfOld D w c vp vv vs) :
  Calls Tryz.prog 110 #[.agg (cfgV c vp vv vs).toArray] w fun e w' => (¬ goodP c ∧ e = .returned (.tuple #[.slice none 0 0, .int .i64 14]) ∧ Own D w w' []) ∨
   (goodP c ∧ ∃ q : Option Addr × Nat, e = .returned (.tuple #[.slice q.1 (cfgB c).length q.2, .int .i64 0]) ∧ Own D w w' [row q.1 5 1 (cfgB c).length q.2 ((cfgB c).map u8v)]) := by
 refine hc_enter (vs := [.agg (cfgV c vp vv vs).toArray]) Tryz.func110 rfl _ Tryz.ntmps110 rfl (Own.start D w) ?_
 simp only [argSlots, Nat.zero_add]
 refine zg <| hl_new (on_boxN rfl rfl) rfl rfl rfl fun b1 =>  ?_
 refine zs rfl <| zs rfl <| zn <| hc_seq <| hc_seq <| hc_region <| zv Z17 <| ?_
 refine hl_call (σ := BIff (goodP c)) Tryz.call77 rfl rfl (fun w1 => zu fun D' hold _ _ => Good_spec D' w1 c vp vv vs (H.hold hold)) ?_
 intro r
 try rw [List.nil_append]
 refine zv Z26 <| ?_
 refine zn <| hc_cond_bool rfl (fun hb => ?_) (fun hb => ?_)
 ·have hno : ¬ goodP c := fun h => by have := r.2.2 h; rw [this] at hb; cases hb
  refine zg <| zs rfl <| zs rfl <| zn <| zq <| zr <| ?_
  exact results_2 (.inr rfl) rfl rfl rfl fun w' H' => .inl ⟨hno, rfl, H'.ent (Ent.nil _)⟩
 have hg : goodP c := r.2.1 (by simpa using hb)
 refine zk <| zg <| zv (ov_buildSN rfl rfl) <| ?_
 refine hl_new (on_boxN rfl rfl) rfl rfl rfl fun b9 =>  ?_
 refine zs rfl <| zn <| zg <| HL.ent (wrt_new b9 _) ?_
 refine zm rfl <| zv Z17 <| ?_
 refine hl_c Tryz.call142 rfl rfl (fun w1 => zp (wrt b9 []) fun D' hold _ H2 => wconfig_spec D' w1 b9 c vp vv vs hg.wok (H.hold hold) H2) ?_
 refine zn <| zg <| HL.exs ?_
 rintro ⟨A, cc⟩
 dsimp only [List.cons_append, List.nil_append]
 refine zm rfl <| zv (ov_nil rfl) <| zf rfl <| zf rfl <| zl rfl rfl <| zs rfl <| ?_
 refine zs rfl <| zn <| zq <| ?_
 exact results_2 (.inr rfl) rfl rfl rfl fun w' H' => .inr ⟨hg, (A, cc), rfl, H'.ent Z8⟩
end Go.Proofs.YtjlolpmmpafjeaaGreat

set_option linter.unusedVariables false
set_option linter.unusedSimpArgs false
namespace Go.Proofs.YtjlolpmmpafjeaaGreat
open Slk
def firstC (n : Nat) : ConfC := (32768, 20, 15, List.replicate n (true, 20000, 1), [(1, UInt8.ofNat (2 ^ n - 1), 0)], [])
theorem shl_or : ∀ p : Fin 8, IntKind.u8.wrap ((1 : Int) * 2 ^ (min ((p : Nat) : Int).toNat 8)) = ((2 ^ (p : Nat) : Nat) : Int) ∧ IntKind.u8.wrap ((BitVec.ofInt 8 (((2 ^ (p : Nat) - 1 : Nat) : Int)) ||| BitVec.ofInt 8 (((2 ^ (p : Nat) : Nat) : Int))).toNat : Int) = ((2 ^ ((p : Nat) + 1) - 1 : Nat) : Int) := by decide +kernel
theorem First_spec (D : Nat → Prop) (w : World) (n : Nat) (h1 : 1 ≤ n) (h2 : n ≤ 8) :
  Calls Tryz.prog 74 #[.int .i64 n] w fun e w' => ∃ q : (Option Addr × Nat) × Nat, e = .returned (.tuple #[.agg (cfgV (firstC n) (.slice q.1.1 n q.1.2) (.slice (some ⟨q.2, 0, none⟩) 1 1) (.slice none 0 0)).toArray, .int .i64 0]) ∧
   Own D w w' [row q.1.1 83 3 n q.1.2 ((firstC n).2.2.2.1.flatMap portV), row (some ⟨q.2, 0, none⟩) 147 3 1 1 ((firstC n).2.2.2.2.1.flatMap vlanV)] := by
 refine hc_enter (vs := [.int .i64 n]) Tryz.func74 rfl _ Tryz.ntmps74 rfl (Own.start D w) ?_
 simp only [argSlots, Nat.zero_add]
 refine zg <| hl_new (on_alloc) rfl rfl rfl fun b2 =>
  zs rfl <| zn <| ?_
 refine hc_seq <| zg <| zm rfl <| zv (ov_lss rfl rfl) <| zm rfl <| hl_partF (t := 9) rfl Z64 ?_
 refine hl_on rfl rfl <| zm rfl <| hl_on rfl rfl <| zv (ov_gtr rfl rfl) <| zv (ov_pickF rfl rfl) <| zn <| hc_cond_F rfl Z64 ?_
 refine zk <| zg <| zv (ov_buildSN rfl rfl) <| ?_
 refine hl_new (on_alloc) rfl rfl rfl fun b4 => 
  hl_u0 (on_storeGN rfl rfl rfl rfl rfl rfl) rfl rfl <| zn <| zg <| ?_
 refine zv (ov_buildSN rfl rfl) <| ?_
 refine hl_new (on_alloc) rfl rfl rfl fun b5 => 
  hl_u0 (on_storeGN rfl rfl rfl rfl rfl rfl) rfl rfl <| zn <| hc_seq <| hc_seq <| ?_
 refine hc_region <| zm rfl <| zm rfl <| zn <| hc_block <| hc_loopK1 (σ := Nat × Option Addr × Nat) [2, 4, 5, 16] rfl 17 (fun s => .int .i64 (s.1 : Int)) (fun s => [blk b4 49 [.int .i64 32768, .int .i64 20, .int .i64 15, .slice s.2.1 s.1 s.2.2, .slice none 0 0, .slice none 0 0], row s.2.1 83 3 s.1 s.2.2 ((List.replicate s.1 ((true, 20000, 1) : PortC)).flatMap portV), blk b5 147 [.int .i64 1, .int .u8 ((2 ^ s.1 - 1 : Nat) : Int), .int .u8 0], blk b2 49 [.int .i64 0, .int .i64 0, .int .i64 0, .slice none 0 0, .slice none 0 0, .slice none 0 0]]) (fun s => s.1 ≤ n) (fun s => n - s.1) ((0, none, 0)) (Nat.zero_le _) rfl (Ent.trans (b := [blk b4 49 [.int .i64 32768, .int .i64 20, .int .i64 15, .slice none 0 0, .slice none 0 0, .slice none 0 0], row none 83 3 0 0 [], blk b5 147 [.int .i64 1, .int .u8 0, .int .u8 0], blk b2 49 [.int .i64 0, .int .i64 0, .int .i64 0, .slice none 0 0, .slice none 0 0, .slice none 0 0]]) (Ent.trans (Ent.nil_row 83 3) Z8) (Ent.refl _)) ?_
 rintro ⟨p, A, c⟩ hp K1 hK1
 dsimp only at hp ⊢
 refine zg <| zv (ov_lss rfl rfl) <| zn <| hc_seq <| hc_cond rfl (fun h => ?_) (fun h => ?_)
 ·have hlt : p < n := by omega
  obtain ⟨k1, k2⟩ := shl_or ⟨p, by omega⟩
  have hrep : (List.replicate p ((true, 20000, 1) : PortC)).flatMap portV ++ portV (true, 20000, 1) = (List.replicate (p + 1) ((true, 20000, 1) : PortC)).flatMap portV := by
   rw [List.replicate_succ', List.flatMap_append, List.flatMap_singleton]
  refine zk <| hc_seq <| hc_block <| zg <| zm rfl <| zs rfl <| zn <| zg <| zf rfl <| zl rfl rfl <| zv (ov_buildSN rfl rfl) <| ?_
  refine hl_new (on_buildSliceN rfl rfl rfl) rfl rfl rfl fun b23 =>  ?_
  refine hl_new (on_appendR (A := A) (news := portV (true, 20000, 1)) rfl rfl (SrcIs.blk (b := b23)) rfl Z49 Z63 Z64) rfl rfl rfl (fun q2 => ?_)
  rw [hrep]
  refine zf rfl <| ?_
  refine hl_u0 (on_storeE [.int .i64 32768, .int .i64 20, .int .i64 15, .slice q2.1 (p + 1) q2.2, .slice none 0 0, .slice none 0 0] rfl rfl (by simp) rfl rfl) rfl rfl ?_
  refine zn <| hc_tail 6 mixed Z61 ?_
  refine ht_v (ov_fieldA rfl) rfl <| ht_v (zw rfl rfl) rfl <| ht_v (ov_move rfl) rfl <| ?_
  refine ht_v (ov_shl (m := ((2 ^ p : Nat) : Int)) rfl rfl Z64 k1) rfl ?_
  refine ht_v (ov_or (m := ((2 ^ (p + 1) - 1 : Nat) : Int)) rfl rfl k2) rfl ?_
  refine ht_v (ov_fieldA rfl) rfl <| ht_nil <| ?_
  refine hl_u0 (on_storeE [.int .i64 1, .int .u8 ((2 ^ (p + 1) - 1 : Nat) : Int), .int .u8 0] rfl rfl (by simp) rfl rfl) rfl rfl ?_
  refine hl_nil <| zb <| zt <| hc_region <| zv (ov_add rfl rfl Z28) <| ?_
  refine zm rfl <| hl_nil <| hx_next hK1 ((p + 1, q2)) (hlt) (by show n - (p + 1) < n - p; omega) Z16 Z10
 have hpn : p = n := by omega
 subst hpn
 have hlt : 2 ^ p ≤ 2 ^ 8 := Nat.pow_le_pow_right Z63 h2
 have hu : (firstC p).2.2.2.2.1.flatMap vlanV = [.int .i64 1, .int .u8 ((2 ^ p - 1 : Nat) : Int), .int .u8 0] := by
  show vlanV (1, UInt8.ofNat (2 ^ p - 1), 0) ++ [] = _
  rw [List.append_nil]
  show [Value.int .i64 1, u8v (UInt8.ofNat (2 ^ p - 1)), u8v 0] = _
  rw [u8v_ofNat, Nat.mod_eq_of_lt Z64]; rfl
 rw [hu]
 refine hc_exit <| ze <| ze <| hx_block_out <| zt <| hc_seq <| hc_region <| zv Z17 <| ?_
 refine hl_new (on_buildSliceN rfl rfl rfl) rfl rfl rfl fun b34 => 
  zf rfl <| hl_u0 (on_storeN rfl rfl rfl rfl rfl) rfl rfl <| zn <| hc_seq <| ?_
 refine hc_region <| zv Z17 <| ?_
 refine hl_u0 (on_storeGN rfl rfl rfl rfl rfl rfl) rfl rfl <| zs rfl <| zn <| zq <| ?_
 exact results_ct (.inr rfl) rfl rfl (by simp) rfl fun w' H' => ⟨((A, c), b34), rfl, H'.ent (Ent.trans (b := [blk b34 147 [.int .i64 1, .int .u8 ((2 ^ p - 1 : Nat) : Int), .int .u8 0], row A 83 3 p c ((firstC p).2.2.2.1.flatMap portV)]) (show Ent _ [_, row A 83 3 p c ((List.replicate p ((true, 20000, 1) : PortC)).flatMap portV)] from Z8) (Ent.trans (Ent.blk_row 3 1 rfl Z63) Z8))⟩
theorem okC {k : CK} {ks : List CK} {v : Value} {cs : List Value} (h : (cellOk k v).isSome = true) (t : (cellsOk ks cs).isSome = true) : (cellsOk (k :: ks) (v :: cs)).isSome = true := by
 obtain ⟨a, ha⟩ := Option.isSome_iff_exists.1 h
 obtain ⟨b, hb⟩ := Option.isSome_iff_exists.1 t
 simp only [cellsOk, ha, hb]; rfl
theorem ok8 (b : UInt8) : (cellOk (.i .u8) (u8v b)).isSome = true := by
 have h := b.toNat_lt
 simp only [u8v, cellOk]
 rw [if_pos Z14]; rfl
theorem ok32 (b : UInt32) : (cellOk (.i .u32) (.int .u32 (b.toNat : Int))).isSome = true := by
 have h := b.toNat_lt
 simp only [cellOk]
 rw [if_pos Z14]; rfl
theorem ok64 (b : UInt64) : (cellOk (.i .u64) (.int .u64 (b.toNat : Int))).isSome = true := by
 have h := b.toNat_lt
 simp only [cellOk]
 rw [if_pos Z14]; rfl
theorem okI {x : Int} (h : inI64 x) : (cellOk (.i .i64) (.int .i64 x)).isSome = true := by
 unfold inI64 at h
 simp only [cellOk]
 rw [if_pos Z14]; rfl
theorem toNat_inj8 {a b : UInt8} : (a.toNat : Int) = b.toNat ↔ a = b := ⟨fun h => UInt8.toNat_inj.1 Z64, fun h => by rw [h]⟩
theorem toNat_inj32 {a b : UInt32} : (a.toNat : Int) = b.toNat ↔ a = b := ⟨fun h => UInt32.toNat_inj.1 Z64, fun h => by rw [h]⟩
theorem toNat_inj64 {a b : UInt64} : (a.toNat : Int) = b.toNat ↔ a = b := ⟨fun h => UInt64.toNat_inj.1 Z64, fun h => by rw [h]⟩
theorem portV_inj {s t : PortC} : portV s = portV t ↔ s = t := by
 obtain ⟨a, b, c⟩ := s; obtain ⟨a', b', c'⟩ := t
 simp only [portV, List.cons.injEq, Value.bool.injEq, Value.int.injEq, true_and, and_true, Prod.mk.injEq, toNat_inj32]
theorem vlanV_inj {s t : VlanC} : vlanV s = vlanV t ↔ s = t := by
 obtain ⟨a, b, c⟩ := s; obtain ⟨a', b', c'⟩ := t
 simp only [vlanV, u8v, List.cons.injEq, Value.bool.injEq, Value.int.injEq, true_and, and_true, Prod.mk.injEq, toNat_inj8]
theorem statV_inj {s t : StatC} : statV s = statV t ↔ s = t := by
 obtain ⟨a, b, c⟩ := s; obtain ⟨a', b', c'⟩ := t
 simp only [statV, List.cons.injEq, Value.bool.injEq, Value.int.injEq, true_and, and_true, Prod.mk.injEq, toNat_inj64]
theorem portOk' {x : PortC} (h : Flat.ok x) : (cellsOk [.b, .i .u32, .i .i64] (portV x)).isSome = true := okC rfl (okC (ok32 _) (okC (okI h) rfl))
theorem vlanOk' {x : VlanC} (h : Flat.ok x) : (cellsOk [.i .i64, .i .u8, .i .u8] (vlanV x)).isSome = true := okC (okI h) (okC (ok8 _) (okC (ok8 _) rfl))
theorem statOk' {x : StatC} (h : Flat.ok x) : (cellsOk [.i .u64, .i .i64, .i .i64] (statV x)).isSome = true := okC (ok64 _) (okC (okI h.1) (okC (okI h.2) rfl))
end Go.Proofs.YtjlolpmmpafjeaaGreat
