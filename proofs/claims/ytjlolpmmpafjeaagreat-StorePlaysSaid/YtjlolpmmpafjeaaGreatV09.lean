import Derived.Test.YtjlolpmmpafjeaaGreatV08
set_option linter.unusedVariables false
set_option linter.unusedSimpArgs false
namespace Go.Proofs.YtjlolpmmpafjeaaGreat
open Slk
structure RS where
 rem : List UInt8
 v : Value
 bad : Bool
def cutV (v : Value) (k : Nat) : Value := match v with
 | .slice A n c => .slice (if c = k then A else A.map (·.add (k * 1))) (n - k) (c - k)
 | v => v
def numB (xs : List UInt8) : Nat := xs.foldl (fun n c => n * 256 + c.toNat) 0
theorem numB_snoc (xs : List UInt8) (k : Nat) (h : k < xs.length) : numB (xs.take (k + 1)) = numB (xs.take k) * 256 + xs[k].toNat := by
 unfold numB
 rw [List.take_succ_eq_append_getElem h, List.foldl_append]; rfl
theorem numB_lt (xs : List UInt8) (k : Nat) (hk : k ≤ xs.length) : numB (xs.take k) < 256 ^ k := by
 induction k with
 | zero => simp [numB]
 | succ k ih =>
  rw [numB_snoc xs k Z64]
  have := ih Z64
  have hb := xs[k].toNat_lt
  rw [Nat.pow_succ]; omega
def getN (s : RS) (k : Nat) : Nat := if s.rem.length < k then 0 else numB (s.rem.take k)
def getS (s : RS) (k : Nat) : RS := if s.rem.length < k then ⟨[], .slice none 0 0, true⟩ else ⟨s.rem.drop k, cutV s.v k, s.bad⟩
theorem old_get {D : Nat → Prop} {w : World} {s : RS} (k : Nat) (h : Old D w (Rep.rep s.rem [s.v])) : Old D w (Rep.rep (getS s k).rem [(getS s k).v]) := by
 unfold getS
 split
 ·exact Old.nil
 rename_i hk
 obtain ⟨A, c, hv, _⟩ := h.openB
 refine h.imp fun x hx => ?_
 have hx : Rep.rep s.rem [s.v] x := hx
 rw [hv] at hx
 have := rep_cut hx k s.rem.length Z64 (Nat.le_refl _)
 rw [hv]
 have e : (s.rem.drop k).take (s.rem.length - k) = s.rem.drop k := List.take_of_length_le (by simp)
 rw [e] at this
 exact this
theorem getN_lt (s : RS) (k : Nat) : getN s k < 256 ^ k := by
 unfold getN
 split
 ·exact Nat.pow_pos Z63
 exact numB_lt _ _ Z64
theorem or_byte64 (a b : Nat) (ha : a < 72057594037927936) (hb : b < 256) : IntKind.u64.wrap (BitVec.ofInt 64 (((a * 256 : Nat) : Int)) ||| BitVec.ofInt 64 (b : Int)).toNat = ((a * 256 + b : Nat) : Int) := by
 have e1 : BitVec.ofInt 64 ((a * 256 : Nat) : Int) = BitVec.ofNat 64 (a * 256) := rfl
 have e2 : BitVec.ofInt 64 (b : Int) = BitVec.ofNat 64 b := rfl
 rw [e1, e2, BitVec.toNat_or, BitVec.toNat_ofNat, BitVec.toNat_ofNat]
 rw [Nat.mod_eq_of_lt Z64, Nat.mod_eq_of_lt Z64]
 have := Nat.two_pow_add_eq_or_of_lt (i := 8) (b := b) Z64 a
 rw [show a * 256 = 2 ^ 8 * a by omega, ← this]
 exact wrap_u64 Z64
theorem cut_zero (c : Prop) [Decidable c] (A : Option Addr) (s : Nat) : (if c then A else A.map (·.add (0 * s))) = A := by
 split
 ·rfl
 cases A with
 | none => rfl
 | some a => simp [Addr.add]
theorem ov_sliceR {P : Program} {D : Nat → Prop} {w0 : World} {env : Slots} {l : List HProp} {dst : Option Tmp} {ty : TypeId} {pos : String} {after : Array Edge} {g : Option (Nat × Bool)} {t e : TypeId} {s bb : Nat} {z : List Value} [h : TySlice P t e] [hs : TyI P e s bb z] {x : Operand} {ol oh : Option Operand} {A : Option Addr} {n cap : Nat} (hx : evalO env x = some (.slice A n cap)) (lo hi : Nat)
  (hl : (ol = none ∧ lo = 0) ∨ ∃ o k, ol = some o ∧ evalO env o = some (.int k lo)) (hh : (oh = none ∧ hi = n) ∨ ∃ o k, oh = some o ∧ evalO env o = some (.int k hi)) (h1 : lo ≤ hi) (h2 : hi ≤ cap) {R : Value} (hR : Value.slice (if cap = lo then A else A.map (·.add (lo * s))) (hi - lo) (cap - lo) = R) :
  OpVal P D w0 env l ⟨dst, .slice t x ol oh none, ty, pos, after, g⟩ R := hR ▸ ov_slice hx lo hi hl hh h1 h2
theorem get_spec (D : Nat → Prop) (w : World) (g t k : Nat) (s : RS) (hk : k ≤ 6) (H : Own D w w [blk g t [s.v, .bool s.bad]]) (HA : Old D w (Rep.rep s.rem [s.v])) :
  Calls Tryz.prog 114 #[.pointer (some ⟨g, 0, none⟩), .int .i64 k] w fun e w' => e = .returned (.int .u64 (getN s k)) ∧ Own D w w' [blk g t [(getS s k).v, .bool (getS s k).bad]] := by
 obtain ⟨A, cap, hv, hc1, hc2, HS⟩ := HA.openB
 obtain ⟨xs, v, bad⟩ := s
 dsimp only at *
 subst hv
 unfold getN getS
 dsimp only
 refine hc_enter (vs := [.pointer (some ⟨g, 0, none⟩), .int .i64 k]) Tryz.func114 rfl _ Tryz.ntmps114 rfl H ?_
 simp only [argSlots, Nat.zero_add]
 refine zg <| zs rfl <| zn <| hc_seq <| zg <| zm rfl <| zv (ov_nil rfl) <| zf rfl <| zl rfl rfl <| ?_
 refine zv Z25 <| ?_
 refine zm rfl <| zv (ov_lss rfl rfl) <| zn <| hc_cond rfl (fun h => ?_) (fun h => ?_)
 ·have hlt : xs.length < k := by omega
  rw [if_pos hlt, if_pos hlt]
  refine zg <| zm rfl <| zm rfl <| zv (ov_nil rfl) <| zf rfl <| ?_
  refine hl_u0 (on_storeN rfl rfl rfl rfl rfl) rfl rfl <| zv (ov_nil rfl) <| zf rfl <| hl_u0 (on_storeN rfl rfl rfl rfl rfl) rfl rfl <| zn <| ?_
  refine zg <| zs rfl <| zn <| zq <| zr <| ?_
  exact zz rfl rfl fun w' H' => ⟨rfl, H'⟩
 have hge : ¬ xs.length < k := by omega
 rw [if_neg hge, if_neg hge]
 refine zk <| zg <| zs rfl <| hl_nil <| zt <| hc_seq <| zg <| zm rfl <| zv (ov_nil rfl) <| zf rfl <| zl rfl rfl <| zm rfl <| ?_
 refine hl_v (ov_sliceR rfl 0 k (.inl ⟨rfl, rfl⟩) (.inr ⟨_, _, rfl, rfl⟩) (Nat.zero_le _) Z64 (R := .slice A k cap) (by rw [cut_zero]; rfl)) rfl ?_
 refine zv Z25 <| ?_
 refine zm rfl <| zn <| hc_block <| hc_loops2 (σ := Nat) [0, 1, 26, 27] rfl 28 (fun i => .int .i64 (i : Int)) 5 (fun i => .int .u64 ((numB (xs.take i) : Nat) : Int)) (fun i => i ≤ k) (fun i => k - i) (0) (Nat.zero_le _) rfl rfl ?_
 rintro i hj K1 hK1
 refine zg <| zv (ov_lss rfl rfl) <| zn <| hc_seq <| hc_cond rfl (fun h2 => ?_) (fun h2 => ?_)
 ·have hlt : i < xs.length := by omega
  have hA : isA A := HS.isA Z27
  have hcell : CellIs D w [blk g t [.slice A xs.length cap, .bool bad]] (ab A) (ao A + i * 1) (u8v xs[i]) := by
   rw [Nat.mul_one]
   exact (SrcIs.old HS).cell (by simp [hlt])
  have hx := xs[i].toNat_lt
  have hsn := numB_snoc xs i hlt
  have hb := numB_lt xs i Z64
  have hb3 : numB (xs.take i) < 72057594037927936 := Nat.lt_of_lt_of_le hb (by have : 256 ^ i ≤ 256 ^ 7 := Nat.pow_le_pow_right Z63 Z64; exact this)
  obtain ⟨m, hm⟩ : ∃ m, m = numB (xs.take i) := ⟨_, rfl⟩
  rw [← hm] at hsn hb3
  unfold u8v at hcell
  refine zk <| hc_seq <| hc_block <| zg <| zv (ov_idxS rfl Z62 rfl _ rfl Z64) <| zv Z9 <| ?_
  refine zs rfl <| zn <| hc_region <| zm rfl <| hl_v (ov_shl (m := ((m * 256 : Nat) : Int)) rfl rfl Z63 (by rw [← hm]; show IntKind.u64.wrap ((m : Int) * 256) = _; rw [show (m : Int) * 256 = ((m * 256 : Nat) : Int) by omega]; exact wrap_u64 Z64)) rfl ?_
  refine zm rfl <| zv (ov_conv rfl Z29) <| ?_
  refine hl_v (ov_or (m := ((numB (xs.take (i + 1)) : Nat) : Int)) rfl rfl (by rw [hsn]; exact or_byte64 m _ hb3 hx)) rfl ?_
  refine zs rfl <| hl_nil <| zb <| zt <| hc_region <| zv (ov_add rfl rfl Z28) <| ?_
  refine zm rfl <| hl_nil <| hx_next hK1 (i + 1) Z64 Z64 Z16 Z10
 have hik : i = k := by omega
 subst hik
 refine hc_exit <| ze <| ze <| hx_block_out <| zt <| hc_seq <| hc_region <| zm rfl <| zm rfl <| zv (ov_nil rfl) <| zf rfl <| zl rfl rfl <| ?_
 refine zm rfl <| zv (ov_slice rfl _ _ (.inr ⟨_, _, rfl, rfl⟩) (.inl ⟨rfl, rfl⟩) Z64 Z64) <| zv (ov_nil rfl) <| zf rfl <| ?_
 refine hl_u0 (on_storeE [cutV (.slice A xs.length cap) i, .bool bad] rfl rfl (by simp) rfl rfl) rfl rfl ?_
 refine zn <| zg <| zm rfl <| zs rfl <| zn <| zq <| ?_
 exact zz rfl rfl fun w' H' => ⟨rfl, H'⟩
theorem int_spec (D : Nat → Prop) (w : World) (g t k : Nat) (s : RS) (hk : k ≤ 6) (H : Own D w w [blk g t [s.v, .bool s.bad]]) (HA : Old D w (Rep.rep s.rem [s.v])) :
  Calls Tryz.prog 113 #[.pointer (some ⟨g, 0, none⟩), .int .i64 k] w fun e w' => e = .returned (.int .i64 (getN s k)) ∧ Own D w w' [blk g t [(getS s k).v, .bool (getS s k).bad]] := by
 have hb := getN_lt s k
 have hb3 : getN s k < 281474976710656 := Nat.lt_of_lt_of_le hb (by have : 256 ^ k ≤ 256 ^ 6 := Nat.pow_le_pow_right Z63 hk; exact this)
 refine hc_enter (vs := [.pointer (some ⟨g, 0, none⟩), .int .i64 k]) Tryz.func113 rfl _ Tryz.ntmps113 rfl H ?_
 simp only [argSlots, Nat.zero_add]
 refine zg <| zs rfl <| zn <| hc_seq <| hc_region <| zm rfl <| zm rfl <| hl_c Tryz.call114 rfl rfl (fun w1 => zp (blk g t [s.v, .bool s.bad]) fun D' hold _ H2 => get_spec D' w1 g t k s hk H2 (hold _ HA)) ?_
 refine zv (ov_conv rfl Z28) <| ?_
 refine zs rfl <| zn <| zq <| ?_
 exact zz rfl rfl fun w' H' => ⟨rfl, H'⟩
theorem ended_spec (D : Nat → Prop) (w : World) (g t : Nat) (s : RS) (H : Own D w w [blk g t [s.v, .bool s.bad]]) (HA : Old D w (Rep.rep s.rem [s.v])) :
  Calls Tryz.prog 76 #[.pointer (some ⟨g, 0, none⟩)] w fun e w' => ∃ b : BIff (s.bad = false ∧ s.rem = []), e = .returned (.bool b.1) ∧ Own D w w' [blk g t [s.v, .bool s.bad]] := by
 obtain ⟨A, cap, hv, hc1, hc2, HS⟩ := HA.openB
 obtain ⟨xs, v, bad⟩ := s
 dsimp only at *
 subst hv
 refine hc_enter (vs := [.pointer (some ⟨g, 0, none⟩)]) Tryz.func76 rfl _ Tryz.ntmps76 rfl H ?_
 simp only [argSlots, Nat.zero_add]
 refine zg <| zs rfl <| zn <| hc_seq <| hc_region <| zm rfl <| zv (ov_nil rfl) <| zf rfl <| zf rfl <| zl rfl rfl <| ?_
 refine zv Z26 <| ?_
 refine zm rfl <| hl_partb (t := 9) rfl (fun h => ?_) (fun h => ?_)
 ·have hb : bad = false := by simpa using h
  refine hl_on rfl rfl <| zm rfl <| hl_on rfl rfl <| zv (ov_nil rfl) <| hl_on rfl rfl <| zf rfl <| hl_on rfl rfl <| zf rfl <| hl_on rfl rfl <| zl rfl rfl <| hl_on rfl rfl <| zv Z25 <| ?_
  refine hl_on rfl rfl <| zv (ov_eql rfl rfl) <| hl_part (t := 16) rfl (fun h2 => ?_) (fun h2 => ?_)
  ·have h3 : xs = [] := List.eq_nil_of_length_eq_zero Z64
   refine zv (ov_pickT rfl rfl) <| zs rfl <| zn <| zq <| ?_
   exact zz rfl rfl fun w' H' => ⟨bT ⟨hb, h3⟩, rfl, H'⟩
  refine zv (ov_pickT rfl rfl) <| zs rfl <| zn <| zq <| ?_
  exact zz rfl rfl fun w' H' => ⟨bF (fun h => h2 (by rw [h.2]; rfl)), rfl, H'⟩
 have hb : ¬ bad = false := by simpa using h
 refine zo rfl rfl <| zo rfl rfl <| zo rfl rfl <| zo rfl rfl <| zo rfl rfl <| zo rfl rfl <| zo rfl rfl <| zv (ov_pickF rfl rfl) <| zs rfl <| zn <| zq <| ?_
 exact zz rfl rfl fun w' H' => ⟨bF (fun h => hb h.1), rfl, H'⟩
attribute [irreducible] getS getN
end Go.Proofs.YtjlolpmmpafjeaaGreat

set_option linter.unusedVariables false
set_option linter.unusedSimpArgs false
namespace Go.Proofs.YtjlolpmmpafjeaaGreat
open Slk
def rdE (s : RS) : EditC × RS :=
 let s1 := getS s 1
 let s2 := getS s1 1
 let s3 := getS s2 4
 let s4 := getS s3 2
 let s5 := getS s4 1
 let s6 := getS s5 1
 ((getN s 1, getN s1 1, getN s2 4, getN s3 2, UInt8.ofNat (getN s4 1), UInt8.ofNat (getN s5 1), UInt64.ofNat (getN s6 6)), getS s6 6)
def rdEs : Nat → RS → List EditC × RS
 | 0, s => ([], s)
 | i + 1, s => ((rdEs i s).1 ++ [(rdE (rdEs i s).2).1], (rdE (rdEs i s).2).2)
theorem rdEs_len (i : Nat) (s : RS) : (rdEs i s).1.length = i := by
 induction i with
 | zero => rfl
 | succ i ih => simp [rdEs, ih]
theorem old_rdE {D : Nat → Prop} {w : World} {s : RS} (h : Old D w (Rep.rep s.rem [s.v])) : Old D w (Rep.rep (rdE s).2.rem [(rdE s).2.v]) := old_get 6 (old_get 1 (old_get 1 (old_get 2 (old_get 4 (old_get 1 (old_get 1 h))))))
theorem old_rdEs {D : Nat → Prop} {w : World} {s : RS} (i : Nat) (h : Old D w (Rep.rep s.rem [s.v])) : Old D w (Rep.rep (rdEs i s).2.rem [(rdEs i s).2.v]) := by
 induction i with
 | zero => exact h
 | succ i ih => exact old_rdE ih
theorem rdE_cells (s : RS) : editV (rdE s).1 = [.int .i64 (getN s 1), .int .i64 (getN (getS s 1) 1), .int .i64 (getN (getS (getS s 1) 1) 4), .int .i64 (getN (getS (getS (getS s 1) 1) 4) 2), .int .u8 ((getN (getS (getS (getS (getS s 1) 1) 4) 2) 1 % 256 : Nat) : Int), .int .u8 ((getN (getS (getS (getS (getS (getS s 1) 1) 4) 2) 1) 1 % 256 : Nat) : Int), .int .u64 (getN (getS (getS (getS (getS (getS (getS s 1) 1) 4) 2) 1) 1) 6)] := by
 have h : getN (getS (getS (getS (getS (getS (getS s 1) 1) 4) 2) 1) 1) 6 < 18446744073709551616 := Nat.lt_of_lt_of_le (getN_lt _ 6) Z63
 show [_, _, _, _, u8v (UInt8.ofNat _), u8v (UInt8.ofNat _), _] = _
 rw [u8v_ofNat, u8v_ofNat]
 simp only [rdE, UInt64.toNat_ofNat']
 rw [Nat.mod_eq_of_lt h]
theorem redits_spec (D : Nat → Prop) (w : World) (g t : Nat) (s : RS) (H : Own D w w [blk g t [s.v, .bool s.bad]]) (HA : Old D w (Rep.rep s.rem [s.v])) :
  Calls Tryz.prog 125 #[.pointer (some ⟨g, 0, none⟩)] w fun e w' => ∃ q : Option Addr × Nat, e = .returned (.slice q.1 (getN s 1) q.2) ∧ Own D w w' [row q.1 81 7 (getN s 1) q.2 ((rdEs (getN s 1) (getS s 1)).1.flatMap editV), blk g t [(rdEs (getN s 1) (getS s 1)).2.v, .bool (rdEs (getN s 1) (getS s 1)).2.bad]] := by
 have hn : getN s 1 < 256 := getN_lt s 1
 refine hc_enter (vs := [.pointer (some ⟨g, 0, none⟩)]) Tryz.func125 rfl _ Tryz.ntmps125 rfl H ?_
 simp only [argSlots, Nat.zero_add]
 refine zg <| zs rfl <| zn <| hc_seq <| hc_region <| zs rfl <| zn <| hc_seq <| hc_seq <| hc_region <| zm rfl <| zv (ov_nil rfl) <| zf rfl <| ?_
 refine hl_c Tryz.call113 rfl rfl (fun w1 => zp (blk g t [s.v, .bool s.bad]) fun D' hold _ H2 => int_spec D' w1 g t 1 s Z63 H2 (hold _ HA)) ?_
 have HA1 := old_get 1 HA
 generalize getS s 1 = s1 at *
 generalize getN s 1 = n at *
 refine zm rfl <| zn <| hc_block <| hc_loopK2 (σ := Nat × Option Addr × Nat) [0, 7] rfl 8 (fun q => .int .i64 (q.1 : Int)) 3 (fun q => .slice q.2.1 q.1 q.2.2) (fun q => [row q.2.1 81 7 q.1 q.2.2 ((rdEs q.1 s1).1.flatMap editV), blk g t [(rdEs q.1 s1).2.v, .bool (rdEs q.1 s1).2.bad]]) (fun q => q.1 ≤ n) (fun q => n - q.1) ((0, none, 0)) (Nat.zero_le _) rfl rfl (Ent.nil_row 81 7) ?_
 rintro ⟨i, A, c⟩ hi K1 hK1
 dsimp only at hi ⊢
 have HAi := old_rdEs i HA1
 refine zg <| zv (ov_lss rfl rfl) <| zn <| hc_seq <| hc_cond rfl (fun h => ?_) (fun h => ?_)
 ·have hlt : i < n := by omega
  have hce := rdE_cells (rdEs i s1).2
  have hs7 : (rdEs (i + 1) s1).2 = getS (getS (getS (getS (getS (getS (getS (rdEs i s1).2 1) 1) 4) 2) 1) 1) 6 := rfl
  have hl7 : (rdEs i s1).1.flatMap editV ++ editV (rdE (rdEs i s1).2).1 = (rdEs (i + 1) s1).1.flatMap editV := by
   show _ = ((rdEs i s1).1 ++ [(rdE (rdEs i s1).2).1]).flatMap editV
   rw [List.flatMap_append, List.flatMap_singleton]
  generalize (rdEs i s1).2 = r0 at *
  have K0 := HAi
  have K1 := old_get 1 K0
  have K2 := old_get 1 K1
  have K3 := old_get 4 K2
  have K4 := old_get 2 K3
  have K5 := old_get 1 K4
  have K6 := old_get 1 K5
  refine zk <| hc_seq <| hc_block <| hc_any [] mixed 35 rfl ?_
  refine ha_v 0 rfl (ov_move rfl) rfl <| ha_v 1 rfl (ov_move rfl) rfl <| ha_v 2 rfl (ov_nil rfl) rfl <| ha_v 3 rfl (ov_fieldA rfl) rfl <| ha_v 5 rfl (ov_move rfl) rfl <| ha_v 6 rfl (ov_nil rfl) rfl <| ha_v 7 rfl (ov_fieldA rfl) rfl <| ha_v 9 rfl (ov_move rfl) rfl <| ha_v 10 rfl (ov_nil rfl) rfl <| ha_v 11 rfl (ov_fieldA rfl) rfl <| ha_v 13 rfl (ov_move rfl) rfl <| ha_v 14 rfl (ov_nil rfl) rfl <| ha_v 15 rfl (ov_fieldA rfl) rfl <| ha_v 17 rfl (ov_move rfl) rfl <| ha_v 18 rfl (ov_nil rfl) rfl <| ha_v 19 rfl (ov_fieldA rfl) rfl <| ha_v 22 rfl (ov_move rfl) rfl <| ha_v 23 rfl (ov_nil rfl) rfl <| ha_v 24 rfl (ov_fieldA rfl) rfl <| ha_v 27 rfl (ov_move rfl) rfl <| ha_v 28 rfl (ov_nil rfl) rfl <| ha_v 29 rfl (ov_fieldA rfl) rfl <| ha_one 4 Z61 <| ho_k rfl Tryz.call113 rfl (fun w1 => zp (blk g t [r0.v, .bool r0.bad]) fun D' hold _ H2 => int_spec D' w1 g t 1 r0 Z63 H2 (hold _ K0)) ?_
  refine ha_one 8 Z61 <| ho_k rfl Tryz.call113 rfl (fun w1 => zp (blk g t [(getS r0 1).v, .bool (getS r0 1).bad]) fun D' hold _ H2 => int_spec D' w1 g t 1 (getS r0 1) Z63 H2 (hold _ K1)) ?_
  refine ha_one 12 Z61 <| ho_k rfl Tryz.call113 rfl (fun w1 => zp (blk g t [(getS (getS r0 1) 1).v, .bool (getS (getS r0 1) 1).bad]) fun D' hold _ H2 => int_spec D' w1 g t 4 (getS (getS r0 1) 1) Z63 H2 (hold _ K2)) ?_
  refine ha_one 16 Z61 <| ho_k rfl Tryz.call113 rfl (fun w1 => zp (blk g t [(getS (getS (getS r0 1) 1) 4).v, .bool (getS (getS (getS r0 1) 1) 4).bad]) fun D' hold _ H2 => int_spec D' w1 g t 2 (getS (getS (getS r0 1) 1) 4) Z63 H2 (hold _ K3)) ?_
  refine ha_one 20 Z61 <| ho_k rfl Tryz.call114 rfl (fun w1 => zp (blk g t [(getS (getS (getS (getS r0 1) 1) 4) 2).v, .bool (getS (getS (getS (getS r0 1) 1) 4) 2).bad]) fun D' hold _ H2 => get_spec D' w1 g t 1 (getS (getS (getS (getS r0 1) 1) 4) 2) Z63 H2 (hold _ K4)) ?_
  refine ha_v 21 rfl (ov_conv (m := ((getN (getS (getS (getS (getS r0 1) 1) 4) 2) 1 % 256 : Nat) : Int)) rfl (wrap8 _)) rfl <| ha_one 25 Z61 <| ho_k rfl Tryz.call114 rfl (fun w1 => zp (blk g t [(getS (getS (getS (getS (getS r0 1) 1) 4) 2) 1).v, .bool (getS (getS (getS (getS (getS r0 1) 1) 4) 2) 1).bad]) fun D' hold _ H2 => get_spec D' w1 g t 1 (getS (getS (getS (getS (getS r0 1) 1) 4) 2) 1) Z63 H2 (hold _ K5)) ?_
  refine ha_v 26 rfl (ov_conv (m := ((getN (getS (getS (getS (getS (getS r0 1) 1) 4) 2) 1) 1 % 256 : Nat) : Int)) rfl (wrap8 _)) rfl <| ha_one 30 Z61 <| ho_k rfl Tryz.call114 rfl (fun w1 => zp (blk g t [(getS (getS (getS (getS (getS (getS r0 1) 1) 4) 2) 1) 1).v, .bool (getS (getS (getS (getS (getS (getS r0 1) 1) 4) 2) 1) 1).bad]) fun D' hold _ H2 => get_spec D' w1 g t 6 (getS (getS (getS (getS (getS (getS r0 1) 1) 4) 2) 1) 1) Z63 H2 (hold _ K6)) ?_
  refine ha_v 31 rfl (ov_buildSN rfl rfl) rfl <| ?_
  refine ha_one 32 Z61 <| ho_n rfl (on_buildSliceN rfl rfl rfl) rfl fun b42 =>  ?_
  refine ha_one 33 Z61 <| ?_
  rw [← hce]
  refine ho_n rfl (on_appendR (A := A) (news := editV (rdE r0).1) rfl rfl (SrcIs.blk (b := b42)) rfl Z44 Z63 Z64) rfl (fun q2 => ?_)
  rw [hl7, ← hs7]
  refine ha_v 34 rfl (ov_assign rfl) rfl <| ha_done Z61 <| zb <| zt <| hc_region <| zv (ov_add rfl rfl Z28) <| ?_
  refine zm rfl <| hl_nil <| hx_next hK1 ((i + 1, q2)) (hlt) (by show n - (i + 1) < n - i; omega) Z16 Z10
 have hin : i = n := by omega
 subst hin
 refine hc_exit <| ze <| ze <| hx_block_out <| zt <| hc_seq <| hc_region <| zm rfl <| zs rfl <| zn <| zq <| ?_
 exact zz rfl rfl fun w' H' => ⟨(A, c), rfl, H'⟩
end Go.Proofs.YtjlolpmmpafjeaaGreat

set_option linter.unusedVariables false
set_option linter.unusedSimpArgs false
namespace Go.Proofs.YtjlolpmmpafjeaaGreat
open Slk
theorem getN_in (s : RS) (k : Nat) (hk : k ≤ 6) : inI64 (getN s k) := by
 have h : getN s k < 281474976710656 := Nat.lt_of_lt_of_le (getN_lt s k) (by have : 256 ^ k ≤ 256 ^ 6 := Nat.pow_le_pow_right Z63 hk; exact this)
 unfold inI64; omega
theorem rdE_ok (s : RS) : Flat.ok (rdE s).1 := ⟨getN_in _ 1 Z63, getN_in _ 1 Z63, getN_in _ 4 Z63, getN_in _ 2 Z63⟩
theorem rdEs_ok (i : Nat) (s : RS) : ∀ x ∈ (rdEs i s).1, Flat.ok x := by
 induction i with
 | zero => intro x hx; cases hx
 | succ i ih =>
  intro x hx
  rcases List.mem_append.1 hx with h | h
  ·exact ih x h
  ·rw [List.mem_singleton.1 h]; exact rdE_ok _
abbrev rdAll (s : RS) : List EditC × RS := rdEs (getN s 1) (getS s 1)
def listP (s : RS) : Prop := ((rdAll s).2.bad = false ∧ (rdAll s).2.rem = []) ∧ okEds (rdAll s).1
abbrev ListT (s : RS) := { r : (Option Addr × Nat) × List EditC × Int // (¬ listP s ∧ r.2.1 = [] ∧ r.2.2 = 11) ∨ (listP s ∧ r.2.1 = (rdAll s).1 ∧ r.2.2 = 0) }
theorem List_spec (D : Nat → Prop) (w : World) (v : Value) (xs : List UInt8) (HA : Old D w (Rep.rep xs [v])) :
  Calls Tryz.prog 80 #[v] w fun e w' => ∃ r : ListT ⟨xs, v, false⟩, e = .returned (.tuple #[.slice r.1.1.1 r.1.2.1.length r.1.1.2, .int .i64 r.1.2.2]) ∧ Own D w w' [row r.1.1.1 81 7 r.1.2.1.length r.1.1.2 (r.1.2.1.flatMap editV)] := by
 have HA0 := HA
 obtain ⟨A, cap, rfl, _⟩ := HA0.openB
 obtain ⟨s, hs⟩ : ∃ s : RS, s = ⟨xs, .slice A xs.length cap, false⟩ := ⟨_, rfl⟩
 have HA : Old D w (Rep.rep s.rem [s.v]) := by rw [hs]; exact HA
 rw [← hs]
 have hn : getN s 1 < 256 := getN_lt s 1
 have hlen : (rdAll s).1.length = getN s 1 := rdEs_len _ _
 have hok := rdEs_ok (getN s 1) (getS s 1)
 have HAe : Old D w (Rep.rep (rdAll s).2.rem [(rdAll s).2.v]) := old_rdEs _ (old_get 1 HA)
 refine hc_enter (vs := [.slice A xs.length cap]) Tryz.func80 rfl _ Tryz.ntmps80 rfl (Own.start D w) ?_
 simp only [argSlots, Nat.zero_add]
 refine zg <| zs rfl <| zs rfl <| zn <| zg <| zm rfl <| zv (ov_buildSN rfl rfl) <| ?_
 refine zv (ov_buildSN rfl rfl) <| ?_
 refine hl_new (on_boxN rfl rfl) rfl rfl rfl fun b9 =>  ?_
 refine zs rfl <| zn <| zg <| zm rfl <| HL.ent (show Ent _ [blk b9 165 [s.v, .bool s.bad]] by rw [hs]; exact Z8) ?_
 refine hl_call (σ := Option Addr × Nat) Tryz.call125 rfl rfl (fun w1 => zpx (blk b9 165 [s.v, .bool s.bad]) fun D' hold _ H2 => redits_spec D' w1 b9 165 s H2 (hold _ HA)) ?_
 intro q
 refine zs rfl <| zn <| hc_seq <| zg <| zm rfl <| hl_call (σ := BIff ((rdAll s).2.bad = false ∧ (rdAll s).2.rem = [])) Tryz.call76 rfl rfl (fun w1 => zpx (blk b9 165 [(rdAll s).2.v, .bool (rdAll s).2.bad]) fun D' hold _ H2 => ended_spec D' w1 b9 165 (rdAll s).2 H2 (hold _ HAe)) ?_
 intro r
 refine zv Z26 <| ?_
 refine zm rfl <| hl_partb (t := 15) rfl (fun a1 => ?_) (fun a1 => ?_)
 ·have hno : ¬ listP s := fun h => by have := r.2.2 h.1; rw [this] at a1; cases a1
  refine zo rfl rfl <| zo rfl rfl <| zo rfl rfl <| zv (ov_pickT rfl rfl) <| zm rfl <| zo rfl rfl <| zo rfl rfl <| zv (ov_pickT rfl rfl) <| zn <| hc_cond_true rfl <| hc_seq <| hc_region <| zs rfl <| zs rfl <| zn <| zq <| zr <| ?_
  exact results_2 (.inr rfl) rfl rfl rfl fun w' H' => ⟨⟨((none, 0), [], 11), .inl ⟨hno, rfl, rfl⟩⟩, rfl, H'.ent (Ent.trans (Ent.nil_row 81 7) (Ent.cons (Ent.nil _)))⟩
 have hend := r.2.1 (by simpa using a1)
 refine hl_on rfl rfl <| zm rfl <| hl_on rfl rfl <| zv Z25 <| ?_
 refine hl_on rfl rfl <| zv (ov_gtr rfl rfl) <| zv (ov_pickF rfl rfl) <| zm rfl <| hl_part (t := 20) rfl (fun a2 => ?_) (fun a2 => ?_)
 ·have hno : ¬ listP s := fun h => by have := h.2.1; omega
  refine zo rfl rfl <| zo rfl rfl <| zv (ov_pickT rfl rfl) <| zn <| hc_cond_true rfl <| zg <| zs rfl <| zs rfl <| zn <| zq <| zr <| ?_
  exact results_2 (.inr rfl) rfl rfl rfl fun w' H' => ⟨⟨((none, 0), [], 11), .inl ⟨hno, rfl, rfl⟩⟩, rfl, H'.ent (Ent.trans (Ent.nil_row 81 7) (Ent.cons (Ent.nil _)))⟩
 refine hl_on rfl rfl <| zm rfl <| hl_on rfl rfl <| hl_call (σ := BIff (∃ i, badE (rdAll s).1 i)) Tryz.call93 rfl rfl (fun w1 => zu fun D' _ hin _ => HasE_spec D' w1 _ (rdAll s).1 Z64 (hin _ fun h hs ho => rep_row (A := q.1) hs (rdAll s).1 hlen.symm (repL_F.2 ⟨rfl, hok⟩))) ?_
 intro r3
 try rw [List.nil_append]
 refine zv (ov_pickF rfl rfl) <| zn <| hc_cond_bool rfl (fun a3 => ?_) (fun a3 => ?_)
 ·have hno : ¬ listP s := fun h => by
   obtain ⟨i, hi, hx⟩ := r3.2.1 a3
   exact hx (h.2.2 i hi)
  refine zg <| zs rfl <| zs rfl <| zn <| zq <| zr <| ?_
  exact results_2 (.inr rfl) rfl rfl rfl fun w' H' => ⟨⟨((none, 0), [], 11), .inl ⟨hno, rfl, rfl⟩⟩, rfl, H'.ent (Ent.trans (Ent.nil_row 81 7) (Ent.cons (Ent.nil _)))⟩
 have hP : listP s := ⟨hend, by omega, fun i hi => Classical.byContradiction fun hx => by
  have := r3.2.2 ⟨i, hi, hx⟩
  rw [this] at a3; cases a3⟩
 refine zk <| zg <| zm rfl <| zs rfl <| zs rfl <| zn <| zq <| ?_
 exact results_2 (.inr rfl) rfl rfl rfl fun w' H' => ⟨⟨(q, (rdAll s).1, 0), .inr ⟨hP, rfl, rfl⟩⟩, by simp only [hlen], by simp only [hlen]; exact H'.ent Z8⟩
end Go.Proofs.YtjlolpmmpafjeaaGreat

set_option linter.unusedVariables false
set_option linter.unusedSimpArgs false
namespace Go.Proofs.YtjlolpmmpafjeaaGreat
open Slk
theorem big_spec (D : Nat → Prop) (w : World) (n k : Nat) (hn : n < 18446744073709551616) (hk : k ≤ 6) :
  Calls Tryz.prog 84 #[.int .u64 n, .int .i64 k] w fun e w' => ∃ q : { q : Option Addr × Nat // 0 < k → isA q.1 }, e = .returned (.slice q.1.1 k q.1.2) ∧ Own D w w' [row q.1.1 5 1 k q.1.2 ((beB n k).map u8v)] := by
 refine hc_enter (vs := [.int .u64 n, .int .i64 k]) Tryz.func84 rfl _ Tryz.ntmps84 rfl (Own.start D w) ?_
 simp only [argSlots, Nat.zero_add]
 refine zg <| zs rfl <| zn <| hc_seq <| hc_region <| zs rfl <| zn <| hc_seq <| hc_seq <| hc_region <| zm rfl <| hl_v (ov_sub (m := (k : Int) - 1 - ((0 : Nat) : Int)) rfl rfl Z36) rfl ?_
 refine zs rfl <| zn <| hc_block <| hc_loopK2 (σ := Nat × Option Addr × Nat) [0] rfl 6 (fun s => .int .i64 ((k : Int) - 1 - (s.1 : Int))) 5 (fun s => .slice s.2.1 s.1 s.2.2) (fun s => [row s.2.1 5 1 s.1 s.2.2 (((beB n k).take s.1).map u8v)]) (fun s => s.1 ≤ k) (fun s => k - s.1) ((0, none, 0)) (Nat.zero_le _) rfl rfl (Ent.nil_row 5 1) ?_
 rintro ⟨i, A, c⟩ hi K1 hK1
 dsimp only at hi ⊢
 refine hc_seq <| zg <| zm rfl <| zv (ov_geq rfl rfl) <| hl_nil <| zt <| hc_cond rfl (fun h => ?_) (fun h => ?_)
 ·have hlt : i < k := by omega
  have hcs : ((beB n k).take i).map u8v ++ [.int .u8 ((n / 2 ^ (8 * (k - 1 - i)) % 256 : Nat) : Int)] = ((beB n k).take (i + 1)).map u8v := by
   rw [beB_take n k i hlt, ← u8v_ofNat]; simp
  refine zk <| hc_seq <| hc_block <| hc_region <| zm rfl <| zm rfl <| zm rfl <| zv (ov_mul rfl rfl Z28) <| ?_
  refine zv (ov_conv rfl Z29) <| ?_
  refine hl_v (ov_shr (m := ((n / 2 ^ (8 * (k - 1 - i)) : Nat) : Int)) rfl rfl Z64 (shrK n (8 * (k - 1 - i)) _ 64 Z64)) rfl ?_
  refine hl_v (ov_conv (m := ((n / 2 ^ (8 * (k - 1 - i)) % 256 : Nat) : Int)) rfl (wrap8 _)) rfl <| hl_new (on_buildSliceN rfl rfl rfl) rfl rfl rfl fun b20 =>  ?_
  refine hl_new (on_appendR (A := A) (news := [.int .u8 ((n / 2 ^ (8 * (k - 1 - i)) % 256 : Nat) : Int)]) rfl rfl (SrcIs.blk (b := b20)) rfl Z49 Z63 Z64) rfl rfl rfl (fun q2 => ?_)
  rw [hcs]
  refine zs rfl <| hl_nil <| zb <| zt <| hc_region <| zm rfl <| hl_v (ov_sub (m := (k : Int) - 1 - ((i + 1 : Nat) : Int)) rfl rfl Z36) rfl ?_
  refine zs rfl <| hl_nil <| hx_next hK1 ((i + 1, q2)) (hlt) (by show k - (i + 1) < k - i; omega) Z16 Z10
 have hik : i = k := by omega
 subst hik
 rw [List.take_of_length_le Z34]
 refine HC.fact (fun w H => Own.factR A H) ?_
 rintro ⟨_, _, _, hA⟩
 have hA : 0 < i → isA A := fun h => hA (by intro e; have := congrArg List.length e; simp [beB_len] at this; omega)
 refine hc_exit <| ze <| ze <| hx_block_out <| zt <| hc_seq <| hc_region <| zm rfl <| zs rfl <| zn <| zq <| ?_
 exact zz rfl rfl fun w' H' => ⟨⟨(A, c), hA⟩, rfl, H'⟩
end Go.Proofs.YtjlolpmmpafjeaaGreat

set_option linter.unusedVariables false
set_option linter.unusedSimpArgs false
namespace Go.Proofs.YtjlolpmmpafjeaaGreat
open Slk
theorem be1_cells (n : Nat) (h : n < 256) : [Value.int .u8 (n : Int)] = (beB n 1).map u8v := by
 have : beB n 1 = [UInt8.ofNat n] := by simp [beB, List.range_succ]
 rw [this, List.map_cons, List.map_nil, u8v_ofNat, Nat.mod_eq_of_lt h]
theorem be1_int {x : Int} (h0 : 0 ≤ x) (h1 : x < 256) : [Value.int .u8 x] = (beB x.toNat 1).map u8v := by
 rw [← be1_cells _ Z64, Int.toNat_of_nonneg h0]
theorem be1_u8 (x : UInt8) : [u8v x] = (beB x.toNat 1).map u8v := be1_cells _ x.toNat_lt
theorem REdits_spec (D : Nat → Prop) (w : World) (v : Value) (l : List EditC) (hl : l.length ≤ 1000000) (HA : Old D w (Rep.rep l [v])) :
  Calls Tryz.prog 59 #[v] w fun e w' => ∃ s : ResT (okEds l) (edsB l) (fun e => e = if 32 < l.length then 3 else 11), e = .returned (.tuple #[.slice s.1.1.1 s.1.2.1.length s.1.1.2, .int .i64 s.1.2.2]) ∧ Own D w w' [row s.1.1.1 5 1 s.1.2.1.length s.1.1.2 (s.1.2.1.map u8v)] := by
 obtain ⟨As, caps, rfl, hs1, hs2, HSs, hsok⟩ := HA.openF
 have HSs : OldS D w As (l.flatMap editV) := HSs
 refine hc_enter (vs := [.slice As l.length caps]) Tryz.func59 rfl _ Tryz.ntmps59 rfl (Own.start D w) ?_
 simp only [argSlots, Nat.zero_add]
 refine zg <| zs rfl <| zs rfl <| zn <| hc_seq <| zg <| zm rfl <| zv Z25 <| ?_
 refine zv (ov_gtr rfl rfl) <| zn <| hc_cond rfl (fun h => ?_) (fun h => ?_)
 ·have hno : ¬ okEds l := fun k => by have := k.1; omega
  refine zg <| zs rfl <| zs rfl <| zn <| zq <| zr <| ?_
  exact results_2 (.inr rfl) rfl rfl rfl fun w' H' => ⟨⟨((none, 0), [], 3), .inl ⟨hno, rfl, by decide, by rw [if_pos Z64]⟩⟩, rfl, H'.ent (Ent.nil_row _ _)⟩
 have hl32 : l.length ≤ 32 := by omega
 refine zk <| zg <| zm rfl <| zv Z25 <| ?_
 refine zv (ov_conv rfl Z31) <| ?_
 refine hl_new (on_buildSliceN rfl rfl rfl) rfl rfl rfl fun b13 =>  ?_
 refine HL.ent (Ent.blk_row 1 1 rfl Z63) ?_
 rw [be1_cells l.length Z64]
 refine zs rfl <| zn <| hc_seq <| zg <| zs rfl <| zn <| hc_block <| hc_loopK2 (σ := Nat × Nat × List Value × Option Addr × Nat) [0] rfl 5 (fun s => .int .i64 (s.1 : Int)) 4 (fun s => .slice s.2.2.2.1 s.2.1 s.2.2.2.2) (fun s => [row s.2.2.2.1 5 1 s.2.1 s.2.2.2.2 s.2.2.1]) (fun s => (s.1 ≤ l.length ∧ ∀ j (h : j < l.length), j < s.1 → goodE l[j]) ∧ s.2.1 = 1 + 16 * s.1 ∧ s.2.2.1 = (beB l.length 1 ++ (l.take s.1).flatMap edB).map u8v) (fun s => l.length - s.1) ((0, 1, (beB l.length 1).map u8v, some ⟨b13, 0, none⟩, 1)) (⟨⟨Nat.zero_le _, fun j _ h => absurd h (Nat.not_lt_zero _)⟩, rfl, by simp⟩) rfl rfl Z10 ?_
 rintro ⟨i, m, cs, A, c⟩ hj_ K1 hK1
 dsimp only at hj_ ⊢
 obtain ⟨⟨hi, hall⟩, hm, hcs⟩ := hj_
 refine hc_seq <| zg <| zm rfl <| zm rfl <| zv Z25 <| ?_
 refine zv (ov_lss rfl rfl) <| zn <| hc_cond rfl (fun h2 => ?_) (fun h2 => ?_)
 ·have hlt : i < l.length := by omega
  obtain ⟨hA, hc⟩ := OldS.cells_flat (D := D) (w0 := w) (f := editV) (sz := 7) (fun _ => rfl) Z63 HSs hlt [row A 5 1 m c cs]
  have hc' := fun l' => (OldS.cells_flat (D := D) (w0 := w) (f := editV) (sz := 7) (fun _ => rfl) Z63 HSs hlt l').2
  have hsn := edsB_to (beB l.length 1) l i hlt
  have hbad : ¬ goodE l[i] → ¬ okEds l := fun hx k => hx (k.2 i hlt)
  have hnext : goodE l[i] → ∀ j (h : j < l.length), j < i + 1 → goodE l[j] := fun hx j hj h1 => by
   rcases Nat.lt_or_ge j i with h3 | h3
   ·exact hall j hj h3
   ·obtain rfl : j = i := by omega
    exact hx
  generalize l[i] = x at *
  refine zk <| hc_seq <| hc_block <| zg <| zm rfl <| zm rfl <| zv (ov_idxS rfl Z62 rfl _ rfl Z64) <| ?_
  refine hl_v (ov_loadG (cs := editV x) rfl rfl (hc' _)) rfl <| hl_new (on_alloc) rfl rfl rfl fun b6 =>  ?_
  refine hl_u0 (on_storeW (vs := editV x) rfl rfl (by simp) (by simp) Z44) rfl rfl ?_
  refine zn <| hc_seq <| zg <| zv Z17 <| ?_
  refine hl_call (σ := BIff (goodE x)) Tryz.call101 rfl rfl (fun w1 => zu fun D' _ _ _ => form_spec D' w1 x) ?_
  intro r
  try rw [List.nil_append]
  refine zv Z26 <| ?_
  refine zn <| hc_cond_bool rfl (fun hb => ?_) (fun hb => ?_)
  ·have hno : ¬ okEds l := hbad fun h => by have := r.2.2 h; rw [this] at hb; cases hb
   refine zg <| zs rfl <| zs rfl <| zn <| zq <| zr <| hx_block_ret <| zr <| zr <| hx_block_ret <| zr <| ?_
   exact results_2 (.inr rfl) rfl rfl rfl fun w' H' => ⟨⟨((none, 0), [], 11), .inl ⟨hno, rfl, by decide, by rw [if_neg Z64]⟩⟩, rfl, H'.ent (Ent.trans (Ent.nil_row 5 1) (Ent.cons (Ent.nil _)))⟩
  have hg : goodE x := r.2.1 (by simpa using hb)
  have hn := hnext hg
  obtain ⟨g1, g2, g3, g4, g5, g6, g7, g8, g9⟩ := hg
  refine zk <| hc_seq <| ?_
  have hm' : m + 2 + 4 + 2 + 2 + 6 = 1 + 16 * (i + 1) := by omega
  have hme : l.length - (i + 1) < l.length - i := by omega
  have hfin : ((((cs ++ [.int .u8 x.1, .int .u8 x.2.1]) ++ (beB x.2.2.1.toNat 4).map u8v) ++ (beB x.2.2.2.1.toNat 2).map u8v) ++ [u8v x.2.2.2.2.1, u8v x.2.2.2.2.2.1]) ++ (beB x.2.2.2.2.2.2.toNat 6).map u8v = (beB l.length 1 ++ (l.take (i + 1)).flatMap edB).map u8v := by
   have e1 : [Value.int .u8 x.1, Value.int .u8 x.2.1] = (beB x.1.toNat 1).map u8v ++ (beB x.2.1.toNat 1).map u8v := by
    rw [← be1_int Z64 Z64, ← be1_int Z64 Z64]; rfl
   have e2 : [u8v x.2.2.2.2.1, u8v x.2.2.2.2.2.1] = (beB x.2.2.2.2.1.toNat 1).map u8v ++ (beB x.2.2.2.2.2.1.toNat 1).map u8v := by
    rw [← be1_u8, ← be1_u8]; rfl
   rw [e1, e2, hcs, ← hsn]
   simp only [List.map_append, List.append_assoc]
  refine hc_any [blk b6 81 (editV x)] mixed 15 rfl ?_
  refine ha_v 0 rfl (ov_move rfl) rfl <| ha_v 1 rfl (ov_fieldA rfl) rfl <| ha_v 2 rfl (zw rfl rfl) rfl <| ha_v 3 rfl (ov_conv rfl Z31) rfl <| ?_
  refine ha_v 4 rfl (ov_fieldA rfl) rfl <| ha_v 5 rfl (zw rfl rfl) rfl <| ha_v 6 rfl (ov_conv rfl Z31) rfl <| ?_
  refine ha_v 9 rfl (ov_fieldA rfl) rfl <| ha_v 10 rfl (zw rfl rfl) rfl <| ha_v 11 rfl (ov_conv (m := ((x.2.2.1.toNat : Nat) : Int)) rfl (convN Z64 Z64)) rfl ?_
  refine ha_one 7 Z61 <| ho_n rfl (on_buildSliceN rfl rfl rfl) rfl fun b34 =>  ?_
  refine ha_one 8 Z61 <| ho_n rfl (on_appendR (A := A) (news := [.int .u8 x.1, .int .u8 x.2.1]) rfl rfl (SrcIs.blk (b := b34)) rfl Z49 Z63 Z64) rfl (fun q2 => ?_)
  refine ha_one 12 Z61 <| ho_kx (σ := { q : Option Addr × Nat // 0 < 4 → isA q.1 }) rfl Tryz.call84 rfl (fun w1 => zu fun D' _ _ _ => big_spec D' w1 x.2.2.1.toNat 4 Z64 Z63) ?_
  intro q3
  try rw [List.nil_append]
  refine ha_one 13 Z61 <| ho_n rfl (on_appendR (A := q2.1) (news := (beB x.2.2.1.toNat 4).map u8v) rfl rfl (SrcIs.rowR (A := q3.1.1) (fun _ => q3.2 Z63)) Z38 (u8_one _) Z63 Z64) rfl (fun q4 => ?_)
  refine ha_v 14 rfl (ov_assign rfl) rfl <| ha_done Z61 <| zt <| ?_
  refine hc_any [blk b6 81 (editV x)] mixed 17 rfl ?_
  refine ha_v 0 rfl (ov_move rfl) rfl <| ha_v 1 rfl (ov_fieldA rfl) rfl <| ha_v 2 rfl (zw rfl rfl) rfl <| ha_v 6 rfl (ov_fieldA rfl) rfl <| ha_v 7 rfl (zw rfl rfl) rfl <| ha_v 8 rfl (ov_fieldA rfl) rfl <| ha_v 9 rfl (zw rfl rfl) rfl <| ha_v 12 rfl (ov_fieldA rfl) rfl <| ha_v 13 rfl (zw rfl rfl) rfl <| ha_v 3 rfl (ov_conv (m := ((x.2.2.2.1.toNat : Nat) : Int)) rfl (convN Z64 Z64)) rfl ?_
  refine ha_two 4 10 Z61 ?_ ?_
  ·skip
   refine ho_kx (σ := { q : Option Addr × Nat // 0 < 2 → isA q.1 }) rfl Tryz.call84 rfl (fun w1 => zu fun D' _ _ _ => big_spec D' w1 x.2.2.2.1.toNat 2 Z64 Z63) ?_
   intro q5
   try rw [List.nil_append]
   refine ha_two 5 10 Z61 ?_ ?_
   ·skip
    refine ho_n rfl (on_appendR (A := q4.1) (news := (beB x.2.2.2.1.toNat 2).map u8v) rfl rfl (SrcIs.rowR (A := q5.1.1) (fun _ => q5.2 Z63)) Z38 (u8_one _) Z63 Z64) rfl (fun q6 => ?_)
    refine ha_one 10 Z61 <| ho_n rfl (on_buildSliceN rfl rfl rfl) rfl (fun b51 => ?_)
    refine ha_one 11 Z61 <| ho_n rfl (on_appendR (A := q6.1) (news := [u8v x.2.2.2.2.1, u8v x.2.2.2.2.2.1]) rfl rfl (SrcIs.blk (b := b51)) rfl Z44 Z63 Z64) rfl (fun q7 => ?_)
    refine ha_one 14 Z61 <| ho_kx (σ := { q : Option Addr × Nat // 0 < 6 → isA q.1 }) rfl Tryz.call84 rfl (fun w1 => zu fun D' _ _ _ => big_spec D' w1 x.2.2.2.2.2.2.toNat 6 Z64 Z63) ?_
    intro q8
    try rw [List.nil_append]
    refine ha_one 15 Z61 <| ho_n rfl (on_appendR (A := q7.1) (news := (beB x.2.2.2.2.2.2.toNat 6).map u8v) rfl rfl (SrcIs.rowR (A := q8.1.1) (fun _ => q8.2 Z63)) Z38 (u8_one _) Z63 Z64) rfl (fun q9 => ?_)
    refine ha_v 16 rfl (ov_assign rfl) rfl <| ha_done Z61 <| zb <| zt <| hc_region <| zm rfl <| zv (ov_add rfl rfl Z28) <| ?_
    refine zs rfl <| hl_nil <| hx_next hK1 ((i + 1, m + 2 + 4 + 2 + 2 + 6, ((((cs ++ [.int .u8 x.1, .int .u8 x.2.1]) ++ (beB x.2.2.1.toNat 4).map u8v) ++ (beB x.2.2.2.1.toNat 2).map u8v) ++ [u8v x.2.2.2.2.1, u8v x.2.2.2.2.2.1]) ++ (beB x.2.2.2.2.2.2.toNat 6).map u8v, q9)) (⟨⟨hlt, hn⟩, hm', hfin⟩) (hme) Z16 Z10
   skip
   refine ho_n rfl (on_buildSliceN rfl rfl rfl) rfl (fun b51 => ?_)
   refine ha_one 5 Z61 <| ho_n rfl (on_appendR (A := q4.1) (news := (beB x.2.2.2.1.toNat 2).map u8v) rfl rfl (SrcIs.rowR (A := q5.1.1) (fun _ => q5.2 Z63)) Z38 (u8_one _) Z63 Z64) rfl (fun q6 => ?_)
   refine ha_one 11 Z61 <| ho_n rfl (on_appendR (A := q6.1) (news := [u8v x.2.2.2.2.1, u8v x.2.2.2.2.2.1]) rfl rfl (SrcIs.blk (b := b51)) rfl Z44 Z63 Z64) rfl (fun q7 => ?_)
   refine ha_one 14 Z61 <| ho_kx (σ := { q : Option Addr × Nat // 0 < 6 → isA q.1 }) rfl Tryz.call84 rfl (fun w1 => zu fun D' _ _ _ => big_spec D' w1 x.2.2.2.2.2.2.toNat 6 Z64 Z63) ?_
   intro q8
   try rw [List.nil_append]
   refine ha_one 15 Z61 <| ho_n rfl (on_appendR (A := q7.1) (news := (beB x.2.2.2.2.2.2.toNat 6).map u8v) rfl rfl (SrcIs.rowR (A := q8.1.1) (fun _ => q8.2 Z63)) Z38 (u8_one _) Z63 Z64) rfl (fun q9 => ?_)
   refine ha_v 16 rfl (ov_assign rfl) rfl <| ha_done Z61 <| zb <| zt <| hc_region <| zm rfl <| zv (ov_add rfl rfl Z28) <| ?_
   refine zs rfl <| hl_nil <| hx_next hK1 ((i + 1, m + 2 + 4 + 2 + 2 + 6, ((((cs ++ [.int .u8 x.1, .int .u8 x.2.1]) ++ (beB x.2.2.1.toNat 4).map u8v) ++ (beB x.2.2.2.1.toNat 2).map u8v) ++ [u8v x.2.2.2.2.1, u8v x.2.2.2.2.2.1]) ++ (beB x.2.2.2.2.2.2.toNat 6).map u8v, q9)) (⟨⟨hlt, hn⟩, hm', hfin⟩) (hme) Z16 Z10
  skip
  refine ho_n rfl (on_buildSliceN rfl rfl rfl) rfl (fun b51 => ?_)
  refine ha_one 4 Z61 <| ho_kx (σ := { q : Option Addr × Nat // 0 < 2 → isA q.1 }) rfl Tryz.call84 rfl (fun w1 => zu fun D' _ _ _ => big_spec D' w1 x.2.2.2.1.toNat 2 Z64 Z63) ?_
  intro q5
  try rw [List.nil_append]
  refine ha_one 5 Z61 <| ho_n rfl (on_appendR (A := q4.1) (news := (beB x.2.2.2.1.toNat 2).map u8v) rfl rfl (SrcIs.rowR (A := q5.1.1) (fun _ => q5.2 Z63)) Z38 (u8_one _) Z63 Z64) rfl (fun q6 => ?_)
  refine ha_one 11 Z61 <| ho_n rfl (on_appendR (A := q6.1) (news := [u8v x.2.2.2.2.1, u8v x.2.2.2.2.2.1]) rfl rfl (SrcIs.blk (b := b51)) rfl Z44 Z63 Z64) rfl (fun q7 => ?_)
  refine ha_one 14 Z61 <| ho_kx (σ := { q : Option Addr × Nat // 0 < 6 → isA q.1 }) rfl Tryz.call84 rfl (fun w1 => zu fun D' _ _ _ => big_spec D' w1 x.2.2.2.2.2.2.toNat 6 Z64 Z63) ?_
  intro q8
  try rw [List.nil_append]
  refine ha_one 15 Z61 <| ho_n rfl (on_appendR (A := q7.1) (news := (beB x.2.2.2.2.2.2.toNat 6).map u8v) rfl rfl (SrcIs.rowR (A := q8.1.1) (fun _ => q8.2 Z63)) Z38 (u8_one _) Z63 Z64) rfl (fun q9 => ?_)
  refine ha_v 16 rfl (ov_assign rfl) rfl <| ha_done Z61 <| zb <| zt <| hc_region <| zm rfl <| zv (ov_add rfl rfl Z28) <| ?_
  refine zs rfl <| hl_nil <| hx_next hK1 ((i + 1, m + 2 + 4 + 2 + 2 + 6, ((((cs ++ [.int .u8 x.1, .int .u8 x.2.1]) ++ (beB x.2.2.1.toNat 4).map u8v) ++ (beB x.2.2.2.1.toNat 2).map u8v) ++ [u8v x.2.2.2.2.1, u8v x.2.2.2.2.2.1]) ++ (beB x.2.2.2.2.2.2.toNat 6).map u8v, q9)) (⟨⟨hlt, hn⟩, hm', hfin⟩) (hme) Z16 Z10
 have hie : i = l.length := by omega
 subst hie
 have hall' : okEds l := ⟨hl32, fun j hj => hall j hj hj⟩
 rw [List.take_length] at hcs
 have hcs : cs = (edsB l).map u8v := hcs
 have hm : m = (edsB l).length := by rw [hm, edsB_len]
 subst hcs; subst hm
 refine hc_exit <| ze <| ze <| hx_block_out <| zt <| hc_seq <| hc_region <| zm rfl <| zs rfl <| zs rfl <| zn <| zq <| ?_
 exact results_2 (.inr rfl) rfl rfl rfl fun w' H' => ⟨⟨((A, c), edsB l, 0), .inr ⟨hall', rfl, rfl⟩⟩, rfl, H'⟩
end Go.Proofs.YtjlolpmmpafjeaaGreat

set_option linter.unusedVariables false
set_option linter.unusedSimpArgs false
namespace Go.Proofs.YtjlolpmmpafjeaaGreat
open Slk
theorem num_spec (D : Nat → Prop) (w : World) (g t k : Nat) (s : RS) (hk : k ≤ 6) (H : Own D w w [blk g t [s.v, .bool s.bad]]) (HA : Old D w (Rep.rep s.rem [s.v])) :
  Calls Tryz.prog 89 #[.pointer (some ⟨g, 0, none⟩), .int .i64 k] w fun e w' => e = .returned (.int .u64 (getN s k)) ∧ Own D w w' [blk g t [(getS s k).v, .bool (getS s k).bad]] := by
 obtain ⟨A, cap, hv, hc1, hc2, HS⟩ := HA.openB
 obtain ⟨xs, v, bad⟩ := s
 dsimp only at *
 subst hv
 unfold getN getS
 dsimp only
 refine hc_enter (vs := [.pointer (some ⟨g, 0, none⟩), .int .i64 k]) Tryz.func89 rfl _ Tryz.ntmps89 rfl H ?_
 simp only [argSlots, Nat.zero_add]
 refine zg <| zs rfl <| zn <| hc_seq <| zg <| zm rfl <| zv (ov_nil rfl) <| zf rfl <| zl rfl rfl <| ?_
 refine zv Z25 <| ?_
 refine zm rfl <| zv (ov_lss rfl rfl) <| zn <| hc_cond rfl (fun h => ?_) (fun h => ?_)
 ·have hlt : xs.length < k := by omega
  rw [if_pos hlt, if_pos hlt]
  refine zg <| zm rfl <| zm rfl <| zv (ov_nil rfl) <| zf rfl <| ?_
  refine hl_u0 (on_storeN rfl rfl rfl rfl rfl) rfl rfl <| zv (ov_nil rfl) <| zf rfl <| hl_u0 (on_storeN rfl rfl rfl rfl rfl) rfl rfl <| zn <| ?_
  refine zg <| zs rfl <| zn <| zq <| zr <| ?_
  exact zz rfl rfl fun w' H' => ⟨rfl, H'⟩
 have hge : ¬ xs.length < k := by omega
 rw [if_neg hge, if_neg hge]
 refine zk <| zg <| zs rfl <| hl_nil <| zt <| hc_seq <| zg <| zs rfl <| hl_nil <| zt <| hc_block <| hc_loops2 (σ := Nat) [0, 1] rfl 6 (fun i => .int .i64 (i : Int)) 5 (fun i => .int .u64 ((numB (xs.take i) : Nat) : Int)) (fun i => i ≤ k) (fun i => k - i) (0) (Nat.zero_le _) rfl rfl ?_
 rintro i hj K1 hK1
 refine hc_seq <| zg <| zm rfl <| zm rfl <| zv (ov_lss rfl rfl) <| zn <| hc_cond rfl (fun h2 => ?_) (fun h2 => ?_)
 ·have hlt : i < xs.length := by omega
  have hA : isA A := HS.isA Z27
  have hcell : CellIs D w [blk g t [.slice A xs.length cap, .bool bad]] (ab A) (ao A + i * 1) (u8v xs[i]) := by
   rw [Nat.mul_one]
   exact (SrcIs.old HS).cell (by simp [hlt])
  have hx := xs[i].toNat_lt
  have hsn := numB_snoc xs i hlt
  have hb := numB_lt xs i Z64
  have hb3 : numB (xs.take i) < 72057594037927936 := Nat.lt_of_lt_of_le hb (by have : 256 ^ i ≤ 256 ^ 7 := Nat.pow_le_pow_right Z63 Z64; exact this)
  obtain ⟨m, hm⟩ : ∃ m, m = numB (xs.take i) := ⟨_, rfl⟩
  rw [← hm] at hsn hb3
  unfold u8v at hcell
  refine zk <| hc_seq <| hc_block <| hc_region <| zm rfl <| hl_v (ov_shl (m := ((m * 256 : Nat) : Int)) rfl rfl Z63 (by rw [← hm]; show IntKind.u64.wrap ((m : Int) * 256) = _; rw [show (m : Int) * 256 = ((m * 256 : Nat) : Int) by omega]; exact wrap_u64 Z64)) rfl ?_
  refine zm rfl <| zv (ov_nil rfl) <| zf rfl <| zl rfl rfl <| zm rfl <| zv (ov_idxS rfl Z62 rfl _ rfl Z64) <| ?_
  refine zv Z9 <| ?_
  refine zv (ov_conv rfl Z29) <| ?_
  refine hl_v (ov_add (m := ((numB (xs.take (i + 1)) : Nat) : Int)) rfl rfl (by rw [hsn, wrap_u64 Z64]; omega)) rfl ?_
  refine zs rfl <| hl_nil <| zb <| zt <| hc_region <| zm rfl <| zv (ov_add rfl rfl Z28) <| ?_
  refine zs rfl <| hl_nil <| hx_next hK1 (i + 1) Z64 Z64 Z16 Z10
 have hik : i = k := by omega
 subst hik
 refine hc_exit <| ze <| ze <| hx_block_out <| zt <| hc_seq <| hc_region <| zm rfl <| zm rfl <| zv (ov_nil rfl) <| zf rfl <| zl rfl rfl <| ?_
 refine zm rfl <| zv (ov_slice rfl _ _ (.inr ⟨_, _, rfl, rfl⟩) (.inl ⟨rfl, rfl⟩) Z64 Z64) <| zv (ov_nil rfl) <| zf rfl <| ?_
 refine hl_u0 (on_storeE [cutV (.slice A xs.length cap) i, .bool bad] rfl rfl (by simp) rfl rfl) rfl rfl ?_
 refine zn <| zg <| zm rfl <| zs rfl <| zn <| zq <| ?_
 exact zz rfl rfl fun w' H' => ⟨rfl, H'⟩
end Go.Proofs.YtjlolpmmpafjeaaGreat

set_option linter.unusedVariables false
set_option linter.unusedSimpArgs false
namespace Go.Proofs.YtjlolpmmpafjeaaGreat
open Slk
theorem getS_sticky (s : RS) (k : Nat) (h0 : 0 < k) (h : s.bad = true ∧ s.rem = []) : (getS s k).bad = true ∧ (getS s k).rem = [] := by
 unfold getS
 rw [if_pos (by rw [h.2]; exact h0)]
 exact ⟨rfl, rfl⟩
theorem getS_bad (s : RS) (k : Nat) (hs : s.bad = true → s.rem = []) : (getS s k).bad = true → (getS s k).rem = [] := by
 unfold getS
 split
 ·intro _; rfl
 intro h
 have : s.rem = [] := hs h
 show s.rem.drop k = []
 rw [this]; simp
theorem rdE_sticky (s : RS) (h : s.bad = true ∧ s.rem = []) : (rdE s).2.bad = true ∧ (rdE s).2.rem = [] :=
 getS_sticky _ 6 Z63 (getS_sticky _ 1 Z63 (getS_sticky _ 1 Z63 (getS_sticky _ 2 Z63 (getS_sticky _ 4 Z63 (getS_sticky _ 1 Z63 (getS_sticky _ 1 Z63 h))))))
theorem rdE_bad (s : RS) (hs : s.bad = true → s.rem = []) : (rdE s).2.bad = true → (rdE s).2.rem = [] :=
 getS_bad _ 6 (getS_bad _ 1 (getS_bad _ 1 (getS_bad _ 2 (getS_bad _ 4 (getS_bad _ 1 (getS_bad _ 1 hs))))))
theorem rdEs_bad (i : Nat) (s : RS) (hs : s.bad = true → s.rem = []) : (rdEs i s).2.bad = true → (rdEs i s).2.rem = [] := by
 induction i with
 | zero => exact hs
 | succ i ih => exact rdE_bad _ ih
theorem rdEs_sticky (i j : Nat) (hij : i ≤ j) (s : RS) (hs : s.bad = true → s.rem = []) (h : (rdEs i s).2.bad = true) : (rdEs j s).2.bad = true := by
 have : (rdEs j s).2.bad = true ∧ (rdEs j s).2.rem = [] := by
  induction j with
  | zero =>
   obtain rfl : i = 0 := by omega
   exact ⟨h, rdEs_bad 0 s hs h⟩
  | succ j ih =>
   rcases Nat.lt_or_ge i (j + 1) with h1 | h1
   ·exact rdE_sticky _ (ih Z64)
   ·obtain rfl : i = j + 1 := by omega
    exact ⟨h, rdEs_bad _ s hs h⟩
 exact this.1
def refP (xs : List UInt8) (s : RS) : Prop := (rdAll s).2.bad = false ∧ okEds (rdAll s).1 ∧ edsB (rdAll s).1 = xs
theorem RList_spec (D : Nat → Prop) (w : World) (v : Value) (xs : List UInt8) (HA : Old D w (Rep.rep xs [v])) :
  Calls Tryz.prog 55 #[v] w fun e w' => ∃ r : { r : (Option Addr × Nat) × List EditC × Int // (¬ refP xs ⟨xs, v, false⟩ ∧ r.2.1 = [] ∧ r.2.2 = 11) ∨ (refP xs ⟨xs, v, false⟩ ∧ r.2.1 = (rdAll ⟨xs, v, false⟩).1 ∧ r.2.2 = 0) }, e = .returned (.tuple #[.slice r.1.1.1 r.1.2.1.length r.1.1.2, .int .i64 r.1.2.2]) ∧ Own D w w' [row r.1.1.1 81 7 r.1.2.1.length r.1.1.2 (r.1.2.1.flatMap editV)] := by
 have HA0 := HA
 obtain ⟨A, cap, rfl, _, _, HSx⟩ := HA0.openB
 obtain ⟨s, hs⟩ : ∃ s : RS, s = ⟨xs, .slice A xs.length cap, false⟩ := ⟨_, rfl⟩
 have HA1 : Old D w (Rep.rep s.rem [s.v]) := by rw [hs]; exact HA
 rw [← hs]
 have hn : getN s 1 < 256 := getN_lt s 1
 have HA2 := old_get 1 HA1
 have hlen : ∀ i, (rdEs i (getS s 1)).1.length = i := fun i => rdEs_len _ _
 have hok := fun i => rdEs_ok i (getS s 1)
 have hs1b : (getS s 1).bad = true → (getS s 1).rem = [] := getS_bad s 1 (fun h => by rw [hs] at h; cases h)
 obtain ⟨s1, hs1⟩ : ∃ t, getS s 1 = t := ⟨_, rfl⟩
 obtain ⟨n, hnn⟩ : ∃ t, getN s 1 = t := ⟨_, rfl⟩
 have hall : rdAll s = rdEs n s1 := by rw [← hs1, ← hnn]
 rw [hs1] at HA2 hs1b
 simp only [hs1] at hlen hok
 rw [hnn] at hn
 refine hc_enter (vs := [.slice A xs.length cap]) Tryz.func55 rfl _ Tryz.ntmps55 rfl (Own.start D w) ?_
 simp only [argSlots, Nat.zero_add]
 refine zg <| zs rfl <| zs rfl <| zn <| zg <| zm rfl <| zv (ov_buildSN rfl rfl) <| ?_
 refine hl_new (on_boxN rfl rfl) rfl rfl rfl fun b11 =>  ?_
 refine zs rfl <| zn <| zg <| zs rfl <| zn <| hc_seq <| zg <| zm rfl <| HL.ent (show Ent _ [blk b11 188 [s.v, .bool s.bad]] by rw [hs]; exact Z8) ?_
 refine hl_c Tryz.call89 rfl rfl (fun w1 => zp (blk b11 188 [s.v, .bool s.bad]) fun D' hold _ H2 => num_spec D' w1 b11 188 1 s Z63 H2 (hold _ HA1)) ?_
 rw [hs1, hnn]
 refine zv (ov_conv rfl Z28) <| ?_
 refine zs rfl <| zn <| hc_block <| hc_loopK2 (σ := Nat × Option Addr × Nat) [0, 4] rfl 6 (fun q => .int .i64 ((n : Int) - (q.1 : Int))) 5 (fun q => .slice q.2.1 q.1 q.2.2) (fun q => [row q.2.1 81 7 q.1 q.2.2 ((rdEs q.1 s1).1.flatMap editV), blk b11 188 [(rdEs q.1 s1).2.v, .bool (rdEs q.1 s1).2.bad]]) (fun q => q.1 ≤ n) (fun q => n - q.1) ((0, none, 0)) (Nat.zero_le _) rfl rfl (Ent.nil_row 81 7) ?_
 rintro ⟨i, A, c⟩ hi K1 hK1
 dsimp only at hi ⊢
 have HAi := old_rdEs i HA2
 refine hc_seq <| zg <| zm rfl <| zv (ov_gtr rfl rfl) <| zm rfl <| hl_part (t := 17) rfl (fun p1 => ?_) (fun p1 => ?_)
 ·refine hl_on rfl rfl <| zm rfl <| hl_on rfl rfl <| zv (ov_nil rfl) <| hl_on rfl rfl <| zf rfl <| hl_on rfl rfl <| zl rfl rfl <| hl_on rfl rfl <| zv Z26 <| ?_
  refine zv (ov_pickT rfl rfl) <| zn <| hc_cond_bool rfl (fun p2 => ?_) (fun p2 => ?_)
  ·have hlt : i < n := by omega
   have hB : ∀ (s : RS) (k : Nat), k ≤ 6 → getN s k < 281474976710656 := fun s k hk => Nat.lt_of_lt_of_le (getN_lt s k) (by have : 256 ^ k ≤ 256 ^ 6 := Nat.pow_le_pow_right Z63 hk; exact this)
   have hce := rdE_cells (rdEs i s1).2
   have hs7 : (rdEs (i + 1) s1).2 = getS (getS (getS (getS (getS (getS (getS (rdEs i s1).2 1) 1) 4) 2) 1) 1) 6 := rfl
   have hl7 : (rdEs i s1).1.flatMap editV ++ editV (rdE (rdEs i s1).2).1 = (rdEs (i + 1) s1).1.flatMap editV := by
    show _ = ((rdEs i s1).1 ++ [(rdE (rdEs i s1).2).1]).flatMap editV
    rw [List.flatMap_append, List.flatMap_singleton]
   generalize (rdEs i s1).2 = r0 at *
   have K0 := HAi
   have K1 := old_get 1 K0
   have K2 := old_get 1 K1
   have K3 := old_get 4 K2
   have K4 := old_get 2 K3
   have K5 := old_get 1 K4
   have K6 := old_get 1 K5
   refine zk <| hc_seq <| hc_block <| hc_region <| zm rfl <| zm rfl <| hl_c Tryz.call89 rfl rfl (fun w1 => zp (blk b11 188 [r0.v, .bool r0.bad]) fun D' hold _ H2 => num_spec D' w1 b11 188 1 r0 Z63 H2 (hold _ K0)) ?_
   refine hl_v (ov_conv (m := ((getN r0 1 : Nat) : Int)) rfl (wrap_i64 (by have := hB r0 1 Z63; omega))) rfl ?_
   refine zm rfl <| hl_c Tryz.call89 rfl rfl (fun w1 => zp (blk b11 188 [(getS r0 1).v, .bool (getS r0 1).bad]) fun D' hold _ H2 => num_spec D' w1 b11 188 1 (getS r0 1) Z63 H2 (hold _ K1)) ?_
   refine hl_v (ov_conv (m := ((getN (getS r0 1) 1 : Nat) : Int)) rfl (wrap_i64 (by have := hB (getS r0 1) 1 Z63; omega))) rfl ?_
   refine zm rfl <| hl_c Tryz.call89 rfl rfl (fun w1 => zp (blk b11 188 [(getS (getS r0 1) 1).v, .bool (getS (getS r0 1) 1).bad]) fun D' hold _ H2 => num_spec D' w1 b11 188 4 (getS (getS r0 1) 1) Z63 H2 (hold _ K2)) ?_
   refine hl_v (ov_conv (m := ((getN (getS (getS r0 1) 1) 4 : Nat) : Int)) rfl (wrap_i64 (by have := hB (getS (getS r0 1) 1) 4 Z63; omega))) rfl ?_
   refine zm rfl <| hl_c Tryz.call89 rfl rfl (fun w1 => zp (blk b11 188 [(getS (getS (getS r0 1) 1) 4).v, .bool (getS (getS (getS r0 1) 1) 4).bad]) fun D' hold _ H2 => num_spec D' w1 b11 188 2 (getS (getS (getS r0 1) 1) 4) Z63 H2 (hold _ K3)) ?_
   refine hl_v (ov_conv (m := ((getN (getS (getS (getS r0 1) 1) 4) 2 : Nat) : Int)) rfl (wrap_i64 (by have := hB (getS (getS (getS r0 1) 1) 4) 2 Z63; omega))) rfl ?_
   refine zm rfl <| hl_c Tryz.call89 rfl rfl (fun w1 => zp (blk b11 188 [(getS (getS (getS (getS r0 1) 1) 4) 2).v, .bool (getS (getS (getS (getS r0 1) 1) 4) 2).bad]) fun D' hold _ H2 => num_spec D' w1 b11 188 1 (getS (getS (getS (getS r0 1) 1) 4) 2) Z63 H2 (hold _ K4)) ?_
   refine hl_v (ov_conv (m := ((getN (getS (getS (getS (getS r0 1) 1) 4) 2) 1 % 256 : Nat) : Int)) rfl (wrap8 _)) rfl <| zm rfl <| hl_c Tryz.call89 rfl rfl (fun w1 => zp (blk b11 188 [(getS (getS (getS (getS (getS r0 1) 1) 4) 2) 1).v, .bool (getS (getS (getS (getS (getS r0 1) 1) 4) 2) 1).bad]) fun D' hold _ H2 => num_spec D' w1 b11 188 1 (getS (getS (getS (getS (getS r0 1) 1) 4) 2) 1) Z63 H2 (hold _ K5)) ?_
   refine hl_v (ov_conv (m := ((getN (getS (getS (getS (getS (getS r0 1) 1) 4) 2) 1) 1 % 256 : Nat) : Int)) rfl (wrap8 _)) rfl <| zm rfl <| hl_c Tryz.call89 rfl rfl (fun w1 => zp (blk b11 188 [(getS (getS (getS (getS (getS (getS r0 1) 1) 4) 2) 1) 1).v, .bool (getS (getS (getS (getS (getS (getS r0 1) 1) 4) 2) 1) 1).bad]) fun D' hold _ H2 => num_spec D' w1 b11 188 6 (getS (getS (getS (getS (getS (getS r0 1) 1) 4) 2) 1) 1) Z63 H2 (hold _ K6)) ?_
   refine zv (ov_buildSN rfl rfl) <| ?_
   refine hl_new (on_buildSliceN rfl rfl rfl) rfl rfl rfl fun b48 =>  ?_
   rw [← hce]
   refine hl_new (on_appendR (A := A) (news := editV (rdE r0).1) rfl rfl (SrcIs.blk (b := b48)) rfl Z44 Z63 Z64) rfl rfl rfl (fun q2 => ?_)
   rw [hl7, ← hs7]
   refine zs rfl <| hl_nil <| zb <| zt <| hc_region <| zm rfl <| hl_v (ov_sub (m := (n : Int) - ((i + 1 : Nat) : Int)) rfl rfl Z36) rfl ?_
   refine zs rfl <| hl_nil <| hx_next hK1 ((i + 1, q2)) (hlt) (by show n - (i + 1) < n - i; omega) Z16 Z10
  have hX : (rdEs i s1).2.bad = false → i = n := fun h => by rw [h] at p2; cases p2
  refine hc_exit <| ze <| ze <| hx_block_out <| zt <| hc_seq <| hc_region <| zm rfl <| hl_call (σ := ResT (okEds (rdEs i s1).1) (edsB (rdEs i s1).1) (fun e => e = if 32 < (rdEs i s1).1.length then 3 else 11)) Tryz.call59 rfl rfl (fun w1 => zu fun D' _ hin _ => REdits_spec D' w1 _ (rdEs i s1).1 (by rw [hlen]; omega) (hin _ fun h hs ho => rep_row (A := A) hs (rdEs i s1).1 (hlen i).symm (repL_F.2 ⟨rfl, hok i⟩))) ?_
  intro s2
  try rw [List.nil_append]
  obtain ⟨⟨⟨A2, k2⟩, b2', e2⟩, hs2⟩ := s2
  dsimp only at hs2 ⊢
  refine HL.fact (fun w H => Own.factR A2 H) ?_
  rintro ⟨_, _, _, hA2⟩
  refine zm rfl <| zx rfl rfl <| zx rfl rfl <| zs rfl <| zs rfl <| hl_nil <| zt <| hc_seq <| zg <| zm rfl <| zv (ov_nil rfl) <| zf rfl <| zl rfl rfl <| zm rfl <| ?_
  refine hl_partb (t := 59) rfl (fun q1 => ?_) (fun q1 => ?_)
  ·have hno : ¬ refP xs s := fun h => by
    have h1 := rdEs_sticky i n hi s1 hs1b q1
    have h2 := h.1
    rw [hall, h1] at h2; cases h2
   refine zo rfl rfl <| zo rfl rfl <| zv (ov_pickT rfl rfl) <| zm rfl <| zo rfl rfl <| zo rfl rfl <| zo rfl rfl <| zo rfl rfl <| zo rfl rfl <| zv (ov_pickT rfl rfl) <| zn <| hc_cond_true rfl <| zg <| zs rfl <| zs rfl <| hl_nil <| zt <| zq <| zr <| ?_
   exact results_2 (.inr rfl) rfl rfl rfl fun w' H' => ⟨⟨((none, 0), [], 11), .inl ⟨hno, rfl, rfl⟩⟩, rfl, H'.ent (Ent.trans (Ent.nil_row 81 7) (Ent.cons (Ent.nil _)))⟩
  have hin' : i = n := hX q1
  have hall' : rdAll s = rdEs i s1 := by rw [hall, hin']
  rcases hs2 with ⟨hno2, rfl, hne2, he2⟩ | ⟨hg2, rfl, rfl⟩
  ·have hno : ¬ refP xs s := fun h => hno2 (by have := h.2.1; rw [hall'] at this; exact this)
   refine hl_on rfl rfl <| zm rfl <| hl_on rfl rfl <| zv (ov_neq rfl rfl) <| zv (ov_pickF rfl rfl) <| zm rfl <| hl_partT (t := 63) rfl (hne2) <| zo rfl rfl <| zo rfl rfl <| zo rfl rfl <| zo rfl rfl <| zo rfl rfl <| zv (ov_pickT rfl rfl) <| zn <| hc_cond_true rfl <| zg <| zs rfl <| zs rfl <| zn <| zq <| zr <| ?_
   exact results_2 (.inr rfl) rfl rfl rfl fun w' H' => ⟨⟨((none, 0), [], 11), .inl ⟨hno, rfl, rfl⟩⟩, rfl, H'.ent (Ent.trans (Ent.nil_row 81 7) (Ent.cons (Ent.nil _)))⟩
  refine hl_on rfl rfl <| zm rfl <| hl_on rfl rfl <| zv (ov_neq rfl rfl) <| zv (ov_pickF rfl rfl) <| zm rfl <| hl_partF (t := 63) rfl ((fun h => h rfl)) <| hl_on rfl rfl <| zm rfl <| hl_on rfl rfl <| hl_v (ov_string (xs := edsB (rdEs i s1).1) rfl (SrcIs.rowR (A := A2) hA2)) rfl <| hl_on rfl rfl <| zm rfl <| hl_on rfl rfl <| hl_v (ov_string (xs := xs) rfl (SrcIs.old HSx)) rfl <| hl_on rfl rfl <| zv Z22 <| ?_
  refine zv (ov_pickF rfl rfl) <| zn <| hc_cond rfl (fun q3 => ?_) (fun q3 => ?_)
  ·have hno : ¬ refP xs s := fun h => q3 (by have := h.2.2; rw [hall'] at this; exact this)
   refine zg <| zs rfl <| zs rfl <| zn <| zq <| zr <| ?_
   exact results_2 (.inr rfl) rfl rfl rfl fun w' H' => ⟨⟨((none, 0), [], 11), .inl ⟨hno, rfl, rfl⟩⟩, rfl, H'.ent (Ent.trans (Ent.nil_row 81 7) (Ent.cons (Ent.nil _)))⟩
  have hP : refP xs s := ⟨by rw [hall']; exact q1, by rw [hall']; exact hg2, by rw [hall']; exact Classical.not_not.1 q3⟩
  have hl1 : (rdAll s).1.length = i := by rw [hall']; exact hlen i
  refine zk <| zg <| zm rfl <| zs rfl <| zs rfl <| zn <| zq <| ?_
  exact results_2 (.inr rfl) rfl rfl rfl fun w' H' => ⟨⟨((A, c), (rdAll s).1, 0), .inr ⟨hP, rfl, rfl⟩⟩, by simp only [hl1], by simp only [hall', hlen]; exact H'.ent Z8⟩
 have hX : (rdEs i s1).2.bad = false → i = n := fun _ => by omega
 refine zo rfl rfl <| zo rfl rfl <| zo rfl rfl <| zo rfl rfl <| zo rfl rfl <| zv (ov_pickF rfl rfl) <| zn <| hc_cond_false rfl <| hc_exit <| ze <| ze <| hx_block_out <| zt <| zg <| zm rfl <| hl_call (σ := ResT (okEds (rdEs i s1).1) (edsB (rdEs i s1).1) (fun e => e = if 32 < (rdEs i s1).1.length then 3 else 11)) Tryz.call59 rfl rfl (fun w1 => zu fun D' _ hin _ => REdits_spec D' w1 _ (rdEs i s1).1 (by rw [hlen]; omega) (hin _ fun h hs ho => rep_row (A := A) hs (rdEs i s1).1 (hlen i).symm (repL_F.2 ⟨rfl, hok i⟩))) ?_
 intro s2
 try rw [List.nil_append]
 obtain ⟨⟨⟨A2, k2⟩, b2', e2⟩, hs2⟩ := s2
 dsimp only at hs2 ⊢
 refine HL.fact (fun w H => Own.factR A2 H) ?_
 rintro ⟨_, _, _, hA2⟩
 refine zm rfl <| zx rfl rfl <| zx rfl rfl <| zs rfl <| zs rfl <| hl_nil <| zt <| hc_seq <| zg <| zm rfl <| zv (ov_nil rfl) <| zf rfl <| zl rfl rfl <| zm rfl <| ?_
 refine hl_partb (t := 59) rfl (fun q1 => ?_) (fun q1 => ?_)
 ·have hno : ¬ refP xs s := fun h => by
   have h1 := rdEs_sticky i n hi s1 hs1b q1
   have h2 := h.1
   rw [hall, h1] at h2; cases h2
  refine zo rfl rfl <| zo rfl rfl <| zv (ov_pickT rfl rfl) <| zm rfl <| zo rfl rfl <| zo rfl rfl <| zo rfl rfl <| zo rfl rfl <| zo rfl rfl <| zv (ov_pickT rfl rfl) <| zn <| hc_cond_true rfl <| zg <| zs rfl <| zs rfl <| hl_nil <| zt <| zq <| zr <| ?_
  exact results_2 (.inr rfl) rfl rfl rfl fun w' H' => ⟨⟨((none, 0), [], 11), .inl ⟨hno, rfl, rfl⟩⟩, rfl, H'.ent (Ent.trans (Ent.nil_row 81 7) (Ent.cons (Ent.nil _)))⟩
 have hin' : i = n := hX q1
 have hall' : rdAll s = rdEs i s1 := by rw [hall, hin']
 rcases hs2 with ⟨hno2, rfl, hne2, he2⟩ | ⟨hg2, rfl, rfl⟩
 ·have hno : ¬ refP xs s := fun h => hno2 (by have := h.2.1; rw [hall'] at this; exact this)
  refine hl_on rfl rfl <| zm rfl <| hl_on rfl rfl <| zv (ov_neq rfl rfl) <| zv (ov_pickF rfl rfl) <| zm rfl <| hl_partT (t := 63) rfl (hne2) <| zo rfl rfl <| zo rfl rfl <| zo rfl rfl <| zo rfl rfl <| zo rfl rfl <| zv (ov_pickT rfl rfl) <| zn <| hc_cond_true rfl <| zg <| zs rfl <| zs rfl <| zn <| zq <| zr <| ?_
  exact results_2 (.inr rfl) rfl rfl rfl fun w' H' => ⟨⟨((none, 0), [], 11), .inl ⟨hno, rfl, rfl⟩⟩, rfl, H'.ent (Ent.trans (Ent.nil_row 81 7) (Ent.cons (Ent.nil _)))⟩
 refine hl_on rfl rfl <| zm rfl <| hl_on rfl rfl <| zv (ov_neq rfl rfl) <| zv (ov_pickF rfl rfl) <| zm rfl <| hl_partF (t := 63) rfl ((fun h => h rfl)) <| hl_on rfl rfl <| zm rfl <| hl_on rfl rfl <| hl_v (ov_string (xs := edsB (rdEs i s1).1) rfl (SrcIs.rowR (A := A2) hA2)) rfl <| hl_on rfl rfl <| zm rfl <| hl_on rfl rfl <| hl_v (ov_string (xs := xs) rfl (SrcIs.old HSx)) rfl <| hl_on rfl rfl <| zv Z22 <| ?_
 refine zv (ov_pickF rfl rfl) <| zn <| hc_cond rfl (fun q3 => ?_) (fun q3 => ?_)
 ·have hno : ¬ refP xs s := fun h => q3 (by have := h.2.2; rw [hall'] at this; exact this)
  refine zg <| zs rfl <| zs rfl <| zn <| zq <| zr <| ?_
  exact results_2 (.inr rfl) rfl rfl rfl fun w' H' => ⟨⟨((none, 0), [], 11), .inl ⟨hno, rfl, rfl⟩⟩, rfl, H'.ent (Ent.trans (Ent.nil_row 81 7) (Ent.cons (Ent.nil _)))⟩
 have hP : refP xs s := ⟨by rw [hall']; exact q1, by rw [hall']; exact hg2, by rw [hall']; exact Classical.not_not.1 q3⟩
 have hl1 : (rdAll s).1.length = i := by rw [hall']; exact hlen i
 refine zk <| zg <| zm rfl <| zs rfl <| zs rfl <| zn <| zq <| ?_
 exact results_2 (.inr rfl) rfl rfl rfl fun w' H' => ⟨⟨((A, c), (rdAll s).1, 0), .inr ⟨hP, rfl, rfl⟩⟩, by simp only [hl1], by simp only [hall', hlen]; exact H'.ent Z8⟩
end Go.Proofs.YtjlolpmmpafjeaaGreat

set_option linter.unusedVariables false
set_option linter.unusedSimpArgs false
namespace Go.Proofs.YtjlolpmmpafjeaaGreat
open Slk
end Go.Proofs.YtjlolpmmpafjeaaGreat

set_option linter.unusedVariables false
set_option linter.unusedSimpArgs false
namespace Go.Proofs.YtjlolpmmpafjeaaGreat
open Slk
theorem numB_push (xs : List UInt8) (x : UInt8) : numB (xs ++ [x]) = numB xs * 256 + x.toNat := by
 unfold numB
 rw [List.foldl_append]; rfl
theorem beB_push (n k : Nat) (x : UInt8) : beB (n * 256 + x.toNat) (k + 1) = beB n k ++ [x] := by
 unfold beB
 rw [List.range_succ, List.map_append, List.map_cons, List.map_nil]
 congr 1
 ·refine List.map_congr_left fun i hi => ?_
  have hi : i < k := List.mem_range.1 hi
  congr 1
  have e : 8 * (k + 1 - 1 - i) = 8 + 8 * (k - 1 - i) := by omega
  rw [e, Nat.pow_add, ← Nat.div_div_eq_div_mul]
  congr 1
  have := x.toNat_lt
  omega
 ·have e : 8 * (k + 1 - 1 - k) = 0 := by omega
  rw [e]
  have := x.toNat_lt
  congr 1
  apply UInt8.toNat_inj.1
  rw [UInt8.toNat_ofNat']
  simp only [Nat.pow_zero, Nat.div_one]
  omega
theorem ofNat32_get (s : RS) : (UInt32.ofNat (getN s 4)).toNat = getN s 4 := by
 have := getN_lt s 4
 rw [UInt32.toNat_ofNat']
 omega
theorem ofNat64_get (s : RS) : (UInt64.ofNat (getN s 6)).toNat = getN s 6 := by
 have := getN_lt s 6
 rw [UInt64.toNat_ofNat']
 omega
end Go.Proofs.YtjlolpmmpafjeaaGreat
