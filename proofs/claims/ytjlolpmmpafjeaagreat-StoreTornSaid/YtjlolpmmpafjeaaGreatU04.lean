import Derived.Test.YtjlolpmmpafjeaaGreatU03
set_option linter.unusedVariables false
set_option linter.unusedSimpArgs false
namespace Go.Proofs.YtjlolpmmpafjeaaGreat
open CN
def BE (n k : Nat) : List UInt8 := (List.range k).map fun i => UInt8.ofNat (n / 2 ^ (8 * (k - 1 - i)))
theorem IV (n k : Nat) : (BE n k).length = k := by simp [BE]
theorem eE (n k i : Nat) (h : i < k) : (BE n k).take (i + 1) = (BE n k).take i ++ [UInt8.ofNat (n / 2 ^ (8 * (k - 1 - i)))] := by
 have hl : i < (BE n k).length := by rw [IV]; exact h
 rw [List.take_succ_eq_append_getElem hl]
 simp [BE]
theorem NU (m : Nat) : AU (UInt8.ofNat m) = .int .u8 ((m % 256 : Nat) : Int) := by simp [AU]
theorem RL (m : Nat) : IntKind.u8.wrap (m : Int) = ((m % 256 : Nat) : Int) := by
 show ((m : Int) % 2 ^ 8) = _
 omega
def FT (g : Nat) (xs : List UInt8) : AQ := GQ fun q : Option Addr × Nat => [AI g 203 [.slice q.1 xs.length q.2], row q.1 5 1 xs.length q.2 (xs.map AU)]
theorem H7 (D : Nat → Prop) (w : World) (g n k : Nat) (xs : List UInt8) (hn : n < 18446744073709551616) (hk : k ≤ 6) (hx : xs.length ≤ 1000000) (H : AH D w w [FT g xs]) :
  Calls Tryz.prog 137 #[.pointer (some ⟨g, 0, none⟩), .int .u64 n, .int .i64 k] w fun e w' => e = .returned (.tuple #[]) ∧ AH D w w' [FT g (xs ++ BE n k)] := by
 obtain ⟨⟨A0, c0⟩, H⟩ := AH.exs H
 refine BZ (vs := [.pointer (some ⟨g, 0, none⟩), .int .u64 n, .int .i64 k]) Tryz.func137 rfl _ Tryz.ntmps137 rfl H ?_
 simp only [BX, Nat.zero_add]
 refine HC.AK (l' := [AI g 203 [.slice A0 xs.length c0], row A0 5 1 xs.length c0 (xs.map AU)]) (fun _ h => h) ?_
 refine zg <| zm rfl <| zm rfl <| zn <| BK <| GL (σ := Nat × Nat × List Value × Option Addr × Nat) [0, 1, 2, 7] rfl 8 (fun s => .int .i64 (s.1 : Int)) (fun s => [AI g 203 [.slice s.2.2.2.1 s.2.1 s.2.2.2.2], row s.2.2.2.1 5 1 s.2.1 s.2.2.2.2 s.2.2.1]) (fun s => s.1 ≤ k ∧ s.2.1 = xs.length + s.1 ∧ s.2.2.1 = (xs ++ (BE n k).take s.1).map AU) (fun s => k - s.1) ((0, xs.length, xs.map AU, A0, c0)) (⟨Nat.zero_le _, rfl, by simp⟩) rfl BL ?_
 rintro ⟨i, m, cs, A, c⟩ hj_ K1 hK1
 dsimp only at hj_ ⊢
 obtain ⟨hi, hm, hcs⟩ := hj_
 refine zg <| zv (B7 rfl rfl) <| zn <| AG <| BP rfl (fun h => ?_) (fun h => ?_)
 ·have hlt : i < k := by omega
  have hcs' : cs ++ [.int .u8 ((n / 2 ^ (8 * (k - 1 - i)) % 256 : Nat) : Int)] = (xs ++ (BE n k).take (i + 1)).map AU := by
   rw [hcs, eE n k i hlt, ← NU]; simp
  have hm' : m + 1 = xs.length + (i + 1) := by omega
  have hme : k - (i + 1) < k - i := by omega
  refine zk <| AG <| BK <| zg <| zm rfl <| zs rfl <| zn <| EF [] mixed 18 rfl ?_
  refine AE 0 rfl (AO rfl) rfl <| AE 1 rfl (AO rfl) rfl <| AE 2 rfl (AY rfl) rfl <| AE 3 rfl (AP rfl) rfl <| AE 5 rfl (AO rfl) rfl <| AE 6 rfl (AO rfl) rfl <| AE 7 rfl (FY rfl rfl BO) rfl <| ?_
  refine AE 8 rfl (AO rfl) rfl <| AE 9 rfl (FY rfl rfl BO) rfl <| ?_
  refine AE 10 rfl (P8 rfl rfl BO) rfl <| ?_
  refine AE 11 rfl (JT (m := ((n / 2 ^ (8 * (k - 1 - i)) : Nat) : Int)) rfl rfl AA (QH n (8 * (k - 1 - i)) _ 64 AA)) rfl ?_
  refine AE 12 rfl (CD (m := ((n / 2 ^ (8 * (k - 1 - i)) % 256 : Nat) : Int)) rfl (RL _)) rfl <| DE 4 13 AB ?_ ?_
  ·skip
   refine CW rfl (zw rfl rfl) rfl <| AL 13 AB <| BC rfl (BS rfl rfl rfl) rfl fun b24 =>  ?_
   refine AL 14 AB <| BC rfl (BT (A := A) (news := [.int .u8 ((n / 2 ^ (8 * (k - 1 - i)) % 256 : Nat) : Int)]) rfl rfl (BB.AI (b := b24)) rfl CL AF AA) rfl (fun q2 => ?_)
   refine AE 15 rfl (AY rfl) rfl <| AE 16 rfl (AP rfl) rfl <| AL 17 AB <| CB rfl (CI [.slice q2.1 (m + 1) q2.2] rfl rfl (by simp) rfl rfl) rfl ?_
   refine BY AB <| zb <| zt <| AR <| zv (BM rfl rfl BO) <| ?_
   refine zm rfl <| AS <| B5 hK1 ((i + 1, m + 1, cs ++ [.int .u8 ((n / 2 ^ (8 * (k - 1 - i)) % 256 : Nat) : Int)], q2)) (⟨hlt, hm', hcs'⟩) (hme) BD BL
  skip
  refine BC rfl (BS rfl rfl rfl) rfl (fun b24 => ?_)
  refine AL 4 AB <| CW rfl (zw rfl rfl) rfl <| AL 14 AB <| BC rfl (BT (A := A) (news := [.int .u8 ((n / 2 ^ (8 * (k - 1 - i)) % 256 : Nat) : Int)]) rfl rfl (BB.AI (b := b24)) rfl CL AF AA) rfl (fun q2 => ?_)
  refine AE 15 rfl (AY rfl) rfl <| AE 16 rfl (AP rfl) rfl <| AL 17 AB <| CB rfl (CI [.slice q2.1 (m + 1) q2.2] rfl rfl (by simp) rfl rfl) rfl ?_
  refine BY AB <| zb <| zt <| AR <| zv (BM rfl rfl BO) <| ?_
  refine zm rfl <| AS <| B5 hK1 ((i + 1, m + 1, cs ++ [.int .u8 ((n / 2 ^ (8 * (k - 1 - i)) % 256 : Nat) : Int)], q2)) (⟨hlt, hm', hcs'⟩) (hme) BD BL
 have hik : i = k := by omega
 subst hik
 refine CF <| ze <| ze <| CE <| ?_
 have hl : (xs ++ BE n i).length = xs.length + i := by rw [List.length_append, IV]
 rw [List.take_of_length_le U9] at hcs
 rw [← hl] at hm
 subst hm; subst hcs
 exact M9 (.inl rfl) rfl fun w' H' => ⟨rfl, H'.AK (AD.GQ (L := fun q : Option Addr × Nat => [AI g 203 [.slice q.1 (xs ++ BE n i).length q.2], row q.1 5 1 (xs ++ BE n i).length q.2 ((xs ++ BE n i).map AU)]) (l := []) (A, c))⟩
end Go.Proofs.YtjlolpmmpafjeaaGreat

set_option linter.unusedVariables false
set_option linter.unusedSimpArgs false
namespace Go.Proofs.YtjlolpmmpafjeaaGreat
open CN
instance : Flat C5 where
 f := DL
 ok x := DO x.1 ∧ DO x.2.1 ∧ DO x.2.2.1 ∧ DO x.2.2.2.1
 iff := by
  intro x c h
  constructor
  ·rintro ⟨c1, d1, rfl, k1, c2, d2, rfl, k2, c3, d3, rfl, k3, c4, d4, rfl, k4, c5, d5, rfl, k5, c6, c7, rfl, k6, k7⟩
   obtain ⟨k1, o1⟩ : c1 = [.int .i64 x.1] ∧ DO x.1 := k1
   obtain ⟨k2, o2⟩ : c2 = [.int .i64 x.2.1] ∧ DO x.2.1 := k2
   obtain ⟨k3, o3⟩ : c3 = [.int .i64 x.2.2.1] ∧ DO x.2.2.1 := k3
   obtain ⟨k4, o4⟩ : c4 = [.int .i64 x.2.2.2.1] ∧ DO x.2.2.2.1 := k4
   have k5 : c5 = [AU x.2.2.2.2.1] := k5
   have k6 : c6 = [AU x.2.2.2.2.2.1] := k6
   have k7 : c7 = [.int .u64 (x.2.2.2.2.2.2.toNat : Int)] := k7
   subst k1; subst k2; subst k3; subst k4; subst k5; subst k6; subst k7
   exact ⟨rfl, o1, o2, o3, o4⟩
  ·rintro ⟨rfl, o1, o2, o3, o4⟩
   exact ⟨[.int .i64 x.1], _, rfl, ⟨rfl, o1⟩, [.int .i64 x.2.1], _, rfl, ⟨rfl, o2⟩, [.int .i64 x.2.2.1], _, rfl, ⟨rfl, o3⟩, [.int .i64 x.2.2.2.1], _, rfl, ⟨rfl, o4⟩, [AU x.2.2.2.2.1], _, rfl, rfl, [AU x.2.2.2.2.2.1], [.int .u64 (x.2.2.2.2.2.2.toNat : Int)], rfl, rfl, rfl⟩
def FL (e : C5) : Prop := 1 ≤ e.1 ∧ e.1 ≤ 10 ∧ 0 ≤ e.2.1 ∧ e.2.1 < 256 ∧ 0 ≤ e.2.2.1 ∧ e.2.2.1 < 4294967296 ∧ 0 ≤ e.2.2.2.1 ∧ e.2.2.2.1 < 65536 ∧ e.2.2.2.2.2.2.toNat < 281474976710656
set_option maxRecDepth 20000 in
theorem nW (D : Nat → Prop) (w : World) (e : C5) : Calls Tryz.prog 136 #[.agg (DL e).toArray] w fun r w' => ∃ b : EX (FL e), r = .returned (.bool b.1) ∧ AH D w w' [] := by
 refine BZ (vs := [.agg (DL e).toArray]) Tryz.func136 rfl _ Tryz.ntmps136 rfl (AH.start D w) ?_
 simp only [BX, Nat.zero_add]
 refine zg <| AV (EE rfl rfl) rfl rfl rfl fun b1 =>  ?_
 refine zs rfl <| zn <| zg <| zf rfl <| ?_
 refine zl rfl rfl <| zv (GN rfl rfl) <| zm rfl <| DB (t := 6) rfl (fun h1 => ?_) (fun h1 => ?_)
 ·skip
  refine AJ rfl rfl <| zf rfl <| AJ rfl rfl <| zl rfl rfl <| AJ rfl rfl <| zv (LB rfl rfl) <| zv (BF rfl rfl) <| zm rfl <| ?_
  refine DB (t := 11) rfl (fun h2 => ?_) (fun h2 => ?_)
  ·skip
   refine AJ rfl rfl <| zf rfl <| AJ rfl rfl <| zl rfl rfl <| AJ rfl rfl <| zv (GN rfl rfl) <| zv (BF rfl rfl) <| zm rfl <| ?_
   refine DB (t := 16) rfl (fun h3 => ?_) (fun h3 => ?_)
   ·skip
    refine AJ rfl rfl <| zf rfl <| AJ rfl rfl <| zl rfl rfl <| AJ rfl rfl <| zv (B7 rfl rfl) <| zv (BF rfl rfl) <| zm rfl <| ?_
    refine DB (t := 21) rfl (fun h4 => ?_) (fun h4 => ?_)
    ·skip
     refine AJ rfl rfl <| zf rfl <| AJ rfl rfl <| zl rfl rfl <| AJ rfl rfl <| zv (GN rfl rfl) <| zv (BF rfl rfl) <| zm rfl <| ?_
     refine DB (t := 26) rfl (fun h5 => ?_) (fun h5 => ?_)
     ·skip
      refine AJ rfl rfl <| zf rfl <| AJ rfl rfl <| zl rfl rfl <| AJ rfl rfl <| zv (B7 rfl rfl) <| zv (BF rfl rfl) <| zm rfl <| ?_
      refine DB (t := 31) rfl (fun h6 => ?_) (fun h6 => ?_)
      ·skip
       refine AJ rfl rfl <| zf rfl <| AJ rfl rfl <| zl rfl rfl <| AJ rfl rfl <| zv (GN rfl rfl) <| zv (BF rfl rfl) <| zm rfl <| ?_
       refine DB (t := 36) rfl (fun h7 => ?_) (fun h7 => ?_)
       ·skip
        refine AJ rfl rfl <| zf rfl <| AJ rfl rfl <| zl rfl rfl <| AJ rfl rfl <| zv (B7 rfl rfl) <| zv (BF rfl rfl) <| zm rfl <| ?_
        refine DB (t := 41) rfl (fun h8 => ?_) (fun h8 => ?_)
        ·skip
         refine AJ rfl rfl <| zf rfl <| AJ rfl rfl <| zl rfl rfl <| AJ rfl rfl <| zv (B7 rfl rfl) <| ?_
         refine DB (t := 44) rfl (fun h9 => ?_) (fun h9 => ?_)
         ·have hyes : FL e := ⟨h1, h2, h3, AA, h5, h6, h7, h8, by omega⟩
          refine zv (BF rfl rfl) <| zs rfl <| zn <| zq <| ?_
          exact zz rfl rfl fun w' H' => ⟨bT hyes, rfl, H'.AK (AD.nil _)⟩
         have hno : ¬ FL e := fun h => h9 (by have := h.2.2.2.2.2.2.2.2; omega)
         refine zv (BF rfl rfl) <| zs rfl <| zn <| zq <| ?_
         exact zz rfl rfl fun w' H' => ⟨bF hno, rfl, H'.AK (AD.nil _)⟩
        have hno : ¬ FL e := fun h => h8 (by have := h.2.2.2.2.2.2.2.1; omega)
        refine zo rfl rfl <| zo rfl rfl <| zo rfl rfl <| zv (A8 rfl rfl) <| zs rfl <| AS <| zt <| zq <| ?_
        exact zz rfl rfl fun w' H' => ⟨bF hno, rfl, H'.AK (AD.nil _)⟩
       have hno : ¬ FL e := fun h => h7 (by have := h.2.2.2.2.2.2.1; omega)
       refine zo rfl rfl <| zo rfl rfl <| zo rfl rfl <| zv (A8 rfl rfl) <| zm rfl <| zo rfl rfl <| zo rfl rfl <| zo rfl rfl <| zv (A8 rfl rfl) <| zs rfl <| zn <| zq <| ?_
       exact zz rfl rfl fun w' H' => ⟨bF hno, rfl, H'.AK (AD.nil _)⟩
      have hno : ¬ FL e := fun h => h6 (by have := h.2.2.2.2.2.1; omega)
      refine zo rfl rfl <| zo rfl rfl <| zo rfl rfl <| zv (A8 rfl rfl) <| zm rfl <| zo rfl rfl <| zo rfl rfl <| zo rfl rfl <| zv (A8 rfl rfl) <| zm rfl <| zo rfl rfl <| zo rfl rfl <| zo rfl rfl <| zv (A8 rfl rfl) <| zs rfl <| zn <| zq <| ?_
      exact zz rfl rfl fun w' H' => ⟨bF hno, rfl, H'.AK (AD.nil _)⟩
     have hno : ¬ FL e := fun h => h5 (by have := h.2.2.2.2.1; omega)
     refine zo rfl rfl <| zo rfl rfl <| zo rfl rfl <| zv (A8 rfl rfl) <| zm rfl <| zo rfl rfl <| zo rfl rfl <| zo rfl rfl <| zv (A8 rfl rfl) <| zm rfl <| zo rfl rfl <| zo rfl rfl <| zo rfl rfl <| zv (A8 rfl rfl) <| zm rfl <| zo rfl rfl <| zo rfl rfl <| zo rfl rfl <| zv (A8 rfl rfl) <| zs rfl <| zn <| zq <| ?_
     exact zz rfl rfl fun w' H' => ⟨bF hno, rfl, H'.AK (AD.nil _)⟩
    have hno : ¬ FL e := fun h => h4 (by have := h.2.2.2.1; omega)
    refine zo rfl rfl <| zo rfl rfl <| zo rfl rfl <| zv (A8 rfl rfl) <| zm rfl <| zo rfl rfl <| zo rfl rfl <| zo rfl rfl <| zv (A8 rfl rfl) <| zm rfl <| zo rfl rfl <| zo rfl rfl <| zo rfl rfl <| zv (A8 rfl rfl) <| zm rfl <| zo rfl rfl <| zo rfl rfl <| zo rfl rfl <| zv (A8 rfl rfl) <| zm rfl <| zo rfl rfl <| zo rfl rfl <| zo rfl rfl <| zv (A8 rfl rfl) <| zs rfl <| zn <| zq <| ?_
    exact zz rfl rfl fun w' H' => ⟨bF hno, rfl, H'.AK (AD.nil _)⟩
   have hno : ¬ FL e := fun h => h3 (by have := h.2.2.1; omega)
   refine zo rfl rfl <| zo rfl rfl <| zo rfl rfl <| zv (A8 rfl rfl) <| zm rfl <| zo rfl rfl <| zo rfl rfl <| zo rfl rfl <| zv (A8 rfl rfl) <| zm rfl <| zo rfl rfl <| zo rfl rfl <| zo rfl rfl <| zv (A8 rfl rfl) <| zm rfl <| zo rfl rfl <| zo rfl rfl <| zo rfl rfl <| zv (A8 rfl rfl) <| zm rfl <| zo rfl rfl <| zo rfl rfl <| zo rfl rfl <| zv (A8 rfl rfl) <| zm rfl <| zo rfl rfl <| zo rfl rfl <| zo rfl rfl <| zv (A8 rfl rfl) <| zs rfl <| zn <| zq <| ?_
   exact zz rfl rfl fun w' H' => ⟨bF hno, rfl, H'.AK (AD.nil _)⟩
  have hno : ¬ FL e := fun h => h2 (by have := h.2.1; omega)
  refine zo rfl rfl <| zo rfl rfl <| zo rfl rfl <| zv (A8 rfl rfl) <| zm rfl <| zo rfl rfl <| zo rfl rfl <| zo rfl rfl <| zv (A8 rfl rfl) <| zm rfl <| zo rfl rfl <| zo rfl rfl <| zo rfl rfl <| zv (A8 rfl rfl) <| zm rfl <| zo rfl rfl <| zo rfl rfl <| zo rfl rfl <| zv (A8 rfl rfl) <| zm rfl <| zo rfl rfl <| zo rfl rfl <| zo rfl rfl <| zv (A8 rfl rfl) <| zm rfl <| zo rfl rfl <| zo rfl rfl <| zo rfl rfl <| zv (A8 rfl rfl) <| zm rfl <| zo rfl rfl <| zo rfl rfl <| zo rfl rfl <| zv (A8 rfl rfl) <| zs rfl <| AS <| zt <| zq <| ?_
  exact zz rfl rfl fun w' H' => ⟨bF hno, rfl, H'.AK (AD.nil _)⟩
 have hno : ¬ FL e := fun h => h1 (by have := h.1; omega)
 refine zo rfl rfl <| zo rfl rfl <| zo rfl rfl <| zv (A8 rfl rfl) <| zm rfl <| zo rfl rfl <| zo rfl rfl <| zo rfl rfl <| zv (A8 rfl rfl) <| zm rfl <| zo rfl rfl <| zo rfl rfl <| zo rfl rfl <| zv (A8 rfl rfl) <| zm rfl <| zo rfl rfl <| zo rfl rfl <| zo rfl rfl <| zv (A8 rfl rfl) <| zm rfl <| zo rfl rfl <| zo rfl rfl <| zo rfl rfl <| zv (A8 rfl rfl) <| zm rfl <| zo rfl rfl <| zo rfl rfl <| zo rfl rfl <| zv (A8 rfl rfl) <| zm rfl <| zo rfl rfl <| zo rfl rfl <| zo rfl rfl <| zv (A8 rfl rfl) <| zm rfl <| zo rfl rfl <| ?_
 refine zo rfl rfl <| zo rfl rfl <| zv (A8 rfl rfl) <| zs rfl <| zn <| zq <| ?_
 exact zz rfl rfl fun w' H' => ⟨bF hno, rfl, H'.AK (AD.nil _)⟩
set_option maxRecDepth 20000 in
theorem nZ (D : Nat → Prop) (w : World) (e : C5) : Calls Tryz.prog 101 #[.agg (DL e).toArray] w fun r w' => ∃ b : EX (FL e), r = .returned (.bool b.1) ∧ AH D w w' [] := by
 refine BZ (vs := [.agg (DL e).toArray]) Tryz.func101 rfl _ Tryz.ntmps101 rfl (AH.start D w) ?_
 simp only [BX, Nat.zero_add]
 refine zg <| AV (EE rfl rfl) rfl rfl rfl fun b1 =>  ?_
 refine zs rfl <| zn <| zg <| zf rfl <| ?_
 refine zl rfl rfl <| zv (GN rfl rfl) <| zm rfl <| DB (t := 6) rfl (fun h1 => ?_) (fun h1 => ?_)
 ·skip
  refine AJ rfl rfl <| zf rfl <| AJ rfl rfl <| zl rfl rfl <| AJ rfl rfl <| zv (LB rfl rfl) <| zv (BF rfl rfl) <| zm rfl <| ?_
  refine DB (t := 11) rfl (fun h2 => ?_) (fun h2 => ?_)
  ·skip
   refine AJ rfl rfl <| zf rfl <| AJ rfl rfl <| zl rfl rfl <| AJ rfl rfl <| zv (GN rfl rfl) <| zv (BF rfl rfl) <| zm rfl <| ?_
   refine DB (t := 16) rfl (fun h3 => ?_) (fun h3 => ?_)
   ·skip
    refine AJ rfl rfl <| zf rfl <| AJ rfl rfl <| zl rfl rfl <| AJ rfl rfl <| zv (LB rfl rfl) <| zv (BF rfl rfl) <| zm rfl <| ?_
    refine DB (t := 21) rfl (fun h4 => ?_) (fun h4 => ?_)
    ·skip
     refine AJ rfl rfl <| zf rfl <| AJ rfl rfl <| zl rfl rfl <| AJ rfl rfl <| zv (GN rfl rfl) <| zv (BF rfl rfl) <| zm rfl <| ?_
     refine DB (t := 26) rfl (fun h5 => ?_) (fun h5 => ?_)
     ·skip
      refine AJ rfl rfl <| zf rfl <| AJ rfl rfl <| zl rfl rfl <| AJ rfl rfl <| zv (B7 rfl rfl) <| zv (BF rfl rfl) <| zm rfl <| ?_
      refine DB (t := 31) rfl (fun h6 => ?_) (fun h6 => ?_)
      ·skip
       refine AJ rfl rfl <| zf rfl <| AJ rfl rfl <| zl rfl rfl <| AJ rfl rfl <| zv (GN rfl rfl) <| zv (BF rfl rfl) <| zm rfl <| ?_
       refine DB (t := 36) rfl (fun h7 => ?_) (fun h7 => ?_)
       ·skip
        refine AJ rfl rfl <| zf rfl <| AJ rfl rfl <| zl rfl rfl <| AJ rfl rfl <| zv (B7 rfl rfl) <| zv (BF rfl rfl) <| zm rfl <| ?_
        refine DB (t := 41) rfl (fun h8 => ?_) (fun h8 => ?_)
        ·skip
         refine AJ rfl rfl <| zf rfl <| AJ rfl rfl <| zl rfl rfl <| AJ rfl rfl <| zv (B7 rfl rfl) <| ?_
         refine DB (t := 44) rfl (fun h9 => ?_) (fun h9 => ?_)
         ·have hyes : FL e := ⟨h1, h2, h3, AA, h5, h6, h7, h8, by omega⟩
          refine zv (BF rfl rfl) <| zs rfl <| zn <| zq <| ?_
          exact zz rfl rfl fun w' H' => ⟨bT hyes, rfl, H'.AK (AD.nil _)⟩
         have hno : ¬ FL e := fun h => h9 (by have := h.2.2.2.2.2.2.2.2; omega)
         refine zv (BF rfl rfl) <| zs rfl <| zn <| zq <| ?_
         exact zz rfl rfl fun w' H' => ⟨bF hno, rfl, H'.AK (AD.nil _)⟩
        have hno : ¬ FL e := fun h => h8 (by have := h.2.2.2.2.2.2.2.1; omega)
        refine zo rfl rfl <| zo rfl rfl <| zo rfl rfl <| zv (A8 rfl rfl) <| zs rfl <| AS <| zt <| zq <| ?_
        exact zz rfl rfl fun w' H' => ⟨bF hno, rfl, H'.AK (AD.nil _)⟩
       have hno : ¬ FL e := fun h => h7 (by have := h.2.2.2.2.2.2.1; omega)
       refine zo rfl rfl <| zo rfl rfl <| zo rfl rfl <| zv (A8 rfl rfl) <| zm rfl <| zo rfl rfl <| zo rfl rfl <| zo rfl rfl <| zv (A8 rfl rfl) <| zs rfl <| zn <| zq <| ?_
       exact zz rfl rfl fun w' H' => ⟨bF hno, rfl, H'.AK (AD.nil _)⟩
      have hno : ¬ FL e := fun h => h6 (by have := h.2.2.2.2.2.1; omega)
      refine zo rfl rfl <| zo rfl rfl <| zo rfl rfl <| zv (A8 rfl rfl) <| zm rfl <| zo rfl rfl <| zo rfl rfl <| zo rfl rfl <| zv (A8 rfl rfl) <| zm rfl <| zo rfl rfl <| zo rfl rfl <| zo rfl rfl <| zv (A8 rfl rfl) <| zs rfl <| zn <| zq <| ?_
      exact zz rfl rfl fun w' H' => ⟨bF hno, rfl, H'.AK (AD.nil _)⟩
     have hno : ¬ FL e := fun h => h5 (by have := h.2.2.2.2.1; omega)
     refine zo rfl rfl <| zo rfl rfl <| zo rfl rfl <| zv (A8 rfl rfl) <| zm rfl <| zo rfl rfl <| zo rfl rfl <| zo rfl rfl <| zv (A8 rfl rfl) <| zm rfl <| zo rfl rfl <| zo rfl rfl <| zo rfl rfl <| zv (A8 rfl rfl) <| zm rfl <| zo rfl rfl <| zo rfl rfl <| zo rfl rfl <| zv (A8 rfl rfl) <| zs rfl <| zn <| zq <| ?_
     exact zz rfl rfl fun w' H' => ⟨bF hno, rfl, H'.AK (AD.nil _)⟩
    have hno : ¬ FL e := fun h => h4 (by have := h.2.2.2.1; omega)
    refine zo rfl rfl <| zo rfl rfl <| zo rfl rfl <| zv (A8 rfl rfl) <| zm rfl <| zo rfl rfl <| zo rfl rfl <| zo rfl rfl <| zv (A8 rfl rfl) <| zm rfl <| zo rfl rfl <| zo rfl rfl <| zo rfl rfl <| zv (A8 rfl rfl) <| zm rfl <| zo rfl rfl <| zo rfl rfl <| zo rfl rfl <| zv (A8 rfl rfl) <| zm rfl <| zo rfl rfl <| zo rfl rfl <| zo rfl rfl <| zv (A8 rfl rfl) <| zs rfl <| zn <| zq <| ?_
    exact zz rfl rfl fun w' H' => ⟨bF hno, rfl, H'.AK (AD.nil _)⟩
   have hno : ¬ FL e := fun h => h3 (by have := h.2.2.1; omega)
   refine zo rfl rfl <| zo rfl rfl <| zo rfl rfl <| zv (A8 rfl rfl) <| zm rfl <| zo rfl rfl <| zo rfl rfl <| zo rfl rfl <| zv (A8 rfl rfl) <| zm rfl <| zo rfl rfl <| zo rfl rfl <| zo rfl rfl <| zv (A8 rfl rfl) <| zm rfl <| zo rfl rfl <| zo rfl rfl <| zo rfl rfl <| zv (A8 rfl rfl) <| zm rfl <| zo rfl rfl <| zo rfl rfl <| zo rfl rfl <| zv (A8 rfl rfl) <| zm rfl <| zo rfl rfl <| zo rfl rfl <| zo rfl rfl <| zv (A8 rfl rfl) <| zs rfl <| zn <| zq <| ?_
   exact zz rfl rfl fun w' H' => ⟨bF hno, rfl, H'.AK (AD.nil _)⟩
  have hno : ¬ FL e := fun h => h2 (by have := h.2.1; omega)
  refine zo rfl rfl <| zo rfl rfl <| zo rfl rfl <| zv (A8 rfl rfl) <| zm rfl <| zo rfl rfl <| zo rfl rfl <| zo rfl rfl <| zv (A8 rfl rfl) <| zm rfl <| zo rfl rfl <| zo rfl rfl <| zo rfl rfl <| zv (A8 rfl rfl) <| zm rfl <| zo rfl rfl <| zo rfl rfl <| zo rfl rfl <| zv (A8 rfl rfl) <| zm rfl <| zo rfl rfl <| zo rfl rfl <| zo rfl rfl <| zv (A8 rfl rfl) <| zm rfl <| zo rfl rfl <| zo rfl rfl <| zo rfl rfl <| zv (A8 rfl rfl) <| zm rfl <| zo rfl rfl <| zo rfl rfl <| zo rfl rfl <| zv (A8 rfl rfl) <| zs rfl <| AS <| zt <| zq <| ?_
  exact zz rfl rfl fun w' H' => ⟨bF hno, rfl, H'.AK (AD.nil _)⟩
 have hno : ¬ FL e := fun h => h1 (by have := h.1; omega)
 refine zo rfl rfl <| zo rfl rfl <| zo rfl rfl <| zv (A8 rfl rfl) <| zm rfl <| zo rfl rfl <| zo rfl rfl <| zo rfl rfl <| zv (A8 rfl rfl) <| zm rfl <| zo rfl rfl <| zo rfl rfl <| zo rfl rfl <| zv (A8 rfl rfl) <| zm rfl <| zo rfl rfl <| zo rfl rfl <| zo rfl rfl <| zv (A8 rfl rfl) <| zm rfl <| zo rfl rfl <| zo rfl rfl <| zo rfl rfl <| zv (A8 rfl rfl) <| zm rfl <| zo rfl rfl <| zo rfl rfl <| zo rfl rfl <| zv (A8 rfl rfl) <| zm rfl <| zo rfl rfl <| zo rfl rfl <| zo rfl rfl <| zv (A8 rfl rfl) <| zm rfl <| zo rfl rfl <| ?_
 refine zo rfl rfl <| zo rfl rfl <| zv (A8 rfl rfl) <| zs rfl <| zn <| zq <| ?_
 exact zz rfl rfl fun w' H' => ⟨bF hno, rfl, H'.AK (AD.nil _)⟩
theorem oY (D : Nat → Prop) (w : World) (e : C5) : Calls Tryz.prog 94 #[.agg (DL e).toArray] w fun r w' => ∃ b : EX (¬ FL e), r = .returned (.bool b.1) ∧ AH D w w' [] := by
 refine BZ (vs := [.agg (DL e).toArray]) Tryz.func94 rfl _ Tryz.ntmps94 rfl (AH.start D w) ?_
 simp only [BX, Nat.zero_add]
 refine zg <| AV (EE rfl rfl) rfl rfl rfl fun b1 =>  ?_
 refine zs rfl <| zn <| zg <| zv DY <| ?_
 refine CQ (σ := EX (FL e)) Tryz.call136 rfl rfl (fun w1 => zu fun D' _ _ _ => nW D' w1 e) ?_
 intro r
 try rw [List.nil_append]
 refine zv FC <| ?_
 refine zs rfl <| zn <| zq <| ?_
 exact zz rfl rfl fun w' H' => ⟨⟨!r.1, by have := r.2; cases h : r.1 <;> simp_all⟩, rfl, H'.AK (AD.nil _)⟩
def NM (l : List C5) (i : Nat) : Prop := ∃ h : i < l.length, ¬ FL l[i]
theorem nU (D : Nat → Prop) (w : World) (v : Value) (l : List C5) (hl : l.length ≤ 1000000) (HA : Old D w (AX.rep l [v])) :
  Calls Tryz.prog 135 #[v, .func (.func 94) #[] #[]] w fun e w' => ∃ r : { r : Int // 0 ≤ r ↔ ∃ i, NM l i }, e = .returned (.int .i64 r.1) ∧ AH D w w' [] := by
 obtain ⟨As, caps, rfl, hs1, hs2, HSs, hsok⟩ := HA.EG
 have HSs : CS D w As (l.flatMap DL) := HSs
 refine BZ (vs := [.slice As l.length caps, .func (.func 94) #[] #[]]) Tryz.func135 rfl _ Tryz.ntmps135 rfl (AH.start D w) ?_
 simp only [BX, Nat.zero_add]
 refine zg <| zs rfl <| zn <| AG <| zg <| zm rfl <| zv BN <| ?_
 refine zm rfl <| zn <| BK <| JP (σ := Nat) [0, 1, 7] rfl 8 (fun i => .int .i64 (i : Int)) (fun i => i ≤ l.length ∧ ∀ j, j < i → ¬ NM l j) (fun i => l.length - i) (0) (⟨Nat.zero_le _, fun j h => absurd h (Nat.not_lt_zero _)⟩) rfl ?_
 rintro i ⟨hi, hall⟩ K1 hK1
 refine zg <| zv (B7 rfl rfl) <| zn <| AG <| BP rfl (fun h => ?_) (fun h => ?_)
 ·have hlt : i < l.length := by omega
  obtain ⟨hA, hc⟩ := CS.EP (D := D) (w0 := w) (f := DL) (sz := 7) (fun _ => rfl) AF HSs hlt []
  have hbi : NM l i ↔ ¬ FL l[i] := ⟨fun ⟨_, h⟩ => h, fun h => ⟨hlt, h⟩⟩
  generalize l[i] = x at *
  refine zk <| AG <| BK <| zg <| zm rfl <| zs rfl <| zn <| zg <| zm rfl <| zm rfl <| zm rfl <| zv (CZ rfl DP rfl _ rfl AA) <| ?_
  refine AZ (D4 (cs := DL x) rfl rfl hc) rfl <| W5 (σ := EX (¬ FL x)) rfl (fun _ _ => Tryz.call94 _ _) rfl rfl (fun w1 => zu fun D' _ _ _ => oY D' w1 x) ?_
  intro r
  try rw [List.nil_append]
  refine zn <| FW rfl (fun hb => ?_) (fun hb => ?_)
  ·have hbad := hbi.2 (r.2.1 hb)
   refine zg <| zm rfl <| zs rfl <| zn <| zq <| B4 <| zr <| zr <| B4 <| zr <| ?_
   exact zz rfl rfl fun w' H' => ⟨⟨i, ⟨fun _ => ⟨i, hbad⟩, fun _ => by omega⟩⟩, rfl, H'⟩
  have hok : ¬ NM l i := fun h => by have := r.2.2 (hbi.1 h); rw [this] at hb; cases hb
  have hn : ∀ j, j < i + 1 → ¬ NM l j := fun j hj => by
   rcases Nat.lt_or_ge j i with h3 | h3
   ·exact hall j h3
   ·obtain rfl : j = i := by omega
    exact hok
  refine C3 <| zb <| zt <| AR <| zv (BM rfl rfl BO) <| ?_
  refine zm rfl <| AS <| B5 hK1 (i + 1) (⟨hlt, hn⟩) AA BD BL
 refine CF <| ze <| ze <| CE <| zt <| AG <| AR <| zs rfl <| zn <| zq <| ?_
 exact zz rfl rfl fun w' H' => ⟨⟨-1, ⟨fun h => by omega, fun ⟨j, hj⟩ => absurd hj (hall j (by obtain ⟨hj2, _⟩ := hj; omega))⟩⟩, rfl, H'⟩
theorem aT (D : Nat → Prop) (w : World) (v : Value) (l : List C5) (hl : l.length ≤ 1000000) (HA : Old D w (AX.rep l [v])) :
  Calls Tryz.prog 93 #[v, .func (.func 94) #[] #[]] w fun e w' => ∃ r : EX (∃ i, NM l i), e = .returned (.bool r.1) ∧ AH D w w' [] := by
 refine BZ (vs := [v, .func (.func 94) #[] #[]]) Tryz.func93 rfl _ Tryz.ntmps93 rfl (AH.start D w) ?_
 simp only [BX, Nat.zero_add]
 refine zg <| zs rfl <| zn <| AG <| AR <| zm rfl <| zm rfl <| CQ (σ := { r : Int // 0 ≤ r ↔ ∃ i, NM l i }) Tryz.call135 rfl rfl (fun w1 => zu fun D' hold _ _ => nU D' w1 v l hl (hold _ HA)) ?_
 intro r
 try rw [List.nil_append]
 refine zv (GN rfl rfl) <| zs rfl <| zn <| zq <| ?_
 exact zz rfl rfl fun w' H' => ⟨⟨decide (0 ≤ r.1), by rw [decide_eq_true_iff]; exact r.2⟩, rfl, H'⟩
def LJ (e : C5) : List UInt8 := BE e.1.toNat 1 ++ BE e.2.1.toNat 1 ++ BE e.2.2.1.toNat 4 ++ BE e.2.2.2.1.toNat 2 ++ BE e.2.2.2.2.1.toNat 1 ++ BE e.2.2.2.2.2.1.toNat 1 ++ BE e.2.2.2.2.2.2.toNat 6
theorem fC (e : C5) : (LJ e).length = 16 := by simp [LJ, IV]
def AW (l : List C5) : List UInt8 := BE l.length 1 ++ l.flatMap LJ
theorem JV {x : Int} (h0 : 0 ≤ x) (h1 : x < 18446744073709551616) : IntKind.u64.wrap x = ((x.toNat : Nat) : Int) := by
 rw [wrap_u64 AA, Int.toNat_of_nonneg h0]
theorem fX (xs : List UInt8) (l : List C5) (k : Nat) (h : k < l.length) : ((((((((xs ++ (l.take k).flatMap LJ) ++ BE l[k].1.toNat 1) ++ BE l[k].2.1.toNat 1) ++ BE l[k].2.2.1.toNat 4) ++ BE l[k].2.2.2.1.toNat 2) ++ BE l[k].2.2.2.2.1.toNat 1) ++ BE l[k].2.2.2.2.2.1.toNat 1) ++ BE l[k].2.2.2.2.2.2.toNat 6) = xs ++ (l.take (k + 1)).flatMap LJ := by
 rw [List.take_succ_eq_append_getElem h, List.flatMap_append, List.flatMap_singleton, LJ]
 simp only [List.append_assoc]
theorem jZ (D : Nat → Prop) (w : World) (g : Nat) (v : Value) (l : List C5) (hl : l.length ≤ 32) (hg : ∀ i (h : i < l.length), FL l[i]) (H : AH D w w [FT g []]) (HA : Old D w (AX.rep l [v])) :
  Calls Tryz.prog 95 #[.pointer (some ⟨g, 0, none⟩), v] w fun e w' => e = .returned (.tuple #[]) ∧ AH D w w' [FT g (AW l)] := by
 obtain ⟨As, caps, rfl, hs1, hs2, HSs, hsok⟩ := HA.EG
 have HSs : CS D w As (l.flatMap DL) := HSs
 refine BZ (vs := [.pointer (some ⟨g, 0, none⟩), .slice As l.length caps]) Tryz.func95 rfl _ Tryz.ntmps95 rfl H ?_
 simp only [BX, Nat.zero_add]
 refine zg <| zm rfl <| zv (AY rfl) <| zf rfl <| zm rfl <| ?_
 refine zv BN <| ?_
 refine zv (CD rfl J2) <| ?_
 refine B2 Tryz.call137 rfl rfl (fun w1 => zp (FT g []) fun D' _ _ H2 => H7 D' w1 g l.length 1 [] AA AF (by simp) H2) ?_
 refine zn <| zg <| zm rfl <| zv BN <| ?_
 refine zm rfl <| zn <| BK <| GL (σ := Nat) [0, 13, 14] rfl 15 (fun i => .int .i64 (i : Int)) (fun i => [FT g (BE l.length 1 ++ (l.take i).flatMap LJ)]) (fun i => i ≤ l.length) (fun i => l.length - i) (0) (Nat.zero_le _) rfl BL ?_
 rintro i hj K1 hK1
 refine zg <| zv (B7 rfl rfl) <| zn <| AG <| BP rfl (fun h => ?_) (fun h => ?_)
 ·have hlt : i < l.length := by omega
  obtain ⟨hA, _⟩ := CS.EP (D := D) (w0 := w) (f := DL) (sz := 7) (fun _ => rfl) AF HSs hlt []
  have hc := fun l' => (CS.EP (D := D) (w0 := w) (f := DL) (sz := 7) (fun _ => rfl) AF HSs hlt l').2
  have hgx := hg i hlt
  have heq := fX (BE l.length 1) l i hlt
  generalize l[i] = x at *
  have hu1 := x.2.2.2.2.1.toNat_lt
  have hu2 := x.2.2.2.2.2.1.toNat_lt
  obtain ⟨g1, g2, g3, g4, g5, g6, g7, g8, g9⟩ := hgx
  obtain ⟨B0, hB0⟩ : ∃ B, B = BE l.length 1 ++ (l.take i).flatMap LJ := ⟨_, rfl⟩
  have hB0l : B0.length ≤ 600 := by
   rw [hB0, List.length_append, IV, FU (f := LJ) (sz := 16) fC, List.length_take]; omega
  rw [← hB0] at heq ⊢
  refine zk <| AG <| BK <| zg <| zv (CZ rfl DP rfl _ rfl AA) <| ?_
  refine AZ (D4 (cs := DL x) rfl rfl (hc _)) rfl <| AV (B9) rfl rfl rfl fun b5 =>  ?_
  refine A6 (CV (vs := DL x) rfl rfl (by simp) (by simp) HZ) rfl rfl ?_
  refine zn <| AG <| E2 6 mixed AB ?_
  refine AT (AO rfl) rfl <| AT (AY rfl) rfl <| AT (AP rfl) rfl <| AT (AP rfl) rfl <| AT (zw rfl rfl) rfl <| ?_
  refine AT (CD (m := ((x.1.toNat : Nat) : Int)) rfl (JV AA AA)) rfl ?_
  refine EV <| ?_
  refine B2 Tryz.call137 rfl rfl (fun w1 => zp (FT g (B0)) fun D' _ _ H2 => H7 D' w1 g x.1.toNat 1 (B0) AA AF AA H2) ?_
  refine zn <| AG <| E2 6 mixed AB ?_
  refine AT (AO rfl) rfl <| AT (AY rfl) rfl <| AT (AP rfl) rfl <| AT (AP rfl) rfl <| AT (zw rfl rfl) rfl <| ?_
  refine AT (CD (m := ((x.2.1.toNat : Nat) : Int)) rfl (JV AA AA)) rfl ?_
  refine EV <| ?_
  refine B2 Tryz.call137 rfl rfl (fun w1 => zp (FT g ((B0 ++ BE x.1.toNat 1))) fun D' _ _ H2 => H7 D' w1 g x.2.1.toNat 1 ((B0 ++ BE x.1.toNat 1)) AA AF RR H2) ?_
  refine zn <| AG <| E2 6 mixed AB ?_
  refine AT (AO rfl) rfl <| AT (AY rfl) rfl <| AT (AP rfl) rfl <| AT (AP rfl) rfl <| AT (zw rfl rfl) rfl <| ?_
  refine AT (CD (m := ((x.2.2.1.toNat : Nat) : Int)) rfl (JV AA AA)) rfl ?_
  refine EV <| ?_
  refine B2 Tryz.call137 rfl rfl (fun w1 => zp (FT g (((B0 ++ BE x.1.toNat 1) ++ BE x.2.1.toNat 1))) fun D' _ _ H2 => H7 D' w1 g x.2.2.1.toNat 4 (((B0 ++ BE x.1.toNat 1) ++ BE x.2.1.toNat 1)) AA AF RR H2) ?_
  refine zn <| AG <| E2 6 mixed AB ?_
  refine AT (AO rfl) rfl <| AT (AY rfl) rfl <| AT (AP rfl) rfl <| AT (AP rfl) rfl <| AT (zw rfl rfl) rfl <| ?_
  refine AT (CD (m := ((x.2.2.2.1.toNat : Nat) : Int)) rfl (JV AA AA)) rfl ?_
  refine EV <| ?_
  refine B2 Tryz.call137 rfl rfl (fun w1 => zp (FT g ((((B0 ++ BE x.1.toNat 1) ++ BE x.2.1.toNat 1) ++ BE x.2.2.1.toNat 4))) fun D' _ _ H2 => H7 D' w1 g x.2.2.2.1.toNat 2 ((((B0 ++ BE x.1.toNat 1) ++ BE x.2.1.toNat 1) ++ BE x.2.2.1.toNat 4)) AA AF RR H2) ?_
  refine zn <| AG <| E2 6 mixed AB ?_
  refine AT (AO rfl) rfl <| AT (AY rfl) rfl <| AT (AP rfl) rfl <| AT (AP rfl) rfl <| AT (zw rfl rfl) rfl <| AT (CD rfl J2) rfl <| ?_
  refine EV <| ?_
  refine B2 Tryz.call137 rfl rfl (fun w1 => zp (FT g (((((B0 ++ BE x.1.toNat 1) ++ BE x.2.1.toNat 1) ++ BE x.2.2.1.toNat 4) ++ BE x.2.2.2.1.toNat 2))) fun D' _ _ H2 => H7 D' w1 g x.2.2.2.2.1.toNat 1 (((((B0 ++ BE x.1.toNat 1) ++ BE x.2.1.toNat 1) ++ BE x.2.2.1.toNat 4) ++ BE x.2.2.2.1.toNat 2)) AA AF RR H2) ?_
  refine zn <| AG <| E2 6 mixed AB ?_
  refine AT (AO rfl) rfl <| AT (AY rfl) rfl <| AT (AP rfl) rfl <| AT (AP rfl) rfl <| AT (zw rfl rfl) rfl <| AT (CD rfl J2) rfl <| ?_
  refine EV <| ?_
  refine B2 Tryz.call137 rfl rfl (fun w1 => zp (FT g ((((((B0 ++ BE x.1.toNat 1) ++ BE x.2.1.toNat 1) ++ BE x.2.2.1.toNat 4) ++ BE x.2.2.2.1.toNat 2) ++ BE x.2.2.2.2.1.toNat 1))) fun D' _ _ H2 => H7 D' w1 g x.2.2.2.2.2.1.toNat 1 ((((((B0 ++ BE x.1.toNat 1) ++ BE x.2.1.toNat 1) ++ BE x.2.2.1.toNat 4) ++ BE x.2.2.2.1.toNat 2) ++ BE x.2.2.2.2.1.toNat 1)) AA AF RR H2) ?_
  refine zn <| E2 5 mixed AB ?_
  refine AT (AO rfl) rfl <| AT (AY rfl) rfl <| AT (AP rfl) rfl <| AT (AP rfl) rfl <| AT (zw rfl rfl) rfl <| EV <| ?_
  refine B2 Tryz.call137 rfl rfl (fun w1 => zp (FT g (((((((B0 ++ BE x.1.toNat 1) ++ BE x.2.1.toNat 1) ++ BE x.2.2.1.toNat 4) ++ BE x.2.2.2.1.toNat 2) ++ BE x.2.2.2.2.1.toNat 1) ++ BE x.2.2.2.2.2.1.toNat 1))) fun D' _ _ H2 => H7 D' w1 g x.2.2.2.2.2.2.toNat 6 (((((((B0 ++ BE x.1.toNat 1) ++ BE x.2.1.toNat 1) ++ BE x.2.2.1.toNat 4) ++ BE x.2.2.2.1.toNat 2) ++ BE x.2.2.2.2.1.toNat 1) ++ BE x.2.2.2.2.2.1.toNat 1)) AA AF RR H2) ?_
  refine AS <| zb <| zt <| AR <| zv (BM rfl rfl BO) <| ?_
  refine zm rfl <| AS <| ?_
  rw [heq]
  refine B5 hK1 (i + 1) (hlt) AA BD BL
 have hie : i = l.length := by omega
 subst hie
 rw [List.take_length]
 refine CF <| ze <| ze <| CE <| ?_
 exact M9 (.inl rfl) rfl fun w' H' => ⟨rfl, H'⟩
theorem fY (b : Nat) (l : List AQ) : AD (AI b 203 [.slice none 0 0] :: l) (FT b [] :: l) :=
 AD.trans (b := AI b 203 [.slice none 0 0] :: row none 5 1 0 0 [] :: l) (AD.cons (AD.EB 5 1)) (AD.GQ (L := fun q : Option Addr × Nat => [AI b 203 [.slice q.1 ([] : List UInt8).length q.2], row q.1 5 1 ([] : List UInt8).length q.2 (([] : List UInt8).map AU)]) (l := l) (none, 0))
theorem ZH (D : Nat → Prop) (w : World) (v : Value) (l : List C5) (hl : l.length ≤ 1000000) (HA : Old D w (AX.rep l [v])) :
  Calls Tryz.prog 57 #[v] w fun e w' => (32 < l.length ∧ e = .returned (.tuple #[.slice none 0 0, .int .i64 3]) ∧ AH D w w' []) ∨ (l.length ≤ 32 ∧ (∃ i, NM l i) ∧ e = .returned (.tuple #[.slice none 0 0, .int .i64 11]) ∧ AH D w w' []) ∨
   (l.length ≤ 32 ∧ (∀ i (h : i < l.length), FL l[i]) ∧ ∃ q : Option Addr × Nat, e = .returned (.tuple #[.slice q.1 (AW l).length q.2, .int .i64 0]) ∧ AH D w w' [row q.1 5 1 (AW l).length q.2 ((AW l).map AU)]) := by
 have HA0 := HA
 obtain ⟨As, caps, rfl, hs1, hs2, HSs, hsok⟩ := HA.EG
 refine BZ (vs := [.slice As l.length caps]) Tryz.func57 rfl _ Tryz.ntmps57 rfl (AH.start D w) ?_
 simp only [BX, Nat.zero_add]
 refine zg <| zs rfl <| zs rfl <| zn <| AG <| BK <| zg <| zm rfl <| zv BN <| ?_
 refine zv (DV rfl rfl) <| zs rfl <| zn <| BP rfl (fun h => ?_) (fun h => ?_)
 ·refine zg <| zs rfl <| zs rfl <| zn <| zq <| B4 <| zr <| ?_
  exact E5 (.inr rfl) rfl rfl rfl fun w' H' => .inl ⟨by omega, rfl, H'⟩
 refine zg <| zm rfl <| CQ (σ := EX (∃ i, NM l i)) Tryz.call93 rfl rfl (fun w1 => zu fun D' hold _ _ => aT D' w1 _ l hl (hold _ HA0)) ?_
 intro r
 try rw [List.nil_append]
 refine zs rfl <| zn <| FW rfl (fun hb => ?_) (fun hb => ?_)
 ·have hbad := r.2.1 hb
  refine zg <| zs rfl <| zs rfl <| zn <| zq <| B4 <| zr <| ?_
  exact E5 (.inr rfl) rfl rfl rfl fun w' H' => .inr (.inl ⟨by omega, hbad, rfl, H'⟩)
 have hall : ∀ i (h : i < l.length), FL l[i] := fun i hi => Classical.byContradiction fun hx => by
  have := r.2.2 ⟨i, hi, hx⟩
  rw [this] at hb; cases hb
 refine C3 <| zb <| zt <| zg <| zv (CH rfl rfl) <| ?_
 refine AV (EE rfl rfl) rfl rfl rfl fun b13 =>  ?_
 refine zs rfl <| zn <| zg <| HL.AK (fY b13 _) ?_
 refine zm rfl <| zm rfl <| B2 Tryz.call95 rfl rfl (fun w1 => zp (FT b13 []) fun D' hold _ H2 => jZ D' w1 b13 _ l AA hall H2 (hold _ HA0)) ?_
 refine zn <| zg <| HL.exs ?_
 rintro ⟨A, c⟩
 dsimp only [List.cons_append, List.nil_append]
 refine zm rfl <| zv (AY rfl) <| zf rfl <| zf rfl <| zl rfl rfl <| zs rfl <| ?_
 refine zs rfl <| zn <| zq <| ?_
 exact E5 (.inr rfl) rfl rfl rfl fun w' H' => .inr (.inr ⟨by omega, hall, (A, c), rfl, H'.AK Z8⟩)
end Go.Proofs.YtjlolpmmpafjeaaGreat

set_option linter.unusedVariables false
set_option linter.unusedSimpArgs false
namespace Go.Proofs.YtjlolpmmpafjeaaGreat
open CN
def IN (p : GI) : List UInt8 := BE (if p.1 then 1 else 0) 1 ++ BE p.2.1.toNat 4 ++ BE p.2.2.toNat 2
def IQ (v : EI) : List UInt8 := BE v.1.toNat 2 ++ BE v.2.1.toNat 1 ++ BE v.2.2.toNat 1
def IM (s : FM) : List UInt8 := BE s.1.toNat 6 ++ BE s.2.1.toNat 2 ++ BE s.2.2.toNat 1
theorem TZ (p : GI) : (IN p).length = 7 := by simp [IN, IV]
theorem T7 (p : EI) : (IQ p).length = 4 := by simp [IQ, IV]
theorem TV (p : FM) : (IM p).length = 9 := by simp [IM, IV]
def JM (c : CA) : List UInt8 := BE c.1.toNat 2 ++ BE c.2.1.toNat 1 ++ BE c.2.2.1.toNat 1
def C8 (c : CA) : List UInt8 := JM c ++ (BE c.2.2.2.1.length 1 ++ c.2.2.2.1.flatMap IN) ++ (BE c.2.2.2.2.1.length 1 ++ c.2.2.2.2.1.flatMap IQ) ++ (BE c.2.2.2.2.2.length 1 ++ c.2.2.2.2.2.flatMap IM)
theorem RK {α : Type} (f : α → List UInt8) (xs : List UInt8) (l : List α) (k : Nat) (h : k < l.length) : (xs ++ (l.take k).flatMap f) ++ f l[k] = xs ++ (l.take (k + 1)).flatMap f := by
 rw [List.take_succ_eq_append_getElem h, List.flatMap_append, List.flatMap_singleton, List.append_assoc]
structure VC (c : CA) : Prop where
 a : 0 ≤ c.1 ∧ c.1 ≤ 61440
 b : 0 ≤ c.2.1 ∧ c.2.1 ≤ 40
 d : 0 ≤ c.2.2.1 ∧ c.2.2.1 ≤ 30
 lp : c.2.2.2.1.length ≤ 8
 lv : c.2.2.2.2.1.length ≤ 16
 ls : c.2.2.2.2.2.length ≤ 16
 p : ∀ i (h : i < c.2.2.2.1.length), 0 ≤ c.2.2.2.1[i].2.2 ∧ c.2.2.2.1[i].2.2 ≤ 4094
 v : ∀ i (h : i < c.2.2.2.2.1.length), 0 ≤ c.2.2.2.2.1[i].1 ∧ c.2.2.2.2.1[i].1 ≤ 4094
 s : ∀ i (h : i < c.2.2.2.2.2.length), (0 ≤ c.2.2.2.2.2[i].2.1 ∧ c.2.2.2.2.2[i].2.1 ≤ 4094) ∧ 0 ≤ c.2.2.2.2.2[i].2.2 ∧ c.2.2.2.2.2[i].2.2 < 8 ∧ c.2.2.2.2.2[i].1.toNat < 281474976710656
theorem C4.S7 {c : CA} (h : C4 c) : VC c := by
 obtain ⟨⟨t1, t2, _, t4, t5, t6, t7, _⟩, ⟨v1, v2, v3, v4⟩, ⟨p1, p2, p3⟩, s1, s2, s3⟩ := h
 refine ⟨⟨t1, t2⟩, ⟨by omega, t5⟩, ⟨by omega, t7⟩, p2, v2, s1, fun i hi => ?_, fun i hi => ?_, fun i hi => ?_⟩
 ·obtain ⟨⟨j, hj, e⟩, _⟩ := p3 i hi
  have := v3 j hj
  rw [← e]; exact ⟨by have := this.1; omega, this.2.1⟩
 ·have := v3 i hi
  exact ⟨by have := this.1; omega, this.2.1⟩
 obtain ⟨m1, m2, m3, q1, q2, j, hj, e, _⟩ := s3 i hi
 have := v3 j hj
 refine ⟨by rw [← e]; exact ⟨by have := this.1; omega, this.2.1⟩, q1, by omega, ?_⟩
 rw [Nat.div_eq_zero_iff_lt (Nat.pow_pos AF)] at m2
 exact m2
theorem iY (D : Nat → Prop) (w : World) (g : Nat) (c : CA) (vp vv vs : Value) (hok : VC c) (HC0 : ER D w c vp vv vs) (H : AH D w w [FT g []]) :
  Calls Tryz.prog 142 #[.pointer (some ⟨g, 0, none⟩), .agg (C9 c vp vv vs).toArray] w fun e w' => e = .returned (.tuple #[]) ∧ AH D w w' [FT g (C8 c)] := by
 obtain ⟨oa, ob', od, olp, olv, ols, op', ov', os'⟩ := hok
 obtain ⟨Ap, capp, hvp, _, _, HSp, _⟩ := HC0.p.EG
 obtain ⟨Av, capv, hvv, _, _, HSv, _⟩ := HC0.v.EG
 obtain ⟨As, caps, hvs, _, _, HSs, _⟩ := HC0.s.EG
 have HSp : CS D w Ap (c.2.2.2.1.flatMap CJ) := HSp
 have HSv : CS D w Av (c.2.2.2.2.1.flatMap BJ) := HSv
 have HSs : CS D w As (c.2.2.2.2.2.flatMap BW) := HSs
 subst hvp; subst hvv; subst hvs
 have hcB : C8 c = JM c ++ (BE c.2.2.2.1.length 1 ++ c.2.2.2.1.flatMap IN) ++ (BE c.2.2.2.2.1.length 1 ++ c.2.2.2.2.1.flatMap IQ) ++ (BE c.2.2.2.2.2.length 1 ++ c.2.2.2.2.2.flatMap IM) := rfl
 have hhd : JM c = BE c.1.toNat 2 ++ BE c.2.1.toNat 1 ++ BE c.2.2.1.toNat 1 := rfl
 rw [hcB]
 generalize c.2.2.2.1 = lp at *
 generalize c.2.2.2.2.1 = lv at *
 generalize c.2.2.2.2.2 = ls at *
 refine BZ (vs := [.pointer (some ⟨g, 0, none⟩), .agg #[.int .i64 c.1, .int .i64 c.2.1, .int .i64 c.2.2.1, .slice Ap lp.length capp, .slice Av lv.length capv, .slice As ls.length caps]]) Tryz.func142 rfl _ Tryz.ntmps142 rfl H ?_
 simp only [BX, Nat.zero_add]
 refine zg <| AV (EE rfl rfl) rfl rfl rfl fun b3 =>  ?_
 refine zn <| AG <| E2 6 mixed AB ?_
 refine AT (AO rfl) rfl <| AT (AY rfl) rfl <| AT (AP rfl) rfl <| AT (AP rfl) rfl <| AT (zw rfl rfl) rfl <| ?_
 refine AT (CD (m := ((c.1.toNat : Nat) : Int)) rfl (JV AA AA)) rfl ?_
 refine EV <| ?_
 refine B2 Tryz.call137 rfl rfl (fun w1 => zp (FT g ([])) fun D' _ _ H2 => H7 D' w1 g (c.1.toNat) 2 ([]) AA AF (by simp) H2) ?_
 refine zn <| AG <| E2 6 mixed AB ?_
 refine AT (AO rfl) rfl <| AT (AY rfl) rfl <| AT (AP rfl) rfl <| AT (AP rfl) rfl <| AT (zw rfl rfl) rfl <| ?_
 refine AT (CD (m := ((c.2.1.toNat : Nat) : Int)) rfl (JV AA AA)) rfl ?_
 refine EV <| ?_
 refine B2 Tryz.call137 rfl rfl (fun w1 => zp (FT g (([] ++ BE (c.1.toNat) 2))) fun D' _ _ H2 => H7 D' w1 g (c.2.1.toNat) 1 (([] ++ BE (c.1.toNat) 2)) AA AF NO H2) ?_
 refine zn <| AG <| E2 6 mixed AB ?_
 refine AT (AO rfl) rfl <| AT (AY rfl) rfl <| AT (AP rfl) rfl <| AT (AP rfl) rfl <| AT (zw rfl rfl) rfl <| ?_
 refine AT (CD (m := ((c.2.2.1.toNat : Nat) : Int)) rfl (JV AA AA)) rfl ?_
 refine EV <| ?_
 refine B2 Tryz.call137 rfl rfl (fun w1 => zp (FT g ((([] ++ BE (c.1.toNat) 2) ++ BE (c.2.1.toNat) 1))) fun D' _ _ H2 => H7 D' w1 g (c.2.2.1.toNat) 1 ((([] ++ BE (c.1.toNat) 2) ++ BE (c.2.1.toNat) 1)) AA AF NO H2) ?_
 refine zn <| AG <| ?_
 rw [List.nil_append, ← hhd]
 have hhl : (JM c).length = 4 := by rw [hhd]; simp [IV]
 refine E2 7 mixed AB ?_
 refine AT (AO rfl) rfl <| AT (AY rfl) rfl <| AT (AP rfl) rfl <| AT (AP rfl) rfl <| AT (zw rfl rfl) rfl <| AT BN rfl <| ?_
 refine AT (CD rfl J2) rfl <| ?_
 refine EV <| ?_
 refine B2 Tryz.call137 rfl rfl (fun w1 => zp (FT g (JM c)) fun D' _ _ H2 => H7 D' w1 g (lp.length) 1 (JM c) AA AF AA H2) ?_
 refine zn <| AG <| zg <| zf rfl <| ?_
 refine zl rfl rfl <| zv BN <| ?_
 refine zm rfl <| zn <| BK <| ?_
 obtain ⟨P1, hP1⟩ : ∃ B, B = JM c ++ BE lp.length 1 := ⟨_, rfl⟩
 rw [← hP1]
 have hP1l : P1.length = 5 := by rw [hP1, List.length_append, IV, hhl]
 refine GL (σ := Nat) [0, 3, 41, 42] rfl 43 (fun i => .int .i64 (i : Int)) (fun i => [FT g (P1 ++ (lp.take i).flatMap IN), AI b3 49 [.int .i64 c.1, .int .i64 c.2.1, .int .i64 c.2.2.1, .slice Ap lp.length capp, .slice Av lv.length capv, .slice As ls.length caps]]) (fun i => i ≤ lp.length) (fun i => lp.length - i) (0) (Nat.zero_le _) rfl X4 ?_
 rintro i hj K1 hK1
 refine zg <| zv (B7 rfl rfl) <| zn <| AG <| BP rfl (fun h => ?_) (fun h => ?_)
 ·have hlt : i < lp.length := by omega
  obtain ⟨hA, _⟩ := CS.EP (D := D) (w0 := w) (f := CJ) (sz := 3) (fun _ => rfl) AF HSp hlt []
  have hc := fun l' => (CS.EP (D := D) (w0 := w) (f := CJ) (sz := 3) (fun _ => rfl) AF HSp hlt l').2
  have hx := op' i hlt
  have hsn := RK IN P1 lp i hlt
  obtain ⟨B0, hB0⟩ : ∃ B, B = P1 ++ (lp.take i).flatMap IN := ⟨_, rfl⟩
  have hB0l : B0.length ≤ 600 := by rw [hB0, List.length_append, FU (f := IN) (sz := 7) TZ, List.length_take]; omega
  rw [← hB0] at hsn ⊢
  generalize lp[i] = x at *
  have hsn' : ((B0 ++ BE (if x.1 then 1 else 0) 1) ++ BE x.2.1.toNat 4) ++ BE x.2.2.toNat 2 = P1 ++ (lp.take (i + 1)).flatMap IN := by rw [← hsn]; simp only [IN, List.append_assoc]
  refine zk <| AG <| BK <| zg <| zv (CZ rfl DP rfl _ rfl AA) <| ?_
  refine AZ (D4 (cs := CJ x) rfl rfl (hc _)) rfl <| AV (B9) rfl rfl rfl fun b5 =>  ?_
  refine A6 (CV (vs := CJ x) rfl rfl (by simp) (by simp) HZ) rfl rfl ?_
  refine zn <| zg <| zs rfl <| AS <| zt <| AG <| zg <| zf rfl <| zl rfl rfl <| ?_
  refine zn <| ?_
  have hco := x.2.1.toNat_lt
  refine FW rfl (fun hb => ?_) (fun hb => ?_)
  ·rw [if_pos hb] at hsn'
   refine AR <| zs rfl <| zn <| zg <| zm rfl <| zv (AY rfl) <| zf rfl <| zm rfl <| ?_
   refine B2 Tryz.call137 rfl rfl (fun w1 => zp (FT g B0) fun D' _ _ H2 => H7 D' w1 g 1 1 B0 AF AF AA H2) ?_
   refine zn <| AG <| E2 6 mixed AB ?_
   refine AT (AO rfl) rfl <| AT (AY rfl) rfl <| AT (AP rfl) rfl <| AT (AP rfl) rfl <| AT (zw rfl rfl) rfl <| AT (CD rfl J2) rfl <| ?_
   refine EV <| ?_
   refine B2 Tryz.call137 rfl rfl (fun w1 => zp (FT g ((B0 ++ BE 1 1))) fun D' _ _ H2 => H7 D' w1 g (x.2.1.toNat) 4 ((B0 ++ BE 1 1)) AA AF NO H2) ?_
   refine zn <| E2 6 mixed AB ?_
   refine AT (AO rfl) rfl <| AT (AY rfl) rfl <| AT (AP rfl) rfl <| AT (AP rfl) rfl <| AT (zw rfl rfl) rfl <| ?_
   refine AT (CD (m := ((x.2.2.toNat : Nat) : Int)) rfl (JV AA AA)) rfl ?_
   refine EV <| ?_
   refine B2 Tryz.call137 rfl rfl (fun w1 => zp (FT g (((B0 ++ BE 1 1) ++ BE (x.2.1.toNat) 4))) fun D' _ _ H2 => H7 D' w1 g (x.2.2.toNat) 2 (((B0 ++ BE 1 1) ++ BE (x.2.1.toNat) 4)) AA AF NO H2) ?_
   refine AS <| zb <| zt <| AR <| zv (BM rfl rfl BO) <| ?_
   refine zm rfl <| AS <| ?_
   rw [hsn']
   refine B5 hK1 (i + 1) (hlt) AA BD BL
  rw [if_neg (by rw [hb]; decide)] at hsn'
  refine zk <| zg <| zm rfl <| zv (AY rfl) <| zf rfl <| zm rfl <| ?_
  refine B2 Tryz.call137 rfl rfl (fun w1 => zp (FT g B0) fun D' _ _ H2 => H7 D' w1 g 0 1 B0 AF AF AA H2) ?_
  refine zn <| AG <| E2 6 mixed AB ?_
  refine AT (AO rfl) rfl <| AT (AY rfl) rfl <| AT (AP rfl) rfl <| AT (AP rfl) rfl <| AT (zw rfl rfl) rfl <| AT (CD rfl J2) rfl <| ?_
  refine EV <| ?_
  refine B2 Tryz.call137 rfl rfl (fun w1 => zp (FT g ((B0 ++ BE 0 1))) fun D' _ _ H2 => H7 D' w1 g (x.2.1.toNat) 4 ((B0 ++ BE 0 1)) AA AF NO H2) ?_
  refine zn <| E2 6 mixed AB ?_
  refine AT (AO rfl) rfl <| AT (AY rfl) rfl <| AT (AP rfl) rfl <| AT (AP rfl) rfl <| AT (zw rfl rfl) rfl <| ?_
  refine AT (CD (m := ((x.2.2.toNat : Nat) : Int)) rfl (JV AA AA)) rfl ?_
  refine EV <| ?_
  refine B2 Tryz.call137 rfl rfl (fun w1 => zp (FT g (((B0 ++ BE 0 1) ++ BE (x.2.1.toNat) 4))) fun D' _ _ H2 => H7 D' w1 g (x.2.2.toNat) 2 (((B0 ++ BE 0 1) ++ BE (x.2.1.toNat) 4)) AA AF NO H2) ?_
  refine AS <| zb <| zt <| AR <| zv (BM rfl rfl BO) <| ?_
  refine zm rfl <| AS <| ?_
  rw [hsn']
  refine B5 hK1 (i + 1) (hlt) AA BD BL
 have hie : i = lp.length := by omega
 subst hie
 rw [List.take_length]
 obtain ⟨Q1, hQ1⟩ : ∃ B, B = P1 ++ lp.flatMap IN := ⟨_, rfl⟩
 have hQ1l : Q1.length = P1.length + lp.length * 7 := by rw [hQ1, List.length_append, FU (f := IN) (sz := 7) TZ]
 rw [← hQ1]
 refine CF <| ze <| ze <| CE <| zt <| AG <| E2 7 mixed AB ?_
 refine AT (AO rfl) rfl <| AT (AY rfl) rfl <| AT (AP rfl) rfl <| AT (AP rfl) rfl <| AT (zw rfl rfl) rfl <| AT BN rfl <| ?_
 refine AT (CD rfl J2) rfl <| ?_
 refine EV <| ?_
 refine B2 Tryz.call137 rfl rfl (fun w1 => zp (FT g (Q1)) fun D' _ _ H2 => H7 D' w1 g (lv.length) 1 (Q1) AA AF AA H2) ?_
 refine zn <| AG <| zg <| zf rfl <| ?_
 refine zl rfl rfl <| zv BN <| ?_
 refine zm rfl <| zn <| BK <| ?_
 obtain ⟨P2, hP2⟩ : ∃ B, B = Q1 ++ BE lv.length 1 := ⟨_, rfl⟩
 rw [← hP2]
 have hP2l : P2.length ≤ 70 := by rw [hP2, List.length_append, IV]; omega
 refine GL (σ := Nat) [0, 3, 78, 79] rfl 80 (fun i => .int .i64 (i : Int)) (fun i => [FT g (P2 ++ (lv.take i).flatMap IQ), AI b3 49 [.int .i64 c.1, .int .i64 c.2.1, .int .i64 c.2.2.1, .slice Ap lp.length capp, .slice Av lv.length capv, .slice As ls.length caps]]) (fun i => i ≤ lv.length) (fun i => lv.length - i) (0) (Nat.zero_le _) rfl X4 ?_
 rintro i hj K2 hK2
 refine zg <| zv (B7 rfl rfl) <| zn <| AG <| BP rfl (fun h => ?_) (fun h => ?_)
 ·have hlt : i < lv.length := by omega
  obtain ⟨hA, _⟩ := CS.EP (D := D) (w0 := w) (f := BJ) (sz := 3) (fun _ => rfl) AF HSv hlt []
  have hc := fun l' => (CS.EP (D := D) (w0 := w) (f := BJ) (sz := 3) (fun _ => rfl) AF HSv hlt l').2
  have hx := ov' i hlt
  have hsn := RK IQ P2 lv i hlt
  obtain ⟨B0, hB0⟩ : ∃ B, B = P2 ++ (lv.take i).flatMap IQ := ⟨_, rfl⟩
  have hB0l : B0.length ≤ 600 := by rw [hB0, List.length_append, FU (f := IQ) (sz := 4) T7, List.length_take]; omega
  rw [← hB0] at hsn ⊢
  generalize lv[i] = x at *
  have hsn' : ((B0 ++ BE x.1.toNat 2) ++ BE x.2.1.toNat 1) ++ BE x.2.2.toNat 1 = P2 ++ (lv.take (i + 1)).flatMap IQ := by rw [← hsn]; simp only [IQ, List.append_assoc]
  refine zk <| AG <| BK <| zg <| zv (CZ rfl DP rfl _ rfl AA) <| ?_
  refine AZ (D4 (cs := BJ x) rfl rfl (hc _)) rfl <| AV (B9) rfl rfl rfl fun b8 =>  ?_
  refine A6 (CV (vs := BJ x) rfl rfl (by simp) (by simp) HZ) rfl rfl ?_
  refine zn <| AG <| ?_
  have hu1 := x.2.1.toNat_lt
  have hu2 := x.2.2.toNat_lt
  refine E2 6 mixed AB ?_
  refine AT (AO rfl) rfl <| AT (AY rfl) rfl <| AT (AP rfl) rfl <| AT (AP rfl) rfl <| AT (zw rfl rfl) rfl <| ?_
  refine AT (CD (m := ((x.1.toNat : Nat) : Int)) rfl (JV AA AA)) rfl ?_
  refine EV <| ?_
  refine B2 Tryz.call137 rfl rfl (fun w1 => zp (FT g (B0)) fun D' _ _ H2 => H7 D' w1 g (x.1.toNat) 2 (B0) AA AF AA H2) ?_
  refine zn <| AG <| E2 6 mixed AB ?_
  refine AT (AO rfl) rfl <| AT (AY rfl) rfl <| AT (AP rfl) rfl <| AT (AP rfl) rfl <| AT (zw rfl rfl) rfl <| AT (CD rfl J2) rfl <| ?_
  refine EV <| ?_
  refine B2 Tryz.call137 rfl rfl (fun w1 => zp (FT g ((B0 ++ BE (x.1.toNat) 2))) fun D' _ _ H2 => H7 D' w1 g (x.2.1.toNat) 1 ((B0 ++ BE (x.1.toNat) 2)) AA AF NO H2) ?_
  refine zn <| E2 6 mixed AB ?_
  refine AT (AO rfl) rfl <| AT (AY rfl) rfl <| AT (AP rfl) rfl <| AT (AP rfl) rfl <| AT (zw rfl rfl) rfl <| AT (CD rfl J2) rfl <| ?_
  refine EV <| ?_
  refine B2 Tryz.call137 rfl rfl (fun w1 => zp (FT g (((B0 ++ BE (x.1.toNat) 2) ++ BE (x.2.1.toNat) 1))) fun D' _ _ H2 => H7 D' w1 g (x.2.2.toNat) 1 (((B0 ++ BE (x.1.toNat) 2) ++ BE (x.2.1.toNat) 1)) AA AF NO H2) ?_
  refine AS <| zb <| zt <| AR <| zv (BM rfl rfl BO) <| ?_
  refine zm rfl <| AS <| ?_
  rw [hsn']
  refine B5 hK2 (i + 1) (hlt) AA BD BL
 have hie : i = lv.length := by omega
 subst hie
 rw [List.take_length]
 obtain ⟨Q2, hQ2⟩ : ∃ B, B = P2 ++ lv.flatMap IQ := ⟨_, rfl⟩
 have hQ2l : Q2.length = P2.length + lv.length * 4 := by rw [hQ2, List.length_append, FU (f := IQ) (sz := 4) T7]
 rw [← hQ2]
 refine CF <| ze <| ze <| CE <| zt <| AG <| E2 7 mixed AB ?_
 refine AT (AO rfl) rfl <| AT (AY rfl) rfl <| AT (AP rfl) rfl <| AT (AP rfl) rfl <| AT (zw rfl rfl) rfl <| AT BN rfl <| ?_
 refine AT (CD rfl J2) rfl <| ?_
 refine EV <| ?_
 refine B2 Tryz.call137 rfl rfl (fun w1 => zp (FT g (Q2)) fun D' _ _ H2 => H7 D' w1 g (ls.length) 1 (Q2) AA AF AA H2) ?_
 refine zn <| zg <| zf rfl <| zl rfl rfl <| ?_
 refine zv BN <| ?_
 refine zm rfl <| zn <| BK <| ?_
 obtain ⟨P3, hP3⟩ : ∃ B, B = Q2 ++ BE ls.length 1 := ⟨_, rfl⟩
 rw [← hP3]
 have hP3l : P3.length ≤ 140 := by rw [hP3, List.length_append, IV]; omega
 refine GL (σ := Nat) [0, 115, 116] rfl 117 (fun i => .int .i64 (i : Int)) (fun i => [FT g (P3 ++ (ls.take i).flatMap IM), AI b3 49 [.int .i64 c.1, .int .i64 c.2.1, .int .i64 c.2.2.1, .slice Ap lp.length capp, .slice Av lv.length capv, .slice As ls.length caps]]) (fun i => i ≤ ls.length) (fun i => ls.length - i) (0) (Nat.zero_le _) rfl X4 ?_
 rintro i hj K3 hK3
 refine zg <| zv (B7 rfl rfl) <| zn <| AG <| BP rfl (fun h => ?_) (fun h => ?_)
 ·have hlt : i < ls.length := by omega
  obtain ⟨hA, _⟩ := CS.EP (D := D) (w0 := w) (f := BW) (sz := 3) (fun _ => rfl) AF HSs hlt []
  have hc := fun l' => (CS.EP (D := D) (w0 := w) (f := BW) (sz := 3) (fun _ => rfl) AF HSs hlt l').2
  have hx := os' i hlt
  have hsn := RK IM P3 ls i hlt
  obtain ⟨B0, hB0⟩ : ∃ B, B = P3 ++ (ls.take i).flatMap IM := ⟨_, rfl⟩
  have hB0l : B0.length ≤ 600 := by rw [hB0, List.length_append, FU (f := IM) (sz := 9) TV, List.length_take]; omega
  rw [← hB0] at hsn ⊢
  generalize ls[i] = x at *
  have hsn' : ((B0 ++ BE x.1.toNat 6) ++ BE x.2.1.toNat 2) ++ BE x.2.2.toNat 1 = P3 ++ (ls.take (i + 1)).flatMap IM := by rw [← hsn]; simp only [IM, List.append_assoc]
  refine zk <| AG <| BK <| zg <| zv (CZ rfl DP rfl _ rfl AA) <| ?_
  refine AZ (D4 (cs := BW x) rfl rfl (hc _)) rfl <| AV (B9) rfl rfl rfl fun b10 =>  ?_
  refine A6 (CV (vs := BW x) rfl rfl (by simp) (by simp) CL) rfl rfl ?_
  refine zn <| AG <| ?_
  obtain ⟨⟨x1, x2⟩, x3, x4, x5⟩ := hx
  refine E2 5 mixed AB ?_
  refine AT (AO rfl) rfl <| AT (AY rfl) rfl <| AT (AP rfl) rfl <| AT (AP rfl) rfl <| AT (zw rfl rfl) rfl <| EV <| ?_
  refine B2 Tryz.call137 rfl rfl (fun w1 => zp (FT g (B0)) fun D' _ _ H2 => H7 D' w1 g (x.1.toNat) 6 (B0) AA AF AA H2) ?_
  refine zn <| AG <| E2 6 mixed AB ?_
  refine AT (AO rfl) rfl <| AT (AY rfl) rfl <| AT (AP rfl) rfl <| AT (AP rfl) rfl <| AT (zw rfl rfl) rfl <| ?_
  refine AT (CD (m := ((x.2.1.toNat : Nat) : Int)) rfl (JV AA AA)) rfl ?_
  refine EV <| ?_
  refine B2 Tryz.call137 rfl rfl (fun w1 => zp (FT g ((B0 ++ BE (x.1.toNat) 6))) fun D' _ _ H2 => H7 D' w1 g (x.2.1.toNat) 2 ((B0 ++ BE (x.1.toNat) 6)) AA AF NO H2) ?_
  refine zn <| E2 6 mixed AB ?_
  refine AT (AO rfl) rfl <| AT (AY rfl) rfl <| AT (AP rfl) rfl <| AT (AP rfl) rfl <| AT (zw rfl rfl) rfl <| ?_
  refine AT (CD (m := ((x.2.2.toNat : Nat) : Int)) rfl (JV AA AA)) rfl ?_
  refine EV <| ?_
  refine B2 Tryz.call137 rfl rfl (fun w1 => zp (FT g (((B0 ++ BE (x.1.toNat) 6) ++ BE (x.2.1.toNat) 2))) fun D' _ _ H2 => H7 D' w1 g (x.2.2.toNat) 1 (((B0 ++ BE (x.1.toNat) 6) ++ BE (x.2.1.toNat) 2)) AA AF NO H2) ?_
  refine AS <| zb <| zt <| AR <| zv (BM rfl rfl BO) <| ?_
  refine zm rfl <| AS <| ?_
  rw [hsn']
  refine B5 hK3 (i + 1) (hlt) AA BD BL
 have hie : i = ls.length := by omega
 subst hie
 rw [List.take_length]
 obtain ⟨Q3, hQ3⟩ : ∃ B, B = P3 ++ ls.flatMap IM := ⟨_, rfl⟩
 have hQ3l : Q3.length = P3.length + ls.length * 9 := by rw [hQ3, List.length_append, FU (f := IM) (sz := 9) TV]
 rw [← hQ3]
 refine CF <| ze <| ze <| CE <| ?_
 have hall : Q3 = JM c ++ (BE lp.length 1 ++ lp.flatMap IN) ++ (BE lv.length 1 ++ lv.flatMap IQ) ++ (BE ls.length 1 ++ ls.flatMap IM) := by rw [hQ3, hP3, hQ2, hP2, hQ1, hP1]; simp only [List.append_assoc]
 rw [← hall]
 exact M9 (.inl rfl) rfl fun w' H' => ⟨rfl, H'.AK (AD.cons (AD.nil _))⟩
theorem jU (D : Nat → Prop) (w : World) (c : CA) (vp vv vs : Value) (H : ER D w c vp vv vs) :
  Calls Tryz.prog 110 #[.agg (C9 c vp vv vs).toArray] w fun e w' => (¬ C4 c ∧ e = .returned (.tuple #[.slice none 0 0, .int .i64 14]) ∧ AH D w w' []) ∨
   (C4 c ∧ ∃ q : Option Addr × Nat, e = .returned (.tuple #[.slice q.1 (C8 c).length q.2, .int .i64 0]) ∧ AH D w w' [row q.1 5 1 (C8 c).length q.2 ((C8 c).map AU)]) := by
 refine BZ (vs := [.agg (C9 c vp vv vs).toArray]) Tryz.func110 rfl _ Tryz.ntmps110 rfl (AH.start D w) ?_
 simp only [BX, Nat.zero_add]
 refine zg <| AV (EE rfl rfl) rfl rfl rfl fun b1 =>  ?_
 refine zs rfl <| zs rfl <| zn <| AG <| AG <| AR <| zv DY <| ?_
 refine CQ (σ := EX (C4 c)) Tryz.call77 rfl rfl (fun w1 => zu fun D' hold _ _ => T5 D' w1 c vp vv vs (H.hold hold)) ?_
 intro r
 try rw [List.nil_append]
 refine zv FC <| ?_
 refine zn <| FW rfl (fun hb => ?_) (fun hb => ?_)
 ·have hno : ¬ C4 c := fun h => by have := r.2.2 h; rw [this] at hb; cases hb
  refine zg <| zs rfl <| zs rfl <| zn <| zq <| zr <| ?_
  exact E5 (.inr rfl) rfl rfl rfl fun w' H' => .inl ⟨hno, rfl, H'.AK (AD.nil _)⟩
 have hg : C4 c := r.2.1 (by simpa using hb)
 refine zk <| zg <| zv (CH rfl rfl) <| ?_
 refine AV (EE rfl rfl) rfl rfl rfl fun b9 =>  ?_
 refine zs rfl <| zn <| zg <| HL.AK (fY b9 _) ?_
 refine zm rfl <| zv DY <| ?_
 refine B2 Tryz.call142 rfl rfl (fun w1 => zp (FT b9 []) fun D' hold _ H2 => iY D' w1 b9 c vp vv vs hg.S7 (H.hold hold) H2) ?_
 refine zn <| zg <| HL.exs ?_
 rintro ⟨A, cc⟩
 dsimp only [List.cons_append, List.nil_append]
 refine zm rfl <| zv (AY rfl) <| zf rfl <| zf rfl <| zl rfl rfl <| zs rfl <| ?_
 refine zs rfl <| zn <| zq <| ?_
 exact E5 (.inr rfl) rfl rfl rfl fun w' H' => .inr ⟨hg, (A, cc), rfl, H'.AK Z8⟩
end Go.Proofs.YtjlolpmmpafjeaaGreat

set_option linter.unusedVariables false
set_option linter.unusedSimpArgs false
namespace Go.Proofs.YtjlolpmmpafjeaaGreat
open CN
def E0 (n : Nat) : CA := (32768, 20, 15, List.replicate n (true, 20000, 1), [(1, UInt8.ofNat (2 ^ n - 1), 0)], [])
theorem gF : ∀ p : Fin 8, IntKind.u8.wrap ((1 : Int) * 2 ^ (min ((p : Nat) : Int).toNat 8)) = ((2 ^ (p : Nat) : Nat) : Int) ∧ IntKind.u8.wrap ((BitVec.ofInt 8 (((2 ^ (p : Nat) - 1 : Nat) : Int)) ||| BitVec.ofInt 8 (((2 ^ (p : Nat) : Nat) : Int))).toNat : Int) = ((2 ^ ((p : Nat) + 1) - 1 : Nat) : Int) := by decide +kernel
theorem lH (D : Nat → Prop) (w : World) (n : Nat) (h1 : 1 ≤ n) (h2 : n ≤ 8) :
  Calls Tryz.prog 74 #[.int .i64 n] w fun e w' => ∃ q : (Option Addr × Nat) × Nat, e = .returned (.tuple #[.agg (C9 (E0 n) (.slice q.1.1 n q.1.2) (.slice (some ⟨q.2, 0, none⟩) 1 1) (.slice none 0 0)).toArray, .int .i64 0]) ∧
   AH D w w' [row q.1.1 83 3 n q.1.2 ((E0 n).2.2.2.1.flatMap CJ), row (some ⟨q.2, 0, none⟩) 147 3 1 1 ((E0 n).2.2.2.2.1.flatMap BJ)] := by
 refine BZ (vs := [.int .i64 n]) Tryz.func74 rfl _ Tryz.ntmps74 rfl (AH.start D w) ?_
 simp only [BX, Nat.zero_add]
 refine zg <| AV (B9) rfl rfl rfl fun b2 =>
  zs rfl <| zn <| ?_
 refine AG <| zg <| zm rfl <| zv (B7 rfl rfl) <| zm rfl <| F0 (t := 9) rfl AA ?_
 refine AJ rfl rfl <| zm rfl <| AJ rfl rfl <| zv (DV rfl rfl) <| zv (A8 rfl rfl) <| zn <| CP rfl AA ?_
 refine zk <| zg <| zv (CH rfl rfl) <| ?_
 refine AV (B9) rfl rfl rfl fun b4 => 
  A6 (DT rfl rfl rfl rfl rfl rfl) rfl rfl <| zn <| zg <| ?_
 refine zv (CH rfl rfl) <| ?_
 refine AV (B9) rfl rfl rfl fun b5 => 
  A6 (DT rfl rfl rfl rfl rfl rfl) rfl rfl <| zn <| AG <| AG <| ?_
 refine AR <| zm rfl <| zm rfl <| zn <| BK <| GL (σ := Nat × Option Addr × Nat) [2, 4, 5, 16] rfl 17 (fun s => .int .i64 (s.1 : Int)) (fun s => [AI b4 49 [.int .i64 32768, .int .i64 20, .int .i64 15, .slice s.2.1 s.1 s.2.2, .slice none 0 0, .slice none 0 0], row s.2.1 83 3 s.1 s.2.2 ((List.replicate s.1 ((true, 20000, 1) : GI)).flatMap CJ), AI b5 147 [.int .i64 1, .int .u8 ((2 ^ s.1 - 1 : Nat) : Int), .int .u8 0], AI b2 49 [.int .i64 0, .int .i64 0, .int .i64 0, .slice none 0 0, .slice none 0 0, .slice none 0 0]]) (fun s => s.1 ≤ n) (fun s => n - s.1) ((0, none, 0)) (Nat.zero_le _) rfl (AD.trans (b := [AI b4 49 [.int .i64 32768, .int .i64 20, .int .i64 15, .slice none 0 0, .slice none 0 0, .slice none 0 0], row none 83 3 0 0 [], AI b5 147 [.int .i64 1, .int .u8 0, .int .u8 0], AI b2 49 [.int .i64 0, .int .i64 0, .int .i64 0, .slice none 0 0, .slice none 0 0, .slice none 0 0]]) (AD.trans (AD.EB 83 3) Z8) (AD.refl _)) ?_
 rintro ⟨p, A, c⟩ hp K1 hK1
 dsimp only at hp ⊢
 refine zg <| zv (B7 rfl rfl) <| zn <| AG <| BP rfl (fun h => ?_) (fun h => ?_)
 ·have hlt : p < n := by omega
  obtain ⟨k1, k2⟩ := gF ⟨p, by omega⟩
  have hrep : (List.replicate p ((true, 20000, 1) : GI)).flatMap CJ ++ CJ (true, 20000, 1) = (List.replicate (p + 1) ((true, 20000, 1) : GI)).flatMap CJ := by
   rw [List.replicate_succ', List.flatMap_append, List.flatMap_singleton]
  refine zk <| AG <| BK <| zg <| zm rfl <| zs rfl <| zn <| zg <| zf rfl <| zl rfl rfl <| zv (CH rfl rfl) <| ?_
  refine AV (BS rfl rfl rfl) rfl rfl rfl fun b23 =>  ?_
  refine AV (BT (A := A) (news := CJ (true, 20000, 1)) rfl rfl (BB.AI (b := b23)) rfl CL AF AA) rfl rfl rfl (fun q2 => ?_)
  rw [hrep]
  refine zf rfl <| ?_
  refine A6 (CI [.int .i64 32768, .int .i64 20, .int .i64 15, .slice q2.1 (p + 1) q2.2, .slice none 0 0, .slice none 0 0] rfl rfl (by simp) rfl rfl) rfl rfl ?_
  refine zn <| E2 6 mixed AB ?_
  refine AT (AP rfl) rfl <| AT (zw rfl rfl) rfl <| AT (AO rfl) rfl <| ?_
  refine AT (PX (m := ((2 ^ p : Nat) : Int)) rfl rfl AA k1) rfl ?_
  refine AT (SZ (m := ((2 ^ (p + 1) - 1 : Nat) : Int)) rfl rfl k2) rfl ?_
  refine AT (AP rfl) rfl <| EV <| ?_
  refine A6 (CI [.int .i64 1, .int .u8 ((2 ^ (p + 1) - 1 : Nat) : Int), .int .u8 0] rfl rfl (by simp) rfl rfl) rfl rfl ?_
  refine AS <| zb <| zt <| AR <| zv (BM rfl rfl BO) <| ?_
  refine zm rfl <| AS <| B5 hK1 ((p + 1, q2)) (hlt) (by show n - (p + 1) < n - p; omega) BD BL
 have hpn : p = n := by omega
 subst hpn
 have hlt : 2 ^ p ≤ 2 ^ 8 := Nat.pow_le_pow_right AF h2
 have hu : (E0 p).2.2.2.2.1.flatMap BJ = [.int .i64 1, .int .u8 ((2 ^ p - 1 : Nat) : Int), .int .u8 0] := by
  show BJ (1, UInt8.ofNat (2 ^ p - 1), 0) ++ [] = _
  rw [List.append_nil]
  show [Value.int .i64 1, AU (UInt8.ofNat (2 ^ p - 1)), AU 0] = _
  rw [NU, Nat.mod_eq_of_lt AA]; rfl
 rw [hu]
 refine CF <| ze <| ze <| CE <| zt <| AG <| AR <| zv DY <| ?_
 refine AV (BS rfl rfl rfl) rfl rfl rfl fun b34 => 
  zf rfl <| A6 (DN rfl rfl rfl rfl rfl) rfl rfl <| zn <| AG <| ?_
 refine AR <| zv DY <| ?_
 refine A6 (DT rfl rfl rfl rfl rfl rfl) rfl rfl <| zs rfl <| zn <| zq <| ?_
 exact ID (.inr rfl) rfl rfl (by simp) rfl fun w' H' => ⟨((A, c), b34), rfl, H'.AK (AD.trans (b := [AI b34 147 [.int .i64 1, .int .u8 ((2 ^ p - 1 : Nat) : Int), .int .u8 0], row A 83 3 p c ((E0 p).2.2.2.1.flatMap CJ)]) (show AD _ [_, row A 83 3 p c ((List.replicate p ((true, 20000, 1) : GI)).flatMap CJ)] from Z8) (AD.trans (AD.FQ 3 1 rfl AF) Z8))⟩
theorem KR {k : CK} {ks : List CK} {v : Value} {cs : List Value} (h : (JL k v).isSome = true) (t : (FX ks cs).isSome = true) : (FX (k :: ks) (v :: cs)).isSome = true := by
 obtain ⟨a, ha⟩ := Option.isSome_iff_exists.1 h
 obtain ⟨b, hb⟩ := Option.isSome_iff_exists.1 t
 simp only [FX, ha, hb]; rfl
theorem iG (b : UInt8) : (JL (.i .u8) (AU b)).isSome = true := by
 have h := b.toNat_lt
 simp only [AU, JL]
 rw [if_pos VI]; rfl
theorem tN (b : UInt32) : (JL (.i .u32) (.int .u32 (b.toNat : Int))).isSome = true := by
 have h := b.toNat_lt
 simp only [JL]
 rw [if_pos VI]; rfl
theorem tF (b : UInt64) : (JL (.i .u64) (.int .u64 (b.toNat : Int))).isSome = true := by
 have h := b.toNat_lt
 simp only [JL]
 rw [if_pos VI]; rfl
theorem VJ {x : Int} (h : DO x) : (JL (.i .i64) (.int .i64 x)).isSome = true := by
 unfold DO at h
 simp only [JL]
 rw [if_pos VI]; rfl
theorem kH {a b : UInt8} : (a.toNat : Int) = b.toNat ↔ a = b := ⟨fun h => UInt8.toNat_inj.1 AA, fun h => by rw [h]⟩
theorem jB {a b : UInt32} : (a.toNat : Int) = b.toNat ↔ a = b := ⟨fun h => UInt32.toNat_inj.1 AA, fun h => by rw [h]⟩
theorem jK {a b : UInt64} : (a.toNat : Int) = b.toNat ↔ a = b := ⟨fun h => UInt64.toNat_inj.1 AA, fun h => by rw [h]⟩
theorem nI {s t : GI} : CJ s = CJ t ↔ s = t := by
 obtain ⟨a, b, c⟩ := s; obtain ⟨a', b', c'⟩ := t
 simp only [CJ, List.cons.injEq, Value.bool.injEq, Value.int.injEq, true_and, and_true, Prod.mk.injEq, jB]
theorem mS {s t : EI} : BJ s = BJ t ↔ s = t := by
 obtain ⟨a, b, c⟩ := s; obtain ⟨a', b', c'⟩ := t
 simp only [BJ, AU, List.cons.injEq, Value.bool.injEq, Value.int.injEq, true_and, and_true, Prod.mk.injEq, kH]
theorem m5 {s t : FM} : BW s = BW t ↔ s = t := by
 obtain ⟨a, b, c⟩ := s; obtain ⟨a', b', c'⟩ := t
 simp only [BW, List.cons.injEq, Value.bool.injEq, Value.int.injEq, true_and, and_true, Prod.mk.injEq, jK]
theorem eG {x : GI} (h : Flat.ok x) : (FX [.b, .i .u32, .i .i64] (CJ x)).isSome = true := KR rfl (KR (tN _) (KR (VJ h) rfl))
theorem fM {x : EI} (h : Flat.ok x) : (FX [.i .i64, .i .u8, .i .u8] (BJ x)).isSome = true := KR (VJ h) (KR (iG _) (KR (iG _) rfl))
theorem fI {x : FM} (h : Flat.ok x) : (FX [.i .u64, .i .i64, .i .i64] (BW x)).isSome = true := KR (tF _) (KR (VJ h.1) (KR (VJ h.2) rfl))
end Go.Proofs.YtjlolpmmpafjeaaGreat
