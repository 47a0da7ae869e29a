import Derived.Test.YtjlolpmmpafjeaaGreatU08
set_option linter.unusedVariables false
set_option linter.unusedSimpArgs false
namespace Go.Proofs.YtjlolpmmpafjeaaGreat
open CN
structure RS where
 rem : List UInt8
 v : Value
 bad : Bool
def XZ (v : Value) (k : Nat) : Value := match v with
 | .slice A n c => .slice (if c = k then A else A.map (·.add (k * 1))) (n - k) (c - k)
 | v => v
def JY (xs : List UInt8) : Nat := xs.foldl (fun n c => n * 256 + c.toNat) 0
theorem WL (xs : List UInt8) (k : Nat) (h : k < xs.length) : JY (xs.take (k + 1)) = JY (xs.take k) * 256 + xs[k].toNat := by
 unfold JY
 rw [List.take_succ_eq_append_getElem h, List.foldl_append]; rfl
theorem XC (xs : List UInt8) (k : Nat) (hk : k ≤ xs.length) : JY (xs.take k) < 256 ^ k := by
 induction k with
 | zero => simp [JY]
 | succ k ih =>
  rw [WL xs k AA]
  have := ih AA
  have hb := xs[k].toNat_lt
  rw [Nat.pow_succ]; omega
def BU (s : RS) (k : Nat) : Nat := if s.rem.length < k then 0 else JY (s.rem.take k)
def AN (s : RS) (k : Nat) : RS := if s.rem.length < k then ⟨[], .slice none 0 0, true⟩ else ⟨s.rem.drop k, XZ s.v k, s.bad⟩
theorem EA {D : Nat → Prop} {w : World} {s : RS} (k : Nat) (h : Old D w (AX.rep s.rem [s.v])) : Old D w (AX.rep (AN s k).rem [(AN s k).v]) := by
 unfold AN
 split
 ·exact Old.nil
 rename_i hk
 obtain ⟨A, c, hv, _⟩ := h.IG
 refine h.imp fun x hx => ?_
 have hx : AX.rep s.rem [s.v] x := hx
 rw [hv] at hx
 have := I4 hx k s.rem.length AA (Nat.le_refl _)
 rw [hv]
 have e : (s.rem.drop k).take (s.rem.length - k) = s.rem.drop k := List.take_of_length_le (by simp)
 rw [e] at this
 exact this
theorem G7 (s : RS) (k : Nat) : BU s k < 256 ^ k := by
 unfold BU
 split
 ·exact Nat.pow_pos AF
 exact XC _ _ AA
theorem oB (a b : Nat) (ha : a < 72057594037927936) (hb : b < 256) : IntKind.u64.wrap (BitVec.ofInt 64 (((a * 256 : Nat) : Int)) ||| BitVec.ofInt 64 (b : Int)).toNat = ((a * 256 + b : Nat) : Int) := by
 have e1 : BitVec.ofInt 64 ((a * 256 : Nat) : Int) = BitVec.ofNat 64 (a * 256) := rfl
 have e2 : BitVec.ofInt 64 (b : Int) = BitVec.ofNat 64 b := rfl
 rw [e1, e2, BitVec.toNat_or, BitVec.toNat_ofNat, BitVec.toNat_ofNat]
 rw [Nat.mod_eq_of_lt AA, Nat.mod_eq_of_lt AA]
 have := Nat.two_pow_add_eq_or_of_lt (i := 8) (b := b) AA a
 rw [show a * 256 = 2 ^ 8 * a by omega, ← this]
 exact wrap_u64 AA
theorem qI (c : Prop) [Decidable c] (A : Option Addr) (s : Nat) : (if c then A else A.map (·.add (0 * s))) = A := by
 split
 ·rfl
 cases A with
 | none => rfl
 | some a => simp [Addr.add]
theorem mK {P : Program} {D : Nat → Prop} {w0 : World} {env : BH} {l : List AQ} {dst : Option Tmp} {ty : TypeId} {pos : String} {after : Array Edge} {g : Option (Nat × Bool)} {t e : TypeId} {s bb : Nat} {z : List Value} [h : E6 P t e] [hs : CX P e s bb z] {x : Operand} {ol oh : Option Operand} {A : Option Addr} {n cap : Nat} (hx : BQ env x = some (.slice A n cap)) (lo hi : Nat)
  (hl : (ol = none ∧ lo = 0) ∨ ∃ o k, ol = some o ∧ BQ env o = some (.int k lo)) (hh : (oh = none ∧ hi = n) ∨ ∃ o k, oh = some o ∧ BQ env o = some (.int k hi)) (h1 : lo ≤ hi) (h2 : hi ≤ cap) {R : Value} (hR : Value.slice (if cap = lo then A else A.map (·.add (lo * s))) (hi - lo) (cap - lo) = R) :
  DI P D w0 env l ⟨dst, .slice t x ol oh none, ty, pos, after, g⟩ R := hR ▸ FE hx lo hi hl hh h1 h2
theorem J8 (D : Nat → Prop) (w : World) (g t k : Nat) (s : RS) (hk : k ≤ 6) (H : AH D w w [AI g t [s.v, .bool s.bad]]) (HA : Old D w (AX.rep s.rem [s.v])) :
  Calls Tryz.prog 114 #[.pointer (some ⟨g, 0, none⟩), .int .i64 k] w fun e w' => e = .returned (.int .u64 (BU s k)) ∧ AH D w w' [AI g t [(AN s k).v, .bool (AN s k).bad]] := by
 obtain ⟨A, cap, hv, hc1, hc2, HS⟩ := HA.IG
 obtain ⟨xs, v, bad⟩ := s
 dsimp only at *
 subst hv
 unfold BU AN
 dsimp only
 refine BZ (vs := [.pointer (some ⟨g, 0, none⟩), .int .i64 k]) Tryz.func114 rfl _ Tryz.ntmps114 rfl H ?_
 simp only [BX, Nat.zero_add]
 refine zg <| zs rfl <| zn <| AG <| zg <| zm rfl <| zv (AY rfl) <| zf rfl <| zl rfl rfl <| ?_
 refine zv BN <| ?_
 refine zm rfl <| zv (B7 rfl rfl) <| zn <| BP rfl (fun h => ?_) (fun h => ?_)
 ·have hlt : xs.length < k := by omega
  rw [if_pos hlt, if_pos hlt]
  refine zg <| zm rfl <| zm rfl <| zv (AY rfl) <| zf rfl <| ?_
  refine A6 (DN rfl rfl rfl rfl rfl) rfl rfl <| zv (AY rfl) <| zf rfl <| A6 (DN rfl rfl rfl rfl rfl) rfl rfl <| zn <| ?_
  refine zg <| zs rfl <| zn <| zq <| zr <| ?_
  exact zz rfl rfl fun w' H' => ⟨rfl, H'⟩
 have hge : ¬ xs.length < k := by omega
 rw [if_neg hge, if_neg hge]
 refine zk <| zg <| zs rfl <| AS <| zt <| AG <| zg <| zm rfl <| zv (AY rfl) <| zf rfl <| zl rfl rfl <| zm rfl <| ?_
 refine AZ (mK rfl 0 k (.inl ⟨rfl, rfl⟩) (.inr ⟨_, _, rfl, rfl⟩) (Nat.zero_le _) AA (R := .slice A k cap) (by rw [qI]; rfl)) rfl ?_
 refine zv BN <| ?_
 refine zm rfl <| zn <| BK <| PI (σ := Nat) [0, 1, 26, 27] rfl 28 (fun i => .int .i64 (i : Int)) 5 (fun i => .int .u64 ((JY (xs.take i) : Nat) : Int)) (fun i => i ≤ k) (fun i => k - i) (0) (Nat.zero_le _) rfl rfl ?_
 rintro i hj K1 hK1
 refine zg <| zv (B7 rfl rfl) <| zn <| AG <| BP rfl (fun h2 => ?_) (fun h2 => ?_)
 ·have hlt : i < xs.length := by omega
  have hA : CU A := HS.CU S6
  have hcell : EH D w [AI g t [.slice A xs.length cap, .bool bad]] (ab A) (ao A + i * 1) (AU xs[i]) := by
   rw [Nat.mul_one]
   exact (BB.old HS).cell (by simp [hlt])
  have hx := xs[i].toNat_lt
  have hsn := WL xs i hlt
  have hb := XC xs i AA
  have hb3 : JY (xs.take i) < 72057594037927936 := Nat.lt_of_lt_of_le hb (by have : 256 ^ i ≤ 256 ^ 7 := Nat.pow_le_pow_right AF AA; exact this)
  obtain ⟨m, hm⟩ : ∃ m, m = JY (xs.take i) := ⟨_, rfl⟩
  rw [← hm] at hsn hb3
  unfold AU at hcell
  refine zk <| AG <| BK <| zg <| zv (CZ rfl DP rfl _ rfl AA) <| zv Z9 <| ?_
  refine zs rfl <| zn <| AR <| zm rfl <| AZ (PX (m := ((m * 256 : Nat) : Int)) rfl rfl AF (by rw [← hm]; show IntKind.u64.wrap ((m : Int) * 256) = _; rw [show (m : Int) * 256 = ((m * 256 : Nat) : Int) by omega]; exact wrap_u64 AA)) rfl ?_
  refine zm rfl <| zv (CD rfl J2) <| ?_
  refine AZ (SZ (m := ((JY (xs.take (i + 1)) : Nat) : Int)) rfl rfl (by rw [hsn]; exact oB m _ hb3 hx)) rfl ?_
  refine zs rfl <| AS <| zb <| zt <| AR <| zv (BM rfl rfl BO) <| ?_
  refine zm rfl <| AS <| B5 hK1 (i + 1) AA AA BD BL
 have hik : i = k := by omega
 subst hik
 refine CF <| ze <| ze <| CE <| zt <| AG <| AR <| zm rfl <| zm rfl <| zv (AY rfl) <| zf rfl <| zl rfl rfl <| ?_
 refine zm rfl <| zv (FE rfl _ _ (.inr ⟨_, _, rfl, rfl⟩) (.inl ⟨rfl, rfl⟩) AA AA) <| zv (AY rfl) <| zf rfl <| ?_
 refine A6 (CI [XZ (.slice A xs.length cap) i, .bool bad] rfl rfl (by simp) rfl rfl) rfl rfl ?_
 refine zn <| zg <| zm rfl <| zs rfl <| zn <| zq <| ?_
 exact zz rfl rfl fun w' H' => ⟨rfl, H'⟩
theorem GG (D : Nat → Prop) (w : World) (g t k : Nat) (s : RS) (hk : k ≤ 6) (H : AH D w w [AI g t [s.v, .bool s.bad]]) (HA : Old D w (AX.rep s.rem [s.v])) :
  Calls Tryz.prog 113 #[.pointer (some ⟨g, 0, none⟩), .int .i64 k] w fun e w' => e = .returned (.int .i64 (BU s k)) ∧ AH D w w' [AI g t [(AN s k).v, .bool (AN s k).bad]] := by
 have hb := G7 s k
 have hb3 : BU s k < 281474976710656 := Nat.lt_of_lt_of_le hb (by have : 256 ^ k ≤ 256 ^ 6 := Nat.pow_le_pow_right AF hk; exact this)
 refine BZ (vs := [.pointer (some ⟨g, 0, none⟩), .int .i64 k]) Tryz.func113 rfl _ Tryz.ntmps113 rfl H ?_
 simp only [BX, Nat.zero_add]
 refine zg <| zs rfl <| zn <| AG <| AR <| zm rfl <| zm rfl <| B2 Tryz.call114 rfl rfl (fun w1 => zp (AI g t [s.v, .bool s.bad]) fun D' hold _ H2 => J8 D' w1 g t k s hk H2 (hold _ HA)) ?_
 refine zv (CD rfl BO) <| ?_
 refine zs rfl <| zn <| zq <| ?_
 exact zz rfl rfl fun w' H' => ⟨rfl, H'⟩
theorem ZX (D : Nat → Prop) (w : World) (g t : Nat) (s : RS) (H : AH D w w [AI g t [s.v, .bool s.bad]]) (HA : Old D w (AX.rep s.rem [s.v])) :
  Calls Tryz.prog 76 #[.pointer (some ⟨g, 0, none⟩)] w fun e w' => ∃ b : EX (s.bad = false ∧ s.rem = []), e = .returned (.bool b.1) ∧ AH D w w' [AI g t [s.v, .bool s.bad]] := by
 obtain ⟨A, cap, hv, hc1, hc2, HS⟩ := HA.IG
 obtain ⟨xs, v, bad⟩ := s
 dsimp only at *
 subst hv
 refine BZ (vs := [.pointer (some ⟨g, 0, none⟩)]) Tryz.func76 rfl _ Tryz.ntmps76 rfl H ?_
 simp only [BX, Nat.zero_add]
 refine zg <| zs rfl <| zn <| AG <| AR <| zm rfl <| zv (AY rfl) <| zf rfl <| zf rfl <| zl rfl rfl <| ?_
 refine zv FC <| ?_
 refine zm rfl <| KY (t := 9) rfl (fun h => ?_) (fun h => ?_)
 ·have hb : bad = false := by simpa using h
  refine AJ rfl rfl <| zm rfl <| AJ rfl rfl <| zv (AY rfl) <| AJ rfl rfl <| zf rfl <| AJ rfl rfl <| zf rfl <| AJ rfl rfl <| zl rfl rfl <| AJ rfl rfl <| zv BN <| ?_
  refine AJ rfl rfl <| zv (CO rfl rfl) <| DB (t := 16) rfl (fun h2 => ?_) (fun h2 => ?_)
  ·have h3 : xs = [] := List.eq_nil_of_length_eq_zero AA
   refine zv (BF rfl rfl) <| zs rfl <| zn <| zq <| ?_
   exact zz rfl rfl fun w' H' => ⟨bT ⟨hb, h3⟩, rfl, H'⟩
  refine zv (BF rfl rfl) <| zs rfl <| zn <| zq <| ?_
  exact zz rfl rfl fun w' H' => ⟨bF (fun h => h2 (by rw [h.2]; rfl)), rfl, H'⟩
 have hb : ¬ bad = false := by simpa using h
 refine zo rfl rfl <| zo rfl rfl <| zo rfl rfl <| zo rfl rfl <| zo rfl rfl <| zo rfl rfl <| zo rfl rfl <| zv (A8 rfl rfl) <| zs rfl <| zn <| zq <| ?_
 exact zz rfl rfl fun w' H' => ⟨bF (fun h => hb h.1), rfl, H'⟩
attribute [irreducible] AN BU
end Go.Proofs.YtjlolpmmpafjeaaGreat

set_option linter.unusedVariables false
set_option linter.unusedSimpArgs false
namespace Go.Proofs.YtjlolpmmpafjeaaGreat
open CN
def IT (s : RS) : C5 × RS :=
 let s1 := AN s 1
 let s2 := AN s1 1
 let s3 := AN s2 4
 let s4 := AN s3 2
 let s5 := AN s4 1
 let s6 := AN s5 1
 ((BU s 1, BU s1 1, BU s2 4, BU s3 2, UInt8.ofNat (BU s4 1), UInt8.ofNat (BU s5 1), UInt64.ofNat (BU s6 6)), AN s6 6)
def D8 : Nat → RS → List C5 × RS
 | 0, s => ([], s)
 | i + 1, s => ((D8 i s).1 ++ [(IT (D8 i s).2).1], (IT (D8 i s).2).2)
theorem dX (i : Nat) (s : RS) : (D8 i s).1.length = i := by
 induction i with
 | zero => rfl
 | succ i ih => simp [D8, ih]
theorem rC {D : Nat → Prop} {w : World} {s : RS} (h : Old D w (AX.rep s.rem [s.v])) : Old D w (AX.rep (IT s).2.rem [(IT s).2.v]) := EA 6 (EA 1 (EA 1 (EA 2 (EA 4 (EA 1 (EA 1 h))))))
theorem WW {D : Nat → Prop} {w : World} {s : RS} (i : Nat) (h : Old D w (AX.rep s.rem [s.v])) : Old D w (AX.rep (D8 i s).2.rem [(D8 i s).2.v]) := by
 induction i with
 | zero => exact h
 | succ i ih => exact rC ih
theorem bJ (s : RS) : DL (IT s).1 = [.int .i64 (BU s 1), .int .i64 (BU (AN s 1) 1), .int .i64 (BU (AN (AN s 1) 1) 4), .int .i64 (BU (AN (AN (AN s 1) 1) 4) 2), .int .u8 ((BU (AN (AN (AN (AN s 1) 1) 4) 2) 1 % 256 : Nat) : Int), .int .u8 ((BU (AN (AN (AN (AN (AN s 1) 1) 4) 2) 1) 1 % 256 : Nat) : Int), .int .u64 (BU (AN (AN (AN (AN (AN (AN s 1) 1) 4) 2) 1) 1) 6)] := by
 have h : BU (AN (AN (AN (AN (AN (AN s 1) 1) 4) 2) 1) 1) 6 < 18446744073709551616 := Nat.lt_of_lt_of_le (G7 _ 6) AF
 show [_, _, _, _, AU (UInt8.ofNat _), AU (UInt8.ofNat _), _] = _
 rw [NU, NU]
 simp only [IT, UInt64.toNat_ofNat']
 rw [Nat.mod_eq_of_lt h]
theorem jY (D : Nat → Prop) (w : World) (g t : Nat) (s : RS) (H : AH D w w [AI g t [s.v, .bool s.bad]]) (HA : Old D w (AX.rep s.rem [s.v])) :
  Calls Tryz.prog 125 #[.pointer (some ⟨g, 0, none⟩)] w fun e w' => ∃ q : Option Addr × Nat, e = .returned (.slice q.1 (BU s 1) q.2) ∧ AH D w w' [row q.1 81 7 (BU s 1) q.2 ((D8 (BU s 1) (AN s 1)).1.flatMap DL), AI g t [(D8 (BU s 1) (AN s 1)).2.v, .bool (D8 (BU s 1) (AN s 1)).2.bad]] := by
 have hn : BU s 1 < 256 := G7 s 1
 refine BZ (vs := [.pointer (some ⟨g, 0, none⟩)]) Tryz.func125 rfl _ Tryz.ntmps125 rfl H ?_
 simp only [BX, Nat.zero_add]
 refine zg <| zs rfl <| zn <| AG <| AR <| zs rfl <| zn <| AG <| AG <| AR <| zm rfl <| zv (AY rfl) <| zf rfl <| ?_
 refine B2 Tryz.call113 rfl rfl (fun w1 => zp (AI g t [s.v, .bool s.bad]) fun D' hold _ H2 => GG D' w1 g t 1 s AF H2 (hold _ HA)) ?_
 have HA1 := EA 1 HA
 generalize AN s 1 = s1 at *
 generalize BU s 1 = n at *
 refine zm rfl <| zn <| BK <| JA (σ := Nat × Option Addr × Nat) [0, 7] rfl 8 (fun q => .int .i64 (q.1 : Int)) 3 (fun q => .slice q.2.1 q.1 q.2.2) (fun q => [row q.2.1 81 7 q.1 q.2.2 ((D8 q.1 s1).1.flatMap DL), AI g t [(D8 q.1 s1).2.v, .bool (D8 q.1 s1).2.bad]]) (fun q => q.1 ≤ n) (fun q => n - q.1) ((0, none, 0)) (Nat.zero_le _) rfl rfl (AD.EB 81 7) ?_
 rintro ⟨i, A, c⟩ hi K1 hK1
 dsimp only at hi ⊢
 have HAi := WW i HA1
 refine zg <| zv (B7 rfl rfl) <| zn <| AG <| BP rfl (fun h => ?_) (fun h => ?_)
 ·have hlt : i < n := by omega
  have hce := bJ (D8 i s1).2
  have hs7 : (D8 (i + 1) s1).2 = AN (AN (AN (AN (AN (AN (AN (D8 i s1).2 1) 1) 4) 2) 1) 1) 6 := rfl
  have hl7 : (D8 i s1).1.flatMap DL ++ DL (IT (D8 i s1).2).1 = (D8 (i + 1) s1).1.flatMap DL := by
   show _ = ((D8 i s1).1 ++ [(IT (D8 i s1).2).1]).flatMap DL
   rw [List.flatMap_append, List.flatMap_singleton]
  generalize (D8 i s1).2 = r0 at *
  have K0 := HAi
  have K1 := EA 1 K0
  have K2 := EA 1 K1
  have K3 := EA 4 K2
  have K4 := EA 2 K3
  have K5 := EA 1 K4
  have K6 := EA 1 K5
  refine zk <| AG <| BK <| EF [] mixed 35 rfl ?_
  refine AE 0 rfl (AO rfl) rfl <| AE 1 rfl (AO rfl) rfl <| AE 2 rfl (AY rfl) rfl <| AE 3 rfl (AP rfl) rfl <| AE 5 rfl (AO rfl) rfl <| AE 6 rfl (AY rfl) rfl <| AE 7 rfl (AP rfl) rfl <| AE 9 rfl (AO rfl) rfl <| AE 10 rfl (AY rfl) rfl <| AE 11 rfl (AP rfl) rfl <| AE 13 rfl (AO rfl) rfl <| AE 14 rfl (AY rfl) rfl <| AE 15 rfl (AP rfl) rfl <| AE 17 rfl (AO rfl) rfl <| AE 18 rfl (AY rfl) rfl <| AE 19 rfl (AP rfl) rfl <| AE 22 rfl (AO rfl) rfl <| AE 23 rfl (AY rfl) rfl <| AE 24 rfl (AP rfl) rfl <| AE 27 rfl (AO rfl) rfl <| AE 28 rfl (AY rfl) rfl <| AE 29 rfl (AP rfl) rfl <| AL 4 AB <| CY rfl Tryz.call113 rfl (fun w1 => zp (AI g t [r0.v, .bool r0.bad]) fun D' hold _ H2 => GG D' w1 g t 1 r0 AF H2 (hold _ K0)) ?_
  refine AL 8 AB <| CY rfl Tryz.call113 rfl (fun w1 => zp (AI g t [(AN r0 1).v, .bool (AN r0 1).bad]) fun D' hold _ H2 => GG D' w1 g t 1 (AN r0 1) AF H2 (hold _ K1)) ?_
  refine AL 12 AB <| CY rfl Tryz.call113 rfl (fun w1 => zp (AI g t [(AN (AN r0 1) 1).v, .bool (AN (AN r0 1) 1).bad]) fun D' hold _ H2 => GG D' w1 g t 4 (AN (AN r0 1) 1) AF H2 (hold _ K2)) ?_
  refine AL 16 AB <| CY rfl Tryz.call113 rfl (fun w1 => zp (AI g t [(AN (AN (AN r0 1) 1) 4).v, .bool (AN (AN (AN r0 1) 1) 4).bad]) fun D' hold _ H2 => GG D' w1 g t 2 (AN (AN (AN r0 1) 1) 4) AF H2 (hold _ K3)) ?_
  refine AL 20 AB <| CY rfl Tryz.call114 rfl (fun w1 => zp (AI g t [(AN (AN (AN (AN r0 1) 1) 4) 2).v, .bool (AN (AN (AN (AN r0 1) 1) 4) 2).bad]) fun D' hold _ H2 => J8 D' w1 g t 1 (AN (AN (AN (AN r0 1) 1) 4) 2) AF H2 (hold _ K4)) ?_
  refine AE 21 rfl (CD (m := ((BU (AN (AN (AN (AN r0 1) 1) 4) 2) 1 % 256 : Nat) : Int)) rfl (RL _)) rfl <| AL 25 AB <| CY rfl Tryz.call114 rfl (fun w1 => zp (AI g t [(AN (AN (AN (AN (AN r0 1) 1) 4) 2) 1).v, .bool (AN (AN (AN (AN (AN r0 1) 1) 4) 2) 1).bad]) fun D' hold _ H2 => J8 D' w1 g t 1 (AN (AN (AN (AN (AN r0 1) 1) 4) 2) 1) AF H2 (hold _ K5)) ?_
  refine AE 26 rfl (CD (m := ((BU (AN (AN (AN (AN (AN r0 1) 1) 4) 2) 1) 1 % 256 : Nat) : Int)) rfl (RL _)) rfl <| AL 30 AB <| CY rfl Tryz.call114 rfl (fun w1 => zp (AI g t [(AN (AN (AN (AN (AN (AN r0 1) 1) 4) 2) 1) 1).v, .bool (AN (AN (AN (AN (AN (AN r0 1) 1) 4) 2) 1) 1).bad]) fun D' hold _ H2 => J8 D' w1 g t 6 (AN (AN (AN (AN (AN (AN r0 1) 1) 4) 2) 1) 1) AF H2 (hold _ K6)) ?_
  refine AE 31 rfl (CH rfl rfl) rfl <| ?_
  refine AL 32 AB <| BC rfl (BS rfl rfl rfl) rfl fun b42 =>  ?_
  refine AL 33 AB <| ?_
  rw [← hce]
  refine BC rfl (BT (A := A) (news := DL (IT r0).1) rfl rfl (BB.AI (b := b42)) rfl HZ AF AA) rfl (fun q2 => ?_)
  rw [hl7, ← hs7]
  refine AE 34 rfl (DH rfl) rfl <| BY AB <| zb <| zt <| AR <| zv (BM rfl rfl BO) <| ?_
  refine zm rfl <| AS <| B5 hK1 ((i + 1, q2)) (hlt) (by show n - (i + 1) < n - i; omega) BD BL
 have hin : i = n := by omega
 subst hin
 refine CF <| ze <| ze <| CE <| zt <| AG <| AR <| zm rfl <| zs rfl <| zn <| zq <| ?_
 exact zz rfl rfl fun w' H' => ⟨(A, c), rfl, H'⟩
end Go.Proofs.YtjlolpmmpafjeaaGreat

set_option linter.unusedVariables false
set_option linter.unusedSimpArgs false
namespace Go.Proofs.YtjlolpmmpafjeaaGreat
open CN
theorem LQ (s : RS) (k : Nat) (hk : k ≤ 6) : DO (BU s k) := by
 have h : BU s k < 281474976710656 := Nat.lt_of_lt_of_le (G7 s k) (by have : 256 ^ k ≤ 256 ^ 6 := Nat.pow_le_pow_right AF hk; exact this)
 unfold DO; omega
theorem rY (s : RS) : Flat.ok (IT s).1 := ⟨LQ _ 1 AF, LQ _ 1 AF, LQ _ 4 AF, LQ _ 2 AF⟩
theorem fV (i : Nat) (s : RS) : ∀ x ∈ (D8 i s).1, Flat.ok x := by
 induction i with
 | zero => intro x hx; cases hx
 | succ i ih =>
  intro x hx
  rcases List.mem_append.1 hx with h | h
  ·exact ih x h
  ·rw [List.mem_singleton.1 h]; exact rY _
abbrev G8 (s : RS) : List C5 × RS := D8 (BU s 1) (AN s 1)
def O3 (s : RS) : Prop := ((G8 s).2.bad = false ∧ (G8 s).2.rem = []) ∧ G0 (G8 s).1
abbrev sZ (s : RS) := { r : (Option Addr × Nat) × List C5 × Int // (¬ O3 s ∧ r.2.1 = [] ∧ r.2.2 = 11) ∨ (O3 s ∧ r.2.1 = (G8 s).1 ∧ r.2.2 = 0) }
theorem m7 (D : Nat → Prop) (w : World) (v : Value) (xs : List UInt8) (HA : Old D w (AX.rep xs [v])) :
  Calls Tryz.prog 80 #[v] w fun e w' => ∃ r : sZ ⟨xs, v, false⟩, e = .returned (.tuple #[.slice r.1.1.1 r.1.2.1.length r.1.1.2, .int .i64 r.1.2.2]) ∧ AH D w w' [row r.1.1.1 81 7 r.1.2.1.length r.1.1.2 (r.1.2.1.flatMap DL)] := by
 have HA0 := HA
 obtain ⟨A, cap, rfl, _⟩ := HA0.IG
 obtain ⟨s, hs⟩ : ∃ s : RS, s = ⟨xs, .slice A xs.length cap, false⟩ := ⟨_, rfl⟩
 have HA : Old D w (AX.rep s.rem [s.v]) := by rw [hs]; exact HA
 rw [← hs]
 have hn : BU s 1 < 256 := G7 s 1
 have hlen : (G8 s).1.length = BU s 1 := dX _ _
 have hok := fV (BU s 1) (AN s 1)
 have HAe : Old D w (AX.rep (G8 s).2.rem [(G8 s).2.v]) := WW _ (EA 1 HA)
 refine BZ (vs := [.slice A xs.length cap]) Tryz.func80 rfl _ Tryz.ntmps80 rfl (AH.start D w) ?_
 simp only [BX, Nat.zero_add]
 refine zg <| zs rfl <| zs rfl <| zn <| zg <| zm rfl <| zv (CH rfl rfl) <| ?_
 refine zv (CH rfl rfl) <| ?_
 refine AV (EE rfl rfl) rfl rfl rfl fun b9 =>  ?_
 refine zs rfl <| zn <| zg <| zm rfl <| HL.AK (show AD _ [AI b9 165 [s.v, .bool s.bad]] by rw [hs]; exact Z8) ?_
 refine CQ (σ := Option Addr × Nat) Tryz.call125 rfl rfl (fun w1 => EZ (AI b9 165 [s.v, .bool s.bad]) fun D' hold _ H2 => jY D' w1 b9 165 s H2 (hold _ HA)) ?_
 intro q
 refine zs rfl <| zn <| AG <| zg <| zm rfl <| CQ (σ := EX ((G8 s).2.bad = false ∧ (G8 s).2.rem = [])) Tryz.call76 rfl rfl (fun w1 => EZ (AI b9 165 [(G8 s).2.v, .bool (G8 s).2.bad]) fun D' hold _ H2 => ZX D' w1 b9 165 (G8 s).2 H2 (hold _ HAe)) ?_
 intro r
 refine zv FC <| ?_
 refine zm rfl <| KY (t := 15) rfl (fun a1 => ?_) (fun a1 => ?_)
 ·have hno : ¬ O3 s := fun h => by have := r.2.2 h.1; rw [this] at a1; cases a1
  refine zo rfl rfl <| zo rfl rfl <| zo rfl rfl <| zv (BF rfl rfl) <| zm rfl <| zo rfl rfl <| zo rfl rfl <| zv (BF rfl rfl) <| zn <| DD rfl <| AG <| AR <| zs rfl <| zs rfl <| zn <| zq <| zr <| ?_
  exact E5 (.inr rfl) rfl rfl rfl fun w' H' => ⟨⟨((none, 0), [], 11), .inl ⟨hno, rfl, rfl⟩⟩, rfl, H'.AK (AD.trans (AD.EB 81 7) (AD.cons (AD.nil _)))⟩
 have hend := r.2.1 (by simpa using a1)
 refine AJ rfl rfl <| zm rfl <| AJ rfl rfl <| zv BN <| ?_
 refine AJ rfl rfl <| zv (DV rfl rfl) <| zv (A8 rfl rfl) <| zm rfl <| DB (t := 20) rfl (fun a2 => ?_) (fun a2 => ?_)
 ·have hno : ¬ O3 s := fun h => by have := h.2.1; omega
  refine zo rfl rfl <| zo rfl rfl <| zv (BF rfl rfl) <| zn <| DD rfl <| zg <| zs rfl <| zs rfl <| zn <| zq <| zr <| ?_
  exact E5 (.inr rfl) rfl rfl rfl fun w' H' => ⟨⟨((none, 0), [], 11), .inl ⟨hno, rfl, rfl⟩⟩, rfl, H'.AK (AD.trans (AD.EB 81 7) (AD.cons (AD.nil _)))⟩
 refine AJ rfl rfl <| zm rfl <| AJ rfl rfl <| CQ (σ := EX (∃ i, NM (G8 s).1 i)) Tryz.call93 rfl rfl (fun w1 => zu fun D' _ hin _ => aT D' w1 _ (G8 s).1 AA (hin _ fun h hs ho => C7 (A := q.1) hs (G8 s).1 hlen.symm (KF.2 ⟨rfl, hok⟩))) ?_
 intro r3
 try rw [List.nil_append]
 refine zv (A8 rfl rfl) <| zn <| FW rfl (fun a3 => ?_) (fun a3 => ?_)
 ·have hno : ¬ O3 s := fun h => by
   obtain ⟨i, hi, hx⟩ := r3.2.1 a3
   exact hx (h.2.2 i hi)
  refine zg <| zs rfl <| zs rfl <| zn <| zq <| zr <| ?_
  exact E5 (.inr rfl) rfl rfl rfl fun w' H' => ⟨⟨((none, 0), [], 11), .inl ⟨hno, rfl, rfl⟩⟩, rfl, H'.AK (AD.trans (AD.EB 81 7) (AD.cons (AD.nil _)))⟩
 have hP : O3 s := ⟨hend, by omega, fun i hi => Classical.byContradiction fun hx => by
  have := r3.2.2 ⟨i, hi, hx⟩
  rw [this] at a3; cases a3⟩
 refine zk <| zg <| zm rfl <| zs rfl <| zs rfl <| zn <| zq <| ?_
 exact E5 (.inr rfl) rfl rfl rfl fun w' H' => ⟨⟨(q, (G8 s).1, 0), .inr ⟨hP, rfl, rfl⟩⟩, by simp only [hlen], by simp only [hlen]; exact H'.AK Z8⟩
end Go.Proofs.YtjlolpmmpafjeaaGreat

set_option linter.unusedVariables false
set_option linter.unusedSimpArgs false
namespace Go.Proofs.YtjlolpmmpafjeaaGreat
open CN
theorem JQ (D : Nat → Prop) (w : World) (n k : Nat) (hn : n < 18446744073709551616) (hk : k ≤ 6) :
  Calls Tryz.prog 84 #[.int .u64 n, .int .i64 k] w fun e w' => ∃ q : { q : Option Addr × Nat // 0 < k → CU q.1 }, e = .returned (.slice q.1.1 k q.1.2) ∧ AH D w w' [row q.1.1 5 1 k q.1.2 ((BE n k).map AU)] := by
 refine BZ (vs := [.int .u64 n, .int .i64 k]) Tryz.func84 rfl _ Tryz.ntmps84 rfl (AH.start D w) ?_
 simp only [BX, Nat.zero_add]
 refine zg <| zs rfl <| zn <| AG <| AR <| zs rfl <| zn <| AG <| AG <| AR <| zm rfl <| AZ (FY (m := (k : Int) - 1 - ((0 : Nat) : Int)) rfl rfl E3) rfl ?_
 refine zs rfl <| zn <| BK <| JA (σ := Nat × Option Addr × Nat) [0] rfl 6 (fun s => .int .i64 ((k : Int) - 1 - (s.1 : Int))) 5 (fun s => .slice s.2.1 s.1 s.2.2) (fun s => [row s.2.1 5 1 s.1 s.2.2 (((BE n k).take s.1).map AU)]) (fun s => s.1 ≤ k) (fun s => k - s.1) ((0, none, 0)) (Nat.zero_le _) rfl rfl (AD.EB 5 1) ?_
 rintro ⟨i, A, c⟩ hi K1 hK1
 dsimp only at hi ⊢
 refine AG <| zg <| zm rfl <| zv (GN rfl rfl) <| AS <| zt <| BP rfl (fun h => ?_) (fun h => ?_)
 ·have hlt : i < k := by omega
  have hcs : ((BE n k).take i).map AU ++ [.int .u8 ((n / 2 ^ (8 * (k - 1 - i)) % 256 : Nat) : Int)] = ((BE n k).take (i + 1)).map AU := by
   rw [eE n k i hlt, ← NU]; simp
  refine zk <| AG <| BK <| AR <| zm rfl <| zm rfl <| zm rfl <| zv (P8 rfl rfl BO) <| ?_
  refine zv (CD rfl J2) <| ?_
  refine AZ (JT (m := ((n / 2 ^ (8 * (k - 1 - i)) : Nat) : Int)) rfl rfl AA (QH n (8 * (k - 1 - i)) _ 64 AA)) rfl ?_
  refine AZ (CD (m := ((n / 2 ^ (8 * (k - 1 - i)) % 256 : Nat) : Int)) rfl (RL _)) rfl <| AV (BS rfl rfl rfl) rfl rfl rfl fun b20 =>  ?_
  refine AV (BT (A := A) (news := [.int .u8 ((n / 2 ^ (8 * (k - 1 - i)) % 256 : Nat) : Int)]) rfl rfl (BB.AI (b := b20)) rfl CL AF AA) rfl rfl rfl (fun q2 => ?_)
  rw [hcs]
  refine zs rfl <| AS <| zb <| zt <| AR <| zm rfl <| AZ (FY (m := (k : Int) - 1 - ((i + 1 : Nat) : Int)) rfl rfl E3) rfl ?_
  refine zs rfl <| AS <| B5 hK1 ((i + 1, q2)) (hlt) (by show k - (i + 1) < k - i; omega) BD BL
 have hik : i = k := by omega
 subst hik
 rw [List.take_of_length_le U9]
 refine HC.fact (fun w H => AH.GS A H) ?_
 rintro ⟨_, _, _, hA⟩
 have hA : 0 < i → CU A := fun h => hA (by intro e; have := congrArg List.length e; simp [IV] at this; omega)
 refine CF <| ze <| ze <| CE <| zt <| AG <| AR <| zm rfl <| zs rfl <| zn <| zq <| ?_
 exact zz rfl rfl fun w' H' => ⟨⟨(A, c), hA⟩, rfl, H'⟩
end Go.Proofs.YtjlolpmmpafjeaaGreat

set_option linter.unusedVariables false
set_option linter.unusedSimpArgs false
namespace Go.Proofs.YtjlolpmmpafjeaaGreat
open CN
theorem PJ (n : Nat) (h : n < 256) : [Value.int .u8 (n : Int)] = (BE n 1).map AU := by
 have : BE n 1 = [UInt8.ofNat n] := by simp [BE, List.range_succ]
 rw [this, List.map_cons, List.map_nil, NU, Nat.mod_eq_of_lt h]
theorem SN {x : Int} (h0 : 0 ≤ x) (h1 : x < 256) : [Value.int .u8 x] = (BE x.toNat 1).map AU := by
 rw [← PJ _ AA, Int.toNat_of_nonneg h0]
theorem UY (x : UInt8) : [AU x] = (BE x.toNat 1).map AU := PJ _ x.toNat_lt
theorem TH (D : Nat → Prop) (w : World) (v : Value) (l : List C5) (hl : l.length ≤ 1000000) (HA : Old D w (AX.rep l [v])) :
  Calls Tryz.prog 59 #[v] w fun e w' => ∃ s : S2 (G0 l) (AW l) (fun e => e = if 32 < l.length then 3 else 11), e = .returned (.tuple #[.slice s.1.1.1 s.1.2.1.length s.1.1.2, .int .i64 s.1.2.2]) ∧ AH D w w' [row s.1.1.1 5 1 s.1.2.1.length s.1.1.2 (s.1.2.1.map AU)] := by
 obtain ⟨As, caps, rfl, hs1, hs2, HSs, hsok⟩ := HA.EG
 have HSs : CS D w As (l.flatMap DL) := HSs
 refine BZ (vs := [.slice As l.length caps]) Tryz.func59 rfl _ Tryz.ntmps59 rfl (AH.start D w) ?_
 simp only [BX, Nat.zero_add]
 refine zg <| zs rfl <| zs rfl <| zn <| AG <| zg <| zm rfl <| zv BN <| ?_
 refine zv (DV rfl rfl) <| zn <| BP rfl (fun h => ?_) (fun h => ?_)
 ·have hno : ¬ G0 l := fun k => by have := k.1; omega
  refine zg <| zs rfl <| zs rfl <| zn <| zq <| zr <| ?_
  exact E5 (.inr rfl) rfl rfl rfl fun w' H' => ⟨⟨((none, 0), [], 3), .inl ⟨hno, rfl, by decide, by rw [if_pos AA]⟩⟩, rfl, H'.AK (AD.EB _ _)⟩
 have hl32 : l.length ≤ 32 := by omega
 refine zk <| zg <| zm rfl <| zv BN <| ?_
 refine zv (CD rfl IC) <| ?_
 refine AV (BS rfl rfl rfl) rfl rfl rfl fun b13 =>  ?_
 refine HL.AK (AD.FQ 1 1 rfl AF) ?_
 rw [PJ l.length AA]
 refine zs rfl <| zn <| AG <| zg <| zs rfl <| zn <| BK <| JA (σ := Nat × Nat × List Value × Option Addr × Nat) [0] rfl 5 (fun s => .int .i64 (s.1 : Int)) 4 (fun s => .slice s.2.2.2.1 s.2.1 s.2.2.2.2) (fun s => [row s.2.2.2.1 5 1 s.2.1 s.2.2.2.2 s.2.2.1]) (fun s => (s.1 ≤ l.length ∧ ∀ j (h : j < l.length), j < s.1 → FL l[j]) ∧ s.2.1 = 1 + 16 * s.1 ∧ s.2.2.1 = (BE l.length 1 ++ (l.take s.1).flatMap LJ).map AU) (fun s => l.length - s.1) ((0, 1, (BE l.length 1).map AU, some ⟨b13, 0, none⟩, 1)) (⟨⟨Nat.zero_le _, fun j _ h => absurd h (Nat.not_lt_zero _)⟩, rfl, by simp⟩) rfl rfl BL ?_
 rintro ⟨i, m, cs, A, c⟩ hj_ K1 hK1
 dsimp only at hj_ ⊢
 obtain ⟨⟨hi, hall⟩, hm, hcs⟩ := hj_
 refine AG <| zg <| zm rfl <| zm rfl <| zv BN <| ?_
 refine zv (B7 rfl rfl) <| zn <| BP rfl (fun h2 => ?_) (fun h2 => ?_)
 ·have hlt : i < l.length := by omega
  obtain ⟨hA, hc⟩ := CS.EP (D := D) (w0 := w) (f := DL) (sz := 7) (fun _ => rfl) AF HSs hlt [row A 5 1 m c cs]
  have hc' := fun l' => (CS.EP (D := D) (w0 := w) (f := DL) (sz := 7) (fun _ => rfl) AF HSs hlt l').2
  have hsn := fX (BE l.length 1) l i hlt
  have hbad : ¬ FL l[i] → ¬ G0 l := fun hx k => hx (k.2 i hlt)
  have hnext : FL l[i] → ∀ j (h : j < l.length), j < i + 1 → FL l[j] := fun hx j hj h1 => by
   rcases Nat.lt_or_ge j i with h3 | h3
   ·exact hall j hj h3
   ·obtain rfl : j = i := by omega
    exact hx
  generalize l[i] = x at *
  refine zk <| AG <| BK <| zg <| zm rfl <| zm rfl <| zv (CZ rfl DP rfl _ rfl AA) <| ?_
  refine AZ (D4 (cs := DL x) rfl rfl (hc' _)) rfl <| AV (B9) rfl rfl rfl fun b6 =>  ?_
  refine A6 (CV (vs := DL x) rfl rfl (by simp) (by simp) HZ) rfl rfl ?_
  refine zn <| AG <| zg <| zv DY <| ?_
  refine CQ (σ := EX (FL x)) Tryz.call101 rfl rfl (fun w1 => zu fun D' _ _ _ => nZ D' w1 x) ?_
  intro r
  try rw [List.nil_append]
  refine zv FC <| ?_
  refine zn <| FW rfl (fun hb => ?_) (fun hb => ?_)
  ·have hno : ¬ G0 l := hbad fun h => by have := r.2.2 h; rw [this] at hb; cases hb
   refine zg <| zs rfl <| zs rfl <| zn <| zq <| zr <| B4 <| zr <| zr <| B4 <| zr <| ?_
   exact E5 (.inr rfl) rfl rfl rfl fun w' H' => ⟨⟨((none, 0), [], 11), .inl ⟨hno, rfl, by decide, by rw [if_neg AA]⟩⟩, rfl, H'.AK (AD.trans (AD.EB 5 1) (AD.cons (AD.nil _)))⟩
  have hg : FL x := r.2.1 (by simpa using hb)
  have hn := hnext hg
  obtain ⟨g1, g2, g3, g4, g5, g6, g7, g8, g9⟩ := hg
  refine zk <| AG <| ?_
  have hm' : m + 2 + 4 + 2 + 2 + 6 = 1 + 16 * (i + 1) := by omega
  have hme : l.length - (i + 1) < l.length - i := by omega
  have hfin : ((((cs ++ [.int .u8 x.1, .int .u8 x.2.1]) ++ (BE x.2.2.1.toNat 4).map AU) ++ (BE x.2.2.2.1.toNat 2).map AU) ++ [AU x.2.2.2.2.1, AU x.2.2.2.2.2.1]) ++ (BE x.2.2.2.2.2.2.toNat 6).map AU = (BE l.length 1 ++ (l.take (i + 1)).flatMap LJ).map AU := by
   have e1 : [Value.int .u8 x.1, Value.int .u8 x.2.1] = (BE x.1.toNat 1).map AU ++ (BE x.2.1.toNat 1).map AU := by
    rw [← SN AA AA, ← SN AA AA]; rfl
   have e2 : [AU x.2.2.2.2.1, AU x.2.2.2.2.2.1] = (BE x.2.2.2.2.1.toNat 1).map AU ++ (BE x.2.2.2.2.2.1.toNat 1).map AU := by
    rw [← UY, ← UY]; rfl
   rw [e1, e2, hcs, ← hsn]
   simp only [List.map_append, List.append_assoc]
  refine EF [AI b6 81 (DL x)] mixed 15 rfl ?_
  refine AE 0 rfl (AO rfl) rfl <| AE 1 rfl (AP rfl) rfl <| AE 2 rfl (zw rfl rfl) rfl <| AE 3 rfl (CD rfl IC) rfl <| ?_
  refine AE 4 rfl (AP rfl) rfl <| AE 5 rfl (zw rfl rfl) rfl <| AE 6 rfl (CD rfl IC) rfl <| ?_
  refine AE 9 rfl (AP rfl) rfl <| AE 10 rfl (zw rfl rfl) rfl <| AE 11 rfl (CD (m := ((x.2.2.1.toNat : Nat) : Int)) rfl (JV AA AA)) rfl ?_
  refine AL 7 AB <| BC rfl (BS rfl rfl rfl) rfl fun b34 =>  ?_
  refine AL 8 AB <| BC rfl (BT (A := A) (news := [.int .u8 x.1, .int .u8 x.2.1]) rfl rfl (BB.AI (b := b34)) rfl CL AF AA) rfl (fun q2 => ?_)
  refine AL 12 AB <| CR (σ := { q : Option Addr × Nat // 0 < 4 → CU q.1 }) rfl Tryz.call84 rfl (fun w1 => zu fun D' _ _ _ => JQ D' w1 x.2.2.1.toNat 4 AA AF) ?_
  intro q3
  try rw [List.nil_append]
  refine AL 13 AB <| BC rfl (BT (A := q2.1) (news := (BE x.2.2.1.toNat 4).map AU) rfl rfl (BB.G1 (A := q3.1.1) (fun _ => q3.2 AF)) JG (EL _) AF AA) rfl (fun q4 => ?_)
  refine AE 14 rfl (DH rfl) rfl <| BY AB <| zt <| ?_
  refine EF [AI b6 81 (DL x)] mixed 17 rfl ?_
  refine AE 0 rfl (AO rfl) rfl <| AE 1 rfl (AP rfl) rfl <| AE 2 rfl (zw rfl rfl) rfl <| AE 6 rfl (AP rfl) rfl <| AE 7 rfl (zw rfl rfl) rfl <| AE 8 rfl (AP rfl) rfl <| AE 9 rfl (zw rfl rfl) rfl <| AE 12 rfl (AP rfl) rfl <| AE 13 rfl (zw rfl rfl) rfl <| AE 3 rfl (CD (m := ((x.2.2.2.1.toNat : Nat) : Int)) rfl (JV AA AA)) rfl ?_
  refine DE 4 10 AB ?_ ?_
  ·skip
   refine CR (σ := { q : Option Addr × Nat // 0 < 2 → CU q.1 }) rfl Tryz.call84 rfl (fun w1 => zu fun D' _ _ _ => JQ D' w1 x.2.2.2.1.toNat 2 AA AF) ?_
   intro q5
   try rw [List.nil_append]
   refine DE 5 10 AB ?_ ?_
   ·skip
    refine BC rfl (BT (A := q4.1) (news := (BE x.2.2.2.1.toNat 2).map AU) rfl rfl (BB.G1 (A := q5.1.1) (fun _ => q5.2 AF)) JG (EL _) AF AA) rfl (fun q6 => ?_)
    refine AL 10 AB <| BC rfl (BS rfl rfl rfl) rfl (fun b51 => ?_)
    refine AL 11 AB <| BC rfl (BT (A := q6.1) (news := [AU x.2.2.2.2.1, AU x.2.2.2.2.2.1]) rfl rfl (BB.AI (b := b51)) rfl HZ AF AA) rfl (fun q7 => ?_)
    refine AL 14 AB <| CR (σ := { q : Option Addr × Nat // 0 < 6 → CU q.1 }) rfl Tryz.call84 rfl (fun w1 => zu fun D' _ _ _ => JQ D' w1 x.2.2.2.2.2.2.toNat 6 AA AF) ?_
    intro q8
    try rw [List.nil_append]
    refine AL 15 AB <| BC rfl (BT (A := q7.1) (news := (BE x.2.2.2.2.2.2.toNat 6).map AU) rfl rfl (BB.G1 (A := q8.1.1) (fun _ => q8.2 AF)) JG (EL _) AF AA) rfl (fun q9 => ?_)
    refine AE 16 rfl (DH rfl) rfl <| BY AB <| zb <| zt <| AR <| zm rfl <| zv (BM rfl rfl BO) <| ?_
    refine zs rfl <| AS <| B5 hK1 ((i + 1, m + 2 + 4 + 2 + 2 + 6, ((((cs ++ [.int .u8 x.1, .int .u8 x.2.1]) ++ (BE x.2.2.1.toNat 4).map AU) ++ (BE x.2.2.2.1.toNat 2).map AU) ++ [AU x.2.2.2.2.1, AU x.2.2.2.2.2.1]) ++ (BE x.2.2.2.2.2.2.toNat 6).map AU, q9)) (⟨⟨hlt, hn⟩, hm', hfin⟩) (hme) BD BL
   skip
   refine BC rfl (BS rfl rfl rfl) rfl (fun b51 => ?_)
   refine AL 5 AB <| BC rfl (BT (A := q4.1) (news := (BE x.2.2.2.1.toNat 2).map AU) rfl rfl (BB.G1 (A := q5.1.1) (fun _ => q5.2 AF)) JG (EL _) AF AA) rfl (fun q6 => ?_)
   refine AL 11 AB <| BC rfl (BT (A := q6.1) (news := [AU x.2.2.2.2.1, AU x.2.2.2.2.2.1]) rfl rfl (BB.AI (b := b51)) rfl HZ AF AA) rfl (fun q7 => ?_)
   refine AL 14 AB <| CR (σ := { q : Option Addr × Nat // 0 < 6 → CU q.1 }) rfl Tryz.call84 rfl (fun w1 => zu fun D' _ _ _ => JQ D' w1 x.2.2.2.2.2.2.toNat 6 AA AF) ?_
   intro q8
   try rw [List.nil_append]
   refine AL 15 AB <| BC rfl (BT (A := q7.1) (news := (BE x.2.2.2.2.2.2.toNat 6).map AU) rfl rfl (BB.G1 (A := q8.1.1) (fun _ => q8.2 AF)) JG (EL _) AF AA) rfl (fun q9 => ?_)
   refine AE 16 rfl (DH rfl) rfl <| BY AB <| zb <| zt <| AR <| zm rfl <| zv (BM rfl rfl BO) <| ?_
   refine zs rfl <| AS <| B5 hK1 ((i + 1, m + 2 + 4 + 2 + 2 + 6, ((((cs ++ [.int .u8 x.1, .int .u8 x.2.1]) ++ (BE x.2.2.1.toNat 4).map AU) ++ (BE x.2.2.2.1.toNat 2).map AU) ++ [AU x.2.2.2.2.1, AU x.2.2.2.2.2.1]) ++ (BE x.2.2.2.2.2.2.toNat 6).map AU, q9)) (⟨⟨hlt, hn⟩, hm', hfin⟩) (hme) BD BL
  skip
  refine BC rfl (BS rfl rfl rfl) rfl (fun b51 => ?_)
  refine AL 4 AB <| CR (σ := { q : Option Addr × Nat // 0 < 2 → CU q.1 }) rfl Tryz.call84 rfl (fun w1 => zu fun D' _ _ _ => JQ D' w1 x.2.2.2.1.toNat 2 AA AF) ?_
  intro q5
  try rw [List.nil_append]
  refine AL 5 AB <| BC rfl (BT (A := q4.1) (news := (BE x.2.2.2.1.toNat 2).map AU) rfl rfl (BB.G1 (A := q5.1.1) (fun _ => q5.2 AF)) JG (EL _) AF AA) rfl (fun q6 => ?_)
  refine AL 11 AB <| BC rfl (BT (A := q6.1) (news := [AU x.2.2.2.2.1, AU x.2.2.2.2.2.1]) rfl rfl (BB.AI (b := b51)) rfl HZ AF AA) rfl (fun q7 => ?_)
  refine AL 14 AB <| CR (σ := { q : Option Addr × Nat // 0 < 6 → CU q.1 }) rfl Tryz.call84 rfl (fun w1 => zu fun D' _ _ _ => JQ D' w1 x.2.2.2.2.2.2.toNat 6 AA AF) ?_
  intro q8
  try rw [List.nil_append]
  refine AL 15 AB <| BC rfl (BT (A := q7.1) (news := (BE x.2.2.2.2.2.2.toNat 6).map AU) rfl rfl (BB.G1 (A := q8.1.1) (fun _ => q8.2 AF)) JG (EL _) AF AA) rfl (fun q9 => ?_)
  refine AE 16 rfl (DH rfl) rfl <| BY AB <| zb <| zt <| AR <| zm rfl <| zv (BM rfl rfl BO) <| ?_
  refine zs rfl <| AS <| B5 hK1 ((i + 1, m + 2 + 4 + 2 + 2 + 6, ((((cs ++ [.int .u8 x.1, .int .u8 x.2.1]) ++ (BE x.2.2.1.toNat 4).map AU) ++ (BE x.2.2.2.1.toNat 2).map AU) ++ [AU x.2.2.2.2.1, AU x.2.2.2.2.2.1]) ++ (BE x.2.2.2.2.2.2.toNat 6).map AU, q9)) (⟨⟨hlt, hn⟩, hm', hfin⟩) (hme) BD BL
 have hie : i = l.length := by omega
 subst hie
 have hall' : G0 l := ⟨hl32, fun j hj => hall j hj hj⟩
 rw [List.take_length] at hcs
 have hcs : cs = (AW l).map AU := hcs
 have hm : m = (AW l).length := by rw [hm, W1]
 subst hcs; subst hm
 refine CF <| ze <| ze <| CE <| zt <| AG <| AR <| zm rfl <| zs rfl <| zs rfl <| zn <| zq <| ?_
 exact E5 (.inr rfl) rfl rfl rfl fun w' H' => ⟨⟨((A, c), AW l, 0), .inr ⟨hall', rfl, rfl⟩⟩, rfl, H'⟩
end Go.Proofs.YtjlolpmmpafjeaaGreat

set_option linter.unusedVariables false
set_option linter.unusedSimpArgs false
namespace Go.Proofs.YtjlolpmmpafjeaaGreat
open CN
theorem FD (D : Nat → Prop) (w : World) (g t k : Nat) (s : RS) (hk : k ≤ 6) (H : AH D w w [AI g t [s.v, .bool s.bad]]) (HA : Old D w (AX.rep s.rem [s.v])) :
  Calls Tryz.prog 89 #[.pointer (some ⟨g, 0, none⟩), .int .i64 k] w fun e w' => e = .returned (.int .u64 (BU s k)) ∧ AH D w w' [AI g t [(AN s k).v, .bool (AN s k).bad]] := by
 obtain ⟨A, cap, hv, hc1, hc2, HS⟩ := HA.IG
 obtain ⟨xs, v, bad⟩ := s
 dsimp only at *
 subst hv
 unfold BU AN
 dsimp only
 refine BZ (vs := [.pointer (some ⟨g, 0, none⟩), .int .i64 k]) Tryz.func89 rfl _ Tryz.ntmps89 rfl H ?_
 simp only [BX, Nat.zero_add]
 refine zg <| zs rfl <| zn <| AG <| zg <| zm rfl <| zv (AY rfl) <| zf rfl <| zl rfl rfl <| ?_
 refine zv BN <| ?_
 refine zm rfl <| zv (B7 rfl rfl) <| zn <| BP rfl (fun h => ?_) (fun h => ?_)
 ·have hlt : xs.length < k := by omega
  rw [if_pos hlt, if_pos hlt]
  refine zg <| zm rfl <| zm rfl <| zv (AY rfl) <| zf rfl <| ?_
  refine A6 (DN rfl rfl rfl rfl rfl) rfl rfl <| zv (AY rfl) <| zf rfl <| A6 (DN rfl rfl rfl rfl rfl) rfl rfl <| zn <| ?_
  refine zg <| zs rfl <| zn <| zq <| zr <| ?_
  exact zz rfl rfl fun w' H' => ⟨rfl, H'⟩
 have hge : ¬ xs.length < k := by omega
 rw [if_neg hge, if_neg hge]
 refine zk <| zg <| zs rfl <| AS <| zt <| AG <| zg <| zs rfl <| AS <| zt <| BK <| PI (σ := Nat) [0, 1] rfl 6 (fun i => .int .i64 (i : Int)) 5 (fun i => .int .u64 ((JY (xs.take i) : Nat) : Int)) (fun i => i ≤ k) (fun i => k - i) (0) (Nat.zero_le _) rfl rfl ?_
 rintro i hj K1 hK1
 refine AG <| zg <| zm rfl <| zm rfl <| zv (B7 rfl rfl) <| zn <| BP rfl (fun h2 => ?_) (fun h2 => ?_)
 ·have hlt : i < xs.length := by omega
  have hA : CU A := HS.CU S6
  have hcell : EH D w [AI g t [.slice A xs.length cap, .bool bad]] (ab A) (ao A + i * 1) (AU xs[i]) := by
   rw [Nat.mul_one]
   exact (BB.old HS).cell (by simp [hlt])
  have hx := xs[i].toNat_lt
  have hsn := WL xs i hlt
  have hb := XC xs i AA
  have hb3 : JY (xs.take i) < 72057594037927936 := Nat.lt_of_lt_of_le hb (by have : 256 ^ i ≤ 256 ^ 7 := Nat.pow_le_pow_right AF AA; exact this)
  obtain ⟨m, hm⟩ : ∃ m, m = JY (xs.take i) := ⟨_, rfl⟩
  rw [← hm] at hsn hb3
  unfold AU at hcell
  refine zk <| AG <| BK <| AR <| zm rfl <| AZ (PX (m := ((m * 256 : Nat) : Int)) rfl rfl AF (by rw [← hm]; show IntKind.u64.wrap ((m : Int) * 256) = _; rw [show (m : Int) * 256 = ((m * 256 : Nat) : Int) by omega]; exact wrap_u64 AA)) rfl ?_
  refine zm rfl <| zv (AY rfl) <| zf rfl <| zl rfl rfl <| zm rfl <| zv (CZ rfl DP rfl _ rfl AA) <| ?_
  refine zv Z9 <| ?_
  refine zv (CD rfl J2) <| ?_
  refine AZ (BM (m := ((JY (xs.take (i + 1)) : Nat) : Int)) rfl rfl (by rw [hsn, wrap_u64 AA]; omega)) rfl ?_
  refine zs rfl <| AS <| zb <| zt <| AR <| zm rfl <| zv (BM rfl rfl BO) <| ?_
  refine zs rfl <| AS <| B5 hK1 (i + 1) AA AA BD BL
 have hik : i = k := by omega
 subst hik
 refine CF <| ze <| ze <| CE <| zt <| AG <| AR <| zm rfl <| zm rfl <| zv (AY rfl) <| zf rfl <| zl rfl rfl <| ?_
 refine zm rfl <| zv (FE rfl _ _ (.inr ⟨_, _, rfl, rfl⟩) (.inl ⟨rfl, rfl⟩) AA AA) <| zv (AY rfl) <| zf rfl <| ?_
 refine A6 (CI [XZ (.slice A xs.length cap) i, .bool bad] rfl rfl (by simp) rfl rfl) rfl rfl ?_
 refine zn <| zg <| zm rfl <| zs rfl <| zn <| zq <| ?_
 exact zz rfl rfl fun w' H' => ⟨rfl, H'⟩
end Go.Proofs.YtjlolpmmpafjeaaGreat

set_option linter.unusedVariables false
set_option linter.unusedSimpArgs false
namespace Go.Proofs.YtjlolpmmpafjeaaGreat
open CN
theorem PD (s : RS) (k : Nat) (h0 : 0 < k) (h : s.bad = true ∧ s.rem = []) : (AN s k).bad = true ∧ (AN s k).rem = [] := by
 unfold AN
 rw [if_pos (by rw [h.2]; exact h0)]
 exact ⟨rfl, rfl⟩
theorem OV (s : RS) (k : Nat) (hs : s.bad = true → s.rem = []) : (AN s k).bad = true → (AN s k).rem = [] := by
 unfold AN
 split
 ·intro _; rfl
 intro h
 have : s.rem = [] := hs h
 show s.rem.drop k = []
 rw [this]; simp
theorem kE (s : RS) (h : s.bad = true ∧ s.rem = []) : (IT s).2.bad = true ∧ (IT s).2.rem = [] :=
 PD _ 6 AF (PD _ 1 AF (PD _ 1 AF (PD _ 2 AF (PD _ 4 AF (PD _ 1 AF (PD _ 1 AF h))))))
theorem qR (s : RS) (hs : s.bad = true → s.rem = []) : (IT s).2.bad = true → (IT s).2.rem = [] :=
 OV _ 6 (OV _ 1 (OV _ 1 (OV _ 2 (OV _ 4 (OV _ 1 (OV _ 1 hs))))))
theorem dR (i : Nat) (s : RS) (hs : s.bad = true → s.rem = []) : (D8 i s).2.bad = true → (D8 i s).2.rem = [] := by
 induction i with
 | zero => exact hs
 | succ i ih => exact qR _ ih
theorem YH (i j : Nat) (hij : i ≤ j) (s : RS) (hs : s.bad = true → s.rem = []) (h : (D8 i s).2.bad = true) : (D8 j s).2.bad = true := by
 have : (D8 j s).2.bad = true ∧ (D8 j s).2.rem = [] := by
  induction j with
  | zero =>
   obtain rfl : i = 0 := by omega
   exact ⟨h, dR 0 s hs h⟩
  | succ j ih =>
   rcases Nat.lt_or_ge i (j + 1) with h1 | h1
   ·exact kE _ (ih AA)
   ·obtain rfl : i = j + 1 := by omega
    exact ⟨h, dR _ s hs h⟩
 exact this.1
def M3 (xs : List UInt8) (s : RS) : Prop := (G8 s).2.bad = false ∧ G0 (G8 s).1 ∧ AW (G8 s).1 = xs
theorem j8 (D : Nat → Prop) (w : World) (v : Value) (xs : List UInt8) (HA : Old D w (AX.rep xs [v])) :
  Calls Tryz.prog 55 #[v] w fun e w' => ∃ r : { r : (Option Addr × Nat) × List C5 × Int // (¬ M3 xs ⟨xs, v, false⟩ ∧ r.2.1 = [] ∧ r.2.2 = 11) ∨ (M3 xs ⟨xs, v, false⟩ ∧ r.2.1 = (G8 ⟨xs, v, false⟩).1 ∧ r.2.2 = 0) }, e = .returned (.tuple #[.slice r.1.1.1 r.1.2.1.length r.1.1.2, .int .i64 r.1.2.2]) ∧ AH D w w' [row r.1.1.1 81 7 r.1.2.1.length r.1.1.2 (r.1.2.1.flatMap DL)] := by
 have HA0 := HA
 obtain ⟨A, cap, rfl, _, _, HSx⟩ := HA0.IG
 obtain ⟨s, hs⟩ : ∃ s : RS, s = ⟨xs, .slice A xs.length cap, false⟩ := ⟨_, rfl⟩
 have HA1 : Old D w (AX.rep s.rem [s.v]) := by rw [hs]; exact HA
 rw [← hs]
 have hn : BU s 1 < 256 := G7 s 1
 have HA2 := EA 1 HA1
 have hlen : ∀ i, (D8 i (AN s 1)).1.length = i := fun i => dX _ _
 have hok := fun i => fV i (AN s 1)
 have hs1b : (AN s 1).bad = true → (AN s 1).rem = [] := OV s 1 (fun h => by rw [hs] at h; cases h)
 obtain ⟨s1, hs1⟩ : ∃ t, AN s 1 = t := ⟨_, rfl⟩
 obtain ⟨n, hnn⟩ : ∃ t, BU s 1 = t := ⟨_, rfl⟩
 have hall : G8 s = D8 n s1 := by rw [← hs1, ← hnn]
 rw [hs1] at HA2 hs1b
 simp only [hs1] at hlen hok
 rw [hnn] at hn
 refine BZ (vs := [.slice A xs.length cap]) Tryz.func55 rfl _ Tryz.ntmps55 rfl (AH.start D w) ?_
 simp only [BX, Nat.zero_add]
 refine zg <| zs rfl <| zs rfl <| zn <| zg <| zm rfl <| zv (CH rfl rfl) <| ?_
 refine AV (EE rfl rfl) rfl rfl rfl fun b11 =>  ?_
 refine zs rfl <| zn <| zg <| zs rfl <| zn <| AG <| zg <| zm rfl <| HL.AK (show AD _ [AI b11 188 [s.v, .bool s.bad]] by rw [hs]; exact Z8) ?_
 refine B2 Tryz.call89 rfl rfl (fun w1 => zp (AI b11 188 [s.v, .bool s.bad]) fun D' hold _ H2 => FD D' w1 b11 188 1 s AF H2 (hold _ HA1)) ?_
 rw [hs1, hnn]
 refine zv (CD rfl BO) <| ?_
 refine zs rfl <| zn <| BK <| JA (σ := Nat × Option Addr × Nat) [0, 4] rfl 6 (fun q => .int .i64 ((n : Int) - (q.1 : Int))) 5 (fun q => .slice q.2.1 q.1 q.2.2) (fun q => [row q.2.1 81 7 q.1 q.2.2 ((D8 q.1 s1).1.flatMap DL), AI b11 188 [(D8 q.1 s1).2.v, .bool (D8 q.1 s1).2.bad]]) (fun q => q.1 ≤ n) (fun q => n - q.1) ((0, none, 0)) (Nat.zero_le _) rfl rfl (AD.EB 81 7) ?_
 rintro ⟨i, A, c⟩ hi K1 hK1
 dsimp only at hi ⊢
 have HAi := WW i HA2
 refine AG <| zg <| zm rfl <| zv (DV rfl rfl) <| zm rfl <| DB (t := 17) rfl (fun p1 => ?_) (fun p1 => ?_)
 ·refine AJ rfl rfl <| zm rfl <| AJ rfl rfl <| zv (AY rfl) <| AJ rfl rfl <| zf rfl <| AJ rfl rfl <| zl rfl rfl <| AJ rfl rfl <| zv FC <| ?_
  refine zv (BF rfl rfl) <| zn <| FW rfl (fun p2 => ?_) (fun p2 => ?_)
  ·have hlt : i < n := by omega
   have hB : ∀ (s : RS) (k : Nat), k ≤ 6 → BU s k < 281474976710656 := fun s k hk => Nat.lt_of_lt_of_le (G7 s k) (by have : 256 ^ k ≤ 256 ^ 6 := Nat.pow_le_pow_right AF hk; exact this)
   have hce := bJ (D8 i s1).2
   have hs7 : (D8 (i + 1) s1).2 = AN (AN (AN (AN (AN (AN (AN (D8 i s1).2 1) 1) 4) 2) 1) 1) 6 := rfl
   have hl7 : (D8 i s1).1.flatMap DL ++ DL (IT (D8 i s1).2).1 = (D8 (i + 1) s1).1.flatMap DL := by
    show _ = ((D8 i s1).1 ++ [(IT (D8 i s1).2).1]).flatMap DL
    rw [List.flatMap_append, List.flatMap_singleton]
   generalize (D8 i s1).2 = r0 at *
   have K0 := HAi
   have K1 := EA 1 K0
   have K2 := EA 1 K1
   have K3 := EA 4 K2
   have K4 := EA 2 K3
   have K5 := EA 1 K4
   have K6 := EA 1 K5
   refine zk <| AG <| BK <| AR <| zm rfl <| zm rfl <| B2 Tryz.call89 rfl rfl (fun w1 => zp (AI b11 188 [r0.v, .bool r0.bad]) fun D' hold _ H2 => FD D' w1 b11 188 1 r0 AF H2 (hold _ K0)) ?_
   refine AZ (CD (m := ((BU r0 1 : Nat) : Int)) rfl (wrap_i64 (by have := hB r0 1 AF; omega))) rfl ?_
   refine zm rfl <| B2 Tryz.call89 rfl rfl (fun w1 => zp (AI b11 188 [(AN r0 1).v, .bool (AN r0 1).bad]) fun D' hold _ H2 => FD D' w1 b11 188 1 (AN r0 1) AF H2 (hold _ K1)) ?_
   refine AZ (CD (m := ((BU (AN r0 1) 1 : Nat) : Int)) rfl (wrap_i64 (by have := hB (AN r0 1) 1 AF; omega))) rfl ?_
   refine zm rfl <| B2 Tryz.call89 rfl rfl (fun w1 => zp (AI b11 188 [(AN (AN r0 1) 1).v, .bool (AN (AN r0 1) 1).bad]) fun D' hold _ H2 => FD D' w1 b11 188 4 (AN (AN r0 1) 1) AF H2 (hold _ K2)) ?_
   refine AZ (CD (m := ((BU (AN (AN r0 1) 1) 4 : Nat) : Int)) rfl (wrap_i64 (by have := hB (AN (AN r0 1) 1) 4 AF; omega))) rfl ?_
   refine zm rfl <| B2 Tryz.call89 rfl rfl (fun w1 => zp (AI b11 188 [(AN (AN (AN r0 1) 1) 4).v, .bool (AN (AN (AN r0 1) 1) 4).bad]) fun D' hold _ H2 => FD D' w1 b11 188 2 (AN (AN (AN r0 1) 1) 4) AF H2 (hold _ K3)) ?_
   refine AZ (CD (m := ((BU (AN (AN (AN r0 1) 1) 4) 2 : Nat) : Int)) rfl (wrap_i64 (by have := hB (AN (AN (AN r0 1) 1) 4) 2 AF; omega))) rfl ?_
   refine zm rfl <| B2 Tryz.call89 rfl rfl (fun w1 => zp (AI b11 188 [(AN (AN (AN (AN r0 1) 1) 4) 2).v, .bool (AN (AN (AN (AN r0 1) 1) 4) 2).bad]) fun D' hold _ H2 => FD D' w1 b11 188 1 (AN (AN (AN (AN r0 1) 1) 4) 2) AF H2 (hold _ K4)) ?_
   refine AZ (CD (m := ((BU (AN (AN (AN (AN r0 1) 1) 4) 2) 1 % 256 : Nat) : Int)) rfl (RL _)) rfl <| zm rfl <| B2 Tryz.call89 rfl rfl (fun w1 => zp (AI b11 188 [(AN (AN (AN (AN (AN r0 1) 1) 4) 2) 1).v, .bool (AN (AN (AN (AN (AN r0 1) 1) 4) 2) 1).bad]) fun D' hold _ H2 => FD D' w1 b11 188 1 (AN (AN (AN (AN (AN r0 1) 1) 4) 2) 1) AF H2 (hold _ K5)) ?_
   refine AZ (CD (m := ((BU (AN (AN (AN (AN (AN r0 1) 1) 4) 2) 1) 1 % 256 : Nat) : Int)) rfl (RL _)) rfl <| zm rfl <| B2 Tryz.call89 rfl rfl (fun w1 => zp (AI b11 188 [(AN (AN (AN (AN (AN (AN r0 1) 1) 4) 2) 1) 1).v, .bool (AN (AN (AN (AN (AN (AN r0 1) 1) 4) 2) 1) 1).bad]) fun D' hold _ H2 => FD D' w1 b11 188 6 (AN (AN (AN (AN (AN (AN r0 1) 1) 4) 2) 1) 1) AF H2 (hold _ K6)) ?_
   refine zv (CH rfl rfl) <| ?_
   refine AV (BS rfl rfl rfl) rfl rfl rfl fun b48 =>  ?_
   rw [← hce]
   refine AV (BT (A := A) (news := DL (IT r0).1) rfl rfl (BB.AI (b := b48)) rfl HZ AF AA) rfl rfl rfl (fun q2 => ?_)
   rw [hl7, ← hs7]
   refine zs rfl <| AS <| zb <| zt <| AR <| zm rfl <| AZ (FY (m := (n : Int) - ((i + 1 : Nat) : Int)) rfl rfl E3) rfl ?_
   refine zs rfl <| AS <| B5 hK1 ((i + 1, q2)) (hlt) (by show n - (i + 1) < n - i; omega) BD BL
  have hX : (D8 i s1).2.bad = false → i = n := fun h => by rw [h] at p2; cases p2
  refine CF <| ze <| ze <| CE <| zt <| AG <| AR <| zm rfl <| CQ (σ := S2 (G0 (D8 i s1).1) (AW (D8 i s1).1) (fun e => e = if 32 < (D8 i s1).1.length then 3 else 11)) Tryz.call59 rfl rfl (fun w1 => zu fun D' _ hin _ => TH D' w1 _ (D8 i s1).1 (by rw [hlen]; omega) (hin _ fun h hs ho => C7 (A := A) hs (D8 i s1).1 (hlen i).symm (KF.2 ⟨rfl, hok i⟩))) ?_
  intro s2
  try rw [List.nil_append]
  obtain ⟨⟨⟨A2, k2⟩, b2', e2⟩, hs2⟩ := s2
  dsimp only at hs2 ⊢
  refine HL.fact (fun w H => AH.GS A2 H) ?_
  rintro ⟨_, _, _, hA2⟩
  refine zm rfl <| zx rfl rfl <| zx rfl rfl <| zs rfl <| zs rfl <| AS <| zt <| AG <| zg <| zm rfl <| zv (AY rfl) <| zf rfl <| zl rfl rfl <| zm rfl <| ?_
  refine KY (t := 59) rfl (fun q1 => ?_) (fun q1 => ?_)
  ·have hno : ¬ M3 xs s := fun h => by
    have h1 := YH i n hi s1 hs1b q1
    have h2 := h.1
    rw [hall, h1] at h2; cases h2
   refine zo rfl rfl <| zo rfl rfl <| zv (BF rfl rfl) <| zm rfl <| zo rfl rfl <| zo rfl rfl <| zo rfl rfl <| zo rfl rfl <| zo rfl rfl <| zv (BF rfl rfl) <| zn <| DD rfl <| zg <| zs rfl <| zs rfl <| AS <| zt <| zq <| zr <| ?_
   exact E5 (.inr rfl) rfl rfl rfl fun w' H' => ⟨⟨((none, 0), [], 11), .inl ⟨hno, rfl, rfl⟩⟩, rfl, H'.AK (AD.trans (AD.EB 81 7) (AD.cons (AD.nil _)))⟩
  have hin' : i = n := hX q1
  have hall' : G8 s = D8 i s1 := by rw [hall, hin']
  rcases hs2 with ⟨hno2, rfl, hne2, he2⟩ | ⟨hg2, rfl, rfl⟩
  ·have hno : ¬ M3 xs s := fun h => hno2 (by have := h.2.1; rw [hall'] at this; exact this)
   refine AJ rfl rfl <| zm rfl <| AJ rfl rfl <| zv (CG rfl rfl) <| zv (A8 rfl rfl) <| zm rfl <| KW (t := 63) rfl (hne2) <| zo rfl rfl <| zo rfl rfl <| zo rfl rfl <| zo rfl rfl <| zo rfl rfl <| zv (BF rfl rfl) <| zn <| DD rfl <| zg <| zs rfl <| zs rfl <| zn <| zq <| zr <| ?_
   exact E5 (.inr rfl) rfl rfl rfl fun w' H' => ⟨⟨((none, 0), [], 11), .inl ⟨hno, rfl, rfl⟩⟩, rfl, H'.AK (AD.trans (AD.EB 81 7) (AD.cons (AD.nil _)))⟩
  refine AJ rfl rfl <| zm rfl <| AJ rfl rfl <| zv (CG rfl rfl) <| zv (A8 rfl rfl) <| zm rfl <| F0 (t := 63) rfl ((fun h => h rfl)) <| AJ rfl rfl <| zm rfl <| AJ rfl rfl <| AZ (QX (xs := AW (D8 i s1).1) rfl (BB.G1 (A := A2) hA2)) rfl <| AJ rfl rfl <| zm rfl <| AJ rfl rfl <| AZ (QX (xs := xs) rfl (BB.old HSx)) rfl <| AJ rfl rfl <| zv X1 <| ?_
  refine zv (A8 rfl rfl) <| zn <| BP rfl (fun q3 => ?_) (fun q3 => ?_)
  ·have hno : ¬ M3 xs s := fun h => q3 (by have := h.2.2; rw [hall'] at this; exact this)
   refine zg <| zs rfl <| zs rfl <| zn <| zq <| zr <| ?_
   exact E5 (.inr rfl) rfl rfl rfl fun w' H' => ⟨⟨((none, 0), [], 11), .inl ⟨hno, rfl, rfl⟩⟩, rfl, H'.AK (AD.trans (AD.EB 81 7) (AD.cons (AD.nil _)))⟩
  have hP : M3 xs s := ⟨by rw [hall']; exact q1, by rw [hall']; exact hg2, by rw [hall']; exact Classical.not_not.1 q3⟩
  have hl1 : (G8 s).1.length = i := by rw [hall']; exact hlen i
  refine zk <| zg <| zm rfl <| zs rfl <| zs rfl <| zn <| zq <| ?_
  exact E5 (.inr rfl) rfl rfl rfl fun w' H' => ⟨⟨((A, c), (G8 s).1, 0), .inr ⟨hP, rfl, rfl⟩⟩, by simp only [hl1], by simp only [hall', hlen]; exact H'.AK Z8⟩
 have hX : (D8 i s1).2.bad = false → i = n := fun _ => by omega
 refine zo rfl rfl <| zo rfl rfl <| zo rfl rfl <| zo rfl rfl <| zo rfl rfl <| zv (A8 rfl rfl) <| zn <| EU rfl <| CF <| ze <| ze <| CE <| zt <| zg <| zm rfl <| CQ (σ := S2 (G0 (D8 i s1).1) (AW (D8 i s1).1) (fun e => e = if 32 < (D8 i s1).1.length then 3 else 11)) Tryz.call59 rfl rfl (fun w1 => zu fun D' _ hin _ => TH D' w1 _ (D8 i s1).1 (by rw [hlen]; omega) (hin _ fun h hs ho => C7 (A := A) hs (D8 i s1).1 (hlen i).symm (KF.2 ⟨rfl, hok i⟩))) ?_
 intro s2
 try rw [List.nil_append]
 obtain ⟨⟨⟨A2, k2⟩, b2', e2⟩, hs2⟩ := s2
 dsimp only at hs2 ⊢
 refine HL.fact (fun w H => AH.GS A2 H) ?_
 rintro ⟨_, _, _, hA2⟩
 refine zm rfl <| zx rfl rfl <| zx rfl rfl <| zs rfl <| zs rfl <| AS <| zt <| AG <| zg <| zm rfl <| zv (AY rfl) <| zf rfl <| zl rfl rfl <| zm rfl <| ?_
 refine KY (t := 59) rfl (fun q1 => ?_) (fun q1 => ?_)
 ·have hno : ¬ M3 xs s := fun h => by
   have h1 := YH i n hi s1 hs1b q1
   have h2 := h.1
   rw [hall, h1] at h2; cases h2
  refine zo rfl rfl <| zo rfl rfl <| zv (BF rfl rfl) <| zm rfl <| zo rfl rfl <| zo rfl rfl <| zo rfl rfl <| zo rfl rfl <| zo rfl rfl <| zv (BF rfl rfl) <| zn <| DD rfl <| zg <| zs rfl <| zs rfl <| AS <| zt <| zq <| zr <| ?_
  exact E5 (.inr rfl) rfl rfl rfl fun w' H' => ⟨⟨((none, 0), [], 11), .inl ⟨hno, rfl, rfl⟩⟩, rfl, H'.AK (AD.trans (AD.EB 81 7) (AD.cons (AD.nil _)))⟩
 have hin' : i = n := hX q1
 have hall' : G8 s = D8 i s1 := by rw [hall, hin']
 rcases hs2 with ⟨hno2, rfl, hne2, he2⟩ | ⟨hg2, rfl, rfl⟩
 ·have hno : ¬ M3 xs s := fun h => hno2 (by have := h.2.1; rw [hall'] at this; exact this)
  refine AJ rfl rfl <| zm rfl <| AJ rfl rfl <| zv (CG rfl rfl) <| zv (A8 rfl rfl) <| zm rfl <| KW (t := 63) rfl (hne2) <| zo rfl rfl <| zo rfl rfl <| zo rfl rfl <| zo rfl rfl <| zo rfl rfl <| zv (BF rfl rfl) <| zn <| DD rfl <| zg <| zs rfl <| zs rfl <| zn <| zq <| zr <| ?_
  exact E5 (.inr rfl) rfl rfl rfl fun w' H' => ⟨⟨((none, 0), [], 11), .inl ⟨hno, rfl, rfl⟩⟩, rfl, H'.AK (AD.trans (AD.EB 81 7) (AD.cons (AD.nil _)))⟩
 refine AJ rfl rfl <| zm rfl <| AJ rfl rfl <| zv (CG rfl rfl) <| zv (A8 rfl rfl) <| zm rfl <| F0 (t := 63) rfl ((fun h => h rfl)) <| AJ rfl rfl <| zm rfl <| AJ rfl rfl <| AZ (QX (xs := AW (D8 i s1).1) rfl (BB.G1 (A := A2) hA2)) rfl <| AJ rfl rfl <| zm rfl <| AJ rfl rfl <| AZ (QX (xs := xs) rfl (BB.old HSx)) rfl <| AJ rfl rfl <| zv X1 <| ?_
 refine zv (A8 rfl rfl) <| zn <| BP rfl (fun q3 => ?_) (fun q3 => ?_)
 ·have hno : ¬ M3 xs s := fun h => q3 (by have := h.2.2; rw [hall'] at this; exact this)
  refine zg <| zs rfl <| zs rfl <| zn <| zq <| zr <| ?_
  exact E5 (.inr rfl) rfl rfl rfl fun w' H' => ⟨⟨((none, 0), [], 11), .inl ⟨hno, rfl, rfl⟩⟩, rfl, H'.AK (AD.trans (AD.EB 81 7) (AD.cons (AD.nil _)))⟩
 have hP : M3 xs s := ⟨by rw [hall']; exact q1, by rw [hall']; exact hg2, by rw [hall']; exact Classical.not_not.1 q3⟩
 have hl1 : (G8 s).1.length = i := by rw [hall']; exact hlen i
 refine zk <| zg <| zm rfl <| zs rfl <| zs rfl <| zn <| zq <| ?_
 exact E5 (.inr rfl) rfl rfl rfl fun w' H' => ⟨⟨((A, c), (G8 s).1, 0), .inr ⟨hP, rfl, rfl⟩⟩, by simp only [hl1], by simp only [hall', hlen]; exact H'.AK Z8⟩
end Go.Proofs.YtjlolpmmpafjeaaGreat

set_option linter.unusedVariables false
set_option linter.unusedSimpArgs false
namespace Go.Proofs.YtjlolpmmpafjeaaGreat
open CN
end Go.Proofs.YtjlolpmmpafjeaaGreat

set_option linter.unusedVariables false
set_option linter.unusedSimpArgs false
namespace Go.Proofs.YtjlolpmmpafjeaaGreat
open CN
theorem nB (xs : List UInt8) (x : UInt8) : JY (xs ++ [x]) = JY xs * 256 + x.toNat := by
 unfold JY
 rw [List.foldl_append]; rfl
theorem p8 (n k : Nat) (x : UInt8) : BE (n * 256 + x.toNat) (k + 1) = BE n k ++ [x] := by
 unfold BE
 rw [List.range_succ, List.map_append, List.map_cons, List.map_nil]
 congr 1
 ·refine List.map_congr_left fun i hi => ?_
  have hi : i < k := List.mem_range.1 hi
  congr 1
  have e : 8 * (k + 1 - 1 - i) = 8 + 8 * (k - 1 - i) := by omega
  rw [e, Nat.pow_add, ← Nat.div_div_eq_div_mul]
  congr 1
  have := x.toNat_lt
  omega
 ·have e : 8 * (k + 1 - 1 - k) = 0 := by omega
  rw [e]
  have := x.toNat_lt
  congr 1
  apply UInt8.toNat_inj.1
  rw [UInt8.toNat_ofNat']
  simp only [Nat.pow_zero, Nat.div_one]
  omega
theorem jE (s : RS) : (UInt32.ofNat (BU s 4)).toNat = BU s 4 := by
 have := G7 s 4
 rw [UInt32.toNat_ofNat']
 omega
theorem jD (s : RS) : (UInt64.ofNat (BU s 6)).toNat = BU s 6 := by
 have := G7 s 6
 rw [UInt64.toNat_ofNat']
 omega
end Go.Proofs.YtjlolpmmpafjeaaGreat
