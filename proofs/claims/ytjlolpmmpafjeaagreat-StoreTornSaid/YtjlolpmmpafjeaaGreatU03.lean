import Derived.Test.YtjlolpmmpafjeaaGreatU02
set_option linter.unusedVariables false
set_option linter.unusedSimpArgs false
namespace Go.Proofs.YtjlolpmmpafjeaaGreat
open CN
class Flat (α : Type) [AX α] where
 f : α → List Value
 ok : α → Prop
 iff : ∀ {x : α} {c : List Value} {h : Heap}, AX.rep x c h ↔ c = f x ∧ ok x
section
variable {α : Type} [AX α] [F : Flat α]
theorem KF : ∀ {xs : List α} {cs : List Value} {h : Heap}, G4 xs cs h ↔ cs = xs.flatMap F.f ∧ ∀ x ∈ xs, F.ok x
 | [], cs, h => ⟨fun e => ⟨e, fun x hx => by cases hx⟩, fun e => e.1⟩
 | x :: r, cs, h => by
  constructor
  ·rintro ⟨c1, c2, rfl, h1, h2⟩
   obtain ⟨e1, o1⟩ := F.iff.1 h1
   obtain ⟨e2, o2⟩ := KF.1 h2
   subst e1; subst e2
   exact ⟨by rw [List.flatMap_cons], fun y hy => by
    rcases List.mem_cons.1 hy with rfl | hy
    ·exact o1
    ·exact o2 y hy⟩
  ·rintro ⟨rfl, ho⟩
   exact ⟨F.f x, _, List.flatMap_cons, F.iff.2 ⟨rfl, ho x (by simp)⟩, KF.2 ⟨rfl, fun y hy => ho y (by simp [hy])⟩⟩
theorem _root_.CN.Old.EG {D : Nat → Prop} {w0 : World} {S : List α} {v : Value} (k : Old D w0 (AX.rep S [v])) :
  ∃ A cap, v = .slice A S.length cap ∧ S.length ≤ cap ∧ cap ≤ 9223372036854775807 ∧ CS D w0 A (S.flatMap F.f) ∧ ∀ x ∈ S, F.ok x := by
 obtain ⟨h, hh, A, cap, e, h1, h2, ecs, k1, k2⟩ := k
 obtain ⟨rfl, ho⟩ := KF.1 k1
 exact ⟨A, cap, by simpa using e, h1, h2, CS.RD ⟨h, hh, k2⟩, ho⟩
end
abbrev GI := Bool × UInt32 × Int
abbrev EI := Int × UInt8 × UInt8
abbrev FM := UInt64 × Int × Int
abbrev C5 := Int × Int × Int × Int × UInt8 × UInt8 × UInt64
abbrev CA := Int × Int × Int × List GI × List EI × List FM
abbrev CJ (x : GI) : List Value := [.bool x.1, .int .u32 x.2.1.toNat, .int .i64 x.2.2]
abbrev BJ (x : EI) : List Value := [.int .i64 x.1, AU x.2.1, AU x.2.2]
abbrev BW (x : FM) : List Value := [.int .u64 x.1.toNat, .int .i64 x.2.1, .int .i64 x.2.2]
abbrev DL (x : C5) : List Value := [.int .i64 x.1, .int .i64 x.2.1, .int .i64 x.2.2.1, .int .i64 x.2.2.2.1, AU x.2.2.2.2.1, AU x.2.2.2.2.2.1, .int .u64 x.2.2.2.2.2.2.toNat]
instance : Flat GI where
 f := CJ
 ok x := DO x.2.2
 iff := by
  intro x c h
  constructor
  ·rintro ⟨c1, c2, rfl, k1, c3, c4, rfl, k3, k4⟩
   have k1 : c1 = [.bool x.1] := k1
   have k3 : c3 = [.int .u32 (x.2.1.toNat : Int)] := k3
   obtain ⟨k4, k5⟩ : c4 = [.int .i64 x.2.2] ∧ DO x.2.2 := k4
   subst k1; subst k3; subst k4
   exact ⟨rfl, k5⟩
  ·rintro ⟨rfl, k⟩
   exact ⟨[.bool x.1], _, rfl, rfl, [.int .u32 (x.2.1.toNat : Int)], [.int .i64 x.2.2], rfl, rfl, rfl, k⟩
instance : Flat EI where
 f := BJ
 ok x := DO x.1
 iff := by
  intro x c h
  constructor
  ·rintro ⟨c1, c2, rfl, k1, c3, c4, rfl, k3, k4⟩
   obtain ⟨k1, k2⟩ : c1 = [.int .i64 x.1] ∧ DO x.1 := k1
   have k3 : c3 = [AU x.2.1] := k3
   have k4 : c4 = [AU x.2.2] := k4
   subst k1; subst k3; subst k4
   exact ⟨rfl, k2⟩
  ·rintro ⟨rfl, k⟩
   exact ⟨[.int .i64 x.1], _, rfl, ⟨rfl, k⟩, [AU x.2.1], [AU x.2.2], rfl, rfl, rfl⟩
instance : Flat FM where
 f := BW
 ok x := DO x.2.1 ∧ DO x.2.2
 iff := by
  intro x c h
  constructor
  ·rintro ⟨c1, c2, rfl, k1, c3, c4, rfl, k3, k4⟩
   have k1 : c1 = [.int .u64 (x.1.toNat : Int)] := k1
   obtain ⟨k3, k5⟩ : c3 = [.int .i64 x.2.1] ∧ DO x.2.1 := k3
   obtain ⟨k4, k6⟩ : c4 = [.int .i64 x.2.2] ∧ DO x.2.2 := k4
   subst k1; subst k3; subst k4
   exact ⟨rfl, k5, k6⟩
  ·rintro ⟨rfl, k1, k2⟩
   exact ⟨[.int .u64 (x.1.toNat : Int)], _, rfl, rfl, [.int .i64 x.2.1], [.int .i64 x.2.2], rfl, ⟨rfl, k1⟩, rfl, k2⟩
def HY (a b : Int) : Int := if a < b then -1 else if b < a then 1 else 0
theorem bG (D : Nat → Prop) (w : World) (a : Int) : Calls Tryz.prog 160 #[.int .i64 a] w fun e w' => e = .returned (.bool false) ∧ AH D w w' [] := by
 refine BZ (vs := [.int .i64 a]) Tryz.func160 rfl _ Tryz.ntmps160 rfl (AH.start D w) ?_
 simp only [BX, Nat.zero_add]
 refine zg <| zs rfl <| zn <| AG <| AR <| zm rfl <| zm rfl <| zv (CG rfl rfl) <| zs rfl <| AS <| zt <| zq <| ?_
 exact zz rfl rfl fun w' H' => ⟨by simp, H'⟩
theorem bS (D : Nat → Prop) (w : World) (a : Int) : Calls Tryz.prog 161 #[.int .u64 a] w fun e w' => e = .returned (.bool false) ∧ AH D w w' [] := by
 refine BZ (vs := [.int .u64 a]) Tryz.func161 rfl _ Tryz.ntmps161 rfl (AH.start D w) ?_
 simp only [BX, Nat.zero_add]
 refine zg <| zs rfl <| zn <| AG <| AR <| zm rfl <| zm rfl <| zv (CG rfl rfl) <| zs rfl <| AS <| zt <| zq <| ?_
 exact zz rfl rfl fun w' H' => ⟨by simp, H'⟩
theorem WR (D : Nat → Prop) (w : World) (a b : Int) : Calls Tryz.prog 146 #[.int .i64 a, .int .i64 b] w fun e w' => e = .returned (.int .i64 (HY a b)) ∧ AH D w w' [] := by
 refine BZ (vs := [.int .i64 a, .int .i64 b]) Tryz.func146 rfl _ Tryz.ntmps146 rfl (AH.start D w) ?_
 simp only [BX, Nat.zero_add]
 refine zg <| zs rfl <| zn <| AG <| AR <| zm rfl <| B2 Tryz.call160 rfl rfl (fun w1 => D6 fun D' _ _ _ => bG D' w1 a) ?_
 refine zs rfl <| zn <| zg <| zm rfl <| B2 Tryz.call160 rfl rfl (fun w1 => D6 fun D' _ _ _ => bG D' w1 b) ?_
 refine zs rfl <| zn <| AG <| zg <| zm rfl <| zn <| EU rfl <| zk <| AG <| zg <| zm rfl <| zn <| EU rfl <| zk <| AG <| zg <| zm rfl <| zm rfl <| zv (B7 rfl rfl) <| zn <| BP rfl (fun h1 => ?_) (fun h1 => ?_)
 ·refine zg <| zs rfl <| zn <| zq <| zr <| ?_
  exact zz rfl rfl fun w' H' => ⟨by rw [HY, if_pos h1], H'⟩
 refine zk <| AG <| zg <| zm rfl <| zm rfl <| zv (DV rfl rfl) <| zn <| BP rfl (fun h2 => ?_) (fun h2 => ?_)
 ·refine zg <| zs rfl <| zn <| zq <| zr <| ?_
  exact zz rfl rfl fun w' H' => ⟨by rw [HY, if_neg h1, if_pos h2], H'⟩
 refine zk <| zg <| zs rfl <| AS <| zt <| zq <| ?_
 exact zz rfl rfl fun w' H' => ⟨by rw [HY, if_neg h1, if_neg h2], H'⟩
theorem nQ (D : Nat → Prop) (w : World) (a b : Int) : Calls Tryz.prog 148 #[.int .u64 a, .int .u64 b] w fun e w' => e = .returned (.int .i64 (HY a b)) ∧ AH D w w' [] := by
 refine BZ (vs := [.int .u64 a, .int .u64 b]) Tryz.func148 rfl _ Tryz.ntmps148 rfl (AH.start D w) ?_
 simp only [BX, Nat.zero_add]
 refine zg <| zs rfl <| zn <| AG <| AR <| zm rfl <| B2 Tryz.call161 rfl rfl (fun w1 => D6 fun D' _ _ _ => bS D' w1 a) ?_
 refine zs rfl <| zn <| zg <| zm rfl <| B2 Tryz.call161 rfl rfl (fun w1 => D6 fun D' _ _ _ => bS D' w1 b) ?_
 refine zs rfl <| zn <| AG <| zg <| zm rfl <| zn <| EU rfl <| zk <| AG <| zg <| zm rfl <| zn <| EU rfl <| zk <| AG <| zg <| zm rfl <| zm rfl <| zv (B7 rfl rfl) <| zn <| BP rfl (fun h1 => ?_) (fun h1 => ?_)
 ·refine zg <| zs rfl <| zn <| zq <| zr <| ?_
  exact zz rfl rfl fun w' H' => ⟨by rw [HY, if_pos h1], H'⟩
 refine zk <| AG <| zg <| zm rfl <| zm rfl <| zv (DV rfl rfl) <| zn <| BP rfl (fun h2 => ?_) (fun h2 => ?_)
 ·refine zg <| zs rfl <| zn <| zq <| zr <| ?_
  exact zz rfl rfl fun w' H' => ⟨by rw [HY, if_neg h1, if_pos h2], H'⟩
 refine zk <| zg <| zs rfl <| AS <| zt <| zq <| ?_
 exact zz rfl rfl fun w' H' => ⟨by rw [HY, if_neg h1, if_neg h2], H'⟩
instance : Flat Int where
 f x := [.int .i64 x]
 ok x := DO x
 iff := by
  intro x c h
  exact Iff.rfl
theorem eR (a b : Int) : DO (HY a b) := by
 unfold HY DO
 split
 ·omega
 split <;> omega
theorem rK (D : Nat → Prop) (w : World) (v : Value) (a b : Int) (HA : Old D w (AX.rep [a, b] [v])) : Calls Tryz.prog 147 #[v] w fun e w' => e = .returned (.int .i64 (if a = 0 then b else a)) ∧ AH D w w' [] := by
 obtain ⟨A, cap, rfl, hc1, hc2, HS, hok⟩ := HA.EG
 have HS : CS D w A [.int .i64 a, .int .i64 b] := HS
 have hA : CU A := HS.CU (by simp)
 refine BZ (vs := [.slice A [a, b].length cap]) Tryz.func147 rfl _ Tryz.ntmps147 rfl (AH.start D w) ?_
 simp only [BX, Nat.zero_add]
 refine zg <| zs rfl <| zn <| AG <| AR <| zs rfl <| zn <| AG <| AG <| AR <| zm rfl <| zv BN <| ?_
 refine zm rfl <| zn <| BK <| JP (σ := Nat) [3, 6, 7] rfl 8 (fun k => .int .i64 (k : Int)) (fun k => k ≤ 2 ∧ (0 < k → a = 0) ∧ (1 < k → b = 0)) (fun k => 2 - k) (0) (⟨by decide, fun h => absurd h AF, fun h => absurd h AF⟩) rfl ?_
 rintro k ⟨hk, hka, hkb⟩ K1 hK1
 refine zg <| zv (B7 rfl rfl) <| zn <| AG <| BP rfl (fun h => ?_) (fun h => ?_)
 ·have hl2 : [a, b].length = 2 := rfl
  have hlt : k < 2 := by omega
  have hcell : EH D w [] (ab A) (ao A + k * 1) (.int .i64 (if k = 0 then a else b)) := by
   rw [Nat.mul_one]
   refine (BB.old HS).cell (i := k) ?_
   match k, hlt with
   | 0, _ => rfl
   | 1, _ => rfl
  have hkl : k < [a, b].length := hlt
  have hres : (if k = 0 then a else b) ≠ 0 → (if a = 0 then b else a) = (if k = 0 then a else b) := fun hne => by
   by_cases h0 : k = 0
   ·rw [if_pos h0] at hne ⊢
    rw [if_neg hne]
   ·rw [if_neg h0] at hne ⊢
    rw [if_pos (hka AA)]
  have hnx : (if k = 0 then a else b) = 0 → k + 1 ≤ 2 ∧ (0 < k + 1 → a = 0) ∧ (1 < k + 1 → b = 0) := fun hx => by
   by_cases h0 : k = 0
   ·rw [if_pos h0] at hx
    exact ⟨by omega, fun _ => hx, fun h => by omega⟩
   ·rw [if_neg h0] at hx
    exact ⟨by omega, fun _ => hka AA, fun _ => hx⟩
  generalize hx : (if k = 0 then a else b) = x at *
  refine zk <| AG <| BK <| zg <| zv (CZ rfl DP rfl _ rfl AA) <| zv Z9 <| ?_
  refine zs rfl <| zn <| zg <| zm rfl <| zm rfl <| zv (CG rfl rfl) <| zn <| BP rfl (fun hne => ?_) (fun hne => ?_)
  ·have := hres hne
   refine zg <| zm rfl <| zs rfl <| zn <| zq <| B4 <| zr <| zr <| B4 <| zr <| ?_
   exact zz rfl rfl fun w' H' => ⟨by rw [this], H'⟩
  have hx0 : x = 0 := Classical.not_not.1 hne
  have hn := hnx hx0
  refine C3 <| zb <| zt <| AR <| zv (BM rfl rfl BO) <| ?_
  refine zm rfl <| AS <| B5 hK1 (k + 1) (hn) AA BD BL
 have hl2 : [a, b].length = 2 := rfl
 have hk2 : k = 2 := by omega
 subst hk2
 refine CF <| ze <| ze <| CE <| zt <| AG <| AR <| zm rfl <| zs rfl <| zn <| zq <| ?_
 exact zz rfl rfl fun w' H' => ⟨by rw [if_pos (hka AF), hkb AF], H'⟩
def GW (x y : FM) : Int := if HY x.2.1 y.2.1 = 0 then HY x.1.toNat y.1.toNat else HY x.2.1 y.2.1
theorem VV (D : Nat → Prop) (w : World) (x y : FM) : Calls Tryz.prog 119 #[.agg (BW x).toArray, .agg (BW y).toArray] w fun e w' => e = .returned (.int .i64 (GW x y)) ∧ AH D w w' [] := by
 refine BZ (vs := [.agg (BW x).toArray, .agg (BW y).toArray]) Tryz.func119 rfl _ Tryz.ntmps119 rfl (AH.start D w) ?_
 simp only [BX, Nat.zero_add]
 refine zg <| AV (EE rfl rfl) rfl rfl rfl fun b2 =>  ?_
 refine AV (EE rfl rfl) rfl rfl rfl fun b3 =>  ?_
 refine zs rfl <| zn <| AG <| EF [AI b3 149 (BW y), AI b2 149 (BW x)] mixed 13 rfl ?_
 refine AE 0 rfl (AP rfl) rfl <| AE 1 rfl (zw rfl rfl) rfl <| AE 2 rfl (AP rfl) rfl <| AE 3 rfl (zw rfl rfl) rfl <| AE 5 rfl (AP rfl) rfl <| AE 6 rfl (zw rfl rfl) rfl <| AE 7 rfl (AP rfl) rfl <| AE 8 rfl (zw rfl rfl) rfl <| AL 4 AB <| CY rfl Tryz.call146 rfl (fun w1 => D6 fun D' _ _ _ => WR D' w1 x.2.1 y.2.1) ?_
 refine AL 9 AB <| CY rfl Tryz.call148 rfl (fun w1 => D6 fun D' _ _ _ => nQ D' w1 x.1.toNat y.1.toNat) ?_
 refine AL 10 AB <| BC rfl (BS rfl rfl rfl) rfl fun b15 =>  ?_
 refine AL 11 AB <| CY rfl Tryz.call147 rfl (fun w1 => D6 fun D' _ hin _ => rK D' w1 _ (HY x.2.1 y.2.1) (HY x.1.toNat y.1.toNat) (hin _ fun h hs ho => I2 (b := b15) hs [_, _] ⟨[_], [_], rfl, ⟨rfl, eR _ _⟩, [_], [], rfl, ⟨rfl, eR _ _⟩, rfl⟩ (by simp))) ?_
 refine AE 12 rfl (DH rfl) rfl <| BY AB <| zt <| zq <| ?_
 exact zz rfl rfl fun w' H' => ⟨rfl, H'.AK (AD.nil _)⟩
theorem jH (D : Nat → Prop) (w : World) (x y : EI) : Calls Tryz.prog 145 #[.agg (BJ x).toArray, .agg (BJ y).toArray] w fun e w' => e = .returned (.int .i64 (HY x.1 y.1)) ∧ AH D w w' [] := by
 refine BZ (vs := [.agg (BJ x).toArray, .agg (BJ y).toArray]) Tryz.func145 rfl _ Tryz.ntmps145 rfl (AH.start D w) ?_
 simp only [BX, Nat.zero_add]
 refine zg <| AV (EE rfl rfl) rfl rfl rfl fun b2 =>  ?_
 refine AV (EE rfl rfl) rfl rfl rfl fun b3 =>  ?_
 refine zs rfl <| zn <| zg <| zf rfl <| ?_
 refine zl rfl rfl <| zf rfl <| zl rfl rfl <| ?_
 refine B2 Tryz.call146 rfl rfl (fun w1 => D6 fun D' _ _ _ => WR D' w1 x.1 y.1) ?_
 refine zs rfl <| zn <| zq <| ?_
 exact zz rfl rfl fun w' H' => ⟨rfl, H'.AK (AD.nil _)⟩
theorem ZR (D : Nat → Prop) (w : World) (x : EI) (i : Int) : Calls Tryz.prog 152 #[.agg (BJ x).toArray, .int .i64 i] w fun e w' => e = .returned (.int .i64 (HY x.1 i)) ∧ AH D w w' [] := by
 refine BZ (vs := [.agg (BJ x).toArray, .int .i64 i]) Tryz.func152 rfl _ Tryz.ntmps152 rfl (AH.start D w) ?_
 simp only [BX, Nat.zero_add]
 refine zg <| AV (EE rfl rfl) rfl rfl rfl fun b2 =>  ?_
 refine zs rfl <| zn <| zg <| zf rfl <| ?_
 refine zl rfl rfl <| zm rfl <| B2 Tryz.call146 rfl rfl (fun w1 => D6 fun D' _ _ _ => WR D' w1 x.1 i) ?_
 refine zs rfl <| zn <| zq <| ?_
 exact zz rfl rfl fun w' H' => ⟨rfl, H'.AK (AD.nil _)⟩
end Go.Proofs.YtjlolpmmpafjeaaGreat

set_option linter.unusedVariables false
set_option linter.unusedSimpArgs false
namespace Go.Proofs.YtjlolpmmpafjeaaGreat
open CN
def HW {α : Type} (c : α → α → Int) (l : List α) : Prop := ∀ i (h : i < l.length), 0 < i → c (l[i - 1]'(by omega)) l[i] < 0
abbrev EX (p : Prop) := { b : Bool // b = true ↔ p }
def bT {p : Prop} (h : p) : EX p := ⟨true, by simp [h]⟩
def bF {p : Prop} (h : ¬ p) : EX p := ⟨false, by simp [h]⟩
def cV (x y : EI) : Int := HY x.1 y.1
theorem nJ (D : Nat → Prop) (w : World) (v : Value) (l : List EI) (hl : l.length ≤ 1000000) (HA : Old D w (AX.rep l [v])) :
  Calls Tryz.prog 144 #[v, .func (.func 145) #[] #[]] w fun e w' => ∃ b : EX (HW cV l), e = .returned (.bool b.1) ∧ AH D w w' [] := by
 obtain ⟨A, cap, rfl, hc1, hc2, HS, hok⟩ := HA.EG
 have HS : CS D w A (l.flatMap BJ) := HS
 refine BZ (vs := [.slice A l.length cap, .func (.func 145) #[] #[]]) Tryz.func144 rfl _ Tryz.ntmps144 rfl (AH.start D w) ?_
 simp only [BX, Nat.zero_add]
 refine zg <| zs rfl <| zn <| AG <| zg <| zm rfl <| zv BN <| ?_
 refine zm rfl <| zn <| BK <| JP (σ := Nat) [0, 1, 7] rfl 8 (fun i => .int .i64 (i : Int)) (fun i => i ≤ l.length ∧ ∀ j (h : j < l.length), j < i → 0 < j → cV (l[j - 1]'(by omega)) l[j] < 0) (fun i => l.length - i) (0) (⟨Nat.zero_le _, fun j _ h => absurd h (Nat.not_lt_zero _)⟩) rfl ?_
 rintro i ⟨hi, hris⟩ K1 hK1
 refine zg <| zv (B7 rfl rfl) <| zn <| AG <| BP rfl (fun h => ?_) (fun h => ?_)
 ·have hlt : i < l.length := by omega
  obtain ⟨hA, hc⟩ := CS.EP (f := BJ) (sz := 3) (fun _ => rfl) AF HS hlt []
  refine zk <| AG <| BK <| zg <| zm rfl <| zs rfl <| zn <| AG <| E2 13 mixed AB ?_
  refine AT (AO rfl) rfl <| AT (DV rfl rfl) rfl <| AT (AO rfl) rfl <| ?_
  refine eN (t := 13) rfl (fun h0 => ?_) (fun h0 => ?_)
  ·have hlt2 : i - 1 < l.length := by omega
   obtain ⟨_, hc2⟩ := CS.EP (f := BJ) (sz := 3) (fun _ => rfl) AF HS hlt2 []
   have hnext : cV l[i - 1] l[i] < 0 → ∀ j (h : j < l.length), j < i + 1 → 0 < j → cV (l[j - 1]'(by omega)) l[j] < 0 := fun hx j hj h1 h2 => by
    rcases Nat.lt_or_ge j i with h3 | h3
    ·exact hris j hj h3 h2
    ·obtain rfl : j = i := by omega
     exact hx
   have hbad : ¬ cV l[i - 1] l[i] < 0 → ¬ HW cV l := fun hx hr => hx (hr i hlt AA)
   generalize l[i - 1] = y at *
   generalize l[i] = x at *
   refine I6 rfl rfl <| AT (AO rfl) rfl <| I6 rfl rfl <| AT (AO rfl) rfl <| I6 rfl rfl <| AT (AO rfl) rfl <| ?_
   refine I6 rfl rfl <| AT (FY (m := ((i - 1 : Nat) : Int)) rfl rfl E3) rfl ?_
   refine I6 rfl rfl <| AT (CZ rfl DP rfl _ rfl AA) rfl <| ?_
   refine I6 rfl rfl <| AT (D4 (cs := BJ y) rfl rfl hc2) rfl ?_
   refine I6 rfl rfl <| AT (AO rfl) rfl <| I6 rfl rfl <| AT (AO rfl) rfl <| I6 rfl rfl <| AT (CZ rfl DP rfl _ rfl AA) rfl <| ?_
   refine I6 rfl rfl <| AT (D4 (cs := BJ x) rfl rfl hc) rfl ?_
   refine EV <| ?_
   refine AJ rfl rfl <| SV rfl (fun _ _ => Tryz.call145 _ _) rfl rfl (fun w1 => D6 fun D' _ _ _ => jH D' w1 y x) ?_
   refine AJ rfl rfl <| zv (GN rfl rfl) <| zv (BF rfl rfl) <| zn <| BP rfl (fun hx => ?_) (fun hx => ?_)
   ·have hb := hbad (show ¬ cV y x < 0 by have hx : 0 ≤ cV y x := hx; omega)
    refine zg <| zs rfl <| zn <| zq <| B4 <| zr <| zr <| B4 <| zr <| ?_
    exact zz rfl rfl fun w' H' => ⟨bF hb, rfl, H'⟩
   have hn := hnext (show cV y x < 0 by have hx : ¬ 0 ≤ cV y x := hx; omega)
   refine C3 <| zb <| zt <| AR <| zv (BM rfl rfl BO) <| ?_
   refine zm rfl <| AS <| B5 hK1 (i + 1) (⟨hlt, hn⟩) AA BD BL
  refine I5 rfl rfl rfl rfl rfl rfl <| I5 rfl rfl rfl rfl rfl rfl <| I5 rfl rfl rfl rfl rfl rfl <| I5 rfl rfl rfl rfl rfl rfl <| I5 rfl rfl rfl rfl rfl rfl <| I5 rfl rfl rfl rfl rfl rfl <| ?_
  refine I5 rfl rfl rfl rfl rfl rfl <| I5 rfl rfl rfl rfl rfl rfl <| I5 rfl rfl rfl rfl rfl rfl <| I5 rfl rfl rfl rfl rfl rfl <| EV <| zo rfl rfl <| ?_
  refine zo rfl rfl <| zv (A8 rfl rfl) <| zn <| EU rfl <| C3 <| zb <| zt <| AR <| zv (BM rfl rfl BO) <| ?_
  refine zm rfl <| AS <| B5 hK1 (i + 1) (⟨hlt, fun j _ h1 h2 => by omega⟩) AA BD BL
 refine CF <| ze <| ze <| CE <| zt <| AG <| AR <| zs rfl <| zn <| zq <| ?_
 exact zz rfl rfl fun w' H' => ⟨bT (fun j h h0 => hris j h AA h0), rfl, H'⟩
theorem mY (D : Nat → Prop) (w : World) (v : Value) (l : List FM) (hl : l.length ≤ 1000000) (HA : Old D w (AX.rep l [v])) :
  Calls Tryz.prog 118 #[v, .func (.func 119) #[] #[]] w fun e w' => ∃ b : EX (HW GW l), e = .returned (.bool b.1) ∧ AH D w w' [] := by
 obtain ⟨A, cap, rfl, hc1, hc2, HS, hok⟩ := HA.EG
 have HS : CS D w A (l.flatMap BW) := HS
 refine BZ (vs := [.slice A l.length cap, .func (.func 119) #[] #[]]) Tryz.func118 rfl _ Tryz.ntmps118 rfl (AH.start D w) ?_
 simp only [BX, Nat.zero_add]
 refine zg <| zs rfl <| zn <| AG <| zg <| zm rfl <| zv BN <| ?_
 refine zm rfl <| zn <| BK <| JP (σ := Nat) [0, 1, 7] rfl 8 (fun i => .int .i64 (i : Int)) (fun i => i ≤ l.length ∧ ∀ j (h : j < l.length), j < i → 0 < j → GW (l[j - 1]'(by omega)) l[j] < 0) (fun i => l.length - i) (0) (⟨Nat.zero_le _, fun j _ h => absurd h (Nat.not_lt_zero _)⟩) rfl ?_
 rintro i ⟨hi, hris⟩ K1 hK1
 refine zg <| zv (B7 rfl rfl) <| zn <| AG <| BP rfl (fun h => ?_) (fun h => ?_)
 ·have hlt : i < l.length := by omega
  obtain ⟨hA, hc⟩ := CS.EP (f := BW) (sz := 3) (fun _ => rfl) AF HS hlt []
  refine zk <| AG <| BK <| zg <| zm rfl <| zs rfl <| zn <| AG <| E2 13 mixed AB ?_
  refine AT (AO rfl) rfl <| AT (DV rfl rfl) rfl <| AT (AO rfl) rfl <| ?_
  refine eN (t := 13) rfl (fun h0 => ?_) (fun h0 => ?_)
  ·have hlt2 : i - 1 < l.length := by omega
   obtain ⟨_, hc2⟩ := CS.EP (f := BW) (sz := 3) (fun _ => rfl) AF HS hlt2 []
   have hnext : GW l[i - 1] l[i] < 0 → ∀ j (h : j < l.length), j < i + 1 → 0 < j → GW (l[j - 1]'(by omega)) l[j] < 0 := fun hx j hj h1 h2 => by
    rcases Nat.lt_or_ge j i with h3 | h3
    ·exact hris j hj h3 h2
    ·obtain rfl : j = i := by omega
     exact hx
   have hbad : ¬ GW l[i - 1] l[i] < 0 → ¬ HW GW l := fun hx hr => hx (hr i hlt AA)
   generalize l[i - 1] = y at *
   generalize l[i] = x at *
   refine I6 rfl rfl <| AT (AO rfl) rfl <| I6 rfl rfl <| AT (AO rfl) rfl <| I6 rfl rfl <| AT (AO rfl) rfl <| ?_
   refine I6 rfl rfl <| AT (FY (m := ((i - 1 : Nat) : Int)) rfl rfl E3) rfl ?_
   refine I6 rfl rfl <| AT (CZ rfl DP rfl _ rfl AA) rfl <| ?_
   refine I6 rfl rfl <| AT (D4 (cs := BW y) rfl rfl hc2) rfl ?_
   refine I6 rfl rfl <| AT (AO rfl) rfl <| I6 rfl rfl <| AT (AO rfl) rfl <| I6 rfl rfl <| AT (CZ rfl DP rfl _ rfl AA) rfl <| ?_
   refine I6 rfl rfl <| AT (D4 (cs := BW x) rfl rfl hc) rfl ?_
   refine EV <| ?_
   refine AJ rfl rfl <| SV rfl (fun _ _ => Tryz.call119 _ _) rfl rfl (fun w1 => D6 fun D' _ _ _ => VV D' w1 y x) ?_
   refine AJ rfl rfl <| zv (GN rfl rfl) <| zv (BF rfl rfl) <| zn <| BP rfl (fun hx => ?_) (fun hx => ?_)
   ·have hb := hbad (show ¬ GW y x < 0 by have hx : 0 ≤ GW y x := hx; omega)
    refine zg <| zs rfl <| zn <| zq <| B4 <| zr <| zr <| B4 <| zr <| ?_
    exact zz rfl rfl fun w' H' => ⟨bF hb, rfl, H'⟩
   have hn := hnext (show GW y x < 0 by have hx : ¬ 0 ≤ GW y x := hx; omega)
   refine C3 <| zb <| zt <| AR <| zv (BM rfl rfl BO) <| ?_
   refine zm rfl <| AS <| B5 hK1 (i + 1) (⟨hlt, hn⟩) AA BD BL
  refine I5 rfl rfl rfl rfl rfl rfl <| I5 rfl rfl rfl rfl rfl rfl <| I5 rfl rfl rfl rfl rfl rfl <| I5 rfl rfl rfl rfl rfl rfl <| I5 rfl rfl rfl rfl rfl rfl <| I5 rfl rfl rfl rfl rfl rfl <| ?_
  refine I5 rfl rfl rfl rfl rfl rfl <| I5 rfl rfl rfl rfl rfl rfl <| I5 rfl rfl rfl rfl rfl rfl <| I5 rfl rfl rfl rfl rfl rfl <| EV <| zo rfl rfl <| ?_
  refine zo rfl rfl <| zv (A8 rfl rfl) <| zn <| EU rfl <| C3 <| zb <| zt <| AR <| zv (BM rfl rfl BO) <| ?_
  refine zm rfl <| AS <| B5 hK1 (i + 1) (⟨hlt, fun j _ h1 h2 => by omega⟩) AA BD BL
 refine CF <| ze <| ze <| CE <| zt <| AG <| AR <| zs rfl <| zn <| zq <| ?_
 exact zz rfl rfl fun w' H' => ⟨bT (fun j h h0 => hris j h AA h0), rfl, H'⟩
theorem RF {l : List EI} (h : HW cV l) : ∀ (q p : Nat) (hq : q < p) (hp : p < l.length), (l[q]'(by omega)).1 < l[p].1 := fun q p hq hp => by
 induction p with
 | zero => omega
 | succ p ih =>
  have h1 := h (p + 1) hp AA
  simp only [Nat.add_sub_cancel] at h1
  have h2 : (l[p]'(by omega)).1 < l[p + 1].1 := by
   unfold cV HY at h1
   split at h1
   ·assumption
   ·split at h1 <;> omega
  rcases Nat.lt_or_ge q p with h3 | h3
  ·have := ih h3 AA; omega
  ·obtain rfl : q = p := by omega
   exact h2
def O7 (l : List EI) (id : Int) (i : Nat) : Prop := i ≤ l.length ∧ (∀ q (h : q < l.length), q < i → l[q].1 < id) ∧ ∀ q (h : q < l.length), i ≤ q → id ≤ l[q].1
theorem NB {a b : Int} : HY a b < 0 ↔ a < b := by
 unfold HY
 split
 ·simp; assumption
 split <;> omega
theorem OT {a b : Int} : HY a b = 0 ↔ a = b := by
 unfold HY
 split
 ·omega
 split <;> omega
theorem tG (n : Nat) : ((n : Int)).fdiv (2 ^ (min (Int.toNat 1) 64)) = ((n / 2 : Nat) : Int) := by
 rw [Int.fdiv_eq_ediv_of_nonneg _ AF]
 simp
theorem pO (D : Nat → Prop) (w : World) (v : Value) (l : List EI) (id : Int) (hl : l.length ≤ 1000000) (hr : HW cV l) (HA : Old D w (AX.rep l [v])) :
  Calls Tryz.prog 151 #[v, .int .i64 id, .func (.func 152) #[] #[]] w fun e w' => ∃ b : { p : Nat × Bool // O7 l id p.1 ∧ (p.2 = true ↔ ∃ h : p.1 < l.length, l[p.1].1 = id) }, e = .returned (.tuple #[.int .i64 b.1.1, .bool b.1.2]) ∧ AH D w w' [] := by
 obtain ⟨A, cap, rfl, hc1, hc2, HS, hok⟩ := HA.EG
 have HS : CS D w A (l.flatMap BJ) := HS
 have hlt' := RF hr
 refine BZ (vs := [.slice A l.length cap, .int .i64 id, .func (.func 152) #[] #[]]) Tryz.func151 rfl _ Tryz.ntmps151 rfl (AH.start D w) ?_
 simp only [BX, Nat.zero_add]
 refine zg <| zs rfl <| zs rfl <| zn <| zg <| zm rfl <| zv BN <| ?_
 refine zs rfl <| zn <| zg <| zm rfl <| zs rfl <| zs rfl <| zn <| AG <| BK <| PI (σ := Nat × Nat) [0, 1, 2, 8] rfl 9 (fun s => .int .i64 (s.1 : Int)) 10 (fun s => .int .i64 (s.2 : Int)) (fun s => s.1 ≤ s.2 ∧ s.2 ≤ l.length ∧ (∀ q (h : q < l.length), q < s.1 → l[q].1 < id) ∧ (∀ q (h : q < l.length), s.2 ≤ q → id ≤ l[q].1)) (fun s => s.2 - s.1) ((0, l.length)) (⟨Nat.zero_le _, Nat.le_refl _, fun _ _ h => absurd h (Nat.not_lt_zero _), fun q h h2 => absurd h2 (by simpa using h)⟩) rfl rfl ?_
 rintro ⟨i, j⟩ hj_ K1 hK1
 dsimp only at hj_ ⊢
 obtain ⟨hij, hj, h1, h2⟩ := hj_
 refine AG <| zg <| zm rfl <| zm rfl <| zv (B7 rfl rfl) <| zn <| BP rfl (fun h => ?_) (fun h => ?_)
 ·have hlt : i < j := by omega
  obtain ⟨m, hm⟩ : ∃ m, (i + j) / 2 = m := ⟨_, rfl⟩
  have hmi : i ≤ m := by omega
  have hmj : m < j := by omega
  have hml : m < l.length := by omega
  obtain ⟨hA, hc⟩ := CS.EP (f := BJ) (sz := 3) (fun _ => rfl) AF HS hml []
  have hlo : l[m].1 < id → ∀ q (h : q < l.length), q < m + 1 → l[q].1 < id := fun hx q hq h3 => by
   rcases Nat.lt_or_ge q m with h4 | h4
   ·have := hlt' q m h4 hml; omega
   ·obtain rfl : q = m := by omega
    exact hx
  have hhi : ¬ l[m].1 < id → ∀ q (h : q < l.length), m ≤ q → id ≤ l[q].1 := fun hx q hq h3 => by
   rcases Nat.lt_or_ge m q with h4 | h4
   ·have := hlt' m q h4 hq; omega
   ·obtain rfl : q = m := by omega
    omega
  generalize l[m] = x at *
  refine zk <| BK <| zg <| zm rfl <| zm rfl <| zv (BM rfl rfl BO) <| ?_
  refine zv (CD rfl J2) <| ?_
  refine AZ (JT (m := (m : Int)) rfl rfl AF (by rw [← hm]; exact tG (i + j))) rfl ?_
  refine zv (CD rfl BO) <| ?_
  refine zs rfl <| zn <| zg <| zm rfl <| zm rfl <| zm rfl <| zv (CZ rfl DP rfl _ rfl AA) <| ?_
  refine AZ (D4 (cs := BJ x) rfl rfl hc) rfl <| zm rfl <| SV rfl (fun _ _ => Tryz.call152 _ _) rfl rfl (fun w1 => D6 fun D' _ _ _ => ZR D' w1 x id) ?_
  refine zv (B7 rfl rfl) <| zn <| BP rfl (fun hx => ?_) (fun hx => ?_)
  ·have hx' : x.1 < id := NB.1 hx
   have hn := hlo hx'
   refine AR <| zm rfl <| zv (BM rfl rfl BO) <| ?_
   refine zs rfl <| AS <| zb <| B5 hK1 ((m + 1, j)) (⟨hmj, hj, hn, h2⟩) (by show j - (m + 1) < j - i; omega) BD BL
  have hx' : ¬ x.1 < id := fun h => hx (NB.2 h)
  have hn := hhi hx'
  refine AR <| zm rfl <| zs rfl <| AS <| zb <| B5 hK1 ((i, m)) (⟨hmi, by omega, h1, hn⟩) (by show m - i < j - i; omega) BD BL
 have hie : j = i := by omega
 subst hie
 have hat : O7 l id j := ⟨hj, h1, h2⟩
 refine CF <| ze <| ze <| CE <| zt <| AG <| AR <| zm rfl <| zm rfl <| zm rfl <| zv (B7 rfl rfl) <| zm rfl <| DB (t := 39) rfl (fun hp => ?_) (fun hp => ?_)
 ·have hjl : j < l.length := by omega
  obtain ⟨hA, hc⟩ := CS.EP (f := BJ) (sz := 3) (fun _ => rfl) AF HS hjl []
  have hres : ∀ b : Bool, (b = true ↔ l[j].1 = id) → (b = true ↔ ∃ h : j < l.length, l[j].1 = id) := fun b hb => ⟨fun h => ⟨hjl, hb.1 h⟩, fun ⟨_, h⟩ => hb.2 h⟩
  generalize l[j] = x at *
  refine AJ rfl rfl <| zm rfl <| AJ rfl rfl <| zm rfl <| AJ rfl rfl <| zm rfl <| AJ rfl rfl <| zv (CZ rfl DP rfl _ rfl AA) <| ?_
  refine AJ rfl rfl <| AZ (D4 (cs := BJ x) rfl rfl hc) rfl <| AJ rfl rfl <| zm rfl <| AJ rfl rfl <| SV rfl (fun _ _ => Tryz.call152 _ _) rfl rfl (fun w1 => D6 fun D' _ _ _ => ZR D' w1 x id) ?_
  refine AJ rfl rfl <| zv (CO rfl rfl) <| zv (BF rfl rfl) <| zs rfl <| zs rfl <| zn <| zq <| ?_
  exact E5 (.inr rfl) rfl rfl rfl fun w' H' => ⟨⟨(j, decide (HY x.1 id = 0)), hat, hres _ (by rw [decide_eq_true_iff, OT])⟩, rfl, H'⟩
 refine zo rfl rfl <| zo rfl rfl <| zo rfl rfl <| zo rfl rfl <| zo rfl rfl <| zo rfl rfl <| zo rfl rfl <| zo rfl rfl <| zv (A8 rfl rfl) <| zs rfl <| zs rfl <| AS <| zt <| zq <| ?_
 exact E5 (.inr rfl) rfl rfl rfl fun w' H' => ⟨⟨(j, false), hat, by simp only [Bool.false_eq_true, false_iff]; rintro ⟨h, _⟩; omega⟩, rfl, H'⟩
theorem find_spec (D : Nat → Prop) (w : World) (v : Value) (l : List EI) (id : Int) (hl : l.length ≤ 1000000) (hr : HW cV l) (HA : Old D w (AX.rep l [v])) :
  Calls Tryz.prog 130 #[v, .int .i64 id] w fun e w' => ∃ b : { p : Nat × Bool // O7 l id p.1 ∧ (p.2 = true ↔ ∃ h : p.1 < l.length, l[p.1].1 = id) }, e = .returned (.tuple #[.int .i64 b.1.1, .bool b.1.2]) ∧ AH D w w' [] := by
 refine BZ (vs := [v, .int .i64 id]) Tryz.func130 rfl _ Tryz.ntmps130 rfl (AH.start D w) ?_
 simp only [BX, Nat.zero_add]
 refine zg <| zs rfl <| zs rfl <| zn <| zg <| zm rfl <| zm rfl <| CQ (σ := { p : Nat × Bool // O7 l id p.1 ∧ (p.2 = true ↔ ∃ h : p.1 < l.length, l[p.1].1 = id) }) Tryz.call151 rfl rfl (fun w1 => zu fun D' hold _ _ => pO D' w1 v l id hl hr (hold _ HA)) ?_
 intro b
 try rw [List.nil_append]
 refine zx rfl rfl <| zx rfl rfl <| zs rfl <| zs rfl <| zn <| zq <| ?_
 exact E5 (.inr rfl) rfl rfl rfl fun w' H' => ⟨b, rfl, H'⟩
end Go.Proofs.YtjlolpmmpafjeaaGreat

set_option linter.unusedVariables false
set_option linter.unusedSimpArgs false
namespace Go.Proofs.YtjlolpmmpafjeaaGreat
open CN
abbrev C9 (c : CA) (vp vv vs : Value) : List Value := [.int .i64 c.1, .int .i64 c.2.1, .int .i64 c.2.2.1, vp, vv, vs]
structure ER (D : Nat → Prop) (w : World) (c : CA) (vp vv vs : Value) : Prop where
 i1 : DO c.1
 i2 : DO c.2.1
 i3 : DO c.2.2.1
 p : Old D w (AX.rep c.2.2.2.1 [vp])
 v : Old D w (AX.rep c.2.2.2.2.1 [vv])
 s : Old D w (AX.rep c.2.2.2.2.2 [vs])
 lp : c.2.2.2.1.length ≤ 1000
 lv : c.2.2.2.2.1.length ≤ 1000
 ls : c.2.2.2.2.2.length ≤ 1000
theorem ER.hold {D D' : Nat → Prop} {w w' : World} {c : CA} {vp vv vs : Value} (h : ER D w c vp vv vs) (hold : ∀ A, Old D w A → Old D' w' A) : ER D' w' c vp vv vs :=
 ⟨h.i1, h.i2, h.i3, hold _ h.p, hold _ h.v, hold _ h.s, h.lp, h.lv, h.ls⟩
def K8 (c : CA) : Prop := 0 ≤ c.1 ∧ c.1 ≤ 61440 ∧ c.1 % 4096 = 0 ∧ 6 ≤ c.2.1 ∧ c.2.1 ≤ 40 ∧ 4 ≤ c.2.2.1 ∧ c.2.2.1 ≤ 30 ∧ c.2.1 ≤ 2 * (c.2.2.1 - 1)
theorem kQ (D : Nat → Prop) (w : World) (c : CA) (vp vv vs : Value) (H : ER D w c vp vv vs) :
  Calls Tryz.prog 115 #[.agg (C9 c vp vv vs).toArray] w fun e w' => ∃ b : EX (K8 c), e = .returned (.bool b.1) ∧ AH D w w' [] := by
 obtain ⟨i1, i2, i3, _, _, _, _, _, _⟩ := H
 unfold DO at i1 i2 i3
 refine BZ (vs := [.agg (C9 c vp vv vs).toArray]) Tryz.func115 rfl _ Tryz.ntmps115 rfl (AH.start D w) ?_
 simp only [BX, Nat.zero_add]
 refine zg <| AV (EE rfl rfl) rfl rfl rfl fun b1 =>  ?_
 refine zs rfl <| zn <| zg <| zf rfl <| ?_
 refine zl rfl rfl <| zv (GN rfl rfl) <| zm rfl <| DB (t := 6) rfl (fun h1 => ?_) (fun h1 => ?_)
 ·refine AJ rfl rfl <| zf rfl <| AJ rfl rfl <| zl rfl rfl <| AJ rfl rfl <| zv (LB rfl rfl) <| zv (BF rfl rfl) <| zm rfl <| ?_
  refine DB (t := 11) rfl (fun h2 => ?_) (fun h2 => ?_)
  ·refine AJ rfl rfl <| zf rfl <| AJ rfl rfl <| zl rfl rfl <| ?_
   refine AJ rfl rfl <| AZ (RE (m := c.1 % 4096) rfl rfl AF (Int.tmod_eq_emod_of_nonneg AA)) rfl ?_
   refine AJ rfl rfl <| zv (CO rfl rfl) <| zv (BF rfl rfl) <| zm rfl <| DB (t := 17) rfl (fun h3 => ?_) (fun h3 => ?_)
   ·refine AJ rfl rfl <| zf rfl <| AJ rfl rfl <| zl rfl rfl <| AJ rfl rfl <| zv (GN rfl rfl) <| zv (BF rfl rfl) <| zm rfl <| ?_
    refine DB (t := 22) rfl (fun h4 => ?_) (fun h4 => ?_)
    ·refine AJ rfl rfl <| zf rfl <| AJ rfl rfl <| zl rfl rfl <| AJ rfl rfl <| zv (LB rfl rfl) <| zv (BF rfl rfl) <| zm rfl <| ?_
     refine DB (t := 27) rfl (fun h5 => ?_) (fun h5 => ?_)
     ·refine AJ rfl rfl <| zf rfl <| AJ rfl rfl <| zl rfl rfl <| AJ rfl rfl <| zv (GN rfl rfl) <| zv (BF rfl rfl) <| zm rfl <| ?_
      refine DB (t := 32) rfl (fun h6 => ?_) (fun h6 => ?_)
      ·refine AJ rfl rfl <| zf rfl <| AJ rfl rfl <| zl rfl rfl <| AJ rfl rfl <| zv (LB rfl rfl) <| zv (BF rfl rfl) <| zm rfl <| ?_
       refine DB (t := 37) rfl (fun h7 => ?_) (fun h7 => ?_)
       ·refine AJ rfl rfl <| zf rfl <| AJ rfl rfl <| zl rfl rfl <| ?_
        refine AJ rfl rfl <| AZ (FY (m := c.2.2.1 - 1) rfl rfl VE) rfl ?_
        refine AJ rfl rfl <| AZ (P8 (m := 2 * (c.2.2.1 - 1)) rfl rfl VE) rfl ?_
        refine AJ rfl rfl <| zf rfl <| AJ rfl rfl <| zl rfl rfl <| AJ rfl rfl <| zv (GN rfl rfl) <| zv (BF rfl rfl) <| zs rfl <| AS <| ?_
        refine zt <| zq <| ?_
        exact zz rfl rfl fun w' H' => ⟨⟨decide (c.2.1 ≤ 2 * (c.2.2.1 - 1)), by rw [decide_eq_true_iff]; exact ⟨fun h => ⟨by omega, by omega, h3, by omega, by omega, by omega, by omega, h⟩, fun h => h.2.2.2.2.2.2.2⟩⟩, rfl, H'.AK (AD.nil _)⟩
       have hno : ¬ K8 c := fun h => h7 h.2.2.2.2.2.2.1
       refine zo rfl rfl <| zo rfl rfl <| zo rfl rfl <| zo rfl rfl <| zo rfl rfl <| zo rfl rfl <| zo rfl rfl <| zv (A8 rfl rfl) <| zs rfl <| zn <| zq <| ?_
       exact zz rfl rfl fun w' H' => ⟨bF hno, rfl, H'.AK (AD.nil _)⟩
      have hno : ¬ K8 c := fun h => h6 h.2.2.2.2.2.1
      refine zo rfl rfl <| zo rfl rfl <| zo rfl rfl <| zv (A8 rfl rfl) <| zm rfl <| zo rfl rfl <| zo rfl rfl <| zo rfl rfl <| zo rfl rfl <| zo rfl rfl <| zo rfl rfl <| zo rfl rfl <| zv (A8 rfl rfl) <| zs rfl <| zn <| zq <| ?_
      exact zz rfl rfl fun w' H' => ⟨bF hno, rfl, H'.AK (AD.nil _)⟩
     have hno : ¬ K8 c := fun h => h5 h.2.2.2.2.1
     refine zo rfl rfl <| zo rfl rfl <| zo rfl rfl <| zv (A8 rfl rfl) <| zm rfl <| zo rfl rfl <| zo rfl rfl <| zo rfl rfl <| zv (A8 rfl rfl) <| zm rfl <| zo rfl rfl <| zo rfl rfl <| zo rfl rfl <| zo rfl rfl <| zo rfl rfl <| zo rfl rfl <| zo rfl rfl <| zv (A8 rfl rfl) <| zs rfl <| zn <| zq <| ?_
     exact zz rfl rfl fun w' H' => ⟨bF hno, rfl, H'.AK (AD.nil _)⟩
    have hno : ¬ K8 c := fun h => h4 h.2.2.2.1
    refine zo rfl rfl <| zo rfl rfl <| zo rfl rfl <| zv (A8 rfl rfl) <| zm rfl <| zo rfl rfl <| zo rfl rfl <| zo rfl rfl <| zv (A8 rfl rfl) <| zm rfl <| zo rfl rfl <| zo rfl rfl <| zo rfl rfl <| zv (A8 rfl rfl) <| zm rfl <| zo rfl rfl <| zo rfl rfl <| zo rfl rfl <| zo rfl rfl <| zo rfl rfl <| zo rfl rfl <| zo rfl rfl <| zv (A8 rfl rfl) <| zs rfl <| zn <| zq <| ?_
    exact zz rfl rfl fun w' H' => ⟨bF hno, rfl, H'.AK (AD.nil _)⟩
   have hno : ¬ K8 c := fun h => h3 h.2.2.1
   refine zo rfl rfl <| zo rfl rfl <| zo rfl rfl <| zv (A8 rfl rfl) <| zm rfl <| zo rfl rfl <| zo rfl rfl <| zo rfl rfl <| zv (A8 rfl rfl) <| zm rfl <| zo rfl rfl <| zo rfl rfl <| zo rfl rfl <| zv (A8 rfl rfl) <| zm rfl <| zo rfl rfl <| zo rfl rfl <| zo rfl rfl <| zv (A8 rfl rfl) <| zm rfl <| zo rfl rfl <| zo rfl rfl <| zo rfl rfl <| zo rfl rfl <| zo rfl rfl <| zo rfl rfl <| zo rfl rfl <| zv (A8 rfl rfl) <| zs rfl <| AS <| zt <| zq <| ?_
   exact zz rfl rfl fun w' H' => ⟨bF hno, rfl, H'.AK (AD.nil _)⟩
  have hno : ¬ K8 c := fun h => h2 h.2.1
  refine zo rfl rfl <| zo rfl rfl <| zo rfl rfl <| zo rfl rfl <| zv (A8 rfl rfl) <| zm rfl <| zo rfl rfl <| zo rfl rfl <| zo rfl rfl <| zv (A8 rfl rfl) <| zm rfl <| zo rfl rfl <| zo rfl rfl <| zo rfl rfl <| zv (A8 rfl rfl) <| zm rfl <| zo rfl rfl <| zo rfl rfl <| zo rfl rfl <| zv (A8 rfl rfl) <| zm rfl <| zo rfl rfl <| zo rfl rfl <| zo rfl rfl <| zv (A8 rfl rfl) <| zm rfl <| zo rfl rfl <| zo rfl rfl <| zo rfl rfl <| zo rfl rfl <| zo rfl rfl <| zo rfl rfl <| zo rfl rfl <| zv (A8 rfl rfl) <| zs rfl <| AS <| zt <| zq <| ?_
  exact zz rfl rfl fun w' H' => ⟨bF hno, rfl, H'.AK (AD.nil _)⟩
 have hno : ¬ K8 c := fun h => h1 h.1
 refine zo rfl rfl <| zo rfl rfl <| zo rfl rfl <| zv (A8 rfl rfl) <| zm rfl <| zo rfl rfl <| zo rfl rfl <| zo rfl rfl <| zo rfl rfl <| zv (A8 rfl rfl) <| zm rfl <| zo rfl rfl <| zo rfl rfl <| zo rfl rfl <| zv (A8 rfl rfl) <| zm rfl <| zo rfl rfl <| zo rfl rfl <| zo rfl rfl <| zv (A8 rfl rfl) <| zm rfl <| zo rfl rfl <| zo rfl rfl <| zo rfl rfl <| zv (A8 rfl rfl) <| zm rfl <| zo rfl rfl <| zo rfl rfl <| zo rfl rfl <| zv (A8 rfl rfl) <| zm rfl <| zo rfl rfl <| zo rfl rfl <| zo rfl rfl <| zo rfl rfl <| zo rfl rfl <| ?_
 refine zo rfl rfl <| zo rfl rfl <| zv (A8 rfl rfl) <| zs rfl <| zn <| zq <| ?_
 exact zz rfl rfl fun w' H' => ⟨bF hno, rfl, H'.AK (AD.nil _)⟩
theorem VT {P : Program} {D : Nat → Prop} {w0 : World} {env : BH} {l : List AQ} {dst : Option Tmp} {ty : TypeId} {pos : String} {after : Array Edge} {g : Option (Nat × Bool)} {x y : Operand} {t t' : TypeId} {a b : UInt8} (hx : BQ env x = some (.int .u8 (a.toNat : Int))) (hy : BQ env y = some (.int .u8 (b.toNat : Int))) : DI P D w0 env l ⟨dst, .binOp .andNot t x y t', ty, pos, after, g⟩ (.int .u8 ((a &&& ~~~b).toNat : Int)) := nL hx hy (by
 have e (c : UInt8) : BitVec.ofInt 8 (c.toNat : Int) = c.toBitVec := by
  apply BitVec.eq_of_toNat_eq
  rw [BitVec.ofInt_natCast, BitVec.toNat_ofNat]
  exact Nat.mod_eq_of_lt c.toNat_lt
 have e3 : (BitVec.ofInt 8 (a.toNat : Int) &&& ~~~ BitVec.ofInt 8 (b.toNat : Int)).toNat = (a &&& ~~~b).toNat := by rw [e a, e b]; rfl
 have := (a &&& ~~~b).toNat_lt
 show IntKind.u8.wrap (((BitVec.ofInt 8 (a.toNat : Int) &&& ~~~ BitVec.ofInt 8 (b.toNat : Int)).toNat : Nat) : Int) = _
 rw [e3]
 exact wrap_u8 ⟨by omega, by omega⟩)
theorem tH (x n : Nat) : ((x : Int)).fdiv (2 ^ (min ((n : Int)).toNat 64)) = ((x / 2 ^ (min n 64) : Nat) : Int) := by
 rw [Int.fdiv_eq_ediv_of_nonneg _ (Int.le_of_lt (Int.pow_pos AF))]
 simp
theorem bH (x n : Nat) (h : x < 256) : x / 2 ^ (min n 64) = 0 ↔ x < 2 ^ n := by
 rw [Nat.div_eq_zero_iff_lt (Nat.pow_pos AF)]
 rcases Nat.le_total n 64 with h1 | h1
 ·rw [Nat.min_eq_left h1]
 rw [Nat.min_eq_right h1]
 have h2 : 2 ^ 64 ≤ 2 ^ n := Nat.pow_le_pow_right AF h1
 have h3 : (2 : Nat) ^ 64 = 18446744073709551616 := by decide
 constructor <;> intro _ <;> omega
def K9 (n : Nat) (v : EI) : Prop := 1 ≤ v.1 ∧ v.1 ≤ 4094 ∧ v.2.1.toNat < 2 ^ n ∧ v.2.2 &&& ~~~ v.2.1 = 0
def NG (c : CA) : Prop := 1 ≤ c.2.2.2.2.1.length ∧ c.2.2.2.2.1.length ≤ 16 ∧ (∀ i (h : i < c.2.2.2.2.1.length), K9 c.2.2.2.1.length c.2.2.2.2.1[i]) ∧ HW cV c.2.2.2.2.1
theorem j9 (D : Nat → Prop) (w : World) (c : CA) (vp vv vs : Value) (H : ER D w c vp vv vs) :
  Calls Tryz.prog 116 #[.agg (C9 c vp vv vs).toArray] w fun e w' => ∃ b : EX (NG c), e = .returned (.bool b.1) ∧ AH D w w' [] := by
 obtain ⟨Ap, capp, rfl, _, _, HSp, _⟩ := H.p.EG
 have HV := H.v
 have hlv := H.lv
 obtain ⟨Av, capv, rfl, hv1, hv2, HSv, hvok⟩ := H.v.EG
 have HSv : CS D w Av (c.2.2.2.2.1.flatMap BJ) := HSv
 obtain ⟨np, hnp⟩ : ∃ n, c.2.2.2.1.length = n := ⟨_, rfl⟩
 obtain ⟨l, hll⟩ : ∃ l, c.2.2.2.2.1 = l := ⟨_, rfl⟩
 have hP : NG c ↔ 1 ≤ l.length ∧ l.length ≤ 16 ∧ (∀ i (h : i < l.length), K9 np l[i]) ∧ HW cV l := by
  subst hnp; subst hll; exact Iff.rfl
 rw [hll] at HV hlv hv1 HSv ⊢
 rw [hnp]
 refine BZ (vs := [.agg (C9 c (.slice Ap np capp) (.slice Av l.length capv) vs).toArray]) Tryz.func116 rfl _ Tryz.ntmps116 rfl (AH.start D w) ?_
 simp only [BX, Nat.zero_add]
 refine zg <| AV (EE rfl rfl) rfl rfl rfl fun b1 =>  ?_
 refine zs rfl <| zn <| AG <| zg <| zf rfl <| zl rfl rfl <| zv BN <| ?_
 refine zv (B7 rfl rfl) <| zm rfl <| DB (t := 9) rfl (fun h1 => ?_) (fun h1 => ?_)
 ·have hno : ¬ NG c := fun h => by have := (hP.1 h).1; omega
  refine zo rfl rfl <| zo rfl rfl <| zo rfl rfl <| zo rfl rfl <| zv (BF rfl rfl) <| AS <| zt <| DD rfl <| zg <| zs rfl <| AS <| zt <| zq <| zr <| ?_
  exact zz rfl rfl fun w' H' => ⟨bF hno, rfl, H'.AK (AD.nil _)⟩
 refine AJ rfl rfl <| zf rfl <| AJ rfl rfl <| zl rfl rfl <| AJ rfl rfl <| zv BN <| ?_
 refine AJ rfl rfl <| zv (DV rfl rfl) <| zv (A8 rfl rfl) <| zn <| BP rfl (fun h2 => ?_) (fun h2 => ?_)
 ·have hno : ¬ NG c := fun h => by have := (hP.1 h).2.1; omega
  refine zg <| zs rfl <| zn <| zq <| zr <| ?_
  exact zz rfl rfl fun w' H' => ⟨bF hno, rfl, H'.AK (AD.nil _)⟩
 refine zk <| AG <| zg <| zf rfl <| ?_
 refine zl rfl rfl <| zv BN <| ?_
 refine zm rfl <| zn <| BK <| JP (σ := Nat) [1, 16, 17] rfl 18 (fun i => .int .i64 (i : Int)) (fun i => i ≤ l.length ∧ ∀ j (h : j < l.length), j < i → K9 np l[j]) (fun i => l.length - i) (0) (⟨Nat.zero_le _, fun j _ h => absurd h (Nat.not_lt_zero _)⟩) rfl ?_
 rintro i ⟨hi, hall⟩ K1 hK1
 refine zg <| zv (B7 rfl rfl) <| zn <| AG <| BP rfl (fun h => ?_) (fun h => ?_)
 ·have hlt : i < l.length := by omega
  have hc := CS.EP (D := D) (w0 := w) (f := BJ) (sz := 3) (fun _ => rfl) AF HSv hlt
  have hA := (hc []).1
  have hbad : ¬ K9 np l[i] → ¬ NG c := fun hx h => hx ((hP.1 h).2.2.1 i hlt)
  have hnext : K9 np l[i] → ∀ j (h : j < l.length), j < i + 1 → K9 np l[j] := fun hx j hj h1 => by
   rcases Nat.lt_or_ge j i with h3 | h3
   ·exact hall j hj h3
   ·obtain rfl : j = i := by omega
    exact hx
  generalize l[i] = x at *
  have hb1 := x.2.1.toNat_lt
  refine zk <| AG <| BK <| zg <| zv (CZ rfl DP rfl _ rfl AA) <| ?_
  refine AZ (D4 (cs := BJ x) rfl rfl (hc _).2) rfl <| AV (B9) rfl rfl rfl fun b4 =>  ?_
  refine A6 (CV (vs := BJ x) rfl rfl (by simp) (by simp) HZ) rfl rfl ?_
  refine zn <| zg <| zf rfl <| zl rfl rfl <| ?_
  refine zv (B7 rfl rfl) <| zm rfl <| DB (t := 25) rfl (fun a1 => ?_) (fun a1 => ?_)
  ·have hno := hbad fun h => by have := h.1; omega
   refine zo rfl rfl <| zo rfl rfl <| zo rfl rfl <| zv (BF rfl rfl) <| zm rfl <| zo rfl rfl <| zo rfl rfl <| zo rfl rfl <| zo rfl rfl <| zo rfl rfl <| zo rfl rfl <| zo rfl rfl <| zo rfl rfl <| zv (BF rfl rfl) <| zm rfl <| zo rfl rfl <| zo rfl rfl <| zo rfl rfl <| zo rfl rfl <| zo rfl rfl <| zo rfl rfl <| zv (BF rfl rfl) <| zn <| DD rfl <| zg <| zs rfl <| zn <| zq <| B4 <| zr <| zr <| B4 <| zr <| ?_
   exact zz rfl rfl fun w' H' => ⟨bF hno, rfl, H'.AK (AD.nil _)⟩
  refine AJ rfl rfl <| zf rfl <| AJ rfl rfl <| zl rfl rfl <| AJ rfl rfl <| zv (DV rfl rfl) <| zv (A8 rfl rfl) <| zm rfl <| ?_
  refine DB (t := 30) rfl (fun a2 => ?_) (fun a2 => ?_)
  ·have hno := hbad fun h => by have := h.2.1; omega
   refine zo rfl rfl <| zo rfl rfl <| zo rfl rfl <| zo rfl rfl <| zo rfl rfl <| zo rfl rfl <| zo rfl rfl <| zo rfl rfl <| zv (BF rfl rfl) <| zm rfl <| zo rfl rfl <| zo rfl rfl <| zo rfl rfl <| zo rfl rfl <| zo rfl rfl <| zo rfl rfl <| zv (BF rfl rfl) <| AS <| zt <| DD rfl <| zg <| zs rfl <| AS <| zt <| zq <| B4 <| zr <| zr <| B4 <| zr <| ?_
   exact zz rfl rfl fun w' H' => ⟨bF hno, rfl, H'.AK (AD.nil _)⟩
  refine AJ rfl rfl <| zf rfl <| AJ rfl rfl <| zl rfl rfl <| AJ rfl rfl <| zv (CD rfl BO) <| ?_
  refine AJ rfl rfl <| zf rfl <| AJ rfl rfl <| zl rfl rfl <| AJ rfl rfl <| zv BN <| ?_
  refine AJ rfl rfl <| AZ (JT (m := ((x.2.1.toNat / 2 ^ (min np 64) : Nat) : Int)) rfl rfl AA (tH _ _)) rfl ?_
  refine AJ rfl rfl <| zv (CG rfl rfl) <| zv (A8 rfl rfl) <| zm rfl <| DB (t := 40) rfl (fun a3 => ?_) (fun a3 => ?_)
  ·have hno := hbad fun h => a3 (by have := (bH x.2.1.toNat np hb1).2 h.2.2.1; omega)
   refine zo rfl rfl <| zo rfl rfl <| zo rfl rfl <| zo rfl rfl <| zo rfl rfl <| zo rfl rfl <| zv (BF rfl rfl) <| zn <| DD rfl <| zg <| zs rfl <| zn <| zq <| B4 <| zr <| zr <| B4 <| zr <| ?_
   exact zz rfl rfl fun w' H' => ⟨bF hno, rfl, H'.AK (AD.nil _)⟩
  have h3 : x.2.1.toNat < 2 ^ np := (bH x.2.1.toNat np hb1).1 (by have := Classical.not_not.1 a3; omega)
  refine AJ rfl rfl <| zf rfl <| AJ rfl rfl <| zl rfl rfl <| AJ rfl rfl <| zf rfl <| AJ rfl rfl <| zl rfl rfl <| ?_
  refine AJ rfl rfl <| AZ (VT (a := x.2.2) (b := x.2.1) rfl rfl) rfl <| AJ rfl rfl <| zv (CG rfl rfl) <| zv (A8 rfl rfl) <| zn <| BP rfl (fun a4 => ?_) (fun a4 => ?_)
  ·have hno := hbad fun h => a4 (by rw [h.2.2.2]; rfl)
   refine zg <| zs rfl <| zn <| zq <| B4 <| zr <| zr <| B4 <| zr <| ?_
   exact zz rfl rfl fun w' H' => ⟨bF hno, rfl, H'.AK (AD.nil _)⟩
  have h4 : x.2.2 &&& ~~~ x.2.1 = 0 := UInt8.toNat_inj.1 (by have := Classical.not_not.1 a4; simp only [UInt8.toNat_zero]; omega)
  have hn := hnext ⟨by omega, by omega, h3, h4⟩
  refine C3 <| zb <| zt <| AR <| zv (BM rfl rfl BO) <| ?_
  refine zm rfl <| AS <| B5 hK1 (i + 1) (⟨hlt, hn⟩) AA BD BL
 have hall' : ∀ i (h : i < l.length), K9 np l[i] := fun j hj => hall j hj AA
 refine CF <| ze <| ze <| CE <| zt <| AG <| AR <| zf rfl <| zl rfl rfl <| ?_
 refine CQ (σ := EX (HW cV l)) Tryz.call144 rfl rfl (fun w1 => zu fun D' hold _ _ => nJ D' w1 _ l AA (hold _ HV)) ?_
 intro b
 try rw [List.nil_append]
 refine zs rfl <| zn <| zq <| ?_
 exact zz rfl rfl fun w' H' => ⟨⟨b.1, by rw [b.2, hP]; exact ⟨fun h => ⟨by omega, by omega, hall', h⟩, fun h => h.2.2.2⟩⟩, rfl, H'.AK (AD.nil _)⟩
end Go.Proofs.YtjlolpmmpafjeaaGreat

set_option linter.unusedVariables false
set_option linter.unusedSimpArgs false
namespace Go.Proofs.YtjlolpmmpafjeaaGreat
open CN
theorem dY {l : List EI} {id : Int} {p : Nat} (hr : HW cV l) (h : O7 l id p) : (∃ i, ∃ h : i < l.length, l[i].1 = id) ↔ ∃ h : p < l.length, l[p].1 = id := by
 constructor
 ·rintro ⟨i, hi, e⟩
  obtain ⟨h1, h2, h3⟩ := h
  rcases Nat.lt_trichotomy i p with hlt | he | hgt
  ·have := h2 i hi hlt; omega
  ·subst he; exact ⟨hi, e⟩
  have h4 := RF hr p i hgt hi
  have h5 := h3 p AA (Nat.le_refl _)
  omega
 rintro ⟨h, e⟩; exact ⟨p, h, e⟩
def K7 (l : List EI) (p : GI) : Prop := (∃ i, ∃ h : i < l.length, l[i].1 = p.2.2) ∧ 1 ≤ p.2.1.toNat ∧ p.2.1.toNat ≤ 200000000
def N3 (c : CA) : Prop := 1 ≤ c.2.2.2.1.length ∧ c.2.2.2.1.length ≤ 8 ∧ ∀ i (h : i < c.2.2.2.1.length), K7 c.2.2.2.2.1 c.2.2.2.1[i]
abbrev XV (l : List EI) (id : Int) := { p : Nat × Bool // O7 l id p.1 ∧ (p.2 = true ↔ ∃ h : p.1 < l.length, l[p.1].1 = id) }
theorem kV (D : Nat → Prop) (w : World) (c : CA) (vp vv vs : Value) (H : ER D w c vp vv vs) (hr : HW cV c.2.2.2.2.1) :
  Calls Tryz.prog 117 #[.agg (C9 c vp vv vs).toArray] w fun e w' => ∃ b : EX (N3 c), e = .returned (.bool b.1) ∧ AH D w w' [] := by
 have HV := H.v
 have hlv := H.lv
 have hlp := H.lp
 obtain ⟨Ap, capp, rfl, hp1, hp2, HSp, hpok⟩ := H.p.EG
 have HSp : CS D w Ap (c.2.2.2.1.flatMap CJ) := HSp
 obtain ⟨q, hq⟩ : ∃ q, c.2.2.2.1 = q := ⟨_, rfl⟩
 obtain ⟨l, hll⟩ : ∃ l, c.2.2.2.2.1 = l := ⟨_, rfl⟩
 have hP : N3 c ↔ 1 ≤ q.length ∧ q.length ≤ 8 ∧ ∀ i (h : i < q.length), K7 l q[i] := by
  subst hq; subst hll; exact Iff.rfl
 rw [hll] at HV hlv hr
 rw [hq] at HSp hlp hp1 ⊢
 refine BZ (vs := [.agg (C9 c (.slice Ap q.length capp) vv vs).toArray]) Tryz.func117 rfl _ Tryz.ntmps117 rfl (AH.start D w) ?_
 simp only [BX, Nat.zero_add]
 refine zg <| AV (EE rfl rfl) rfl rfl rfl fun b1 =>  ?_
 refine zs rfl <| zn <| AG <| zg <| zf rfl <| zl rfl rfl <| zv BN <| ?_
 refine zm rfl <| zn <| BK <| JP (σ := Nat) [1, 8, 9] rfl 10 (fun i => .int .i64 (i : Int)) (fun i => i ≤ q.length ∧ ∀ j (h : j < q.length), j < i → K7 l q[j]) (fun i => q.length - i) (0) (⟨Nat.zero_le _, fun j _ h => absurd h (Nat.not_lt_zero _)⟩) rfl ?_
 rintro i ⟨hi, hall⟩ K1 hK1
 refine zg <| zv (B7 rfl rfl) <| zn <| AG <| BP rfl (fun h => ?_) (fun h => ?_)
 ·have hlt : i < q.length := by omega
  have hc := CS.EP (D := D) (w0 := w) (f := CJ) (sz := 3) (fun _ => rfl) AF HSp hlt
  have hA := (hc []).1
  have hbad : ¬ K7 l q[i] → ¬ N3 c := fun hx h => hx ((hP.1 h).2.2 i hlt)
  have hnext : K7 l q[i] → ∀ j (h : j < q.length), j < i + 1 → K7 l q[j] := fun hx j hj h1 => by
   rcases Nat.lt_or_ge j i with h3 | h3
   ·exact hall j hj h3
   ·obtain rfl : j = i := by omega
    exact hx
  generalize q[i] = x at *
  refine zk <| AG <| BK <| zg <| zv (CZ rfl DP rfl _ rfl AA) <| ?_
  refine AZ (D4 (cs := CJ x) rfl rfl (hc _).2) rfl <| AV (B9) rfl rfl rfl fun b4 =>  ?_
  refine A6 (CV (vs := CJ x) rfl rfl (by simp) (by simp) CL) rfl rfl ?_
  refine zn <| zg <| zf rfl <| zl rfl rfl <| ?_
  refine zf rfl <| zl rfl rfl <| ?_
  refine CQ (σ := XV l x.2.2) Tryz.call130 rfl rfl (fun w1 => zu fun D' hold _ _ => find_spec D' w1 _ l x.2.2 AA hr (hold _ HV)) ?_
  intro f
  try rw [List.nil_append]
  obtain ⟨⟨pf, ok⟩, hat, hokf⟩ := f
  have hfi := dY hr hat
  have hokf : ok = true ↔ ∃ i, ∃ h : i < l.length, l[i].1 = x.2.2 := hokf.trans hfi.symm
  dsimp only
  refine zm rfl <| zx rfl rfl <| zx rfl rfl <| zs rfl <| zs rfl <| AS <| zt <| zg <| zm rfl <| zv FC <| ?_
  refine zm rfl <| KY (t := 24) rfl (fun a1 => ?_) (fun a1 => ?_)
  ·have hno := hbad fun h => by have := hokf.2 h.1; rw [this] at a1; cases a1
   refine zo rfl rfl <| zo rfl rfl <| zo rfl rfl <| zv (BF rfl rfl) <| zm rfl <| zo rfl rfl <| zo rfl rfl <| zo rfl rfl <| zv (BF rfl rfl) <| zn <| DD rfl <| zg <| zs rfl <| zn <| zq <| B4 <| zr <| zr <| B4 <| zr <| ?_
   exact zz rfl rfl fun w' H' => ⟨bF hno, rfl, H'.AK (AD.nil _)⟩
  have hok1 : ok = true := by simpa using a1
  refine AJ rfl rfl <| zf rfl <| AJ rfl rfl <| zl rfl rfl <| AJ rfl rfl <| zv (B7 rfl rfl) <| zv (A8 rfl rfl) <| zm rfl <| ?_
  refine DB (t := 29) rfl (fun a2 => ?_) (fun a2 => ?_)
  ·have hno := hbad fun h => by have := h.2.1; omega
   refine zo rfl rfl <| zo rfl rfl <| zo rfl rfl <| zv (BF rfl rfl) <| zn <| DD rfl <| zg <| zs rfl <| zn <| zq <| B4 <| zr <| zr <| B4 <| zr <| ?_
   exact zz rfl rfl fun w' H' => ⟨bF hno, rfl, H'.AK (AD.nil _)⟩
  refine AJ rfl rfl <| zf rfl <| AJ rfl rfl <| zl rfl rfl <| AJ rfl rfl <| zv (DV rfl rfl) <| zv (A8 rfl rfl) <| zn <| ?_
  refine BP rfl (fun a3 => ?_) (fun a3 => ?_)
  ·have hno := hbad fun h => by have := h.2.2; omega
   refine zg <| zs rfl <| zn <| zq <| B4 <| zr <| zr <| B4 <| zr <| ?_
   exact zz rfl rfl fun w' H' => ⟨bF hno, rfl, H'.AK (AD.nil _)⟩
  have hn := hnext ⟨hokf.1 hok1, by omega, by omega⟩
  refine C3 <| zb <| zt <| AR <| zv (BM rfl rfl BO) <| ?_
  refine zm rfl <| AS <| B5 hK1 (i + 1) (⟨hlt, hn⟩) AA BD BL
 have hall' : ∀ i (h : i < q.length), K7 l q[i] := fun j hj => hall j hj AA
 refine CF <| ze <| ze <| CE <| zt <| AG <| AR <| zf rfl <| zl rfl rfl <| zv BN <| ?_
 refine zv (GN rfl rfl) <| zm rfl <| DB (t := 39) rfl (fun b1 => ?_) (fun b1 => ?_)
 ·refine AJ rfl rfl <| zf rfl <| AJ rfl rfl <| zl rfl rfl <| AJ rfl rfl <| zv BN <| ?_
  refine AJ rfl rfl <| zv (LB rfl rfl) <| zv (BF rfl rfl) <| zs rfl <| zn <| zq <| ?_
  exact zz rfl rfl fun w' H' => ⟨⟨decide ((q.length : Int) ≤ 8), by rw [decide_eq_true_iff, hP]; exact ⟨fun h => ⟨by omega, by omega, hall'⟩, fun h => by have := h.2.1; omega⟩⟩, rfl, H'.AK (AD.nil _)⟩
 have hno : ¬ N3 c := fun h => by have := (hP.1 h).1; omega
 refine zo rfl rfl <| zo rfl rfl <| zo rfl rfl <| zo rfl rfl <| zv (A8 rfl rfl) <| zs rfl <| zn <| zq <| ?_
 exact zz rfl rfl fun w' H' => ⟨bF hno, rfl, H'.AK (AD.nil _)⟩
end Go.Proofs.YtjlolpmmpafjeaaGreat

set_option linter.unusedVariables false
set_option linter.unusedSimpArgs false
namespace Go.Proofs.YtjlolpmmpafjeaaGreat
open CN
section
variable {P : Program} {D : Nat → Prop} {w0 : World} {env : BH} {l : List AQ} {dst : Option Tmp} {ty : TypeId} {pos : String} {after : Array Edge} {g : Option (Nat × Bool)} {x y : Operand} {t t' : TypeId}
theorem YR {m : Nat} (hm : m < 18446744073709551616) (hx : BQ env x = some (.int .u64 (m : Int))) (hy : BQ env y = some (.int .u64 1)) : DI P D w0 env l ⟨dst, .binOp .and t x y t', ty, pos, after, g⟩ (.int .u64 ((m % 2 : Nat) : Int)) := gO hx hy (by
 have e : (BitVec.ofInt 64 (m : Int) &&& BitVec.ofInt 64 (1 : Int)).toNat = m % 2 := by
  rw [BitVec.toNat_and, BitVec.ofInt_natCast, BitVec.toNat_ofNat, Nat.mod_eq_of_lt hm]
  exact Nat.and_one_is_mod m
 show IntKind.u64.wrap (((BitVec.ofInt 64 (m : Int) &&& BitVec.ofInt 64 (1 : Int)).toNat : Nat) : Int) = _
 rw [e]
 exact wrap_u64 ⟨by omega, by omega⟩)
theorem ZW {m : Nat} (hm : m < 256) (hx : BQ env x = some (.int .u8 (m : Int))) (hy : BQ env y = some (.int .u8 1)) : DI P D w0 env l ⟨dst, .binOp .and t x y t', ty, pos, after, g⟩ (.int .u8 ((m % 2 : Nat) : Int)) := gO hx hy (by
 have e : (BitVec.ofInt 8 (m : Int) &&& BitVec.ofInt 8 (1 : Int)).toNat = m % 2 := by
  rw [BitVec.toNat_and, BitVec.ofInt_natCast, BitVec.toNat_ofNat, Nat.mod_eq_of_lt hm]
  exact Nat.and_one_is_mod m
 show IntKind.u8.wrap (((BitVec.ofInt 8 (m : Int) &&& BitVec.ofInt 8 (1 : Int)).toNat : Nat) : Int) = _
 rw [e]
 exact wrap_u8 ⟨by omega, by omega⟩)
end
theorem QH (x k : Nat) (j : Int) (b : Nat) (hk : min j.toNat b = k) : ((x : Int)).fdiv (2 ^ (min j.toNat b)) = ((x / 2 ^ k : Nat) : Int) := by
 rw [hk, Int.fdiv_eq_ediv_of_nonneg _ (Int.le_of_lt (Int.pow_pos AF))]
 simp
def H9 (np : Nat) (l : List EI) (s : FM) : Prop := s.1.toNat ≠ 0 ∧ s.1.toNat / 2 ^ 48 = 0 ∧ s.1.toNat / 2 ^ 40 % 2 = 0 ∧ 0 ≤ s.2.2 ∧ s.2.2 < np ∧ ∃ i, ∃ h : i < l.length, l[i].1 = s.2.1 ∧ l[i].2.1.toNat / 2 ^ (min s.2.2.toNat 8) % 2 ≠ 0
theorem jN (D : Nat → Prop) (w : World) (c : CA) (x : FM) (vp vv vs : Value) (H : ER D w c vp vv vs) (hr : HW cV c.2.2.2.2.1) :
  Calls Tryz.prog 122 #[.agg (C9 c vp vv vs).toArray, .agg (BW x).toArray] w fun e w' => ∃ b : EX (H9 c.2.2.2.1.length c.2.2.2.2.1 x), e = .returned (.bool b.1) ∧ AH D w w' [] := by
 have HV := H.v
 have hlv := H.lv
 obtain ⟨Ap, capp, rfl, hp1, hp2, HSp, hpok⟩ := H.p.EG
 obtain ⟨Av, capv, rfl, hv1, hv2, HSv, hvok⟩ := H.v.EG
 have HSv : CS D w Av (c.2.2.2.2.1.flatMap BJ) := HSv
 obtain ⟨np, hnp⟩ : ∃ n, c.2.2.2.1.length = n := ⟨_, rfl⟩
 obtain ⟨l, hll⟩ : ∃ l, c.2.2.2.2.1 = l := ⟨_, rfl⟩
 rw [hll] at HV hlv hr HSv hv1 ⊢
 rw [hnp]
 have hmac := x.1.toNat_lt
 refine BZ (vs := [.agg (C9 c (.slice Ap np capp) (.slice Av l.length capv) vs).toArray, .agg (BW x).toArray]) Tryz.func122 rfl _ Tryz.ntmps122 rfl (AH.start D w) ?_
 simp only [BX, Nat.zero_add]
 refine zg <| AV (EE rfl rfl) rfl rfl rfl fun b2 =>  ?_
 refine AV (EE rfl rfl) rfl rfl rfl fun b3 =>  ?_
 refine zs rfl <| zn <| zg <| zf rfl <| ?_
 refine zl rfl rfl <| zf rfl <| zl rfl rfl <| ?_
 refine CQ (σ := XV l x.2.1) Tryz.call130 rfl rfl (fun w1 => zu fun D' hold _ _ => find_spec D' w1 _ l x.2.1 AA hr (hold _ HV)) ?_
 intro f
 try rw [List.nil_append]
 obtain ⟨⟨pf, ok⟩, hat, hokf⟩ := f
 have hfi := dY hr hat
 have hokf' : ok = true ↔ ∃ i, ∃ h : i < l.length, l[i].1 = x.2.1 := hokf.trans hfi.symm
 dsimp only
 refine zm rfl <| zx rfl rfl <| zx rfl rfl <| zs rfl <| zs rfl <| AS <| zt <| AG <| zg <| zm rfl <| zv FC <| ?_
 refine zm rfl <| KY (t := 17) rfl (fun a1 => ?_) (fun a1 => ?_)
 ·have hno : ¬ H9 np l x := fun h => by
   obtain ⟨_, _, _, _, _, i, hi, h1, _⟩ := h
   have := hokf'.2 ⟨i, hi, h1⟩
   rw [this] at a1; cases a1
  refine zo rfl rfl <| zo rfl rfl <| zo rfl rfl <| zv (BF rfl rfl) <| zm rfl <| zo rfl rfl <| zo rfl rfl <| zo rfl rfl <| zo rfl rfl <| zv (BF rfl rfl) <| zm rfl <| zo rfl rfl <| zo rfl rfl <| zo rfl rfl <| zo rfl rfl <| zo rfl rfl <| zv (BF rfl rfl) <| AS <| zt <| DD rfl <| zg <| zs rfl <| AS <| zt <| zq <| zr <| ?_
  exact zz rfl rfl fun w' H' => ⟨bF hno, rfl, H'.AK (AD.nil _)⟩
 have hok1 : ok = true := by simpa using a1
 obtain ⟨hpl, hpe⟩ := hokf.1 hok1
 have hpl : pf < l.length := hpl
 have hpe : l[pf].1 = x.2.1 := hpe
 refine AJ rfl rfl <| zf rfl <| AJ rfl rfl <| zl rfl rfl <| AJ rfl rfl <| zv (CO rfl rfl) <| zv (A8 rfl rfl) <| zm rfl <| ?_
 refine DB (t := 22) rfl (fun a2 => ?_) (fun a2 => ?_)
 ·have hno : ¬ H9 np l x := fun h => h.1 AA
  refine zo rfl rfl <| zo rfl rfl <| zo rfl rfl <| zo rfl rfl <| zv (BF rfl rfl) <| zm rfl <| zo rfl rfl <| zo rfl rfl <| zo rfl rfl <| zo rfl rfl <| zo rfl rfl <| zv (BF rfl rfl) <| zn <| DD rfl <| zg <| zs rfl <| zn <| zq <| zr <| ?_
  exact zz rfl rfl fun w' H' => ⟨bF hno, rfl, H'.AK (AD.nil _)⟩
 refine AJ rfl rfl <| zf rfl <| AJ rfl rfl <| zl rfl rfl <| ?_
 refine AJ rfl rfl <| AZ (JT (m := ((x.1.toNat / 2 ^ 48 : Nat) : Int)) rfl rfl AF (QH _ 48 _ _ rfl)) rfl ?_
 refine AJ rfl rfl <| zv (CG rfl rfl) <| zv (A8 rfl rfl) <| zm rfl <| DB (t := 28) rfl (fun a3 => ?_) (fun a3 => ?_)
 ·have hno : ¬ H9 np l x := fun h => a3 (by have := h.2.1; omega)
  refine zo rfl rfl <| zo rfl rfl <| zo rfl rfl <| zo rfl rfl <| zo rfl rfl <| zv (BF rfl rfl) <| zn <| DD rfl <| zg <| zs rfl <| zn <| zq <| zr <| ?_
  exact zz rfl rfl fun w' H' => ⟨bF hno, rfl, H'.AK (AD.nil _)⟩
 have h3 : x.1.toNat / 2 ^ 48 = 0 := by have := Classical.not_not.1 a3; omega
 refine AJ rfl rfl <| zf rfl <| AJ rfl rfl <| zl rfl rfl <| ?_
 refine AJ rfl rfl <| AZ (JT (m := ((x.1.toNat / 2 ^ 40 : Nat) : Int)) rfl rfl AF (QH _ 40 _ _ rfl)) rfl ?_
 refine AJ rfl rfl <| AZ (YR AA rfl rfl) rfl ?_
 refine AJ rfl rfl <| zv (CG rfl rfl) <| zv (A8 rfl rfl) <| zn <| BP rfl (fun a4 => ?_) (fun a4 => ?_)
 ·have hno : ¬ H9 np l x := fun h => a4 (by have := h.2.2.1; omega)
  refine zg <| zs rfl <| zn <| zq <| zr <| ?_
  exact zz rfl rfl fun w' H' => ⟨bF hno, rfl, H'.AK (AD.nil _)⟩
 have h4 : x.1.toNat / 2 ^ 40 % 2 = 0 := by have := Classical.not_not.1 a4; omega
 refine zk <| AG <| GM mixed AB <| AM (AP rfl) rfl <| AM (zw rfl rfl) rfl <| ?_
 refine AM (GN rfl rfl) rfl <| AM (AO rfl) rfl <| ?_
 refine JC (t := 38) rfl (fun p1 => ?_) (fun p1 => ?_)
 ·refine B6 rfl rfl <| AM (AP rfl) rfl <| B6 rfl rfl <| AM (zw rfl rfl) rfl <| B6 rfl rfl <| AM (AP rfl) rfl <| B6 rfl rfl <| AM (zw rfl rfl) rfl <| B6 rfl rfl <| AM BN rfl <| ?_
  refine B6 rfl rfl <| AM (B7 rfl rfl) rfl <| AM (BF rfl rfl) rfl <| AM (AO rfl) rfl <| ?_
  refine JC (t := 46) rfl (fun p2 => ?_) (fun p2 => ?_)
  ·obtain ⟨hA, hc⟩ := CS.EP (D := D) (w0 := w) (f := BJ) (sz := 3) (fun _ => rfl) AF HSv hpl [AI b3 149 (BW x), AI b2 49 (C9 c (.slice Ap np capp) (.slice Av l.length capv) vs)]
   have hcell : EH D w [AI b3 149 (BW x), AI b2 49 (C9 c (.slice Ap np capp) (.slice Av l.length capv) vs)] (ab Av) (ao Av + pf * 3 + 1) (.int .u8 (l[pf].2.1.toNat : Int)) := hc.cell (i := 1) rfl
   have hfin : (l[pf].2.1.toNat / 2 ^ (min x.2.2.toNat 8) % 2 ≠ 0) ↔ H9 np l x := by
    constructor
    ·intro h; exact ⟨by omega, h3, h4, p1, p2, pf, hpl, hpe, h⟩
    ·rintro ⟨_, _, _, _, _, i, hi, h1, h2⟩
     have hip : i = pf := by
      rcases Nat.lt_trichotomy i pf with h | h | h
      ·have := RF hr i pf h hpl; omega
      ·exact h
      ·have := RF hr pf i h hi; omega
     subst hip
     exact h2
   have hb := l[pf].2.1.toNat_lt
   generalize l[pf].2.1.toNat = mb at *
   refine B6 rfl rfl <| AM (AP rfl) rfl <| B6 rfl rfl <| AM (zw rfl rfl) rfl <| B6 rfl rfl <| AM (AO rfl) rfl <| B6 rfl rfl <| AM (CZ rfl DP rfl _ rfl AA) rfl <| B6 rfl rfl <| AM (AP rfl) rfl <| ?_
   refine B6 rfl rfl <| AM (GB rfl hcell) rfl ?_
   refine B6 rfl rfl <| AM (AP rfl) rfl <| B6 rfl rfl <| AM (zw rfl rfl) rfl <| ?_
   refine B6 rfl rfl <| AM (JT (m := ((mb / 2 ^ (min x.2.2.toNat 8) : Nat) : Int)) rfl rfl p1 (QH _ _ _ _ rfl)) rfl ?_
   refine B6 rfl rfl <| AM (ZW (Nat.lt_of_le_of_lt (Nat.div_le_self _ _) hb) rfl rfl) rfl ?_
   refine B6 rfl rfl <| AM (CG rfl rfl) rfl <| AM (BF rfl rfl) rfl <| AM (DH rfl) rfl <| EM <| zt <| zq <| ?_
   exact zz rfl rfl fun w' H' => ⟨⟨decide (¬ (((mb / 2 ^ (min x.2.2.toNat 8) % 2 : Nat) : Int) = 0)), by rw [decide_eq_true_iff, ← hfin]; omega⟩, rfl, H'.AK (AD.nil _)⟩
  have hno : ¬ H9 np l x := fun h => p2 h.2.2.2.2.1
  refine BG rfl rfl rfl rfl rfl rfl <| BG rfl rfl rfl rfl rfl rfl <| BG rfl rfl rfl rfl rfl rfl <| BG rfl rfl rfl rfl rfl rfl <| BG rfl rfl rfl rfl rfl rfl <| BG rfl rfl rfl rfl rfl rfl <| ?_
  refine BG rfl rfl rfl rfl rfl rfl <| BG rfl rfl rfl rfl rfl rfl <| BG rfl rfl rfl rfl rfl rfl <| BG rfl rfl rfl rfl rfl rfl <| BG rfl rfl rfl rfl rfl rfl <| AM (A8 rfl rfl) rfl <| ?_
  refine AM (DH rfl) rfl <| EM <| zt <| zq <| ?_
  exact zz rfl rfl fun w' H' => ⟨bF hno, rfl, H'.AK (AD.nil _)⟩
 have hno : ¬ H9 np l x := fun h => p1 h.2.2.2.1
 refine BG rfl rfl rfl rfl rfl rfl <| BG rfl rfl rfl rfl rfl rfl <| BG rfl rfl rfl rfl rfl rfl <| BG rfl rfl rfl rfl rfl rfl <| BG rfl rfl rfl rfl rfl rfl <| BG rfl rfl rfl rfl rfl rfl <| ?_
 refine AM (A8 rfl rfl) rfl <| AM (AO rfl) rfl <| BG rfl rfl rfl rfl rfl rfl <| BG rfl rfl rfl rfl rfl rfl <| BG rfl rfl rfl rfl rfl rfl <| BG rfl rfl rfl rfl rfl rfl <| ?_
 refine BG rfl rfl rfl rfl rfl rfl <| BG rfl rfl rfl rfl rfl rfl <| BG rfl rfl rfl rfl rfl rfl <| BG rfl rfl rfl rfl rfl rfl <| BG rfl rfl rfl rfl rfl rfl <| BG rfl rfl rfl rfl rfl rfl <| ?_
 refine BG rfl rfl rfl rfl rfl rfl <| AM (A8 rfl rfl) rfl <| AM (DH rfl) rfl <| EM <| zt <| zq <| ?_
 exact zz rfl rfl fun w' H' => ⟨bF hno, rfl, H'.AK (AD.nil _)⟩
end Go.Proofs.YtjlolpmmpafjeaaGreat

set_option linter.unusedVariables false
set_option linter.unusedSimpArgs false
namespace Go.Proofs.YtjlolpmmpafjeaaGreat
open CN
theorem kS (D : Nat → Prop) (w : World) (b : Nat) (c : CA) (x : FM) (vp vv vs : Value) (HB : Old D w (J5 (some ⟨b, 0, none⟩) (C9 c vp vv vs))) (H : ER D w c vp vv vs) (hr : HW cV c.2.2.2.2.1) :
  Calls Tryz.prog 121 #[.agg (BW x).toArray, .pointer (some ⟨b, 0, none⟩)] w fun e w' => ∃ r : EX (¬ H9 c.2.2.2.1.length c.2.2.2.2.1 x), e = .returned (.bool r.1) ∧ AH D w w' [] := by
 have hcb : ∀ l, DZ D w l b 0 (C9 c vp vv vs) := fun l => (BB.old (l := l) (CS.RD HB)).cells (by simp)
 refine BZ (vs := [.agg (BW x).toArray, .pointer (some ⟨b, 0, none⟩)]) Tryz.func121 rfl _ Tryz.ntmps121 rfl (AH.start D w) ?_
 simp only [BX, Nat.zero_add]
 refine zg <| AV (EE rfl rfl) rfl rfl rfl fun b2 =>  ?_
 refine zs rfl <| zn <| zg <| AZ (D4 (cs := C9 c vp vv vs) rfl rfl (hcb _)) rfl <| zv DY <| ?_
 refine CQ (σ := EX (H9 c.2.2.2.1.length c.2.2.2.2.1 x)) Tryz.call122 rfl rfl (fun w1 => zu fun D' hold _ _ => jN D' w1 c x vp vv vs (H.hold hold) hr) ?_
 intro r
 try rw [List.nil_append]
 refine zv FC <| ?_
 refine zs rfl <| zn <| zq <| ?_
 exact zz rfl rfl fun w' H' => ⟨⟨!r.1, by have := r.2; cases h : r.1 <;> simp_all⟩, rfl, H'.AK (AD.nil _)⟩
def N9 (c : CA) (i : Nat) : Prop := ∃ h : i < c.2.2.2.2.2.length, ¬ H9 c.2.2.2.1.length c.2.2.2.2.1 c.2.2.2.2.2[i]
theorem nR (D : Nat → Prop) (w : World) (b : Nat) (c : CA) (vp vv vs : Value) (HB : Old D w (J5 (some ⟨b, 0, none⟩) (C9 c vp vv vs))) (H : ER D w c vp vv vs) (hr : HW cV c.2.2.2.2.1) :
  Calls Tryz.prog 149 #[vs, .func (.func 121) #[] #[.pointer (some ⟨b, 0, none⟩)]] w fun e w' => ∃ r : { r : Int // 0 ≤ r ↔ ∃ i, N9 c i }, e = .returned (.int .i64 r.1) ∧ AH D w w' [] := by
 have H0 := H
 have hls := H.ls
 obtain ⟨As, caps, hvs, hs1, hs2, HSs, hsok⟩ := H.s.EG
 have HSs : CS D w As (c.2.2.2.2.2.flatMap BW) := HSs
 obtain ⟨l, hll⟩ : ∃ l, c.2.2.2.2.2 = l := ⟨_, rfl⟩
 have hbd : ∀ i, N9 c i ↔ ∃ h : i < l.length, ¬ H9 c.2.2.2.1.length c.2.2.2.2.1 l[i] := fun i => by subst hll; exact Iff.rfl
 rw [hll] at HSs hvs hls hs1
 subst hvs
 refine BZ (vs := [.slice As l.length caps, .func (.func 121) #[] #[.pointer (some ⟨b, 0, none⟩)]]) Tryz.func149 rfl _ Tryz.ntmps149 rfl (AH.start D w) ?_
 simp only [BX, Nat.zero_add]
 refine zg <| zs rfl <| zn <| AG <| zg <| zm rfl <| zv BN <| ?_
 refine zm rfl <| zn <| BK <| JP (σ := Nat) [0, 1, 7] rfl 8 (fun i => .int .i64 (i : Int)) (fun i => i ≤ l.length ∧ ∀ j, j < i → ¬ N9 c j) (fun i => l.length - i) (0) (⟨Nat.zero_le _, fun j h => absurd h (Nat.not_lt_zero _)⟩) rfl ?_
 rintro i ⟨hi, hall⟩ K1 hK1
 refine zg <| zv (B7 rfl rfl) <| zn <| AG <| BP rfl (fun h => ?_) (fun h => ?_)
 ·have hlt : i < l.length := by omega
  obtain ⟨hA, hc⟩ := CS.EP (D := D) (w0 := w) (f := BW) (sz := 3) (fun _ => rfl) AF HSs hlt []
  have hbi : N9 c i ↔ ¬ H9 c.2.2.2.1.length c.2.2.2.2.1 l[i] := (hbd i).trans ⟨fun ⟨_, h⟩ => h, fun h => ⟨hlt, h⟩⟩
  generalize l[i] = x at *
  refine zk <| AG <| BK <| zg <| zm rfl <| zs rfl <| zn <| zg <| zm rfl <| zm rfl <| zm rfl <| zv (CZ rfl DP rfl _ rfl AA) <| ?_
  refine AZ (D4 (cs := BW x) rfl rfl hc) rfl <| W5 (σ := EX (¬ H9 c.2.2.2.1.length c.2.2.2.2.1 x)) rfl (fun _ _ => Tryz.call121 _ _) rfl rfl (fun w1 => zu fun D' hold _ _ => kS D' w1 b c x vp vv _ (hold _ HB) (H0.hold hold) hr) ?_
  intro r
  try rw [List.nil_append]
  refine zn <| FW rfl (fun hb => ?_) (fun hb => ?_)
  ·have hbad := hbi.2 (r.2.1 hb)
   refine zg <| zm rfl <| zs rfl <| zn <| zq <| B4 <| zr <| zr <| B4 <| zr <| ?_
   exact zz rfl rfl fun w' H' => ⟨⟨i, ⟨fun _ => ⟨i, hbad⟩, fun _ => by omega⟩⟩, rfl, H'⟩
  have hok : ¬ N9 c i := fun h => by have := r.2.2 (hbi.1 h); rw [this] at hb; cases hb
  have hn : ∀ j, j < i + 1 → ¬ N9 c j := fun j hj => by
   rcases Nat.lt_or_ge j i with h3 | h3
   ·exact hall j h3
   ·obtain rfl : j = i := by omega
    exact hok
  refine C3 <| zb <| zt <| AR <| zv (BM rfl rfl BO) <| ?_
  refine zm rfl <| AS <| B5 hK1 (i + 1) (⟨hlt, hn⟩) AA BD BL
 refine CF <| ze <| ze <| CE <| zt <| AG <| AR <| zs rfl <| zn <| zq <| ?_
 exact zz rfl rfl fun w' H' => ⟨⟨-1, ⟨fun h => by omega, fun ⟨j, hj⟩ => absurd hj (hall j (by obtain ⟨hj2, _⟩ := (hbd j).1 hj; omega))⟩⟩, rfl, H'⟩
theorem lS (D : Nat → Prop) (w : World) (b : Nat) (c : CA) (vp vv vs : Value) (HB : Old D w (J5 (some ⟨b, 0, none⟩) (C9 c vp vv vs))) (H : ER D w c vp vv vs) (hr : HW cV c.2.2.2.2.1) :
  Calls Tryz.prog 120 #[vs, .func (.func 121) #[] #[.pointer (some ⟨b, 0, none⟩)]] w fun e w' => ∃ r : EX (∃ i, N9 c i), e = .returned (.bool r.1) ∧ AH D w w' [] := by
 refine BZ (vs := [vs, .func (.func 121) #[] #[.pointer (some ⟨b, 0, none⟩)]]) Tryz.func120 rfl _ Tryz.ntmps120 rfl (AH.start D w) ?_
 simp only [BX, Nat.zero_add]
 refine zg <| zs rfl <| zn <| AG <| AR <| zm rfl <| zm rfl <| CQ (σ := { r : Int // 0 ≤ r ↔ ∃ i, N9 c i }) Tryz.call149 rfl rfl (fun w1 => zu fun D' hold _ _ => nR D' w1 b c vp vv vs (hold _ HB) (H.hold hold) hr) ?_
 intro r
 try rw [List.nil_append]
 refine zv (GN rfl rfl) <| zs rfl <| zn <| zq <| ?_
 exact zz rfl rfl fun w' H' => ⟨⟨decide (0 ≤ r.1), by rw [decide_eq_true_iff]; exact r.2⟩, rfl, H'⟩
def C4 (c : CA) : Prop := K8 c ∧ NG c ∧ N3 c ∧ c.2.2.2.2.2.length ≤ 16 ∧ HW GW c.2.2.2.2.2 ∧ ∀ i (h : i < c.2.2.2.2.2.length), H9 c.2.2.2.1.length c.2.2.2.2.1 c.2.2.2.2.2[i]
theorem T5 (D : Nat → Prop) (w : World) (c : CA) (vp vv vs : Value) (H : ER D w c vp vv vs) :
  Calls Tryz.prog 77 #[.agg (C9 c vp vv vs).toArray] w fun e w' => ∃ b : EX (C4 c), e = .returned (.bool b.1) ∧ AH D w w' [] := by
 have hls := H.ls
 obtain ⟨As, caps, hvs, hs1, hs2, HSs, hsok⟩ := H.s.EG
 refine BZ (vs := [.agg (C9 c vp vv vs).toArray]) Tryz.func77 rfl _ Tryz.ntmps77 rfl (AH.start D w) ?_
 simp only [BX, Nat.zero_add]
 refine zg <| AV (EE rfl rfl) rfl rfl rfl fun b1 =>  ?_
 refine zs rfl <| zn <| AG <| zg <| zv DY <| ?_
 refine CQ (σ := EX (K8 c)) Tryz.call115 rfl rfl (fun w1 => zu fun D' hold _ _ => kQ D' w1 c vp vv vs (H.hold hold)) ?_
 intro r1
 try rw [List.nil_append]
 refine zv FC <| ?_
 refine zm rfl <| KY (t := 6) rfl (fun a1 => ?_) (fun a1 => ?_)
 ·have hno : ¬ C4 c := fun h => by have := r1.2.2 h.1; rw [this] at a1; cases a1
  refine zo rfl rfl <| zo rfl rfl <| zo rfl rfl <| zv (BF rfl rfl) <| zm rfl <| zo rfl rfl <| zo rfl rfl <| zo rfl rfl <| zv (BF rfl rfl) <| zm rfl <| zo rfl rfl <| zo rfl rfl <| zo rfl rfl <| zo rfl rfl <| zv (BF rfl rfl) <| zm rfl <| zo rfl rfl <| zo rfl rfl <| zo rfl rfl <| zo rfl rfl <| zv (BF rfl rfl) <| zn <| DD rfl <| zg <| zs rfl <| zn <| zq <| zr <| ?_
  exact zz rfl rfl fun w' H' => ⟨bF hno, rfl, H'.AK (AD.nil _)⟩
 have g1 : K8 c := r1.2.1 (by simpa using a1)
 refine AJ rfl rfl <| zv DY <| ?_
 refine AJ rfl rfl <| CQ (σ := EX (NG c)) Tryz.call116 rfl rfl (fun w1 => zu fun D' hold _ _ => j9 D' w1 c vp vv vs (H.hold hold)) ?_
 intro r2
 try rw [List.nil_append]
 refine AJ rfl rfl <| zv FC <| ?_
 refine zv (A8 rfl rfl) <| zm rfl <| KY (t := 11) rfl (fun a2 => ?_) (fun a2 => ?_)
 ·have hno : ¬ C4 c := fun h => by have := r2.2.2 h.2.1; rw [this] at a2; cases a2
  refine zo rfl rfl <| zo rfl rfl <| zo rfl rfl <| zv (BF rfl rfl) <| zm rfl <| zo rfl rfl <| zo rfl rfl <| zo rfl rfl <| zo rfl rfl <| zv (BF rfl rfl) <| zm rfl <| zo rfl rfl <| zo rfl rfl <| zo rfl rfl <| zo rfl rfl <| zv (BF rfl rfl) <| zn <| DD rfl <| zg <| zs rfl <| zn <| zq <| zr <| ?_
  exact zz rfl rfl fun w' H' => ⟨bF hno, rfl, H'.AK (AD.nil _)⟩
 have g2 : NG c := r2.2.1 (by simpa using a2)
 have hr := g2.2.2.2
 refine AJ rfl rfl <| zv DY <| ?_
 refine AJ rfl rfl <| CQ (σ := EX (N3 c)) Tryz.call117 rfl rfl (fun w1 => zu fun D' hold _ _ => kV D' w1 c vp vv vs (H.hold hold) hr) ?_
 intro r3
 try rw [List.nil_append]
 refine AJ rfl rfl <| zv FC <| ?_
 refine zv (A8 rfl rfl) <| zm rfl <| KY (t := 16) rfl (fun a3 => ?_) (fun a3 => ?_)
 ·have hno : ¬ C4 c := fun h => by have := r3.2.2 h.2.2.1; rw [this] at a3; cases a3
  refine zo rfl rfl <| zo rfl rfl <| zo rfl rfl <| zo rfl rfl <| zv (BF rfl rfl) <| zm rfl <| zo rfl rfl <| zo rfl rfl <| zo rfl rfl <| zo rfl rfl <| zv (BF rfl rfl) <| AS <| zt <| DD rfl <| zg <| zs rfl <| AS <| zt <| zq <| zr <| ?_
  exact zz rfl rfl fun w' H' => ⟨bF hno, rfl, H'.AK (AD.nil _)⟩
 have g3 : N3 c := r3.2.1 (by simpa using a3)
 subst hvs
 refine AJ rfl rfl <| zf rfl <| AJ rfl rfl <| zl rfl rfl <| AJ rfl rfl <| zv BN <| ?_
 refine AJ rfl rfl <| zv (DV rfl rfl) <| zv (A8 rfl rfl) <| zm rfl <| DB (t := 22) rfl (fun a4 => ?_) (fun a4 => ?_)
 ·have hno : ¬ C4 c := fun h => by have := h.2.2.2.1; omega
  refine zo rfl rfl <| zo rfl rfl <| zo rfl rfl <| zo rfl rfl <| zv (BF rfl rfl) <| AS <| zt <| DD rfl <| zg <| zs rfl <| AS <| zt <| zq <| zr <| ?_
  exact zz rfl rfl fun w' H' => ⟨bF hno, rfl, H'.AK (AD.nil _)⟩
 refine AJ rfl rfl <| zf rfl <| AJ rfl rfl <| zl rfl rfl <| ?_
 refine AJ rfl rfl <| CQ (σ := EX (HW GW c.2.2.2.2.2)) Tryz.call118 rfl rfl (fun w1 => zu fun D' hold _ _ => mY D' w1 _ c.2.2.2.2.2 AA (hold _ H.s)) ?_
 intro r5
 try rw [List.nil_append]
 refine AJ rfl rfl <| zv FC <| ?_
 refine zv (A8 rfl rfl) <| zn <| FW rfl (fun a5 => ?_) (fun a5 => ?_)
 ·have hno : ¬ C4 c := fun h => by have := r5.2.2 h.2.2.2.2.1; rw [this] at a5; cases a5
  refine zg <| zs rfl <| zn <| zq <| zr <| ?_
  exact zz rfl rfl fun w' H' => ⟨bF hno, rfl, H'.AK (AD.nil _)⟩
 have g5 : HW GW c.2.2.2.2.2 := r5.2.1 (by simpa using a5)
 refine zk <| zg <| zf rfl <| zl rfl rfl <| ?_
 refine zv (XB rfl rfl) <| ?_
 refine CQ (σ := EX (∃ i, N9 c i)) Tryz.call120 rfl rfl (fun w1 => zu fun D' hold hin _ => lS D' w1 b1 c vp vv _ (hin _ fun h hs ho => WK (b := b1) hs) (H.hold hold) hr) ?_
 intro r6
 try rw [List.nil_append]
 refine zv FC <| ?_
 refine zs rfl <| zn <| zq <| ?_
 exact zz rfl rfl fun w' H' => ⟨⟨!r6.1, by rw [Bool.not_eq_true', ← Bool.not_eq_true, r6.2]; exact ⟨fun h => ⟨g1, g2, g3, by omega, g5, fun i hi => Classical.byContradiction fun hx => h ⟨i, hi, hx⟩⟩, fun h ⟨i, hi, hx⟩ => hx (h.2.2.2.2.2 i hi)⟩⟩, rfl, H'.AK (AD.nil _)⟩
end Go.Proofs.YtjlolpmmpafjeaaGreat

set_option linter.unusedVariables false
set_option linter.unusedSimpArgs false
namespace Go.Proofs.YtjlolpmmpafjeaaGreat
open CN
abbrev DA := (Option Addr × Nat) × (Option Addr × Nat) × (Option Addr × Nat)
abbrev B3 (c : CA) (q : DA) : List Value := C9 c (.slice q.1.1 c.2.2.2.1.length q.1.2) (.slice q.2.1.1 c.2.2.2.2.1.length q.2.1.2) (.slice q.2.2.1 c.2.2.2.2.2.length q.2.2.2)
structure JH (c : CA) : Prop where
 i1 : DO c.1
 i2 : DO c.2.1
 i3 : DO c.2.2.1
 p : ∀ x ∈ c.2.2.2.1, Flat.ok x
 v : ∀ x ∈ c.2.2.2.2.1, Flat.ok x
 s : ∀ x ∈ c.2.2.2.2.2, Flat.ok x
 lp : c.2.2.2.1.length ≤ 1000
 lv : c.2.2.2.2.1.length ≤ 1000
 ls : c.2.2.2.2.2.length ≤ 1000
abbrev C6 (c : CA) (q : DA) : List AQ := [row q.1.1 83 3 c.2.2.2.1.length q.1.2 (c.2.2.2.1.flatMap CJ), row q.2.1.1 147 3 c.2.2.2.2.1.length q.2.1.2 (c.2.2.2.2.1.flatMap BJ), row q.2.2.1 149 3 c.2.2.2.2.2.length q.2.2.2 (c.2.2.2.2.2.flatMap BW)]
theorem ER.rows {D D' : Nat → Prop} {w0 w1 : World} {l r1 r2 r3 : List AQ} {c : CA} {q : DA} {t1 t2 t3 : TypeId} (hok : JH c)
  (hin : ∀ B : AQ, (∀ h, DS l h → (∀ A, Old D w0 A → ∃ h1, A h1 ∧ ED h1 h) → B h) → Old D' w1 B)
  [k1 : GC l q.1.1 t1 3 c.2.2.2.1.length q.1.2 (c.2.2.2.1.flatMap CJ) r1] [k2 : GC l q.2.1.1 t2 3 c.2.2.2.2.1.length q.2.1.2 (c.2.2.2.2.1.flatMap BJ) r2] [k3 : GC l q.2.2.1 t3 3 c.2.2.2.2.2.length q.2.2.2 (c.2.2.2.2.2.flatMap BW) r3] :
  ER D' w1 c (.slice q.1.1 c.2.2.2.1.length q.1.2) (.slice q.2.1.1 c.2.2.2.2.1.length q.2.1.2) (.slice q.2.2.1 c.2.2.2.2.2.length q.2.2.2) :=
 ⟨hok.i1, hok.i2, hok.i3, hin _ fun h hs ho => C7 (h := k1) (A := q.1.1) hs c.2.2.2.1 rfl (KF.2 ⟨rfl, hok.p⟩), hin _ fun h hs ho => C7 (h := k2) (A := q.2.1.1) hs c.2.2.2.2.1 rfl (KF.2 ⟨rfl, hok.v⟩), hin _ fun h hs ho => C7 (h := k3) (A := q.2.2.1) hs c.2.2.2.2.2 rfl (KF.2 ⟨rfl, hok.s⟩), hok.lp, hok.lv, hok.ls⟩
abbrev FZ : CA := (0, 0, 0, [], [], [])
theorem oG : JH FZ := ⟨by unfold DO; decide, by unfold DO; decide, by unfold DO; decide, (fun x hx => by cases hx), (fun x hx => by cases hx), (fun x hx => by cases hx), by decide, by decide, by decide⟩
abbrev q0 : DA := ((none, 0), (none, 0), (none, 0))
theorem AD.LC (l : List AQ) : AD l (C6 FZ q0 ++ l) := AD.trans (AD.EB 149 3) (AD.trans (AD.EB 147 3) (AD.EB 83 3))
theorem _root_.CN.AD.RN {p : Prop} {l l' : List AQ} (hp : p) (h : AD l l') : AD l (JU p :: l') := fun x hs => R4.2 ⟨hp, h x hs⟩
theorem GH {α : Type} {f : α → List Value} (hf : ∀ x, ∀ v ∈ f x, v.oneCell' = true) (xs : List α) : ∀ v ∈ xs.flatMap f, v.oneCell' = true := fun v hv => by
 obtain ⟨x, _, h⟩ := List.mem_flatMap.1 hv
 exact hf x v h
end Go.Proofs.YtjlolpmmpafjeaaGreat
