import Derived.Test.YtjlolpmmpafjeaaGreatV02
set_option linter.unusedVariables false
set_option linter.unusedSimpArgs false
namespace Go.Proofs.YtjlolpmmpafjeaaGreat
open Slk
class Flat (α : Type) [Rep α] where
 f : α → List Value
 ok : α → Prop
 iff : ∀ {x : α} {c : List Value} {h : Heap}, Rep.rep x c h ↔ c = f x ∧ ok x
section
variable {α : Type} [Rep α] [F : Flat α]
theorem repL_F : ∀ {xs : List α} {cs : List Value} {h : Heap}, repL xs cs h ↔ cs = xs.flatMap F.f ∧ ∀ x ∈ xs, F.ok x
 | [], cs, h => ⟨fun e => ⟨e, fun x hx => by cases hx⟩, fun e => e.1⟩
 | x :: r, cs, h => by
  constructor
  ·rintro ⟨c1, c2, rfl, h1, h2⟩
   obtain ⟨e1, o1⟩ := F.iff.1 h1
   obtain ⟨e2, o2⟩ := repL_F.1 h2
   subst e1; subst e2
   exact ⟨by rw [List.flatMap_cons], fun y hy => by
    rcases List.mem_cons.1 hy with rfl | hy
    ·exact o1
    ·exact o2 y hy⟩
  ·rintro ⟨rfl, ho⟩
   exact ⟨F.f x, _, List.flatMap_cons, F.iff.2 ⟨rfl, ho x (by simp)⟩, repL_F.2 ⟨rfl, fun y hy => ho y (by simp [hy])⟩⟩
theorem _root_.Slk.Old.openF {D : Nat → Prop} {w0 : World} {S : List α} {v : Value} (k : Old D w0 (Rep.rep S [v])) :
  ∃ A cap, v = .slice A S.length cap ∧ S.length ≤ cap ∧ cap ≤ 9223372036854775807 ∧ OldS D w0 A (S.flatMap F.f) ∧ ∀ x ∈ S, F.ok x := by
 obtain ⟨h, hh, A, cap, e, h1, h2, ecs, k1, k2⟩ := k
 obtain ⟨rfl, ho⟩ := repL_F.1 k1
 exact ⟨A, cap, by simpa using e, h1, h2, OldS.of_old ⟨h, hh, k2⟩, ho⟩
end
abbrev PortC := Bool × UInt32 × Int
abbrev VlanC := Int × UInt8 × UInt8
abbrev StatC := UInt64 × Int × Int
abbrev EditC := Int × Int × Int × Int × UInt8 × UInt8 × UInt64
abbrev ConfC := Int × Int × Int × List PortC × List VlanC × List StatC
abbrev portV (x : PortC) : List Value := [.bool x.1, .int .u32 x.2.1.toNat, .int .i64 x.2.2]
abbrev vlanV (x : VlanC) : List Value := [.int .i64 x.1, u8v x.2.1, u8v x.2.2]
abbrev statV (x : StatC) : List Value := [.int .u64 x.1.toNat, .int .i64 x.2.1, .int .i64 x.2.2]
abbrev editV (x : EditC) : List Value := [.int .i64 x.1, .int .i64 x.2.1, .int .i64 x.2.2.1, .int .i64 x.2.2.2.1, u8v x.2.2.2.2.1, u8v x.2.2.2.2.2.1, .int .u64 x.2.2.2.2.2.2.toNat]
instance : Flat PortC where
 f := portV
 ok x := inI64 x.2.2
 iff := by
  intro x c h
  constructor
  ·rintro ⟨c1, c2, rfl, k1, c3, c4, rfl, k3, k4⟩
   have k1 : c1 = [.bool x.1] := k1
   have k3 : c3 = [.int .u32 (x.2.1.toNat : Int)] := k3
   obtain ⟨k4, k5⟩ : c4 = [.int .i64 x.2.2] ∧ inI64 x.2.2 := k4
   subst k1; subst k3; subst k4
   exact ⟨rfl, k5⟩
  ·rintro ⟨rfl, k⟩
   exact ⟨[.bool x.1], _, rfl, rfl, [.int .u32 (x.2.1.toNat : Int)], [.int .i64 x.2.2], rfl, rfl, rfl, k⟩
instance : Flat VlanC where
 f := vlanV
 ok x := inI64 x.1
 iff := by
  intro x c h
  constructor
  ·rintro ⟨c1, c2, rfl, k1, c3, c4, rfl, k3, k4⟩
   obtain ⟨k1, k2⟩ : c1 = [.int .i64 x.1] ∧ inI64 x.1 := k1
   have k3 : c3 = [u8v x.2.1] := k3
   have k4 : c4 = [u8v x.2.2] := k4
   subst k1; subst k3; subst k4
   exact ⟨rfl, k2⟩
  ·rintro ⟨rfl, k⟩
   exact ⟨[.int .i64 x.1], _, rfl, ⟨rfl, k⟩, [u8v x.2.1], [u8v x.2.2], rfl, rfl, rfl⟩
instance : Flat StatC where
 f := statV
 ok x := inI64 x.2.1 ∧ inI64 x.2.2
 iff := by
  intro x c h
  constructor
  ·rintro ⟨c1, c2, rfl, k1, c3, c4, rfl, k3, k4⟩
   have k1 : c1 = [.int .u64 (x.1.toNat : Int)] := k1
   obtain ⟨k3, k5⟩ : c3 = [.int .i64 x.2.1] ∧ inI64 x.2.1 := k3
   obtain ⟨k4, k6⟩ : c4 = [.int .i64 x.2.2] ∧ inI64 x.2.2 := k4
   subst k1; subst k3; subst k4
   exact ⟨rfl, k5, k6⟩
  ·rintro ⟨rfl, k1, k2⟩
   exact ⟨[.int .u64 (x.1.toNat : Int)], _, rfl, rfl, [.int .i64 x.2.1], [.int .i64 x.2.2], rfl, ⟨rfl, k1⟩, rfl, k2⟩
def cmpI (a b : Int) : Int := if a < b then -1 else if b < a then 1 else 0
theorem NanI_spec (D : Nat → Prop) (w : World) (a : Int) : Calls Tryz.prog 160 #[.int .i64 a] w fun e w' => e = .returned (.bool false) ∧ Own D w w' [] := by
 refine hc_enter (vs := [.int .i64 a]) Tryz.func160 rfl _ Tryz.ntmps160 rfl (Own.start D w) ?_
 simp only [argSlots, Nat.zero_add]
 refine zg <| zs rfl <| zn <| hc_seq <| hc_region <| zm rfl <| zm rfl <| zv (ov_neq rfl rfl) <| zs rfl <| hl_nil <| zt <| zq <| ?_
 exact zz rfl rfl fun w' H' => ⟨by simp, H'⟩
theorem NanU_spec (D : Nat → Prop) (w : World) (a : Int) : Calls Tryz.prog 161 #[.int .u64 a] w fun e w' => e = .returned (.bool false) ∧ Own D w w' [] := by
 refine hc_enter (vs := [.int .u64 a]) Tryz.func161 rfl _ Tryz.ntmps161 rfl (Own.start D w) ?_
 simp only [argSlots, Nat.zero_add]
 refine zg <| zs rfl <| zn <| hc_seq <| hc_region <| zm rfl <| zm rfl <| zv (ov_neq rfl rfl) <| zs rfl <| hl_nil <| zt <| zq <| ?_
 exact zz rfl rfl fun w' H' => ⟨by simp, H'⟩
theorem CmpI_spec (D : Nat → Prop) (w : World) (a b : Int) : Calls Tryz.prog 146 #[.int .i64 a, .int .i64 b] w fun e w' => e = .returned (.int .i64 (cmpI a b)) ∧ Own D w w' [] := by
 refine hc_enter (vs := [.int .i64 a, .int .i64 b]) Tryz.func146 rfl _ Tryz.ntmps146 rfl (Own.start D w) ?_
 simp only [argSlots, Nat.zero_add]
 refine zg <| zs rfl <| zn <| hc_seq <| hc_region <| zm rfl <| hl_c Tryz.call160 rfl rfl (fun w1 => zun fun D' _ _ _ => NanI_spec D' w1 a) ?_
 refine zs rfl <| zn <| zg <| zm rfl <| hl_c Tryz.call160 rfl rfl (fun w1 => zun fun D' _ _ _ => NanI_spec D' w1 b) ?_
 refine zs rfl <| zn <| hc_seq <| zg <| zm rfl <| zn <| hc_cond_false rfl <| zk <| hc_seq <| zg <| zm rfl <| zn <| hc_cond_false rfl <| zk <| hc_seq <| zg <| zm rfl <| zm rfl <| zv (ov_lss rfl rfl) <| zn <| hc_cond rfl (fun h1 => ?_) (fun h1 => ?_)
 ·refine zg <| zs rfl <| zn <| zq <| zr <| ?_
  exact zz rfl rfl fun w' H' => ⟨by rw [cmpI, if_pos h1], H'⟩
 refine zk <| hc_seq <| zg <| zm rfl <| zm rfl <| zv (ov_gtr rfl rfl) <| zn <| hc_cond rfl (fun h2 => ?_) (fun h2 => ?_)
 ·refine zg <| zs rfl <| zn <| zq <| zr <| ?_
  exact zz rfl rfl fun w' H' => ⟨by rw [cmpI, if_neg h1, if_pos h2], H'⟩
 refine zk <| zg <| zs rfl <| hl_nil <| zt <| zq <| ?_
 exact zz rfl rfl fun w' H' => ⟨by rw [cmpI, if_neg h1, if_neg h2], H'⟩
theorem CmpU_spec (D : Nat → Prop) (w : World) (a b : Int) : Calls Tryz.prog 148 #[.int .u64 a, .int .u64 b] w fun e w' => e = .returned (.int .i64 (cmpI a b)) ∧ Own D w w' [] := by
 refine hc_enter (vs := [.int .u64 a, .int .u64 b]) Tryz.func148 rfl _ Tryz.ntmps148 rfl (Own.start D w) ?_
 simp only [argSlots, Nat.zero_add]
 refine zg <| zs rfl <| zn <| hc_seq <| hc_region <| zm rfl <| hl_c Tryz.call161 rfl rfl (fun w1 => zun fun D' _ _ _ => NanU_spec D' w1 a) ?_
 refine zs rfl <| zn <| zg <| zm rfl <| hl_c Tryz.call161 rfl rfl (fun w1 => zun fun D' _ _ _ => NanU_spec D' w1 b) ?_
 refine zs rfl <| zn <| hc_seq <| zg <| zm rfl <| zn <| hc_cond_false rfl <| zk <| hc_seq <| zg <| zm rfl <| zn <| hc_cond_false rfl <| zk <| hc_seq <| zg <| zm rfl <| zm rfl <| zv (ov_lss rfl rfl) <| zn <| hc_cond rfl (fun h1 => ?_) (fun h1 => ?_)
 ·refine zg <| zs rfl <| zn <| zq <| zr <| ?_
  exact zz rfl rfl fun w' H' => ⟨by rw [cmpI, if_pos h1], H'⟩
 refine zk <| hc_seq <| zg <| zm rfl <| zm rfl <| zv (ov_gtr rfl rfl) <| zn <| hc_cond rfl (fun h2 => ?_) (fun h2 => ?_)
 ·refine zg <| zs rfl <| zn <| zq <| zr <| ?_
  exact zz rfl rfl fun w' H' => ⟨by rw [cmpI, if_neg h1, if_pos h2], H'⟩
 refine zk <| zg <| zs rfl <| hl_nil <| zt <| zq <| ?_
 exact zz rfl rfl fun w' H' => ⟨by rw [cmpI, if_neg h1, if_neg h2], H'⟩
instance : Flat Int where
 f x := [.int .i64 x]
 ok x := inI64 x
 iff := by
  intro x c h
  exact Iff.rfl
theorem cmpI_in (a b : Int) : inI64 (cmpI a b) := by
 unfold cmpI inI64
 split
 ·omega
 split <;> omega
theorem Or_spec (D : Nat → Prop) (w : World) (v : Value) (a b : Int) (HA : Old D w (Rep.rep [a, b] [v])) : Calls Tryz.prog 147 #[v] w fun e w' => e = .returned (.int .i64 (if a = 0 then b else a)) ∧ Own D w w' [] := by
 obtain ⟨A, cap, rfl, hc1, hc2, HS, hok⟩ := HA.openF
 have HS : OldS D w A [.int .i64 a, .int .i64 b] := HS
 have hA : isA A := HS.isA (by simp)
 refine hc_enter (vs := [.slice A [a, b].length cap]) Tryz.func147 rfl _ Tryz.ntmps147 rfl (Own.start D w) ?_
 simp only [argSlots, Nat.zero_add]
 refine zg <| zs rfl <| zn <| hc_seq <| hc_region <| zs rfl <| zn <| hc_seq <| hc_seq <| hc_region <| zm rfl <| zv Z25 <| ?_
 refine zm rfl <| zn <| hc_block <| hc_loops1 (σ := Nat) [3, 6, 7] rfl 8 (fun k => .int .i64 (k : Int)) (fun k => k ≤ 2 ∧ (0 < k → a = 0) ∧ (1 < k → b = 0)) (fun k => 2 - k) (0) (⟨by decide, fun h => absurd h Z63, fun h => absurd h Z63⟩) rfl ?_
 rintro k ⟨hk, hka, hkb⟩ K1 hK1
 refine zg <| zv (ov_lss rfl rfl) <| zn <| hc_seq <| hc_cond rfl (fun h => ?_) (fun h => ?_)
 ·have hl2 : [a, b].length = 2 := rfl
  have hlt : k < 2 := by omega
  have hcell : CellIs D w [] (ab A) (ao A + k * 1) (.int .i64 (if k = 0 then a else b)) := by
   rw [Nat.mul_one]
   refine (SrcIs.old HS).cell (i := k) ?_
   match k, hlt with
   | 0, _ => rfl
   | 1, _ => rfl
  have hkl : k < [a, b].length := hlt
  have hres : (if k = 0 then a else b) ≠ 0 → (if a = 0 then b else a) = (if k = 0 then a else b) := fun hne => by
   by_cases h0 : k = 0
   ·rw [if_pos h0] at hne ⊢
    rw [if_neg hne]
   ·rw [if_neg h0] at hne ⊢
    rw [if_pos (hka Z64)]
  have hnx : (if k = 0 then a else b) = 0 → k + 1 ≤ 2 ∧ (0 < k + 1 → a = 0) ∧ (1 < k + 1 → b = 0) := fun hx => by
   by_cases h0 : k = 0
   ·rw [if_pos h0] at hx
    exact ⟨by omega, fun _ => hx, fun h => by omega⟩
   ·rw [if_neg h0] at hx
    exact ⟨by omega, fun _ => hka Z64, fun _ => hx⟩
  generalize hx : (if k = 0 then a else b) = x at *
  refine zk <| hc_seq <| hc_block <| zg <| zv (ov_idxS rfl Z62 rfl _ rfl Z64) <| zv Z9 <| ?_
  refine zs rfl <| zn <| zg <| zm rfl <| zm rfl <| zv (ov_neq rfl rfl) <| zn <| hc_cond rfl (fun hne => ?_) (fun hne => ?_)
  ·have := hres hne
   refine zg <| zm rfl <| zs rfl <| zn <| zq <| hx_block_ret <| zr <| zr <| hx_block_ret <| zr <| ?_
   exact zz rfl rfl fun w' H' => ⟨by rw [this], H'⟩
  have hx0 : x = 0 := Classical.not_not.1 hne
  have hn := hnx hx0
  refine hc_skip <| zb <| zt <| hc_region <| zv (ov_add rfl rfl Z28) <| ?_
  refine zm rfl <| hl_nil <| hx_next hK1 (k + 1) (hn) Z64 Z16 Z10
 have hl2 : [a, b].length = 2 := rfl
 have hk2 : k = 2 := by omega
 subst hk2
 refine hc_exit <| ze <| ze <| hx_block_out <| zt <| hc_seq <| hc_region <| zm rfl <| zs rfl <| zn <| zq <| ?_
 exact zz rfl rfl fun w' H' => ⟨by rw [if_pos (hka Z63), hkb Z63], H'⟩
def byPl (x y : StatC) : Int := if cmpI x.2.1 y.2.1 = 0 then cmpI x.1.toNat y.1.toNat else cmpI x.2.1 y.2.1
theorem byPlace_spec (D : Nat → Prop) (w : World) (x y : StatC) : Calls Tryz.prog 119 #[.agg (statV x).toArray, .agg (statV y).toArray] w fun e w' => e = .returned (.int .i64 (byPl x y)) ∧ Own D w w' [] := by
 refine hc_enter (vs := [.agg (statV x).toArray, .agg (statV y).toArray]) Tryz.func119 rfl _ Tryz.ntmps119 rfl (Own.start D w) ?_
 simp only [argSlots, Nat.zero_add]
 refine zg <| hl_new (on_boxN rfl rfl) rfl rfl rfl fun b2 =>  ?_
 refine hl_new (on_boxN rfl rfl) rfl rfl rfl fun b3 =>  ?_
 refine zs rfl <| zn <| hc_seq <| hc_any [blk b3 149 (statV y), blk b2 149 (statV x)] mixed 13 rfl ?_
 refine ha_v 0 rfl (ov_fieldA rfl) rfl <| ha_v 1 rfl (zw rfl rfl) rfl <| ha_v 2 rfl (ov_fieldA rfl) rfl <| ha_v 3 rfl (zw rfl rfl) rfl <| ha_v 5 rfl (ov_fieldA rfl) rfl <| ha_v 6 rfl (zw rfl rfl) rfl <| ha_v 7 rfl (ov_fieldA rfl) rfl <| ha_v 8 rfl (zw rfl rfl) rfl <| ha_one 4 Z61 <| ho_k rfl Tryz.call146 rfl (fun w1 => zun fun D' _ _ _ => CmpI_spec D' w1 x.2.1 y.2.1) ?_
 refine ha_one 9 Z61 <| ho_k rfl Tryz.call148 rfl (fun w1 => zun fun D' _ _ _ => CmpU_spec D' w1 x.1.toNat y.1.toNat) ?_
 refine ha_one 10 Z61 <| ho_n rfl (on_buildSliceN rfl rfl rfl) rfl fun b15 =>  ?_
 refine ha_one 11 Z61 <| ho_k rfl Tryz.call147 rfl (fun w1 => zun fun D' _ hin _ => Or_spec D' w1 _ (cmpI x.2.1 y.2.1) (cmpI x.1.toNat y.1.toNat) (hin _ fun h hs ho => rep_lits (b := b15) hs [_, _] ⟨[_], [_], rfl, ⟨rfl, cmpI_in _ _⟩, [_], [], rfl, ⟨rfl, cmpI_in _ _⟩, rfl⟩ (by simp))) ?_
 refine ha_v 12 rfl (ov_assign rfl) rfl <| ha_done Z61 <| zt <| zq <| ?_
 exact zz rfl rfl fun w' H' => ⟨rfl, H'.ent (Ent.nil _)⟩
theorem vlans1_spec (D : Nat → Prop) (w : World) (x y : VlanC) : Calls Tryz.prog 145 #[.agg (vlanV x).toArray, .agg (vlanV y).toArray] w fun e w' => e = .returned (.int .i64 (cmpI x.1 y.1)) ∧ Own D w w' [] := by
 refine hc_enter (vs := [.agg (vlanV x).toArray, .agg (vlanV y).toArray]) Tryz.func145 rfl _ Tryz.ntmps145 rfl (Own.start D w) ?_
 simp only [argSlots, Nat.zero_add]
 refine zg <| hl_new (on_boxN rfl rfl) rfl rfl rfl fun b2 =>  ?_
 refine hl_new (on_boxN rfl rfl) rfl rfl rfl fun b3 =>  ?_
 refine zs rfl <| zn <| zg <| zf rfl <| ?_
 refine zl rfl rfl <| zf rfl <| zl rfl rfl <| ?_
 refine hl_c Tryz.call146 rfl rfl (fun w1 => zun fun D' _ _ _ => CmpI_spec D' w1 x.1 y.1) ?_
 refine zs rfl <| zn <| zq <| ?_
 exact zz rfl rfl fun w' H' => ⟨rfl, H'.ent (Ent.nil _)⟩
theorem find1_spec (D : Nat → Prop) (w : World) (x : VlanC) (i : Int) : Calls Tryz.prog 152 #[.agg (vlanV x).toArray, .int .i64 i] w fun e w' => e = .returned (.int .i64 (cmpI x.1 i)) ∧ Own D w w' [] := by
 refine hc_enter (vs := [.agg (vlanV x).toArray, .int .i64 i]) Tryz.func152 rfl _ Tryz.ntmps152 rfl (Own.start D w) ?_
 simp only [argSlots, Nat.zero_add]
 refine zg <| hl_new (on_boxN rfl rfl) rfl rfl rfl fun b2 =>  ?_
 refine zs rfl <| zn <| zg <| zf rfl <| ?_
 refine zl rfl rfl <| zm rfl <| hl_c Tryz.call146 rfl rfl (fun w1 => zun fun D' _ _ _ => CmpI_spec D' w1 x.1 i) ?_
 refine zs rfl <| zn <| zq <| ?_
 exact zz rfl rfl fun w' H' => ⟨rfl, H'.ent (Ent.nil _)⟩
end Go.Proofs.YtjlolpmmpafjeaaGreat

set_option linter.unusedVariables false
set_option linter.unusedSimpArgs false
namespace Go.Proofs.YtjlolpmmpafjeaaGreat
open Slk
def risP {α : Type} (c : α → α → Int) (l : List α) : Prop := ∀ i (h : i < l.length), 0 < i → c (l[i - 1]'(by omega)) l[i] < 0
abbrev BIff (p : Prop) := { b : Bool // b = true ↔ p }
def bT {p : Prop} (h : p) : BIff p := ⟨true, by simp [h]⟩
def bF {p : Prop} (h : ¬ p) : BIff p := ⟨false, by simp [h]⟩
def cV (x y : VlanC) : Int := cmpI x.1 y.1
theorem risV_spec (D : Nat → Prop) (w : World) (v : Value) (l : List VlanC) (hl : l.length ≤ 1000000) (HA : Old D w (Rep.rep l [v])) :
  Calls Tryz.prog 144 #[v, .func (.func 145) #[] #[]] w fun e w' => ∃ b : BIff (risP cV l), e = .returned (.bool b.1) ∧ Own D w w' [] := by
 obtain ⟨A, cap, rfl, hc1, hc2, HS, hok⟩ := HA.openF
 have HS : OldS D w A (l.flatMap vlanV) := HS
 refine hc_enter (vs := [.slice A l.length cap, .func (.func 145) #[] #[]]) Tryz.func144 rfl _ Tryz.ntmps144 rfl (Own.start D w) ?_
 simp only [argSlots, Nat.zero_add]
 refine zg <| zs rfl <| zn <| hc_seq <| zg <| zm rfl <| zv Z25 <| ?_
 refine zm rfl <| zn <| hc_block <| hc_loops1 (σ := Nat) [0, 1, 7] rfl 8 (fun i => .int .i64 (i : Int)) (fun i => i ≤ l.length ∧ ∀ j (h : j < l.length), j < i → 0 < j → cV (l[j - 1]'(by omega)) l[j] < 0) (fun i => l.length - i) (0) (⟨Nat.zero_le _, fun j _ h => absurd h (Nat.not_lt_zero _)⟩) rfl ?_
 rintro i ⟨hi, hris⟩ K1 hK1
 refine zg <| zv (ov_lss rfl rfl) <| zn <| hc_seq <| hc_cond rfl (fun h => ?_) (fun h => ?_)
 ·have hlt : i < l.length := by omega
  obtain ⟨hA, hc⟩ := OldS.cells_flat (f := vlanV) (sz := 3) (fun _ => rfl) Z63 HS hlt []
  refine zk <| hc_seq <| hc_block <| zg <| zm rfl <| zs rfl <| zn <| hc_seq <| hc_tail 13 mixed Z61 ?_
  refine ht_v (ov_move rfl) rfl <| ht_v (ov_gtr rfl rfl) rfl <| ht_v (ov_move rfl) rfl <| ?_
  refine ht_part (t := 13) rfl (fun h0 => ?_) (fun h0 => ?_)
  ·have hlt2 : i - 1 < l.length := by omega
   obtain ⟨_, hc2⟩ := OldS.cells_flat (f := vlanV) (sz := 3) (fun _ => rfl) Z63 HS hlt2 []
   have hnext : cV l[i - 1] l[i] < 0 → ∀ j (h : j < l.length), j < i + 1 → 0 < j → cV (l[j - 1]'(by omega)) l[j] < 0 := fun hx j hj h1 h2 => by
    rcases Nat.lt_or_ge j i with h3 | h3
    ·exact hris j hj h3 h2
    ·obtain rfl : j = i := by omega
     exact hx
   have hbad : ¬ cV l[i - 1] l[i] < 0 → ¬ risP cV l := fun hx hr => hx (hr i hlt Z64)
   generalize l[i - 1] = y at *
   generalize l[i] = x at *
   refine ht_on rfl rfl <| ht_v (ov_move rfl) rfl <| ht_on rfl rfl <| ht_v (ov_move rfl) rfl <| ht_on rfl rfl <| ht_v (ov_move rfl) rfl <| ?_
   refine ht_on rfl rfl <| ht_v (ov_sub (m := ((i - 1 : Nat) : Int)) rfl rfl Z36) rfl ?_
   refine ht_on rfl rfl <| ht_v (ov_idxS rfl Z62 rfl _ rfl Z64) rfl <| ?_
   refine ht_on rfl rfl <| ht_v (ov_loadG (cs := vlanV y) rfl rfl hc2) rfl ?_
   refine ht_on rfl rfl <| ht_v (ov_move rfl) rfl <| ht_on rfl rfl <| ht_v (ov_move rfl) rfl <| ht_on rfl rfl <| ht_v (ov_idxS rfl Z62 rfl _ rfl Z64) rfl <| ?_
   refine ht_on rfl rfl <| ht_v (ov_loadG (cs := vlanV x) rfl rfl hc) rfl ?_
   refine ht_nil <| ?_
   refine hl_on rfl rfl <| hl_cv rfl (fun _ _ => Tryz.call145 _ _) rfl rfl (fun w1 => zun fun D' _ _ _ => vlans1_spec D' w1 y x) ?_
   refine hl_on rfl rfl <| zv (ov_geq rfl rfl) <| zv (ov_pickT rfl rfl) <| zn <| hc_cond rfl (fun hx => ?_) (fun hx => ?_)
   ·have hb := hbad (show ¬ cV y x < 0 by have hx : 0 ≤ cV y x := hx; omega)
    refine zg <| zs rfl <| zn <| zq <| hx_block_ret <| zr <| zr <| hx_block_ret <| zr <| ?_
    exact zz rfl rfl fun w' H' => ⟨bF hb, rfl, H'⟩
   have hn := hnext (show cV y x < 0 by have hx : ¬ 0 ≤ cV y x := hx; omega)
   refine hc_skip <| zb <| zt <| hc_region <| zv (ov_add rfl rfl Z28) <| ?_
   refine zm rfl <| hl_nil <| hx_next hK1 (i + 1) (⟨hlt, hn⟩) Z64 Z16 Z10
  refine ht_off rfl rfl rfl rfl rfl rfl <| ht_off rfl rfl rfl rfl rfl rfl <| ht_off rfl rfl rfl rfl rfl rfl <| ht_off rfl rfl rfl rfl rfl rfl <| ht_off rfl rfl rfl rfl rfl rfl <| ht_off rfl rfl rfl rfl rfl rfl <| ?_
  refine ht_off rfl rfl rfl rfl rfl rfl <| ht_off rfl rfl rfl rfl rfl rfl <| ht_off rfl rfl rfl rfl rfl rfl <| ht_off rfl rfl rfl rfl rfl rfl <| ht_nil <| zo rfl rfl <| ?_
  refine zo rfl rfl <| zv (ov_pickF rfl rfl) <| zn <| hc_cond_false rfl <| hc_skip <| zb <| zt <| hc_region <| zv (ov_add rfl rfl Z28) <| ?_
  refine zm rfl <| hl_nil <| hx_next hK1 (i + 1) (⟨hlt, fun j _ h1 h2 => by omega⟩) Z64 Z16 Z10
 refine hc_exit <| ze <| ze <| hx_block_out <| zt <| hc_seq <| hc_region <| zs rfl <| zn <| zq <| ?_
 exact zz rfl rfl fun w' H' => ⟨bT (fun j h h0 => hris j h Z64 h0), rfl, H'⟩
theorem risS_spec (D : Nat → Prop) (w : World) (v : Value) (l : List StatC) (hl : l.length ≤ 1000000) (HA : Old D w (Rep.rep l [v])) :
  Calls Tryz.prog 118 #[v, .func (.func 119) #[] #[]] w fun e w' => ∃ b : BIff (risP byPl l), e = .returned (.bool b.1) ∧ Own D w w' [] := by
 obtain ⟨A, cap, rfl, hc1, hc2, HS, hok⟩ := HA.openF
 have HS : OldS D w A (l.flatMap statV) := HS
 refine hc_enter (vs := [.slice A l.length cap, .func (.func 119) #[] #[]]) Tryz.func118 rfl _ Tryz.ntmps118 rfl (Own.start D w) ?_
 simp only [argSlots, Nat.zero_add]
 refine zg <| zs rfl <| zn <| hc_seq <| zg <| zm rfl <| zv Z25 <| ?_
 refine zm rfl <| zn <| hc_block <| hc_loops1 (σ := Nat) [0, 1, 7] rfl 8 (fun i => .int .i64 (i : Int)) (fun i => i ≤ l.length ∧ ∀ j (h : j < l.length), j < i → 0 < j → byPl (l[j - 1]'(by omega)) l[j] < 0) (fun i => l.length - i) (0) (⟨Nat.zero_le _, fun j _ h => absurd h (Nat.not_lt_zero _)⟩) rfl ?_
 rintro i ⟨hi, hris⟩ K1 hK1
 refine zg <| zv (ov_lss rfl rfl) <| zn <| hc_seq <| hc_cond rfl (fun h => ?_) (fun h => ?_)
 ·have hlt : i < l.length := by omega
  obtain ⟨hA, hc⟩ := OldS.cells_flat (f := statV) (sz := 3) (fun _ => rfl) Z63 HS hlt []
  refine zk <| hc_seq <| hc_block <| zg <| zm rfl <| zs rfl <| zn <| hc_seq <| hc_tail 13 mixed Z61 ?_
  refine ht_v (ov_move rfl) rfl <| ht_v (ov_gtr rfl rfl) rfl <| ht_v (ov_move rfl) rfl <| ?_
  refine ht_part (t := 13) rfl (fun h0 => ?_) (fun h0 => ?_)
  ·have hlt2 : i - 1 < l.length := by omega
   obtain ⟨_, hc2⟩ := OldS.cells_flat (f := statV) (sz := 3) (fun _ => rfl) Z63 HS hlt2 []
   have hnext : byPl l[i - 1] l[i] < 0 → ∀ j (h : j < l.length), j < i + 1 → 0 < j → byPl (l[j - 1]'(by omega)) l[j] < 0 := fun hx j hj h1 h2 => by
    rcases Nat.lt_or_ge j i with h3 | h3
    ·exact hris j hj h3 h2
    ·obtain rfl : j = i := by omega
     exact hx
   have hbad : ¬ byPl l[i - 1] l[i] < 0 → ¬ risP byPl l := fun hx hr => hx (hr i hlt Z64)
   generalize l[i - 1] = y at *
   generalize l[i] = x at *
   refine ht_on rfl rfl <| ht_v (ov_move rfl) rfl <| ht_on rfl rfl <| ht_v (ov_move rfl) rfl <| ht_on rfl rfl <| ht_v (ov_move rfl) rfl <| ?_
   refine ht_on rfl rfl <| ht_v (ov_sub (m := ((i - 1 : Nat) : Int)) rfl rfl Z36) rfl ?_
   refine ht_on rfl rfl <| ht_v (ov_idxS rfl Z62 rfl _ rfl Z64) rfl <| ?_
   refine ht_on rfl rfl <| ht_v (ov_loadG (cs := statV y) rfl rfl hc2) rfl ?_
   refine ht_on rfl rfl <| ht_v (ov_move rfl) rfl <| ht_on rfl rfl <| ht_v (ov_move rfl) rfl <| ht_on rfl rfl <| ht_v (ov_idxS rfl Z62 rfl _ rfl Z64) rfl <| ?_
   refine ht_on rfl rfl <| ht_v (ov_loadG (cs := statV x) rfl rfl hc) rfl ?_
   refine ht_nil <| ?_
   refine hl_on rfl rfl <| hl_cv rfl (fun _ _ => Tryz.call119 _ _) rfl rfl (fun w1 => zun fun D' _ _ _ => byPlace_spec D' w1 y x) ?_
   refine hl_on rfl rfl <| zv (ov_geq rfl rfl) <| zv (ov_pickT rfl rfl) <| zn <| hc_cond rfl (fun hx => ?_) (fun hx => ?_)
   ·have hb := hbad (show ¬ byPl y x < 0 by have hx : 0 ≤ byPl y x := hx; omega)
    refine zg <| zs rfl <| zn <| zq <| hx_block_ret <| zr <| zr <| hx_block_ret <| zr <| ?_
    exact zz rfl rfl fun w' H' => ⟨bF hb, rfl, H'⟩
   have hn := hnext (show byPl y x < 0 by have hx : ¬ 0 ≤ byPl y x := hx; omega)
   refine hc_skip <| zb <| zt <| hc_region <| zv (ov_add rfl rfl Z28) <| ?_
   refine zm rfl <| hl_nil <| hx_next hK1 (i + 1) (⟨hlt, hn⟩) Z64 Z16 Z10
  refine ht_off rfl rfl rfl rfl rfl rfl <| ht_off rfl rfl rfl rfl rfl rfl <| ht_off rfl rfl rfl rfl rfl rfl <| ht_off rfl rfl rfl rfl rfl rfl <| ht_off rfl rfl rfl rfl rfl rfl <| ht_off rfl rfl rfl rfl rfl rfl <| ?_
  refine ht_off rfl rfl rfl rfl rfl rfl <| ht_off rfl rfl rfl rfl rfl rfl <| ht_off rfl rfl rfl rfl rfl rfl <| ht_off rfl rfl rfl rfl rfl rfl <| ht_nil <| zo rfl rfl <| ?_
  refine zo rfl rfl <| zv (ov_pickF rfl rfl) <| zn <| hc_cond_false rfl <| hc_skip <| zb <| zt <| hc_region <| zv (ov_add rfl rfl Z28) <| ?_
  refine zm rfl <| hl_nil <| hx_next hK1 (i + 1) (⟨hlt, fun j _ h1 h2 => by omega⟩) Z64 Z16 Z10
 refine hc_exit <| ze <| ze <| hx_block_out <| zt <| hc_seq <| hc_region <| zs rfl <| zn <| zq <| ?_
 exact zz rfl rfl fun w' H' => ⟨bT (fun j h h0 => hris j h Z64 h0), rfl, H'⟩
theorem ris_lt {l : List VlanC} (h : risP cV l) : ∀ (q p : Nat) (hq : q < p) (hp : p < l.length), (l[q]'(by omega)).1 < l[p].1 := fun q p hq hp => by
 induction p with
 | zero => omega
 | succ p ih =>
  have h1 := h (p + 1) hp Z64
  simp only [Nat.add_sub_cancel] at h1
  have h2 : (l[p]'(by omega)).1 < l[p + 1].1 := by
   unfold cV cmpI at h1
   split at h1
   ·assumption
   ·split at h1 <;> omega
  rcases Nat.lt_or_ge q p with h3 | h3
  ·have := ih h3 Z64; omega
  ·obtain rfl : q = p := by omega
   exact h2
def atP (l : List VlanC) (id : Int) (i : Nat) : Prop := i ≤ l.length ∧ (∀ q (h : q < l.length), q < i → l[q].1 < id) ∧ ∀ q (h : q < l.length), i ≤ q → id ≤ l[q].1
theorem cmpI_neg {a b : Int} : cmpI a b < 0 ↔ a < b := by
 unfold cmpI
 split
 ·simp; assumption
 split <;> omega
theorem cmpI_zero {a b : Int} : cmpI a b = 0 ↔ a = b := by
 unfold cmpI
 split
 ·omega
 split <;> omega
theorem shr1 (n : Nat) : ((n : Int)).fdiv (2 ^ (min (Int.toNat 1) 64)) = ((n / 2 : Nat) : Int) := by
 rw [Int.fdiv_eq_ediv_of_nonneg _ Z63]
 simp
theorem BSV_spec (D : Nat → Prop) (w : World) (v : Value) (l : List VlanC) (id : Int) (hl : l.length ≤ 1000000) (hr : risP cV l) (HA : Old D w (Rep.rep l [v])) :
  Calls Tryz.prog 151 #[v, .int .i64 id, .func (.func 152) #[] #[]] w fun e w' => ∃ b : { p : Nat × Bool // atP l id p.1 ∧ (p.2 = true ↔ ∃ h : p.1 < l.length, l[p.1].1 = id) }, e = .returned (.tuple #[.int .i64 b.1.1, .bool b.1.2]) ∧ Own D w w' [] := by
 obtain ⟨A, cap, rfl, hc1, hc2, HS, hok⟩ := HA.openF
 have HS : OldS D w A (l.flatMap vlanV) := HS
 have hlt' := ris_lt hr
 refine hc_enter (vs := [.slice A l.length cap, .int .i64 id, .func (.func 152) #[] #[]]) Tryz.func151 rfl _ Tryz.ntmps151 rfl (Own.start D w) ?_
 simp only [argSlots, Nat.zero_add]
 refine zg <| zs rfl <| zs rfl <| zn <| zg <| zm rfl <| zv Z25 <| ?_
 refine zs rfl <| zn <| zg <| zm rfl <| zs rfl <| zs rfl <| zn <| hc_seq <| hc_block <| hc_loops2 (σ := Nat × Nat) [0, 1, 2, 8] rfl 9 (fun s => .int .i64 (s.1 : Int)) 10 (fun s => .int .i64 (s.2 : Int)) (fun s => s.1 ≤ s.2 ∧ s.2 ≤ l.length ∧ (∀ q (h : q < l.length), q < s.1 → l[q].1 < id) ∧ (∀ q (h : q < l.length), s.2 ≤ q → id ≤ l[q].1)) (fun s => s.2 - s.1) ((0, l.length)) (⟨Nat.zero_le _, Nat.le_refl _, fun _ _ h => absurd h (Nat.not_lt_zero _), fun q h h2 => absurd h2 (by simpa using h)⟩) rfl rfl ?_
 rintro ⟨i, j⟩ hj_ K1 hK1
 dsimp only at hj_ ⊢
 obtain ⟨hij, hj, h1, h2⟩ := hj_
 refine hc_seq <| zg <| zm rfl <| zm rfl <| zv (ov_lss rfl rfl) <| zn <| hc_cond rfl (fun h => ?_) (fun h => ?_)
 ·have hlt : i < j := by omega
  obtain ⟨m, hm⟩ : ∃ m, (i + j) / 2 = m := ⟨_, rfl⟩
  have hmi : i ≤ m := by omega
  have hmj : m < j := by omega
  have hml : m < l.length := by omega
  obtain ⟨hA, hc⟩ := OldS.cells_flat (f := vlanV) (sz := 3) (fun _ => rfl) Z63 HS hml []
  have hlo : l[m].1 < id → ∀ q (h : q < l.length), q < m + 1 → l[q].1 < id := fun hx q hq h3 => by
   rcases Nat.lt_or_ge q m with h4 | h4
   ·have := hlt' q m h4 hml; omega
   ·obtain rfl : q = m := by omega
    exact hx
  have hhi : ¬ l[m].1 < id → ∀ q (h : q < l.length), m ≤ q → id ≤ l[q].1 := fun hx q hq h3 => by
   rcases Nat.lt_or_ge m q with h4 | h4
   ·have := hlt' m q h4 hq; omega
   ·obtain rfl : q = m := by omega
    omega
  generalize l[m] = x at *
  refine zk <| hc_block <| zg <| zm rfl <| zm rfl <| zv (ov_add rfl rfl Z28) <| ?_
  refine zv (ov_conv rfl Z29) <| ?_
  refine hl_v (ov_shr (m := (m : Int)) rfl rfl Z63 (by rw [← hm]; exact shr1 (i + j))) rfl ?_
  refine zv (ov_conv rfl Z28) <| ?_
  refine zs rfl <| zn <| zg <| zm rfl <| zm rfl <| zm rfl <| zv (ov_idxS rfl Z62 rfl _ rfl Z64) <| ?_
  refine hl_v (ov_loadG (cs := vlanV x) rfl rfl hc) rfl <| zm rfl <| hl_cv rfl (fun _ _ => Tryz.call152 _ _) rfl rfl (fun w1 => zun fun D' _ _ _ => find1_spec D' w1 x id) ?_
  refine zv (ov_lss rfl rfl) <| zn <| hc_cond rfl (fun hx => ?_) (fun hx => ?_)
  ·have hx' : x.1 < id := cmpI_neg.1 hx
   have hn := hlo hx'
   refine hc_region <| zm rfl <| zv (ov_add rfl rfl Z28) <| ?_
   refine zs rfl <| hl_nil <| zb <| hx_next hK1 ((m + 1, j)) (⟨hmj, hj, hn, h2⟩) (by show j - (m + 1) < j - i; omega) Z16 Z10
  have hx' : ¬ x.1 < id := fun h => hx (cmpI_neg.2 h)
  have hn := hhi hx'
  refine hc_region <| zm rfl <| zs rfl <| hl_nil <| zb <| hx_next hK1 ((i, m)) (⟨hmi, by omega, h1, hn⟩) (by show m - i < j - i; omega) Z16 Z10
 have hie : j = i := by omega
 subst hie
 have hat : atP l id j := ⟨hj, h1, h2⟩
 refine hc_exit <| ze <| ze <| hx_block_out <| zt <| hc_seq <| hc_region <| zm rfl <| zm rfl <| zm rfl <| zv (ov_lss rfl rfl) <| zm rfl <| hl_part (t := 39) rfl (fun hp => ?_) (fun hp => ?_)
 ·have hjl : j < l.length := by omega
  obtain ⟨hA, hc⟩ := OldS.cells_flat (f := vlanV) (sz := 3) (fun _ => rfl) Z63 HS hjl []
  have hres : ∀ b : Bool, (b = true ↔ l[j].1 = id) → (b = true ↔ ∃ h : j < l.length, l[j].1 = id) := fun b hb => ⟨fun h => ⟨hjl, hb.1 h⟩, fun ⟨_, h⟩ => hb.2 h⟩
  generalize l[j] = x at *
  refine hl_on rfl rfl <| zm rfl <| hl_on rfl rfl <| zm rfl <| hl_on rfl rfl <| zm rfl <| hl_on rfl rfl <| zv (ov_idxS rfl Z62 rfl _ rfl Z64) <| ?_
  refine hl_on rfl rfl <| hl_v (ov_loadG (cs := vlanV x) rfl rfl hc) rfl <| hl_on rfl rfl <| zm rfl <| hl_on rfl rfl <| hl_cv rfl (fun _ _ => Tryz.call152 _ _) rfl rfl (fun w1 => zun fun D' _ _ _ => find1_spec D' w1 x id) ?_
  refine hl_on rfl rfl <| zv (ov_eql rfl rfl) <| zv (ov_pickT rfl rfl) <| zs rfl <| zs rfl <| zn <| zq <| ?_
  exact results_2 (.inr rfl) rfl rfl rfl fun w' H' => ⟨⟨(j, decide (cmpI x.1 id = 0)), hat, hres _ (by rw [decide_eq_true_iff, cmpI_zero])⟩, rfl, H'⟩
 refine zo rfl rfl <| zo rfl rfl <| zo rfl rfl <| zo rfl rfl <| zo rfl rfl <| zo rfl rfl <| zo rfl rfl <| zo rfl rfl <| zv (ov_pickF rfl rfl) <| zs rfl <| zs rfl <| hl_nil <| zt <| zq <| ?_
 exact results_2 (.inr rfl) rfl rfl rfl fun w' H' => ⟨⟨(j, false), hat, by simp only [Bool.false_eq_true, false_iff]; rintro ⟨h, _⟩; omega⟩, rfl, H'⟩
theorem find_spec (D : Nat → Prop) (w : World) (v : Value) (l : List VlanC) (id : Int) (hl : l.length ≤ 1000000) (hr : risP cV l) (HA : Old D w (Rep.rep l [v])) :
  Calls Tryz.prog 130 #[v, .int .i64 id] w fun e w' => ∃ b : { p : Nat × Bool // atP l id p.1 ∧ (p.2 = true ↔ ∃ h : p.1 < l.length, l[p.1].1 = id) }, e = .returned (.tuple #[.int .i64 b.1.1, .bool b.1.2]) ∧ Own D w w' [] := by
 refine hc_enter (vs := [v, .int .i64 id]) Tryz.func130 rfl _ Tryz.ntmps130 rfl (Own.start D w) ?_
 simp only [argSlots, Nat.zero_add]
 refine zg <| zs rfl <| zs rfl <| zn <| zg <| zm rfl <| zm rfl <| hl_call (σ := { p : Nat × Bool // atP l id p.1 ∧ (p.2 = true ↔ ∃ h : p.1 < l.length, l[p.1].1 = id) }) Tryz.call151 rfl rfl (fun w1 => zu fun D' hold _ _ => BSV_spec D' w1 v l id hl hr (hold _ HA)) ?_
 intro b
 try rw [List.nil_append]
 refine zx rfl rfl <| zx rfl rfl <| zs rfl <| zs rfl <| zn <| zq <| ?_
 exact results_2 (.inr rfl) rfl rfl rfl fun w' H' => ⟨b, rfl, H'⟩
end Go.Proofs.YtjlolpmmpafjeaaGreat

set_option linter.unusedVariables false
set_option linter.unusedSimpArgs false
namespace Go.Proofs.YtjlolpmmpafjeaaGreat
open Slk
abbrev cfgV (c : ConfC) (vp vv vs : Value) : List Value := [.int .i64 c.1, .int .i64 c.2.1, .int .i64 c.2.2.1, vp, vv, vs]
structure ConfOld (D : Nat → Prop) (w : World) (c : ConfC) (vp vv vs : Value) : Prop where
 i1 : inI64 c.1
 i2 : inI64 c.2.1
 i3 : inI64 c.2.2.1
 p : Old D w (Rep.rep c.2.2.2.1 [vp])
 v : Old D w (Rep.rep c.2.2.2.2.1 [vv])
 s : Old D w (Rep.rep c.2.2.2.2.2 [vs])
 lp : c.2.2.2.1.length ≤ 1000
 lv : c.2.2.2.2.1.length ≤ 1000
 ls : c.2.2.2.2.2.length ≤ 1000
theorem ConfOld.hold {D D' : Nat → Prop} {w w' : World} {c : ConfC} {vp vv vs : Value} (h : ConfOld D w c vp vv vs) (hold : ∀ A, Old D w A → Old D' w' A) : ConfOld D' w' c vp vv vs :=
 ⟨h.i1, h.i2, h.i3, hold _ h.p, hold _ h.v, hold _ h.s, h.lp, h.lv, h.ls⟩
def timesP (c : ConfC) : Prop := 0 ≤ c.1 ∧ c.1 ≤ 61440 ∧ c.1 % 4096 = 0 ∧ 6 ≤ c.2.1 ∧ c.2.1 ≤ 40 ∧ 4 ≤ c.2.2.1 ∧ c.2.2.1 ≤ 30 ∧ c.2.1 ≤ 2 * (c.2.2.1 - 1)
theorem times_spec (D : Nat → Prop) (w : World) (c : ConfC) (vp vv vs : Value) (H : ConfOld D w c vp vv vs) :
  Calls Tryz.prog 115 #[.agg (cfgV c vp vv vs).toArray] w fun e w' => ∃ b : BIff (timesP c), e = .returned (.bool b.1) ∧ Own D w w' [] := by
 obtain ⟨i1, i2, i3, _, _, _, _, _, _⟩ := H
 unfold inI64 at i1 i2 i3
 refine hc_enter (vs := [.agg (cfgV c vp vv vs).toArray]) Tryz.func115 rfl _ Tryz.ntmps115 rfl (Own.start D w) ?_
 simp only [argSlots, Nat.zero_add]
 refine zg <| hl_new (on_boxN rfl rfl) rfl rfl rfl fun b1 =>  ?_
 refine zs rfl <| zn <| zg <| zf rfl <| ?_
 refine zl rfl rfl <| zv (ov_geq rfl rfl) <| zm rfl <| hl_part (t := 6) rfl (fun h1 => ?_) (fun h1 => ?_)
 ·refine hl_on rfl rfl <| zf rfl <| hl_on rfl rfl <| zl rfl rfl <| hl_on rfl rfl <| zv (ov_leq rfl rfl) <| zv (ov_pickT rfl rfl) <| zm rfl <| ?_
  refine hl_part (t := 11) rfl (fun h2 => ?_) (fun h2 => ?_)
  ·refine hl_on rfl rfl <| zf rfl <| hl_on rfl rfl <| zl rfl rfl <| ?_
   refine hl_on rfl rfl <| hl_v (ov_rem (m := c.1 % 4096) rfl rfl Z63 (Int.tmod_eq_emod_of_nonneg Z64)) rfl ?_
   refine hl_on rfl rfl <| zv (ov_eql rfl rfl) <| zv (ov_pickT rfl rfl) <| zm rfl <| hl_part (t := 17) rfl (fun h3 => ?_) (fun h3 => ?_)
   ·refine hl_on rfl rfl <| zf rfl <| hl_on rfl rfl <| zl rfl rfl <| hl_on rfl rfl <| zv (ov_geq rfl rfl) <| zv (ov_pickT rfl rfl) <| zm rfl <| ?_
    refine hl_part (t := 22) rfl (fun h4 => ?_) (fun h4 => ?_)
    ·refine hl_on rfl rfl <| zf rfl <| hl_on rfl rfl <| zl rfl rfl <| hl_on rfl rfl <| zv (ov_leq rfl rfl) <| zv (ov_pickT rfl rfl) <| zm rfl <| ?_
     refine hl_part (t := 27) rfl (fun h5 => ?_) (fun h5 => ?_)
     ·refine hl_on rfl rfl <| zf rfl <| hl_on rfl rfl <| zl rfl rfl <| hl_on rfl rfl <| zv (ov_geq rfl rfl) <| zv (ov_pickT rfl rfl) <| zm rfl <| ?_
      refine hl_part (t := 32) rfl (fun h6 => ?_) (fun h6 => ?_)
      ·refine hl_on rfl rfl <| zf rfl <| hl_on rfl rfl <| zl rfl rfl <| hl_on rfl rfl <| zv (ov_leq rfl rfl) <| zv (ov_pickT rfl rfl) <| zm rfl <| ?_
       refine hl_part (t := 37) rfl (fun h7 => ?_) (fun h7 => ?_)
       ·refine hl_on rfl rfl <| zf rfl <| hl_on rfl rfl <| zl rfl rfl <| ?_
        refine hl_on rfl rfl <| hl_v (ov_sub (m := c.2.2.1 - 1) rfl rfl Z45) rfl ?_
        refine hl_on rfl rfl <| hl_v (ov_mul (m := 2 * (c.2.2.1 - 1)) rfl rfl Z45) rfl ?_
        refine hl_on rfl rfl <| zf rfl <| hl_on rfl rfl <| zl rfl rfl <| hl_on rfl rfl <| zv (ov_geq rfl rfl) <| zv (ov_pickT rfl rfl) <| zs rfl <| hl_nil <| ?_
        refine zt <| zq <| ?_
        exact zz rfl rfl fun w' H' => ⟨⟨decide (c.2.1 ≤ 2 * (c.2.2.1 - 1)), by rw [decide_eq_true_iff]; exact ⟨fun h => ⟨by omega, by omega, h3, by omega, by omega, by omega, by omega, h⟩, fun h => h.2.2.2.2.2.2.2⟩⟩, rfl, H'.ent (Ent.nil _)⟩
       have hno : ¬ timesP c := fun h => h7 h.2.2.2.2.2.2.1
       refine zo rfl rfl <| zo rfl rfl <| zo rfl rfl <| zo rfl rfl <| zo rfl rfl <| zo rfl rfl <| zo rfl rfl <| zv (ov_pickF rfl rfl) <| zs rfl <| zn <| zq <| ?_
       exact zz rfl rfl fun w' H' => ⟨bF hno, rfl, H'.ent (Ent.nil _)⟩
      have hno : ¬ timesP c := fun h => h6 h.2.2.2.2.2.1
      refine zo rfl rfl <| zo rfl rfl <| zo rfl rfl <| zv (ov_pickF rfl rfl) <| zm rfl <| zo rfl rfl <| zo rfl rfl <| zo rfl rfl <| zo rfl rfl <| zo rfl rfl <| zo rfl rfl <| zo rfl rfl <| zv (ov_pickF rfl rfl) <| zs rfl <| zn <| zq <| ?_
      exact zz rfl rfl fun w' H' => ⟨bF hno, rfl, H'.ent (Ent.nil _)⟩
     have hno : ¬ timesP c := fun h => h5 h.2.2.2.2.1
     refine zo rfl rfl <| zo rfl rfl <| zo rfl rfl <| zv (ov_pickF rfl rfl) <| zm rfl <| zo rfl rfl <| zo rfl rfl <| zo rfl rfl <| zv (ov_pickF rfl rfl) <| zm rfl <| zo rfl rfl <| zo rfl rfl <| zo rfl rfl <| zo rfl rfl <| zo rfl rfl <| zo rfl rfl <| zo rfl rfl <| zv (ov_pickF rfl rfl) <| zs rfl <| zn <| zq <| ?_
     exact zz rfl rfl fun w' H' => ⟨bF hno, rfl, H'.ent (Ent.nil _)⟩
    have hno : ¬ timesP c := fun h => h4 h.2.2.2.1
    refine zo rfl rfl <| zo rfl rfl <| zo rfl rfl <| zv (ov_pickF rfl rfl) <| zm rfl <| zo rfl rfl <| zo rfl rfl <| zo rfl rfl <| zv (ov_pickF rfl rfl) <| zm rfl <| zo rfl rfl <| zo rfl rfl <| zo rfl rfl <| zv (ov_pickF rfl rfl) <| zm rfl <| zo rfl rfl <| zo rfl rfl <| zo rfl rfl <| zo rfl rfl <| zo rfl rfl <| zo rfl rfl <| zo rfl rfl <| zv (ov_pickF rfl rfl) <| zs rfl <| zn <| zq <| ?_
    exact zz rfl rfl fun w' H' => ⟨bF hno, rfl, H'.ent (Ent.nil _)⟩
   have hno : ¬ timesP c := fun h => h3 h.2.2.1
   refine zo rfl rfl <| zo rfl rfl <| zo rfl rfl <| zv (ov_pickF rfl rfl) <| zm rfl <| zo rfl rfl <| zo rfl rfl <| zo rfl rfl <| zv (ov_pickF rfl rfl) <| zm rfl <| zo rfl rfl <| zo rfl rfl <| zo rfl rfl <| zv (ov_pickF rfl rfl) <| zm rfl <| zo rfl rfl <| zo rfl rfl <| zo rfl rfl <| zv (ov_pickF rfl rfl) <| zm rfl <| zo rfl rfl <| zo rfl rfl <| zo rfl rfl <| zo rfl rfl <| zo rfl rfl <| zo rfl rfl <| zo rfl rfl <| zv (ov_pickF rfl rfl) <| zs rfl <| hl_nil <| zt <| zq <| ?_
   exact zz rfl rfl fun w' H' => ⟨bF hno, rfl, H'.ent (Ent.nil _)⟩
  have hno : ¬ timesP c := fun h => h2 h.2.1
  refine zo rfl rfl <| zo rfl rfl <| zo rfl rfl <| zo rfl rfl <| zv (ov_pickF rfl rfl) <| zm rfl <| zo rfl rfl <| zo rfl rfl <| zo rfl rfl <| zv (ov_pickF rfl rfl) <| zm rfl <| zo rfl rfl <| zo rfl rfl <| zo rfl rfl <| zv (ov_pickF rfl rfl) <| zm rfl <| zo rfl rfl <| zo rfl rfl <| zo rfl rfl <| zv (ov_pickF rfl rfl) <| zm rfl <| zo rfl rfl <| zo rfl rfl <| zo rfl rfl <| zv (ov_pickF rfl rfl) <| zm rfl <| zo rfl rfl <| zo rfl rfl <| zo rfl rfl <| zo rfl rfl <| zo rfl rfl <| zo rfl rfl <| zo rfl rfl <| zv (ov_pickF rfl rfl) <| zs rfl <| hl_nil <| zt <| zq <| ?_
  exact zz rfl rfl fun w' H' => ⟨bF hno, rfl, H'.ent (Ent.nil _)⟩
 have hno : ¬ timesP c := fun h => h1 h.1
 refine zo rfl rfl <| zo rfl rfl <| zo rfl rfl <| zv (ov_pickF rfl rfl) <| zm rfl <| zo rfl rfl <| zo rfl rfl <| zo rfl rfl <| zo rfl rfl <| zv (ov_pickF rfl rfl) <| zm rfl <| zo rfl rfl <| zo rfl rfl <| zo rfl rfl <| zv (ov_pickF rfl rfl) <| zm rfl <| zo rfl rfl <| zo rfl rfl <| zo rfl rfl <| zv (ov_pickF rfl rfl) <| zm rfl <| zo rfl rfl <| zo rfl rfl <| zo rfl rfl <| zv (ov_pickF rfl rfl) <| zm rfl <| zo rfl rfl <| zo rfl rfl <| zo rfl rfl <| zv (ov_pickF rfl rfl) <| zm rfl <| zo rfl rfl <| zo rfl rfl <| zo rfl rfl <| zo rfl rfl <| zo rfl rfl <| ?_
 refine zo rfl rfl <| zo rfl rfl <| zv (ov_pickF rfl rfl) <| zs rfl <| zn <| zq <| ?_
 exact zz rfl rfl fun w' H' => ⟨bF hno, rfl, H'.ent (Ent.nil _)⟩
theorem ov_andNot_u8 {P : Program} {D : Nat → Prop} {w0 : World} {env : Slots} {l : List HProp} {dst : Option Tmp} {ty : TypeId} {pos : String} {after : Array Edge} {g : Option (Nat × Bool)} {x y : Operand} {t t' : TypeId} {a b : UInt8} (hx : evalO env x = some (.int .u8 (a.toNat : Int))) (hy : evalO env y = some (.int .u8 (b.toNat : Int))) : OpVal P D w0 env l ⟨dst, .binOp .andNot t x y t', ty, pos, after, g⟩ (.int .u8 ((a &&& ~~~b).toNat : Int)) := ov_andNot hx hy (by
 have e (c : UInt8) : BitVec.ofInt 8 (c.toNat : Int) = c.toBitVec := by
  apply BitVec.eq_of_toNat_eq
  rw [BitVec.ofInt_natCast, BitVec.toNat_ofNat]
  exact Nat.mod_eq_of_lt c.toNat_lt
 have e3 : (BitVec.ofInt 8 (a.toNat : Int) &&& ~~~ BitVec.ofInt 8 (b.toNat : Int)).toNat = (a &&& ~~~b).toNat := by rw [e a, e b]; rfl
 have := (a &&& ~~~b).toNat_lt
 show IntKind.u8.wrap (((BitVec.ofInt 8 (a.toNat : Int) &&& ~~~ BitVec.ofInt 8 (b.toNat : Int)).toNat : Nat) : Int) = _
 rw [e3]
 exact wrap_u8 ⟨by omega, by omega⟩)
theorem shrN (x n : Nat) : ((x : Int)).fdiv (2 ^ (min ((n : Int)).toNat 64)) = ((x / 2 ^ (min n 64) : Nat) : Int) := by
 rw [Int.fdiv_eq_ediv_of_nonneg _ (Int.le_of_lt (Int.pow_pos Z63))]
 simp
theorem shr_small (x n : Nat) (h : x < 256) : x / 2 ^ (min n 64) = 0 ↔ x < 2 ^ n := by
 rw [Nat.div_eq_zero_iff_lt (Nat.pow_pos Z63)]
 rcases Nat.le_total n 64 with h1 | h1
 ·rw [Nat.min_eq_left h1]
 rw [Nat.min_eq_right h1]
 have h2 : 2 ^ 64 ≤ 2 ^ n := Nat.pow_le_pow_right Z63 h1
 have h3 : (2 : Nat) ^ 64 = 18446744073709551616 := by decide
 constructor <;> intro _ <;> omega
def vlanOk (n : Nat) (v : VlanC) : Prop := 1 ≤ v.1 ∧ v.1 ≤ 4094 ∧ v.2.1.toNat < 2 ^ n ∧ v.2.2 &&& ~~~ v.2.1 = 0
def vlansP (c : ConfC) : Prop := 1 ≤ c.2.2.2.2.1.length ∧ c.2.2.2.2.1.length ≤ 16 ∧ (∀ i (h : i < c.2.2.2.2.1.length), vlanOk c.2.2.2.1.length c.2.2.2.2.1[i]) ∧ risP cV c.2.2.2.2.1
theorem vlans_spec (D : Nat → Prop) (w : World) (c : ConfC) (vp vv vs : Value) (H : ConfOld D w c vp vv vs) :
  Calls Tryz.prog 116 #[.agg (cfgV c vp vv vs).toArray] w fun e w' => ∃ b : BIff (vlansP c), e = .returned (.bool b.1) ∧ Own D w w' [] := by
 obtain ⟨Ap, capp, rfl, _, _, HSp, _⟩ := H.p.openF
 have HV := H.v
 have hlv := H.lv
 obtain ⟨Av, capv, rfl, hv1, hv2, HSv, hvok⟩ := H.v.openF
 have HSv : OldS D w Av (c.2.2.2.2.1.flatMap vlanV) := HSv
 obtain ⟨np, hnp⟩ : ∃ n, c.2.2.2.1.length = n := ⟨_, rfl⟩
 obtain ⟨l, hll⟩ : ∃ l, c.2.2.2.2.1 = l := ⟨_, rfl⟩
 have hP : vlansP c ↔ 1 ≤ l.length ∧ l.length ≤ 16 ∧ (∀ i (h : i < l.length), vlanOk np l[i]) ∧ risP cV l := by
  subst hnp; subst hll; exact Iff.rfl
 rw [hll] at HV hlv hv1 HSv ⊢
 rw [hnp]
 refine hc_enter (vs := [.agg (cfgV c (.slice Ap np capp) (.slice Av l.length capv) vs).toArray]) Tryz.func116 rfl _ Tryz.ntmps116 rfl (Own.start D w) ?_
 simp only [argSlots, Nat.zero_add]
 refine zg <| hl_new (on_boxN rfl rfl) rfl rfl rfl fun b1 =>  ?_
 refine zs rfl <| zn <| hc_seq <| zg <| zf rfl <| zl rfl rfl <| zv Z25 <| ?_
 refine zv (ov_lss rfl rfl) <| zm rfl <| hl_part (t := 9) rfl (fun h1 => ?_) (fun h1 => ?_)
 ·have hno : ¬ vlansP c := fun h => by have := (hP.1 h).1; omega
  refine zo rfl rfl <| zo rfl rfl <| zo rfl rfl <| zo rfl rfl <| zv (ov_pickT rfl rfl) <| hl_nil <| zt <| hc_cond_true rfl <| zg <| zs rfl <| hl_nil <| zt <| zq <| zr <| ?_
  exact zz rfl rfl fun w' H' => ⟨bF hno, rfl, H'.ent (Ent.nil _)⟩
 refine hl_on rfl rfl <| zf rfl <| hl_on rfl rfl <| zl rfl rfl <| hl_on rfl rfl <| zv Z25 <| ?_
 refine hl_on rfl rfl <| zv (ov_gtr rfl rfl) <| zv (ov_pickF rfl rfl) <| zn <| hc_cond rfl (fun h2 => ?_) (fun h2 => ?_)
 ·have hno : ¬ vlansP c := fun h => by have := (hP.1 h).2.1; omega
  refine zg <| zs rfl <| zn <| zq <| zr <| ?_
  exact zz rfl rfl fun w' H' => ⟨bF hno, rfl, H'.ent (Ent.nil _)⟩
 refine zk <| hc_seq <| zg <| zf rfl <| ?_
 refine zl rfl rfl <| zv Z25 <| ?_
 refine zm rfl <| zn <| hc_block <| hc_loops1 (σ := Nat) [1, 16, 17] rfl 18 (fun i => .int .i64 (i : Int)) (fun i => i ≤ l.length ∧ ∀ j (h : j < l.length), j < i → vlanOk np l[j]) (fun i => l.length - i) (0) (⟨Nat.zero_le _, fun j _ h => absurd h (Nat.not_lt_zero _)⟩) rfl ?_
 rintro i ⟨hi, hall⟩ K1 hK1
 refine zg <| zv (ov_lss rfl rfl) <| zn <| hc_seq <| hc_cond rfl (fun h => ?_) (fun h => ?_)
 ·have hlt : i < l.length := by omega
  have hc := OldS.cells_flat (D := D) (w0 := w) (f := vlanV) (sz := 3) (fun _ => rfl) Z63 HSv hlt
  have hA := (hc []).1
  have hbad : ¬ vlanOk np l[i] → ¬ vlansP c := fun hx h => hx ((hP.1 h).2.2.1 i hlt)
  have hnext : vlanOk np l[i] → ∀ j (h : j < l.length), j < i + 1 → vlanOk np l[j] := fun hx j hj h1 => by
   rcases Nat.lt_or_ge j i with h3 | h3
   ·exact hall j hj h3
   ·obtain rfl : j = i := by omega
    exact hx
  generalize l[i] = x at *
  have hb1 := x.2.1.toNat_lt
  refine zk <| hc_seq <| hc_block <| zg <| zv (ov_idxS rfl Z62 rfl _ rfl Z64) <| ?_
  refine hl_v (ov_loadG (cs := vlanV x) rfl rfl (hc _).2) rfl <| hl_new (on_alloc) rfl rfl rfl fun b4 =>  ?_
  refine hl_u0 (on_storeW (vs := vlanV x) rfl rfl (by simp) (by simp) Z44) rfl rfl ?_
  refine zn <| zg <| zf rfl <| zl rfl rfl <| ?_
  refine zv (ov_lss rfl rfl) <| zm rfl <| hl_part (t := 25) rfl (fun a1 => ?_) (fun a1 => ?_)
  ·have hno := hbad fun h => by have := h.1; omega
   refine zo rfl rfl <| zo rfl rfl <| zo rfl rfl <| zv (ov_pickT rfl rfl) <| zm rfl <| zo rfl rfl <| zo rfl rfl <| zo rfl rfl <| zo rfl rfl <| zo rfl rfl <| zo rfl rfl <| zo rfl rfl <| zo rfl rfl <| zv (ov_pickT rfl rfl) <| zm rfl <| zo rfl rfl <| zo rfl rfl <| zo rfl rfl <| zo rfl rfl <| zo rfl rfl <| zo rfl rfl <| zv (ov_pickT rfl rfl) <| zn <| hc_cond_true rfl <| zg <| zs rfl <| zn <| zq <| hx_block_ret <| zr <| zr <| hx_block_ret <| zr <| ?_
   exact zz rfl rfl fun w' H' => ⟨bF hno, rfl, H'.ent (Ent.nil _)⟩
  refine hl_on rfl rfl <| zf rfl <| hl_on rfl rfl <| zl rfl rfl <| hl_on rfl rfl <| zv (ov_gtr rfl rfl) <| zv (ov_pickF rfl rfl) <| zm rfl <| ?_
  refine hl_part (t := 30) rfl (fun a2 => ?_) (fun a2 => ?_)
  ·have hno := hbad fun h => by have := h.2.1; omega
   refine zo rfl rfl <| zo rfl rfl <| zo rfl rfl <| zo rfl rfl <| zo rfl rfl <| zo rfl rfl <| zo rfl rfl <| zo rfl rfl <| zv (ov_pickT rfl rfl) <| zm rfl <| zo rfl rfl <| zo rfl rfl <| zo rfl rfl <| zo rfl rfl <| zo rfl rfl <| zo rfl rfl <| zv (ov_pickT rfl rfl) <| hl_nil <| zt <| hc_cond_true rfl <| zg <| zs rfl <| hl_nil <| zt <| zq <| hx_block_ret <| zr <| zr <| hx_block_ret <| zr <| ?_
   exact zz rfl rfl fun w' H' => ⟨bF hno, rfl, H'.ent (Ent.nil _)⟩
  refine hl_on rfl rfl <| zf rfl <| hl_on rfl rfl <| zl rfl rfl <| hl_on rfl rfl <| zv (ov_conv rfl Z28) <| ?_
  refine hl_on rfl rfl <| zf rfl <| hl_on rfl rfl <| zl rfl rfl <| hl_on rfl rfl <| zv Z25 <| ?_
  refine hl_on rfl rfl <| hl_v (ov_shr (m := ((x.2.1.toNat / 2 ^ (min np 64) : Nat) : Int)) rfl rfl Z64 (shrN _ _)) rfl ?_
  refine hl_on rfl rfl <| zv (ov_neq rfl rfl) <| zv (ov_pickF rfl rfl) <| zm rfl <| hl_part (t := 40) rfl (fun a3 => ?_) (fun a3 => ?_)
  ·have hno := hbad fun h => a3 (by have := (shr_small x.2.1.toNat np hb1).2 h.2.2.1; omega)
   refine zo rfl rfl <| zo rfl rfl <| zo rfl rfl <| zo rfl rfl <| zo rfl rfl <| zo rfl rfl <| zv (ov_pickT rfl rfl) <| zn <| hc_cond_true rfl <| zg <| zs rfl <| zn <| zq <| hx_block_ret <| zr <| zr <| hx_block_ret <| zr <| ?_
   exact zz rfl rfl fun w' H' => ⟨bF hno, rfl, H'.ent (Ent.nil _)⟩
  have h3 : x.2.1.toNat < 2 ^ np := (shr_small x.2.1.toNat np hb1).1 (by have := Classical.not_not.1 a3; omega)
  refine hl_on rfl rfl <| zf rfl <| hl_on rfl rfl <| zl rfl rfl <| hl_on rfl rfl <| zf rfl <| hl_on rfl rfl <| zl rfl rfl <| ?_
  refine hl_on rfl rfl <| hl_v (ov_andNot_u8 (a := x.2.2) (b := x.2.1) rfl rfl) rfl <| hl_on rfl rfl <| zv (ov_neq rfl rfl) <| zv (ov_pickF rfl rfl) <| zn <| hc_cond rfl (fun a4 => ?_) (fun a4 => ?_)
  ·have hno := hbad fun h => a4 (by rw [h.2.2.2]; rfl)
   refine zg <| zs rfl <| zn <| zq <| hx_block_ret <| zr <| zr <| hx_block_ret <| zr <| ?_
   exact zz rfl rfl fun w' H' => ⟨bF hno, rfl, H'.ent (Ent.nil _)⟩
  have h4 : x.2.2 &&& ~~~ x.2.1 = 0 := UInt8.toNat_inj.1 (by have := Classical.not_not.1 a4; simp only [UInt8.toNat_zero]; omega)
  have hn := hnext ⟨by omega, by omega, h3, h4⟩
  refine hc_skip <| zb <| zt <| hc_region <| zv (ov_add rfl rfl Z28) <| ?_
  refine zm rfl <| hl_nil <| hx_next hK1 (i + 1) (⟨hlt, hn⟩) Z64 Z16 Z10
 have hall' : ∀ i (h : i < l.length), vlanOk np l[i] := fun j hj => hall j hj Z64
 refine hc_exit <| ze <| ze <| hx_block_out <| zt <| hc_seq <| hc_region <| zf rfl <| zl rfl rfl <| ?_
 refine hl_call (σ := BIff (risP cV l)) Tryz.call144 rfl rfl (fun w1 => zu fun D' hold _ _ => risV_spec D' w1 _ l Z64 (hold _ HV)) ?_
 intro b
 try rw [List.nil_append]
 refine zs rfl <| zn <| zq <| ?_
 exact zz rfl rfl fun w' H' => ⟨⟨b.1, by rw [b.2, hP]; exact ⟨fun h => ⟨by omega, by omega, hall', h⟩, fun h => h.2.2.2⟩⟩, rfl, H'.ent (Ent.nil _)⟩
end Go.Proofs.YtjlolpmmpafjeaaGreat

set_option linter.unusedVariables false
set_option linter.unusedSimpArgs false
namespace Go.Proofs.YtjlolpmmpafjeaaGreat
open Slk
theorem find_iff {l : List VlanC} {id : Int} {p : Nat} (hr : risP cV l) (h : atP l id p) : (∃ i, ∃ h : i < l.length, l[i].1 = id) ↔ ∃ h : p < l.length, l[p].1 = id := by
 constructor
 ·rintro ⟨i, hi, e⟩
  obtain ⟨h1, h2, h3⟩ := h
  rcases Nat.lt_trichotomy i p with hlt | he | hgt
  ·have := h2 i hi hlt; omega
  ·subst he; exact ⟨hi, e⟩
  have h4 := ris_lt hr p i hgt hi
  have h5 := h3 p Z64 (Nat.le_refl _)
  omega
 rintro ⟨h, e⟩; exact ⟨p, h, e⟩
def portOk (l : List VlanC) (p : PortC) : Prop := (∃ i, ∃ h : i < l.length, l[i].1 = p.2.2) ∧ 1 ≤ p.2.1.toNat ∧ p.2.1.toNat ≤ 200000000
def portsP (c : ConfC) : Prop := 1 ≤ c.2.2.2.1.length ∧ c.2.2.2.1.length ≤ 8 ∧ ∀ i (h : i < c.2.2.2.1.length), portOk c.2.2.2.2.1 c.2.2.2.1[i]
abbrev FindT (l : List VlanC) (id : Int) := { p : Nat × Bool // atP l id p.1 ∧ (p.2 = true ↔ ∃ h : p.1 < l.length, l[p.1].1 = id) }
theorem ports_spec (D : Nat → Prop) (w : World) (c : ConfC) (vp vv vs : Value) (H : ConfOld D w c vp vv vs) (hr : risP cV c.2.2.2.2.1) :
  Calls Tryz.prog 117 #[.agg (cfgV c vp vv vs).toArray] w fun e w' => ∃ b : BIff (portsP c), e = .returned (.bool b.1) ∧ Own D w w' [] := by
 have HV := H.v
 have hlv := H.lv
 have hlp := H.lp
 obtain ⟨Ap, capp, rfl, hp1, hp2, HSp, hpok⟩ := H.p.openF
 have HSp : OldS D w Ap (c.2.2.2.1.flatMap portV) := HSp
 obtain ⟨q, hq⟩ : ∃ q, c.2.2.2.1 = q := ⟨_, rfl⟩
 obtain ⟨l, hll⟩ : ∃ l, c.2.2.2.2.1 = l := ⟨_, rfl⟩
 have hP : portsP c ↔ 1 ≤ q.length ∧ q.length ≤ 8 ∧ ∀ i (h : i < q.length), portOk l q[i] := by
  subst hq; subst hll; exact Iff.rfl
 rw [hll] at HV hlv hr
 rw [hq] at HSp hlp hp1 ⊢
 refine hc_enter (vs := [.agg (cfgV c (.slice Ap q.length capp) vv vs).toArray]) Tryz.func117 rfl _ Tryz.ntmps117 rfl (Own.start D w) ?_
 simp only [argSlots, Nat.zero_add]
 refine zg <| hl_new (on_boxN rfl rfl) rfl rfl rfl fun b1 =>  ?_
 refine zs rfl <| zn <| hc_seq <| zg <| zf rfl <| zl rfl rfl <| zv Z25 <| ?_
 refine zm rfl <| zn <| hc_block <| hc_loops1 (σ := Nat) [1, 8, 9] rfl 10 (fun i => .int .i64 (i : Int)) (fun i => i ≤ q.length ∧ ∀ j (h : j < q.length), j < i → portOk l q[j]) (fun i => q.length - i) (0) (⟨Nat.zero_le _, fun j _ h => absurd h (Nat.not_lt_zero _)⟩) rfl ?_
 rintro i ⟨hi, hall⟩ K1 hK1
 refine zg <| zv (ov_lss rfl rfl) <| zn <| hc_seq <| hc_cond rfl (fun h => ?_) (fun h => ?_)
 ·have hlt : i < q.length := by omega
  have hc := OldS.cells_flat (D := D) (w0 := w) (f := portV) (sz := 3) (fun _ => rfl) Z63 HSp hlt
  have hA := (hc []).1
  have hbad : ¬ portOk l q[i] → ¬ portsP c := fun hx h => hx ((hP.1 h).2.2 i hlt)
  have hnext : portOk l q[i] → ∀ j (h : j < q.length), j < i + 1 → portOk l q[j] := fun hx j hj h1 => by
   rcases Nat.lt_or_ge j i with h3 | h3
   ·exact hall j hj h3
   ·obtain rfl : j = i := by omega
    exact hx
  generalize q[i] = x at *
  refine zk <| hc_seq <| hc_block <| zg <| zv (ov_idxS rfl Z62 rfl _ rfl Z64) <| ?_
  refine hl_v (ov_loadG (cs := portV x) rfl rfl (hc _).2) rfl <| hl_new (on_alloc) rfl rfl rfl fun b4 =>  ?_
  refine hl_u0 (on_storeW (vs := portV x) rfl rfl (by simp) (by simp) Z49) rfl rfl ?_
  refine zn <| zg <| zf rfl <| zl rfl rfl <| ?_
  refine zf rfl <| zl rfl rfl <| ?_
  refine hl_call (σ := FindT l x.2.2) Tryz.call130 rfl rfl (fun w1 => zu fun D' hold _ _ => find_spec D' w1 _ l x.2.2 Z64 hr (hold _ HV)) ?_
  intro f
  try rw [List.nil_append]
  obtain ⟨⟨pf, ok⟩, hat, hokf⟩ := f
  have hfi := find_iff hr hat
  have hokf : ok = true ↔ ∃ i, ∃ h : i < l.length, l[i].1 = x.2.2 := hokf.trans hfi.symm
  dsimp only
  refine zm rfl <| zx rfl rfl <| zx rfl rfl <| zs rfl <| zs rfl <| hl_nil <| zt <| zg <| zm rfl <| zv Z26 <| ?_
  refine zm rfl <| hl_partb (t := 24) rfl (fun a1 => ?_) (fun a1 => ?_)
  ·have hno := hbad fun h => by have := hokf.2 h.1; rw [this] at a1; cases a1
   refine zo rfl rfl <| zo rfl rfl <| zo rfl rfl <| zv (ov_pickT rfl rfl) <| zm rfl <| zo rfl rfl <| zo rfl rfl <| zo rfl rfl <| zv (ov_pickT rfl rfl) <| zn <| hc_cond_true rfl <| zg <| zs rfl <| zn <| zq <| hx_block_ret <| zr <| zr <| hx_block_ret <| zr <| ?_
   exact zz rfl rfl fun w' H' => ⟨bF hno, rfl, H'.ent (Ent.nil _)⟩
  have hok1 : ok = true := by simpa using a1
  refine hl_on rfl rfl <| zf rfl <| hl_on rfl rfl <| zl rfl rfl <| hl_on rfl rfl <| zv (ov_lss rfl rfl) <| zv (ov_pickF rfl rfl) <| zm rfl <| ?_
  refine hl_part (t := 29) rfl (fun a2 => ?_) (fun a2 => ?_)
  ·have hno := hbad fun h => by have := h.2.1; omega
   refine zo rfl rfl <| zo rfl rfl <| zo rfl rfl <| zv (ov_pickT rfl rfl) <| zn <| hc_cond_true rfl <| zg <| zs rfl <| zn <| zq <| hx_block_ret <| zr <| zr <| hx_block_ret <| zr <| ?_
   exact zz rfl rfl fun w' H' => ⟨bF hno, rfl, H'.ent (Ent.nil _)⟩
  refine hl_on rfl rfl <| zf rfl <| hl_on rfl rfl <| zl rfl rfl <| hl_on rfl rfl <| zv (ov_gtr rfl rfl) <| zv (ov_pickF rfl rfl) <| zn <| ?_
  refine hc_cond rfl (fun a3 => ?_) (fun a3 => ?_)
  ·have hno := hbad fun h => by have := h.2.2; omega
   refine zg <| zs rfl <| zn <| zq <| hx_block_ret <| zr <| zr <| hx_block_ret <| zr <| ?_
   exact zz rfl rfl fun w' H' => ⟨bF hno, rfl, H'.ent (Ent.nil _)⟩
  have hn := hnext ⟨hokf.1 hok1, by omega, by omega⟩
  refine hc_skip <| zb <| zt <| hc_region <| zv (ov_add rfl rfl Z28) <| ?_
  refine zm rfl <| hl_nil <| hx_next hK1 (i + 1) (⟨hlt, hn⟩) Z64 Z16 Z10
 have hall' : ∀ i (h : i < q.length), portOk l q[i] := fun j hj => hall j hj Z64
 refine hc_exit <| ze <| ze <| hx_block_out <| zt <| hc_seq <| hc_region <| zf rfl <| zl rfl rfl <| zv Z25 <| ?_
 refine zv (ov_geq rfl rfl) <| zm rfl <| hl_part (t := 39) rfl (fun b1 => ?_) (fun b1 => ?_)
 ·refine hl_on rfl rfl <| zf rfl <| hl_on rfl rfl <| zl rfl rfl <| hl_on rfl rfl <| zv Z25 <| ?_
  refine hl_on rfl rfl <| zv (ov_leq rfl rfl) <| zv (ov_pickT rfl rfl) <| zs rfl <| zn <| zq <| ?_
  exact zz rfl rfl fun w' H' => ⟨⟨decide ((q.length : Int) ≤ 8), by rw [decide_eq_true_iff, hP]; exact ⟨fun h => ⟨by omega, by omega, hall'⟩, fun h => by have := h.2.1; omega⟩⟩, rfl, H'.ent (Ent.nil _)⟩
 have hno : ¬ portsP c := fun h => by have := (hP.1 h).1; omega
 refine zo rfl rfl <| zo rfl rfl <| zo rfl rfl <| zo rfl rfl <| zv (ov_pickF rfl rfl) <| zs rfl <| zn <| zq <| ?_
 exact zz rfl rfl fun w' H' => ⟨bF hno, rfl, H'.ent (Ent.nil _)⟩
end Go.Proofs.YtjlolpmmpafjeaaGreat

set_option linter.unusedVariables false
set_option linter.unusedSimpArgs false
namespace Go.Proofs.YtjlolpmmpafjeaaGreat
open Slk
section
variable {P : Program} {D : Nat → Prop} {w0 : World} {env : Slots} {l : List HProp} {dst : Option Tmp} {ty : TypeId} {pos : String} {after : Array Edge} {g : Option (Nat × Bool)} {x y : Operand} {t t' : TypeId}
theorem ov_and1_u64 {m : Nat} (hm : m < 18446744073709551616) (hx : evalO env x = some (.int .u64 (m : Int))) (hy : evalO env y = some (.int .u64 1)) : OpVal P D w0 env l ⟨dst, .binOp .and t x y t', ty, pos, after, g⟩ (.int .u64 ((m % 2 : Nat) : Int)) := ov_and hx hy (by
 have e : (BitVec.ofInt 64 (m : Int) &&& BitVec.ofInt 64 (1 : Int)).toNat = m % 2 := by
  rw [BitVec.toNat_and, BitVec.ofInt_natCast, BitVec.toNat_ofNat, Nat.mod_eq_of_lt hm]
  exact Nat.and_one_is_mod m
 show IntKind.u64.wrap (((BitVec.ofInt 64 (m : Int) &&& BitVec.ofInt 64 (1 : Int)).toNat : Nat) : Int) = _
 rw [e]
 exact wrap_u64 ⟨by omega, by omega⟩)
theorem ov_and1_u8 {m : Nat} (hm : m < 256) (hx : evalO env x = some (.int .u8 (m : Int))) (hy : evalO env y = some (.int .u8 1)) : OpVal P D w0 env l ⟨dst, .binOp .and t x y t', ty, pos, after, g⟩ (.int .u8 ((m % 2 : Nat) : Int)) := ov_and hx hy (by
 have e : (BitVec.ofInt 8 (m : Int) &&& BitVec.ofInt 8 (1 : Int)).toNat = m % 2 := by
  rw [BitVec.toNat_and, BitVec.ofInt_natCast, BitVec.toNat_ofNat, Nat.mod_eq_of_lt hm]
  exact Nat.and_one_is_mod m
 show IntKind.u8.wrap (((BitVec.ofInt 8 (m : Int) &&& BitVec.ofInt 8 (1 : Int)).toNat : Nat) : Int) = _
 rw [e]
 exact wrap_u8 ⟨by omega, by omega⟩)
end
theorem shrK (x k : Nat) (j : Int) (b : Nat) (hk : min j.toNat b = k) : ((x : Int)).fdiv (2 ^ (min j.toNat b)) = ((x / 2 ^ k : Nat) : Int) := by
 rw [hk, Int.fdiv_eq_ediv_of_nonneg _ (Int.le_of_lt (Int.pow_pos Z63))]
 simp
def statOk (np : Nat) (l : List VlanC) (s : StatC) : Prop := s.1.toNat ≠ 0 ∧ s.1.toNat / 2 ^ 48 = 0 ∧ s.1.toNat / 2 ^ 40 % 2 = 0 ∧ 0 ≤ s.2.2 ∧ s.2.2 < np ∧ ∃ i, ∃ h : i < l.length, l[i].1 = s.2.1 ∧ l[i].2.1.toNat / 2 ^ (min s.2.2.toNat 8) % 2 ≠ 0
theorem static_spec (D : Nat → Prop) (w : World) (c : ConfC) (x : StatC) (vp vv vs : Value) (H : ConfOld D w c vp vv vs) (hr : risP cV c.2.2.2.2.1) :
  Calls Tryz.prog 122 #[.agg (cfgV c vp vv vs).toArray, .agg (statV x).toArray] w fun e w' => ∃ b : BIff (statOk c.2.2.2.1.length c.2.2.2.2.1 x), e = .returned (.bool b.1) ∧ Own D w w' [] := by
 have HV := H.v
 have hlv := H.lv
 obtain ⟨Ap, capp, rfl, hp1, hp2, HSp, hpok⟩ := H.p.openF
 obtain ⟨Av, capv, rfl, hv1, hv2, HSv, hvok⟩ := H.v.openF
 have HSv : OldS D w Av (c.2.2.2.2.1.flatMap vlanV) := HSv
 obtain ⟨np, hnp⟩ : ∃ n, c.2.2.2.1.length = n := ⟨_, rfl⟩
 obtain ⟨l, hll⟩ : ∃ l, c.2.2.2.2.1 = l := ⟨_, rfl⟩
 rw [hll] at HV hlv hr HSv hv1 ⊢
 rw [hnp]
 have hmac := x.1.toNat_lt
 refine hc_enter (vs := [.agg (cfgV c (.slice Ap np capp) (.slice Av l.length capv) vs).toArray, .agg (statV x).toArray]) Tryz.func122 rfl _ Tryz.ntmps122 rfl (Own.start D w) ?_
 simp only [argSlots, Nat.zero_add]
 refine zg <| hl_new (on_boxN rfl rfl) rfl rfl rfl fun b2 =>  ?_
 refine hl_new (on_boxN rfl rfl) rfl rfl rfl fun b3 =>  ?_
 refine zs rfl <| zn <| zg <| zf rfl <| ?_
 refine zl rfl rfl <| zf rfl <| zl rfl rfl <| ?_
 refine hl_call (σ := FindT l x.2.1) Tryz.call130 rfl rfl (fun w1 => zu fun D' hold _ _ => find_spec D' w1 _ l x.2.1 Z64 hr (hold _ HV)) ?_
 intro f
 try rw [List.nil_append]
 obtain ⟨⟨pf, ok⟩, hat, hokf⟩ := f
 have hfi := find_iff hr hat
 have hokf' : ok = true ↔ ∃ i, ∃ h : i < l.length, l[i].1 = x.2.1 := hokf.trans hfi.symm
 dsimp only
 refine zm rfl <| zx rfl rfl <| zx rfl rfl <| zs rfl <| zs rfl <| hl_nil <| zt <| hc_seq <| zg <| zm rfl <| zv Z26 <| ?_
 refine zm rfl <| hl_partb (t := 17) rfl (fun a1 => ?_) (fun a1 => ?_)
 ·have hno : ¬ statOk np l x := fun h => by
   obtain ⟨_, _, _, _, _, i, hi, h1, _⟩ := h
   have := hokf'.2 ⟨i, hi, h1⟩
   rw [this] at a1; cases a1
  refine zo rfl rfl <| zo rfl rfl <| zo rfl rfl <| zv (ov_pickT rfl rfl) <| zm rfl <| zo rfl rfl <| zo rfl rfl <| zo rfl rfl <| zo rfl rfl <| zv (ov_pickT rfl rfl) <| zm rfl <| zo rfl rfl <| zo rfl rfl <| zo rfl rfl <| zo rfl rfl <| zo rfl rfl <| zv (ov_pickT rfl rfl) <| hl_nil <| zt <| hc_cond_true rfl <| zg <| zs rfl <| hl_nil <| zt <| zq <| zr <| ?_
  exact zz rfl rfl fun w' H' => ⟨bF hno, rfl, H'.ent (Ent.nil _)⟩
 have hok1 : ok = true := by simpa using a1
 obtain ⟨hpl, hpe⟩ := hokf.1 hok1
 have hpl : pf < l.length := hpl
 have hpe : l[pf].1 = x.2.1 := hpe
 refine hl_on rfl rfl <| zf rfl <| hl_on rfl rfl <| zl rfl rfl <| hl_on rfl rfl <| zv (ov_eql rfl rfl) <| zv (ov_pickF rfl rfl) <| zm rfl <| ?_
 refine hl_part (t := 22) rfl (fun a2 => ?_) (fun a2 => ?_)
 ·have hno : ¬ statOk np l x := fun h => h.1 Z64
  refine zo rfl rfl <| zo rfl rfl <| zo rfl rfl <| zo rfl rfl <| zv (ov_pickT rfl rfl) <| zm rfl <| zo rfl rfl <| zo rfl rfl <| zo rfl rfl <| zo rfl rfl <| zo rfl rfl <| zv (ov_pickT rfl rfl) <| zn <| hc_cond_true rfl <| zg <| zs rfl <| zn <| zq <| zr <| ?_
  exact zz rfl rfl fun w' H' => ⟨bF hno, rfl, H'.ent (Ent.nil _)⟩
 refine hl_on rfl rfl <| zf rfl <| hl_on rfl rfl <| zl rfl rfl <| ?_
 refine hl_on rfl rfl <| hl_v (ov_shr (m := ((x.1.toNat / 2 ^ 48 : Nat) : Int)) rfl rfl Z63 (shrK _ 48 _ _ rfl)) rfl ?_
 refine hl_on rfl rfl <| zv (ov_neq rfl rfl) <| zv (ov_pickF rfl rfl) <| zm rfl <| hl_part (t := 28) rfl (fun a3 => ?_) (fun a3 => ?_)
 ·have hno : ¬ statOk np l x := fun h => a3 (by have := h.2.1; omega)
  refine zo rfl rfl <| zo rfl rfl <| zo rfl rfl <| zo rfl rfl <| zo rfl rfl <| zv (ov_pickT rfl rfl) <| zn <| hc_cond_true rfl <| zg <| zs rfl <| zn <| zq <| zr <| ?_
  exact zz rfl rfl fun w' H' => ⟨bF hno, rfl, H'.ent (Ent.nil _)⟩
 have h3 : x.1.toNat / 2 ^ 48 = 0 := by have := Classical.not_not.1 a3; omega
 refine hl_on rfl rfl <| zf rfl <| hl_on rfl rfl <| zl rfl rfl <| ?_
 refine hl_on rfl rfl <| hl_v (ov_shr (m := ((x.1.toNat / 2 ^ 40 : Nat) : Int)) rfl rfl Z63 (shrK _ 40 _ _ rfl)) rfl ?_
 refine hl_on rfl rfl <| hl_v (ov_and1_u64 Z64 rfl rfl) rfl ?_
 refine hl_on rfl rfl <| zv (ov_neq rfl rfl) <| zv (ov_pickF rfl rfl) <| zn <| hc_cond rfl (fun a4 => ?_) (fun a4 => ?_)
 ·have hno : ¬ statOk np l x := fun h => a4 (by have := h.2.2.1; omega)
  refine zg <| zs rfl <| zn <| zq <| zr <| ?_
  exact zz rfl rfl fun w' H' => ⟨bF hno, rfl, H'.ent (Ent.nil _)⟩
 have h4 : x.1.toNat / 2 ^ 40 % 2 = 0 := by have := Classical.not_not.1 a4; omega
 refine zk <| hc_seq <| hc_quiet mixed Z61 <| hq_v (ov_fieldA rfl) rfl <| hq_v (zw rfl rfl) rfl <| ?_
 refine hq_v (ov_geq rfl rfl) rfl <| hq_v (ov_move rfl) rfl <| ?_
 refine hq_part (t := 38) rfl (fun p1 => ?_) (fun p1 => ?_)
 ·refine hq_on rfl rfl <| hq_v (ov_fieldA rfl) rfl <| hq_on rfl rfl <| hq_v (zw rfl rfl) rfl <| hq_on rfl rfl <| hq_v (ov_fieldA rfl) rfl <| hq_on rfl rfl <| hq_v (zw rfl rfl) rfl <| hq_on rfl rfl <| hq_v Z25 rfl <| ?_
  refine hq_on rfl rfl <| hq_v (ov_lss rfl rfl) rfl <| hq_v (ov_pickT rfl rfl) rfl <| hq_v (ov_move rfl) rfl <| ?_
  refine hq_part (t := 46) rfl (fun p2 => ?_) (fun p2 => ?_)
  ·obtain ⟨hA, hc⟩ := OldS.cells_flat (D := D) (w0 := w) (f := vlanV) (sz := 3) (fun _ => rfl) Z63 HSv hpl [blk b3 149 (statV x), blk b2 49 (cfgV c (.slice Ap np capp) (.slice Av l.length capv) vs)]
   have hcell : CellIs D w [blk b3 149 (statV x), blk b2 49 (cfgV c (.slice Ap np capp) (.slice Av l.length capv) vs)] (ab Av) (ao Av + pf * 3 + 1) (.int .u8 (l[pf].2.1.toNat : Int)) := hc.cell (i := 1) rfl
   have hfin : (l[pf].2.1.toNat / 2 ^ (min x.2.2.toNat 8) % 2 ≠ 0) ↔ statOk np l x := by
    constructor
    ·intro h; exact ⟨by omega, h3, h4, p1, p2, pf, hpl, hpe, h⟩
    ·rintro ⟨_, _, _, _, _, i, hi, h1, h2⟩
     have hip : i = pf := by
      rcases Nat.lt_trichotomy i pf with h | h | h
      ·have := ris_lt hr i pf h hpl; omega
      ·exact h
      ·have := ris_lt hr pf i h hi; omega
     subst hip
     exact h2
   have hb := l[pf].2.1.toNat_lt
   generalize l[pf].2.1.toNat = mb at *
   refine hq_on rfl rfl <| hq_v (ov_fieldA rfl) rfl <| hq_on rfl rfl <| hq_v (zw rfl rfl) rfl <| hq_on rfl rfl <| hq_v (ov_move rfl) rfl <| hq_on rfl rfl <| hq_v (ov_idxS rfl Z62 rfl _ rfl Z64) rfl <| hq_on rfl rfl <| hq_v (ov_fieldA rfl) rfl <| ?_
   refine hq_on rfl rfl <| hq_v (ov_load rfl hcell) rfl ?_
   refine hq_on rfl rfl <| hq_v (ov_fieldA rfl) rfl <| hq_on rfl rfl <| hq_v (zw rfl rfl) rfl <| ?_
   refine hq_on rfl rfl <| hq_v (ov_shr (m := ((mb / 2 ^ (min x.2.2.toNat 8) : Nat) : Int)) rfl rfl p1 (shrK _ _ _ _ rfl)) rfl ?_
   refine hq_on rfl rfl <| hq_v (ov_and1_u8 (Nat.lt_of_le_of_lt (Nat.div_le_self _ _) hb) rfl rfl) rfl ?_
   refine hq_on rfl rfl <| hq_v (ov_neq rfl rfl) rfl <| hq_v (ov_pickT rfl rfl) rfl <| hq_v (ov_assign rfl) rfl <| hq_nil <| zt <| zq <| ?_
   exact zz rfl rfl fun w' H' => ⟨⟨decide (¬ (((mb / 2 ^ (min x.2.2.toNat 8) % 2 : Nat) : Int) = 0)), by rw [decide_eq_true_iff, ← hfin]; omega⟩, rfl, H'.ent (Ent.nil _)⟩
  have hno : ¬ statOk np l x := fun h => p2 h.2.2.2.2.1
  refine hq_off rfl rfl rfl rfl rfl rfl <| hq_off rfl rfl rfl rfl rfl rfl <| hq_off rfl rfl rfl rfl rfl rfl <| hq_off rfl rfl rfl rfl rfl rfl <| hq_off rfl rfl rfl rfl rfl rfl <| hq_off rfl rfl rfl rfl rfl rfl <| ?_
  refine hq_off rfl rfl rfl rfl rfl rfl <| hq_off rfl rfl rfl rfl rfl rfl <| hq_off rfl rfl rfl rfl rfl rfl <| hq_off rfl rfl rfl rfl rfl rfl <| hq_off rfl rfl rfl rfl rfl rfl <| hq_v (ov_pickF rfl rfl) rfl <| ?_
  refine hq_v (ov_assign rfl) rfl <| hq_nil <| zt <| zq <| ?_
  exact zz rfl rfl fun w' H' => ⟨bF hno, rfl, H'.ent (Ent.nil _)⟩
 have hno : ¬ statOk np l x := fun h => p1 h.2.2.2.1
 refine hq_off rfl rfl rfl rfl rfl rfl <| hq_off rfl rfl rfl rfl rfl rfl <| hq_off rfl rfl rfl rfl rfl rfl <| hq_off rfl rfl rfl rfl rfl rfl <| hq_off rfl rfl rfl rfl rfl rfl <| hq_off rfl rfl rfl rfl rfl rfl <| ?_
 refine hq_v (ov_pickF rfl rfl) rfl <| hq_v (ov_move rfl) rfl <| hq_off rfl rfl rfl rfl rfl rfl <| hq_off rfl rfl rfl rfl rfl rfl <| hq_off rfl rfl rfl rfl rfl rfl <| hq_off rfl rfl rfl rfl rfl rfl <| ?_
 refine hq_off rfl rfl rfl rfl rfl rfl <| hq_off rfl rfl rfl rfl rfl rfl <| hq_off rfl rfl rfl rfl rfl rfl <| hq_off rfl rfl rfl rfl rfl rfl <| hq_off rfl rfl rfl rfl rfl rfl <| hq_off rfl rfl rfl rfl rfl rfl <| ?_
 refine hq_off rfl rfl rfl rfl rfl rfl <| hq_v (ov_pickF rfl rfl) rfl <| hq_v (ov_assign rfl) rfl <| hq_nil <| zt <| zq <| ?_
 exact zz rfl rfl fun w' H' => ⟨bF hno, rfl, H'.ent (Ent.nil _)⟩
end Go.Proofs.YtjlolpmmpafjeaaGreat

set_option linter.unusedVariables false
set_option linter.unusedSimpArgs false
namespace Go.Proofs.YtjlolpmmpafjeaaGreat
open Slk
theorem Good1_spec (D : Nat → Prop) (w : World) (b : Nat) (c : ConfC) (x : StatC) (vp vv vs : Value) (HB : Old D w (rdA (some ⟨b, 0, none⟩) (cfgV c vp vv vs))) (H : ConfOld D w c vp vv vs) (hr : risP cV c.2.2.2.2.1) :
  Calls Tryz.prog 121 #[.agg (statV x).toArray, .pointer (some ⟨b, 0, none⟩)] w fun e w' => ∃ r : BIff (¬ statOk c.2.2.2.1.length c.2.2.2.2.1 x), e = .returned (.bool r.1) ∧ Own D w w' [] := by
 have hcb : ∀ l, CellsAre D w l b 0 (cfgV c vp vv vs) := fun l => (SrcIs.old (l := l) (OldS.of_old HB)).cells (by simp)
 refine hc_enter (vs := [.agg (statV x).toArray, .pointer (some ⟨b, 0, none⟩)]) Tryz.func121 rfl _ Tryz.ntmps121 rfl (Own.start D w) ?_
 simp only [argSlots, Nat.zero_add]
 refine zg <| hl_new (on_boxN rfl rfl) rfl rfl rfl fun b2 =>  ?_
 refine zs rfl <| zn <| zg <| hl_v (ov_loadG (cs := cfgV c vp vv vs) rfl rfl (hcb _)) rfl <| zv Z17 <| ?_
 refine hl_call (σ := BIff (statOk c.2.2.2.1.length c.2.2.2.2.1 x)) Tryz.call122 rfl rfl (fun w1 => zu fun D' hold _ _ => static_spec D' w1 c x vp vv vs (H.hold hold) hr) ?_
 intro r
 try rw [List.nil_append]
 refine zv Z26 <| ?_
 refine zs rfl <| zn <| zq <| ?_
 exact zz rfl rfl fun w' H' => ⟨⟨!r.1, by have := r.2; cases h : r.1 <;> simp_all⟩, rfl, H'.ent (Ent.nil _)⟩
def badAt (c : ConfC) (i : Nat) : Prop := ∃ h : i < c.2.2.2.2.2.length, ¬ statOk c.2.2.2.1.length c.2.2.2.2.1 c.2.2.2.2.2[i]
theorem IdxS_spec (D : Nat → Prop) (w : World) (b : Nat) (c : ConfC) (vp vv vs : Value) (HB : Old D w (rdA (some ⟨b, 0, none⟩) (cfgV c vp vv vs))) (H : ConfOld D w c vp vv vs) (hr : risP cV c.2.2.2.2.1) :
  Calls Tryz.prog 149 #[vs, .func (.func 121) #[] #[.pointer (some ⟨b, 0, none⟩)]] w fun e w' => ∃ r : { r : Int // 0 ≤ r ↔ ∃ i, badAt c i }, e = .returned (.int .i64 r.1) ∧ Own D w w' [] := by
 have H0 := H
 have hls := H.ls
 obtain ⟨As, caps, hvs, hs1, hs2, HSs, hsok⟩ := H.s.openF
 have HSs : OldS D w As (c.2.2.2.2.2.flatMap statV) := HSs
 obtain ⟨l, hll⟩ : ∃ l, c.2.2.2.2.2 = l := ⟨_, rfl⟩
 have hbd : ∀ i, badAt c i ↔ ∃ h : i < l.length, ¬ statOk c.2.2.2.1.length c.2.2.2.2.1 l[i] := fun i => by subst hll; exact Iff.rfl
 rw [hll] at HSs hvs hls hs1
 subst hvs
 refine hc_enter (vs := [.slice As l.length caps, .func (.func 121) #[] #[.pointer (some ⟨b, 0, none⟩)]]) Tryz.func149 rfl _ Tryz.ntmps149 rfl (Own.start D w) ?_
 simp only [argSlots, Nat.zero_add]
 refine zg <| zs rfl <| zn <| hc_seq <| zg <| zm rfl <| zv Z25 <| ?_
 refine zm rfl <| zn <| hc_block <| hc_loops1 (σ := Nat) [0, 1, 7] rfl 8 (fun i => .int .i64 (i : Int)) (fun i => i ≤ l.length ∧ ∀ j, j < i → ¬ badAt c j) (fun i => l.length - i) (0) (⟨Nat.zero_le _, fun j h => absurd h (Nat.not_lt_zero _)⟩) rfl ?_
 rintro i ⟨hi, hall⟩ K1 hK1
 refine zg <| zv (ov_lss rfl rfl) <| zn <| hc_seq <| hc_cond rfl (fun h => ?_) (fun h => ?_)
 ·have hlt : i < l.length := by omega
  obtain ⟨hA, hc⟩ := OldS.cells_flat (D := D) (w0 := w) (f := statV) (sz := 3) (fun _ => rfl) Z63 HSs hlt []
  have hbi : badAt c i ↔ ¬ statOk c.2.2.2.1.length c.2.2.2.2.1 l[i] := (hbd i).trans ⟨fun ⟨_, h⟩ => h, fun h => ⟨hlt, h⟩⟩
  generalize l[i] = x at *
  refine zk <| hc_seq <| hc_block <| zg <| zm rfl <| zs rfl <| zn <| zg <| zm rfl <| zm rfl <| zm rfl <| zv (ov_idxS rfl Z62 rfl _ rfl Z64) <| ?_
  refine hl_v (ov_loadG (cs := statV x) rfl rfl hc) rfl <| hl_callv (σ := BIff (¬ statOk c.2.2.2.1.length c.2.2.2.2.1 x)) rfl (fun _ _ => Tryz.call121 _ _) rfl rfl (fun w1 => zu fun D' hold _ _ => Good1_spec D' w1 b c x vp vv _ (hold _ HB) (H0.hold hold) hr) ?_
  intro r
  try rw [List.nil_append]
  refine zn <| hc_cond_bool rfl (fun hb => ?_) (fun hb => ?_)
  ·have hbad := hbi.2 (r.2.1 hb)
   refine zg <| zm rfl <| zs rfl <| zn <| zq <| hx_block_ret <| zr <| zr <| hx_block_ret <| zr <| ?_
   exact zz rfl rfl fun w' H' => ⟨⟨i, ⟨fun _ => ⟨i, hbad⟩, fun _ => by omega⟩⟩, rfl, H'⟩
  have hok : ¬ badAt c i := fun h => by have := r.2.2 (hbi.1 h); rw [this] at hb; cases hb
  have hn : ∀ j, j < i + 1 → ¬ badAt c j := fun j hj => by
   rcases Nat.lt_or_ge j i with h3 | h3
   ·exact hall j h3
   ·obtain rfl : j = i := by omega
    exact hok
  refine hc_skip <| zb <| zt <| hc_region <| zv (ov_add rfl rfl Z28) <| ?_
  refine zm rfl <| hl_nil <| hx_next hK1 (i + 1) (⟨hlt, hn⟩) Z64 Z16 Z10
 refine hc_exit <| ze <| ze <| hx_block_out <| zt <| hc_seq <| hc_region <| zs rfl <| zn <| zq <| ?_
 exact zz rfl rfl fun w' H' => ⟨⟨-1, ⟨fun h => by omega, fun ⟨j, hj⟩ => absurd hj (hall j (by obtain ⟨hj2, _⟩ := (hbd j).1 hj; omega))⟩⟩, rfl, H'⟩
theorem HasS_spec (D : Nat → Prop) (w : World) (b : Nat) (c : ConfC) (vp vv vs : Value) (HB : Old D w (rdA (some ⟨b, 0, none⟩) (cfgV c vp vv vs))) (H : ConfOld D w c vp vv vs) (hr : risP cV c.2.2.2.2.1) :
  Calls Tryz.prog 120 #[vs, .func (.func 121) #[] #[.pointer (some ⟨b, 0, none⟩)]] w fun e w' => ∃ r : BIff (∃ i, badAt c i), e = .returned (.bool r.1) ∧ Own D w w' [] := by
 refine hc_enter (vs := [vs, .func (.func 121) #[] #[.pointer (some ⟨b, 0, none⟩)]]) Tryz.func120 rfl _ Tryz.ntmps120 rfl (Own.start D w) ?_
 simp only [argSlots, Nat.zero_add]
 refine zg <| zs rfl <| zn <| hc_seq <| hc_region <| zm rfl <| zm rfl <| hl_call (σ := { r : Int // 0 ≤ r ↔ ∃ i, badAt c i }) Tryz.call149 rfl rfl (fun w1 => zu fun D' hold _ _ => IdxS_spec D' w1 b c vp vv vs (hold _ HB) (H.hold hold) hr) ?_
 intro r
 try rw [List.nil_append]
 refine zv (ov_geq rfl rfl) <| zs rfl <| zn <| zq <| ?_
 exact zz rfl rfl fun w' H' => ⟨⟨decide (0 ≤ r.1), by rw [decide_eq_true_iff]; exact r.2⟩, rfl, H'⟩
def goodP (c : ConfC) : Prop := timesP c ∧ vlansP c ∧ portsP c ∧ c.2.2.2.2.2.length ≤ 16 ∧ risP byPl c.2.2.2.2.2 ∧ ∀ i (h : i < c.2.2.2.2.2.length), statOk c.2.2.2.1.length c.2.2.2.2.1 c.2.2.2.2.2[i]
theorem Good_spec (D : Nat → Prop) (w : World) (c : ConfC) (vp vv vs : Value) (H : ConfOld D w c vp vv vs) :
  Calls Tryz.prog 77 #[.agg (cfgV c vp vv vs).toArray] w fun e w' => ∃ b : BIff (goodP c), e = .returned (.bool b.1) ∧ Own D w w' [] := by
 have hls := H.ls
 obtain ⟨As, caps, hvs, hs1, hs2, HSs, hsok⟩ := H.s.openF
 refine hc_enter (vs := [.agg (cfgV c vp vv vs).toArray]) Tryz.func77 rfl _ Tryz.ntmps77 rfl (Own.start D w) ?_
 simp only [argSlots, Nat.zero_add]
 refine zg <| hl_new (on_boxN rfl rfl) rfl rfl rfl fun b1 =>  ?_
 refine zs rfl <| zn <| hc_seq <| zg <| zv Z17 <| ?_
 refine hl_call (σ := BIff (timesP c)) Tryz.call115 rfl rfl (fun w1 => zu fun D' hold _ _ => times_spec D' w1 c vp vv vs (H.hold hold)) ?_
 intro r1
 try rw [List.nil_append]
 refine zv Z26 <| ?_
 refine zm rfl <| hl_partb (t := 6) rfl (fun a1 => ?_) (fun a1 => ?_)
 ·have hno : ¬ goodP c := fun h => by have := r1.2.2 h.1; rw [this] at a1; cases a1
  refine zo rfl rfl <| zo rfl rfl <| zo rfl rfl <| zv (ov_pickT rfl rfl) <| zm rfl <| zo rfl rfl <| zo rfl rfl <| zo rfl rfl <| zv (ov_pickT rfl rfl) <| zm rfl <| zo rfl rfl <| zo rfl rfl <| zo rfl rfl <| zo rfl rfl <| zv (ov_pickT rfl rfl) <| zm rfl <| zo rfl rfl <| zo rfl rfl <| zo rfl rfl <| zo rfl rfl <| zv (ov_pickT rfl rfl) <| zn <| hc_cond_true rfl <| zg <| zs rfl <| zn <| zq <| zr <| ?_
  exact zz rfl rfl fun w' H' => ⟨bF hno, rfl, H'.ent (Ent.nil _)⟩
 have g1 : timesP c := r1.2.1 (by simpa using a1)
 refine hl_on rfl rfl <| zv Z17 <| ?_
 refine hl_on rfl rfl <| hl_call (σ := BIff (vlansP c)) Tryz.call116 rfl rfl (fun w1 => zu fun D' hold _ _ => vlans_spec D' w1 c vp vv vs (H.hold hold)) ?_
 intro r2
 try rw [List.nil_append]
 refine hl_on rfl rfl <| zv Z26 <| ?_
 refine zv (ov_pickF rfl rfl) <| zm rfl <| hl_partb (t := 11) rfl (fun a2 => ?_) (fun a2 => ?_)
 ·have hno : ¬ goodP c := fun h => by have := r2.2.2 h.2.1; rw [this] at a2; cases a2
  refine zo rfl rfl <| zo rfl rfl <| zo rfl rfl <| zv (ov_pickT rfl rfl) <| zm rfl <| zo rfl rfl <| zo rfl rfl <| zo rfl rfl <| zo rfl rfl <| zv (ov_pickT rfl rfl) <| zm rfl <| zo rfl rfl <| zo rfl rfl <| zo rfl rfl <| zo rfl rfl <| zv (ov_pickT rfl rfl) <| zn <| hc_cond_true rfl <| zg <| zs rfl <| zn <| zq <| zr <| ?_
  exact zz rfl rfl fun w' H' => ⟨bF hno, rfl, H'.ent (Ent.nil _)⟩
 have g2 : vlansP c := r2.2.1 (by simpa using a2)
 have hr := g2.2.2.2
 refine hl_on rfl rfl <| zv Z17 <| ?_
 refine hl_on rfl rfl <| hl_call (σ := BIff (portsP c)) Tryz.call117 rfl rfl (fun w1 => zu fun D' hold _ _ => ports_spec D' w1 c vp vv vs (H.hold hold) hr) ?_
 intro r3
 try rw [List.nil_append]
 refine hl_on rfl rfl <| zv Z26 <| ?_
 refine zv (ov_pickF rfl rfl) <| zm rfl <| hl_partb (t := 16) rfl (fun a3 => ?_) (fun a3 => ?_)
 ·have hno : ¬ goodP c := fun h => by have := r3.2.2 h.2.2.1; rw [this] at a3; cases a3
  refine zo rfl rfl <| zo rfl rfl <| zo rfl rfl <| zo rfl rfl <| zv (ov_pickT rfl rfl) <| zm rfl <| zo rfl rfl <| zo rfl rfl <| zo rfl rfl <| zo rfl rfl <| zv (ov_pickT rfl rfl) <| hl_nil <| zt <| hc_cond_true rfl <| zg <| zs rfl <| hl_nil <| zt <| zq <| zr <| ?_
  exact zz rfl rfl fun w' H' => ⟨bF hno, rfl, H'.ent (Ent.nil _)⟩
 have g3 : portsP c := r3.2.1 (by simpa using a3)
 subst hvs
 refine hl_on rfl rfl <| zf rfl <| hl_on rfl rfl <| zl rfl rfl <| hl_on rfl rfl <| zv Z25 <| ?_
 refine hl_on rfl rfl <| zv (ov_gtr rfl rfl) <| zv (ov_pickF rfl rfl) <| zm rfl <| hl_part (t := 22) rfl (fun a4 => ?_) (fun a4 => ?_)
 ·have hno : ¬ goodP c := fun h => by have := h.2.2.2.1; omega
  refine zo rfl rfl <| zo rfl rfl <| zo rfl rfl <| zo rfl rfl <| zv (ov_pickT rfl rfl) <| hl_nil <| zt <| hc_cond_true rfl <| zg <| zs rfl <| hl_nil <| zt <| zq <| zr <| ?_
  exact zz rfl rfl fun w' H' => ⟨bF hno, rfl, H'.ent (Ent.nil _)⟩
 refine hl_on rfl rfl <| zf rfl <| hl_on rfl rfl <| zl rfl rfl <| ?_
 refine hl_on rfl rfl <| hl_call (σ := BIff (risP byPl c.2.2.2.2.2)) Tryz.call118 rfl rfl (fun w1 => zu fun D' hold _ _ => risS_spec D' w1 _ c.2.2.2.2.2 Z64 (hold _ H.s)) ?_
 intro r5
 try rw [List.nil_append]
 refine hl_on rfl rfl <| zv Z26 <| ?_
 refine zv (ov_pickF rfl rfl) <| zn <| hc_cond_bool rfl (fun a5 => ?_) (fun a5 => ?_)
 ·have hno : ¬ goodP c := fun h => by have := r5.2.2 h.2.2.2.2.1; rw [this] at a5; cases a5
  refine zg <| zs rfl <| zn <| zq <| zr <| ?_
  exact zz rfl rfl fun w' H' => ⟨bF hno, rfl, H'.ent (Ent.nil _)⟩
 have g5 : risP byPl c.2.2.2.2.2 := r5.2.1 (by simpa using a5)
 refine zk <| zg <| zf rfl <| zl rfl rfl <| ?_
 refine zv (ov_func rfl rfl) <| ?_
 refine hl_call (σ := BIff (∃ i, badAt c i)) Tryz.call120 rfl rfl (fun w1 => zu fun D' hold hin _ => HasS_spec D' w1 b1 c vp vv _ (hin _ fun h hs ho => stars_rdB (b := b1) hs) (H.hold hold) hr) ?_
 intro r6
 try rw [List.nil_append]
 refine zv Z26 <| ?_
 refine zs rfl <| zn <| zq <| ?_
 exact zz rfl rfl fun w' H' => ⟨⟨!r6.1, by rw [Bool.not_eq_true', ← Bool.not_eq_true, r6.2]; exact ⟨fun h => ⟨g1, g2, g3, by omega, g5, fun i hi => Classical.byContradiction fun hx => h ⟨i, hi, hx⟩⟩, fun h ⟨i, hi, hx⟩ => hx (h.2.2.2.2.2 i hi)⟩⟩, rfl, H'.ent (Ent.nil _)⟩
end Go.Proofs.YtjlolpmmpafjeaaGreat

set_option linter.unusedVariables false
set_option linter.unusedSimpArgs false
namespace Go.Proofs.YtjlolpmmpafjeaaGreat
open Slk
abbrev Three := (Option Addr × Nat) × (Option Addr × Nat) × (Option Addr × Nat)
abbrev cfgA (c : ConfC) (q : Three) : List Value := cfgV c (.slice q.1.1 c.2.2.2.1.length q.1.2) (.slice q.2.1.1 c.2.2.2.2.1.length q.2.1.2) (.slice q.2.2.1 c.2.2.2.2.2.length q.2.2.2)
structure OkC (c : ConfC) : Prop where
 i1 : inI64 c.1
 i2 : inI64 c.2.1
 i3 : inI64 c.2.2.1
 p : ∀ x ∈ c.2.2.2.1, Flat.ok x
 v : ∀ x ∈ c.2.2.2.2.1, Flat.ok x
 s : ∀ x ∈ c.2.2.2.2.2, Flat.ok x
 lp : c.2.2.2.1.length ≤ 1000
 lv : c.2.2.2.2.1.length ≤ 1000
 ls : c.2.2.2.2.2.length ≤ 1000
abbrev cfgR (c : ConfC) (q : Three) : List HProp := [row q.1.1 83 3 c.2.2.2.1.length q.1.2 (c.2.2.2.1.flatMap portV), row q.2.1.1 147 3 c.2.2.2.2.1.length q.2.1.2 (c.2.2.2.2.1.flatMap vlanV), row q.2.2.1 149 3 c.2.2.2.2.2.length q.2.2.2 (c.2.2.2.2.2.flatMap statV)]
theorem ConfOld.rows {D D' : Nat → Prop} {w0 w1 : World} {l r1 r2 r3 : List HProp} {c : ConfC} {q : Three} {t1 t2 t3 : TypeId} (hok : OkC c)
  (hin : ∀ B : HProp, (∀ h, stars l h → (∀ A, Old D w0 A → ∃ h1, A h1 ∧ Hsub h1 h) → B h) → Old D' w1 B)
  [k1 : PickR l q.1.1 t1 3 c.2.2.2.1.length q.1.2 (c.2.2.2.1.flatMap portV) r1] [k2 : PickR l q.2.1.1 t2 3 c.2.2.2.2.1.length q.2.1.2 (c.2.2.2.2.1.flatMap vlanV) r2] [k3 : PickR l q.2.2.1 t3 3 c.2.2.2.2.2.length q.2.2.2 (c.2.2.2.2.2.flatMap statV) r3] :
  ConfOld D' w1 c (.slice q.1.1 c.2.2.2.1.length q.1.2) (.slice q.2.1.1 c.2.2.2.2.1.length q.2.1.2) (.slice q.2.2.1 c.2.2.2.2.2.length q.2.2.2) :=
 ⟨hok.i1, hok.i2, hok.i3, hin _ fun h hs ho => rep_row (h := k1) (A := q.1.1) hs c.2.2.2.1 rfl (repL_F.2 ⟨rfl, hok.p⟩), hin _ fun h hs ho => rep_row (h := k2) (A := q.2.1.1) hs c.2.2.2.2.1 rfl (repL_F.2 ⟨rfl, hok.v⟩), hin _ fun h hs ho => rep_row (h := k3) (A := q.2.2.1) hs c.2.2.2.2.2 rfl (repL_F.2 ⟨rfl, hok.s⟩), hok.lp, hok.lv, hok.ls⟩
abbrev zeroC : ConfC := (0, 0, 0, [], [], [])
theorem zeroC_ok : OkC zeroC := ⟨by unfold inI64; decide, by unfold inI64; decide, by unfold inI64; decide, (fun x hx => by cases hx), (fun x hx => by cases hx), (fun x hx => by cases hx), by decide, by decide, by decide⟩
abbrev q0 : Three := ((none, 0), (none, 0), (none, 0))
theorem Ent.cfgR0 (l : List HProp) : Ent l (cfgR zeroC q0 ++ l) := Ent.trans (Ent.nil_row 149 3) (Ent.trans (Ent.nil_row 147 3) (Ent.nil_row 83 3))
theorem _root_.Slk.Ent.pureR {p : Prop} {l l' : List HProp} (hp : p) (h : Ent l l') : Ent l (pureP p :: l') := fun x hs => stars_pure.2 ⟨hp, h x hs⟩
theorem flat_one {α : Type} {f : α → List Value} (hf : ∀ x, ∀ v ∈ f x, v.oneCell' = true) (xs : List α) : ∀ v ∈ xs.flatMap f, v.oneCell' = true := fun v hv => by
 obtain ⟨x, _, h⟩ := List.mem_flatMap.1 hv
 exact hf x v h
theorem editV_one (x : EditC) : ∀ v ∈ editV x, v.oneCell' = true := by simp [Value.oneCell', u8v]
end Go.Proofs.YtjlolpmmpafjeaaGreat
