import Derived.Test.YtjlolpmmpafjeaaGreatV22
set_option linter.unusedVariables false
set_option linter.unusedSimpArgs false
namespace Go.Proofs.YtjlolpmmpafjeaaGreat
open Slk
variable (D : Nat → Prop) (w : World)
theorem RDec_some (v : Value) (S : List Sec) (x : EntT) (n : Nat) (h : decS S = some (x, n)) (hS : S.length ≤ 100000) (HA : Old D w (Rep.rep S [v])) :
  Calls Tryz.prog 91 #[v] w fun e w' => ∃ q : Option Addr × Nat, e = .returned (.agg #[.int .i64 x.1, .int .u32 x.2.1, .int .u32 x.2.2.1, .slice q.1 x.2.2.2.length q.2, .int .i64 n, .int .i64 0]) ∧ Own D w w' [row q.1 5 1 x.2.2.2.length q.2 (x.2.2.2.map u8v)] :=
 (RDec_spec D w v S hS HA).mono fun e w' hp => by
  rcases hp with ⟨h1, _⟩ | ⟨x', n', q, h1, he, H'⟩
  ·rw [h] at h1; cases h1
  ·rw [h] at h1; cases h1; exact ⟨q, he, H'⟩
theorem RDec_none (v : Value) (S : List Sec) (h : decS S = none) (hS : S.length ≤ 100000) (HA : Old D w (Rep.rep S [v])) :
  Calls Tryz.prog 91 #[v] w fun e w' => e = .returned (.agg #[.int .i64 0, .int .u32 0, .int .u32 0, .slice none 0 0, .int .i64 0, .int .i64 11]) ∧ Own D w w' [] :=
 (RDec_spec D w v S hS HA).mono fun e w' hp => by
  rcases hp with ⟨_, he, H'⟩ | ⟨x', n', q, h1, _⟩
  ·exact ⟨he, H'⟩
  ·rw [h] at h1; cases h1
theorem may_spec (g : Nat) (S : List Sec) (H : Own D w w [rdsk g S []]) : Calls Tryz.prog 82 #[.pointer (some ⟨g, 0, none⟩)] w fun e w' => e = .returned (.bool (decide ((32 : Int) ≤ (S.length : Int)))) ∧ Own D w w' [rdsk g S []] := by
 refine hc_enter (vs := [.pointer (some ⟨g, 0, none⟩)]) Tryz.func82 rfl _ Tryz.ntmps82 rfl H ?_
 simp only [argSlots, Nat.zero_add]
 refine HC.exs ?_
 rintro ⟨⟨A0, c0⟩, A1, c1⟩
 refine HC.ent (l' := [blk g 56 [.slice A0 S.length c0, .slice A1 0 c1], row A0 61 64 S.length c0 (S.flatMap secC), row A1 63 65 0 c1 []]) (fun _ h => h) ?_
 refine zg <| zs rfl <| zn <| hc_seq <| hc_region <| zm rfl <| zv (ov_neqP rfl rfl) <| zm rfl <| hl_on rfl rfl <| zm rfl <| hl_on rfl rfl <| zv (ov_nil rfl) <| hl_on rfl rfl <| zf rfl <| hl_on rfl rfl <| zl rfl rfl <| hl_on rfl rfl <| zv Z25 <| ?_
 refine hl_on rfl rfl <| zv (ov_geq rfl rfl) <| zv (ov_pickT rfl rfl) <| zs rfl <| zn <| zq <| ?_
 exact zz rfl rfl fun w' H' => ⟨rfl, H'.ent (dsk_mk (P := []))⟩
def gotC (o : Option EntT) (p : Nat) (q : Option Addr × Nat) : List Value := match o with
 | none => [.int .u32 0, .slice none 0 0, .int .i64 0, .int .i64 13]
 | some e => [.int .u32 e.2.1, .slice q.1 e.2.2.2.length q.2, .int .i64 (p : Int), .int .i64 0]
def gotO (o : Option EntT) (q : Option Addr × Nat) : List HProp := match o with
 | none => []
 | some e => [row q.1 5 1 e.2.2.2.length q.2 (e.2.2.2.map u8v)]
@[simp] theorem gotC_len (o : Option EntT) (p : Nat) (q : Option Addr × Nat) : (gotC o p q).length = 4 := by cases o <;> rfl
theorem gotC_one (o : Option EntT) (p : Nat) (q : Option Addr × Nat) : ∀ v ∈ gotC o p q, v.oneCell' = true := by cases o <;> simp [gotC, Value.oneCell']
set_option maxHeartbeats 1000000 in
theorem at_spec (g p : Nat) (hp : p < 2) (S : List Sec) (hS : 32 ≤ S.length) (H : Own D w w [rdsk g S []]) :
  Calls Tryz.prog 83 #[.pointer (some ⟨g, 0, none⟩), .int .i64 (p : Int)] w fun e w' => ∃ q : Option Addr × Nat, e = .returned (.agg (gotC (lookS S (16 * p)) p q).toArray) ∧ Own D w w' (rdsk g S [] :: gotO (lookS S (16 * p)) q) := by
 refine hc_enter (vs := [.pointer (some ⟨g, 0, none⟩), .int .i64 (p : Int)]) Tryz.func83 rfl _ Tryz.ntmps83 rfl H ?_
 simp only [argSlots, Nat.zero_add]
 refine zg <| hl_new (on_alloc) rfl rfl rfl fun b4 =>
  zn <| hc_seq <| ?_
 refine hc_region <| zs rfl <| zn <| hc_seq <| hc_seq <| hc_region <| zs rfl <| zn <| hc_block <| hc_loopK2 (σ := Nat × Option Addr × Nat) [0, 1, 4] rfl 6 (fun s => .int .i64 (s.1 : Int)) 5 (fun s => .slice s.2.1 s.1 s.2.2) (fun s => [row s.2.1 61 64 s.1 s.2.2 (((S.drop (16 * p)).take s.1).flatMap secC), rdsk g S [], blk b4 122 [.int .u32 0, .slice none 0 0, .int .i64 0, .int .i64 0]]) (fun s => s.1 ≤ 16) (fun s => 16 - s.1) ((0, none, 0)) Z63 rfl rfl (Ent.trans (Ent.nil_row 61 64) Z3) ?_
 rintro ⟨k, ql⟩ hk16 K1 hK1
 dsimp only at hk16 ⊢
 refine hc_seq <| zg <| zm rfl <| zv (ov_lss rfl rfl) <| hl_nil <| zt <| hc_cond rfl (fun h2 => ?_) (fun h2 => ?_)
 ·have hk : k < 16 := by omega
  have hi : 16 * p + k < S.length := by omega
  have hst : (S.drop (16 * p)).take (k + 1) = (S.drop (16 * p)).take k ++ [S[16 * p + k]] := by
   rw [List.take_succ_eq_append_getElem Z40, List.getElem_drop]
  obtain ⟨s, hs⟩ : ∃ s, s = S[16 * p + k] := ⟨_, rfl⟩
  rw [← hs] at hst
  refine zk <| hc_seq <| hc_block <| zg <| zm rfl <| zm rfl <| hl_v (ov_mul (m := ((16 * p : Nat) : Int)) rfl rfl ((wrap_i64 Z64).trans Z64)) rfl ?_
  refine zm rfl <| hl_v (ov_add (m := ((16 * p + k : Nat) : Int)) rfl rfl ((wrap_i64 Z64).trans Z64)) rfl ?_
  refine hl_c Tryz.call90 rfl rfl (fun w1 => zp (rdsk g S []) fun D' _ _ H2 => (RRead_ok D' w1 g (16 * p + k) S [] hi H2).mono fun e w' ⟨he, H'⟩ => ⟨show e = Ending.returned (.tuple #[.agg (secC s).toArray, .int .i64 0]) by rw [he, hs]; rfl, H'⟩) ?_
  refine zm rfl <| zx rfl rfl <| zx rfl rfl <| hl_new (on_alloc) rfl rfl rfl fun b7 =>  ?_
  refine hl_u0 (on_storeW (vs := secC s) rfl rfl Z56 Z56 (secC_one s)) rfl rfl ?_
  refine zs rfl <| zn <| hc_region <| zm rfl <| hl_v (ov_loadW rfl (secC_len s)) rfl <| hl_new (on_buildSlice (res := secC s) rfl rfl (fill_sec1 _)) rfl rfl rfl (fun b37 => ?_)
  refine hl_new (on_appendR (A := ql.1) (news := secC s) rfl rfl (SrcIs.blk (b := b37)) Z57 (secC_one _) Z63 Z64) rfl rfl rfl (fun qm => ?_)
  rw [show ((S.drop (16 * p)).take k).flatMap secC ++ secC s = ((S.drop (16 * p)).take (k + 1)).flatMap secC by rw [hst, List.flatMap_append, List.flatMap_singleton]]
  refine zs rfl <| hl_nil <| zb <| zt <| hc_region <| zm rfl <| zv (ov_add rfl rfl Z28) <| ?_
  refine zs rfl <| hl_nil <| hx_next hK1 ((k + 1, qm)) (hk) Z64 Z16 Z10
 obtain rfl : k = 16 := by omega
 obtain ⟨T, hT⟩ : ∃ T, T = (S.drop (16 * p)).take 16 := ⟨_, rfl⟩
 have hTl : T.length = 16 := by rw [hT, List.length_take, List.length_drop]; omega
 rw [← hT]
 rcases hd : decS T with _ | ⟨x, n⟩
 ·have hno : lookS S (16 * p) = none := by unfold lookS; rw [← hT, hd]
  refine hc_exit <| ze <| ze <| hx_block_out <| zt <| hc_seq <| hc_region <| zm rfl <| hl_c Tryz.call91 rfl rfl (fun w1 => zun fun D' _ hin _ => RDec_none D' w1 _ T hd Z64 (hin _ fun h hs ho => rep_row (A := ql.1) hs T hTl.symm (repL_secs.2 rfl))) ?_
  refine hl_new (on_alloc) rfl rfl rfl fun b9 =>  ?_
  refine hl_u0 (on_storeW (vs := [.int .i64 0, .int .u32 0, .int .u32 0, .slice none 0 0, .int .i64 0, .int .i64 11]) rfl rfl (by simp) (by simp) Z49) rfl rfl ?_
  refine zn <| hc_seq <| zg <| zf rfl <| ?_
  refine zl rfl rfl <| zv (ov_neq rfl rfl) <| zm rfl <| hl_partT (t := 32) rfl (Z63) ?_
  have hlk : lookS S (16 * p) = none := hno
  refine zo rfl rfl <| zo rfl rfl <| zo rfl rfl <| zo rfl rfl <| zv (ov_pickT rfl rfl) <| zm rfl <| zo rfl rfl <| zo rfl rfl <| zo rfl rfl <| zo rfl rfl <| zv (ov_pickT rfl rfl) <| hl_nil <| zt <| hc_cond_true rfl <| zg <| zv (ov_buildSN rfl rfl) <| ?_
  refine hl_u0 (on_storeW (vs := gotC none 0 (none, 0)) rfl rfl Z60 Z60 (gotC_one _ _ _)) rfl rfl ?_
  refine zn <| zq <| zr <| ?_
  exact results_c (.inr rfl) rfl rfl (by simp) fun w' H' => ⟨(none, 0), by rw [hlk]; rfl, by rw [hlk]; exact H'.ent (Ent.trans (b := [rdsk g S []]) Z8 (Ent.refl _))⟩
 have hlk' : lookS S (16 * p) = if x.1 = 2 ∧ x.2.2.1 = 0 then some x else none := by unfold lookS; rw [← hT, hd]
 refine hc_exit <| ze <| ze <| hx_block_out <| zt <| hc_seq <| hc_region <| zm rfl <| hl_call (σ := Option Addr × Nat) Tryz.call91 rfl rfl (fun w1 => zu fun D' _ hin _ => RDec_some D' w1 _ T x n hd Z64 (hin _ fun h hs ho => rep_row (A := ql.1) hs T hTl.symm (repL_secs.2 rfl))) ?_
 intro qx
 try rw [List.nil_append]
 refine hl_new (on_alloc) rfl rfl rfl fun b9 =>  ?_
 refine hl_u0 (on_storeW (vs := [.int .i64 x.1, .int .u32 x.2.1, .int .u32 x.2.2.1, .slice qx.1 x.2.2.2.length qx.2, .int .i64 n, .int .i64 0]) rfl rfl (by simp) (by simp) Z49) rfl rfl ?_
 refine zn <| hc_seq <| zg <| zf rfl <| ?_
 refine zl rfl rfl <| zv (ov_neq rfl rfl) <| zm rfl <| hl_partF (t := 32) rfl ((fun h => h rfl)) <| hl_on rfl rfl <| zf rfl <| hl_on rfl rfl <| zf rfl <| hl_on rfl rfl <| zl rfl rfl <| hl_on rfl rfl <| zv (ov_neq rfl rfl) <| zv (ov_pickF rfl rfl) <| zm rfl <| ?_
 refine hl_part (t := 38) rfl (fun c1 => ?_) (fun c1 => ?_)
 ·have hno : lookS S (16 * p) = none := by rw [hlk', if_neg Z64]
  have hlk : lookS S (16 * p) = none := hno
  refine zo rfl rfl <| zo rfl rfl <| zo rfl rfl <| zo rfl rfl <| zv (ov_pickT rfl rfl) <| hl_nil <| zt <| hc_cond_true rfl <| zg <| zv (ov_buildSN rfl rfl) <| ?_
  refine hl_u0 (on_storeW (vs := gotC none 0 (none, 0)) rfl rfl Z60 Z60 (gotC_one _ _ _)) rfl rfl ?_
  refine zn <| zq <| zr <| ?_
  exact results_c (.inr rfl) rfl rfl (by simp) fun w' H' => ⟨(none, 0), by rw [hlk]; rfl, by rw [hlk]; exact H'.ent (Ent.trans (b := [rdsk g S []]) Z8 (Ent.refl _))⟩
 refine hl_on rfl rfl <| zf rfl <| hl_on rfl rfl <| zf rfl <| hl_on rfl rfl <| zl rfl rfl <| hl_on rfl rfl <| zv (ov_neq rfl rfl) <| zv (ov_pickF rfl rfl) <| hl_nil <| ?_
 refine zt <| hc_cond rfl (fun c2 => ?_) (fun c2 => ?_)
 ·have hno : lookS S (16 * p) = none := by rw [hlk', if_neg Z64]
  have hlk : lookS S (16 * p) = none := hno
  refine zg <| zv (ov_buildSN rfl rfl) <| ?_
  refine hl_u0 (on_storeW (vs := gotC none 0 (none, 0)) rfl rfl Z60 Z60 (gotC_one _ _ _)) rfl rfl ?_
  refine zn <| zq <| zr <| ?_
  exact results_c (.inr rfl) rfl rfl (by simp) fun w' H' => ⟨(none, 0), by rw [hlk]; rfl, by rw [hlk]; exact H'.ent (Ent.trans (b := [rdsk g S []]) Z8 (Ent.refl _))⟩
 have hlk : lookS S (16 * p) = some x := by rw [hlk', if_pos Z64]
 refine zk <| zg <| zf rfl <| zf rfl <| ?_
 refine zl rfl rfl <| zf rfl <| zf rfl <| zl rfl rfl <| zm rfl <| zv (ov_buildSN rfl rfl) <| ?_
 refine hl_u0 (on_storeW (vs := gotC (some x) p qx) rfl rfl Z60 Z60 (gotC_one _ _ _)) rfl rfl ?_
 refine zn <| zq <| ?_
 exact results_c (.inr rfl) rfl rfl (by simp) fun w' H' => ⟨qx, by rw [hlk], by rw [hlk]; exact H'.ent (Ent.trans (b := [rdsk g S [], row qx.1 5 1 x.2.2.2.length qx.2 (x.2.2.2.map u8v)]) Z8 (Ent.refl _))⟩
def gotN (o : Option (EntT × Nat)) (q : Option Addr × Nat) : List Value := match o with
 | none => [.int .u32 0, .slice none 0 0, .int .i64 0, .int .i64 13]
 | some y => [.int .u32 y.1.2.1, .slice q.1 y.1.2.2.2.length q.2, .int .i64 ((y.2 / 16 : Nat) : Int), .int .i64 0]
def gotNO (o : Option (EntT × Nat)) (q : Option Addr × Nat) : List HProp := match o with
 | none => []
 | some y => [row q.1 5 1 y.1.2.2.2.length q.2 (y.1.2.2.2.map u8v)]
theorem gotN_one (o : Option (EntT × Nat)) (q : Option Addr × Nat) : ∀ v ∈ gotN o q, v.oneCell' = true := by cases o <;> simp [gotN, Value.oneCell']
@[simp] theorem gotN_len (o : Option (EntT × Nat)) (q : Option Addr × Nat) : (gotN o q).length = 4 := by cases o <;> rfl
theorem newS_def (S : List Sec) : newS S = pickS (pickS none 0 (lookS S 0)) 16 (lookS S 16) := rfl
set_option maxHeartbeats 1000000 in
theorem RLoad_spec (g : Nat) (S : List Sec) (hS : 32 ≤ S.length) (H : Own D w w [rdsk g S []]) :
  Calls Tryz.prog 50 #[.pointer (some ⟨g, 0, none⟩)] w fun e w' => ∃ q : Option Addr × Nat, e = .returned (.agg (gotN (newS S) q).toArray) ∧ Own D w w' (rdsk g S [] :: gotNO (newS S) q) := by
 refine hc_enter (vs := [.pointer (some ⟨g, 0, none⟩)]) Tryz.func50 rfl _ Tryz.ntmps50 rfl H ?_
 simp only [argSlots, Nat.zero_add]
 refine zg <| hl_new (on_alloc) rfl rfl rfl fun b2 =>
  zn <| hc_seq <| ?_
 refine zg <| zm rfl <| hl_c Tryz.call82 rfl rfl (fun w1 => zp (rdsk g S []) fun D' _ _ H2 => may_spec D' w1 g S H2) ?_
 refine zv Z26 <| ?_
 refine zn <| hc_cond_F rfl (Z64) ?_
 refine zk <| zg <| zm rfl <| hl_call (σ := Option Addr × Nat) Tryz.call83 rfl rfl (fun w1 => zpx (rdsk g S []) fun D' _ _ H2 => at_spec D' w1 g 0 Z63 S hS H2) ?_
 intro qa
 refine zm rfl <| hl_call (σ := Option Addr × Nat) Tryz.call83 rfl rfl (fun w1 => zpx (rdsk g S []) fun D' _ _ H2 => at_spec D' w1 g 1 Z63 S hS H2) ?_
 intro qb
 have hnew := newS_def S
 rw [Nat.mul_zero, Nat.mul_one]
 refine hl_new (on_alloc) rfl rfl rfl fun b3 => 
  hl_new (on_alloc) rfl rfl rfl fun b4 =>  ?_
 refine hl_u0 (on_storeW (vs := gotC (lookS S 0) 0 qa) rfl rfl (gotC_len _ _ _) (by simp [gotC_len]) (gotC_one _ _ _)) rfl rfl ?_
 refine hl_u0 (on_storeW (vs := gotC (lookS S 16) 1 qb) rfl rfl (gotC_len _ _ _) (by simp [gotC_len]) (gotC_one _ _ _)) rfl rfl ?_
 refine zn <| hc_seq <| hc_seq <| ?_
 rcases hb : lookS S 16 with _ | y
 ·rw [hb] at hnew
  have hn : newS S = pickS none 0 (lookS S 0) := hnew
  dsimp only [gotC, gotO]
  refine hc_region <| zf rfl <| ?_
  refine hl_v (zw rfl rfl) rfl <| zv (ov_eql rfl rfl) <| zm rfl <| hl_partF (t := 16) rfl (Z63) ?_
  refine zo rfl rfl <| zo rfl rfl <| zo rfl rfl <| zo rfl rfl <| hl_offU rfl rfl rfl rfl rfl <| hl_offU rfl rfl rfl rfl rfl <| ?_
  refine hl_offU rfl rfl rfl rfl rfl <| hl_offU rfl rfl rfl rfl rfl <| hl_offU rfl rfl rfl rfl rfl <| zo rfl rfl <| zv (ov_pickF rfl rfl) <| hl_nil <| ?_
  refine zt <| hc_cond_false rfl <| zk <| hc_seq <| ?_
  rcases ha : lookS S 0 with _ | x
  ·rw [ha] at hn
   have hn : newS S = none := hn
   dsimp only [gotO]
   refine hc_region <| hl_v (ov_loadW rfl rfl) rfl <| hl_u0 (on_storeW (vs := gotC none 0 qa) rfl rfl Z60 Z60 (gotC_one _ _ _)) rfl rfl ?_
   refine zn <| zq <| ?_
   exact results_c (.inr rfl) rfl rfl (by simp) fun w' H' => ⟨qa, by rw [hn]; simp [gotC, gotN], by rw [hn]; exact H'.ent (Ent.trans (b := [rdsk g S []]) Z8 (Ent.refl _))⟩
  rw [ha] at hn
  have hn : newS S = some (x, 0) := hn
  dsimp only [gotO]
  refine hc_region <| hl_v (ov_loadW rfl rfl) rfl <| hl_u0 (on_storeW (vs := gotC (some x) 0 qa) rfl rfl Z60 Z60 (gotC_one _ _ _)) rfl rfl ?_
  refine zn <| zq <| ?_
  exact results_c (.inr rfl) rfl rfl (by simp) fun w' H' => ⟨qa, by rw [hn]; simp [gotC, gotN], by rw [hn]; exact H'.ent (Ent.trans (b := [rdsk g S [], row qa.1 5 1 x.2.2.2.length qa.2 (x.2.2.2.map u8v)]) Z8 (Ent.refl _))⟩
 rw [hb] at hnew
 dsimp only [gotO]
 rcases ha : lookS S 0 with _ | x
 ·rw [ha] at hnew
  have hn : newS S = some (y, 16) := hnew
  dsimp only [gotO]
  refine hc_region <| zf rfl <| zl rfl rfl <| zv (ov_eql rfl rfl) <| zm rfl <| ?_
  refine hl_partT (t := 16) rfl (rfl) <| hl_on rfl rfl <| zf rfl <| hl_on rfl rfl <| zl rfl rfl <| hl_on rfl rfl <| zv (ov_neq rfl rfl) <| hl_on rfl rfl <| zm rfl <| ?_
  refine hl_partT (t := 20) rfl (Z63) ?_
  refine zo rfl rfl <| zo rfl rfl <| zo rfl rfl <| zo rfl rfl <| zo rfl rfl <| hl_on rfl rfl <| zv (ov_pickT rfl rfl) <| zv (ov_pickT rfl rfl) <| zn <| hc_cond_true rfl <| zg <| zv Z17 <| ?_
  refine hl_u0 (on_storeW (vs := gotC (some y) 1 qb) rfl rfl Z60 Z60 (gotC_one _ _ _)) rfl rfl ?_
  refine zn <| zq <| zr <| ?_
  exact results_c (.inr rfl) rfl rfl (by simp) fun w' H' => ⟨qb, by rw [hn]; simp [gotC, gotN], by rw [hn]; exact H'.ent (Ent.trans (b := [rdsk g S [], row qb.1 5 1 y.2.2.2.length qb.2 (y.2.2.2.map u8v)]) Z8 (Ent.refl _))⟩
 rw [ha] at hnew
 have hnew : newS S = if x.2.1 < y.2.1 then some (y, 16) else some (x, 0) := hnew
 dsimp only [gotO]
 refine hc_region <| zf rfl <| zl rfl rfl <| zv (ov_eql rfl rfl) <| zm rfl <| ?_
 refine hl_partT (t := 16) rfl (rfl) <| hl_on rfl rfl <| zf rfl <| hl_on rfl rfl <| zl rfl rfl <| hl_on rfl rfl <| zv (ov_neq rfl rfl) <| hl_on rfl rfl <| zm rfl <| ?_
 refine hl_partF (t := 20) rfl ((fun h => h rfl)) <| hl_on rfl rfl <| zf rfl <| hl_on rfl rfl <| zl rfl rfl <| hl_on rfl rfl <| zf rfl <| hl_on rfl rfl <| zl rfl rfl <| hl_on rfl rfl <| zv (ov_gtr rfl rfl) <| hl_on rfl rfl <| zv (ov_pickF rfl rfl) <| ?_
 refine zv (ov_pickT rfl rfl) <| zn <| hc_cond rfl (fun c3 => ?_) (fun c3 => ?_)
 ·have hn : newS S = some (y, 16) := by rw [hnew, if_pos Z64]
  refine zg <| zv Z17 <| ?_
  refine hl_u0 (on_storeW (vs := gotC (some y) 1 qb) rfl rfl Z60 Z60 (gotC_one _ _ _)) rfl rfl ?_
  refine zn <| zq <| zr <| ?_
  exact results_c (.inr rfl) rfl rfl (by simp) fun w' H' => ⟨qb, by rw [hn]; simp [gotC, gotN], by rw [hn]; exact H'.ent (Ent.trans (b := [rdsk g S [], row qb.1 5 1 y.2.2.2.length qb.2 (y.2.2.2.map u8v)]) Z8 (Ent.refl _))⟩
 have hn : newS S = some (x, 0) := by rw [hnew, if_neg Z64]
 refine zk <| zg <| zv Z17 <| ?_
 refine hl_u0 (on_storeW (vs := gotC (some x) 0 qa) rfl rfl Z60 Z60 (gotC_one _ _ _)) rfl rfl ?_
 refine zn <| zq <| ?_
 exact results_c (.inr rfl) rfl rfl (by simp) fun w' H' => ⟨qa, by rw [hn]; simp [gotC, gotN], by rw [hn]; exact H'.ent (Ent.trans (b := [rdsk g S [], row qa.1 5 1 x.2.2.2.length qa.2 (x.2.2.2.map u8v)]) Z8 (Ent.refl _))⟩
theorem newS_place {S : List Sec} {y : EntT × Nat} (h : newS S = some y) : y.2 = 0 ∨ y.2 = 16 := by
 rw [newS_def] at h
 rcases ha : lookS S 0 with _ | a <;> rcases hb : lookS S 16 with _ | b <;> rw [ha, hb] at h
 ·cases h
 ·have h : some (b, 16) = some y := h
  cases h; exact .inr rfl
 ·have h : some (a, 0) = some y := h
  cases h; exact .inl rfl
 have h : (if a.2.1 < b.2.1 then some (b, 16) else some (a, 0)) = some y := h
 split at h
 ·cases h; exact .inr rfl
 cases h; exact .inl rfl
abbrev wrsC (n at_ : Nat) (q : Option Addr × Nat) : List Value := [.slice q.1 n q.2, .int .i64 (at_ : Int), .int .i64 0]
set_option maxHeartbeats 1000000 in
theorem RPlan_ok (g : Nat) (S : List Sec) (a : Nat) (v : Value) (xs : List UInt8) (L : List Sec) (n : Nat) (hL : L = encE (snE a xs)) (hn : n = L.length) (hS : 32 ≤ S.length) (ha : a < 4294967296) (hl : xs.length ≤ 993) (HA : Old D w (Rep.rep xs [v])) (H : Own D w w [rdsk g S []]) :
  Calls Tryz.prog 86 #[.pointer (some ⟨g, 0, none⟩), .int .u32 (a : Int), v] w fun e w' => ∃ qe : Option Addr × Nat, e = .returned (.agg (wrsC n (atS S) qe).toArray) ∧ Own D w w' [rdsk g S [], row qe.1 61 64 n qe.2 (L.flatMap secC)] := by
 have hel : L.length = (15 + xs.length + 62) / 63 := by rw [hL, encE, encS_len, fullB_length]
 obtain ⟨A, cap, rfl, _⟩ := HA.openB
 refine hc_enter (vs := [.pointer (some ⟨g, 0, none⟩), .int .u32 (a : Int), .slice A xs.length cap]) Tryz.func86 rfl _ Tryz.ntmps86 rfl H ?_
 simp only [argSlots, Nat.zero_add]
 refine zg <| hl_new (on_alloc) rfl rfl rfl fun b6 =>
  zn <| hc_seq <| ?_
 refine zg <| zm rfl <| hl_c Tryz.call82 rfl rfl (fun w1 => zp (rdsk g S []) fun D' _ _ H2 => may_spec D' w1 g S H2) ?_
 refine zv Z26 <| ?_
 refine zn <| hc_cond_F rfl (Z64) ?_
 refine zk <| zg <| zm rfl <| zm rfl <| zv (ov_buildSN rfl rfl) <| ?_
 refine hl_call (σ := Option Addr × Nat) Tryz.call126 rfl rfl (fun w1 => zu fun D' hold _ _ => REnc_at D' w1 (snE a xs) _ L n hL hn ⟨show 2 < 256 by decide, ha, show 0 < 4294967296 by decide, by show xs.length ≤ 4000; omega⟩ (hold _ HA)) ?_
 intro qe
 try rw [List.nil_append]
 refine zm rfl <| zx rfl rfl <| zx rfl rfl <| zs rfl <| zs rfl <| hl_nil <| zt <| hc_seq <| zg <| zm rfl <| zv (ov_neq rfl rfl) <| zm rfl <| hl_partF (t := 24) rfl ((fun h => h rfl)) <| hl_on rfl rfl <| zm rfl <| hl_on rfl rfl <| zv Z25 <| ?_
 refine hl_on rfl rfl <| zv (ov_gtr rfl rfl) <| zv (ov_pickF rfl rfl) <| zn <| hc_cond_F rfl (Z64) ?_
 refine zk <| zg <| zm rfl <| zv (ov_buildSN rfl rfl) <| ?_
 refine hl_new (on_alloc) rfl rfl rfl fun b9 =>  ?_
 refine hl_u0 (on_storeW (vs := wrsC n 0 qe) rfl rfl (by simp) (by simp) Z49) rfl rfl ?_
 refine zn <| hc_seq <| zg <| zm rfl <| hl_call (σ := Option Addr × Nat) Tryz.call50 rfl rfl (fun w1 => zpx (rdsk g S []) fun D' _ _ H2 => RLoad_spec D' w1 g S hS H2) ?_
 intro qg
 refine hl_new (on_alloc) rfl rfl rfl fun b10 =>  ?_
 refine hl_u0 (on_storeW (vs := gotN (newS S) qg) rfl rfl (gotN_len _ _) (by simp [gotN_len]) (gotN_one _ _)) rfl rfl ?_
 refine zn <| hc_seq <| ?_
 rcases hnw : newS S with _ | y
 ·have hate : atS S = 0 := by unfold atS; rw [hnw]
  dsimp only [gotN, gotNO]
  refine hc_region <| zf rfl <| ?_
  refine hl_v (zw rfl rfl) rfl <| zv (ov_eql rfl rfl) <| zm rfl <| hl_partF (t := 37) rfl (Z63) ?_
  refine zo rfl rfl <| zo rfl rfl <| zo rfl rfl <| zv (ov_pickF rfl rfl) <| zn <| hc_cond_false rfl <| zk <| zg <| hl_v (ov_loadW rfl rfl) rfl <| hl_u0 (on_storeW (vs := wrsC n (atS S) qe) rfl (by rw [hate]; rfl) (by simp) (by simp) Z49) rfl rfl ?_
  refine zn <| zq <| ?_
  exact results_c (.inr rfl) rfl rfl (by simp) fun w' H' => ⟨qe, rfl, H'.ent Z8⟩
 have hpl := newS_place hnw
 dsimp only [gotN, gotNO]
 refine hc_region <| zf rfl <| zl rfl rfl <| zv (ov_eql rfl rfl) <| zm rfl <| ?_
 refine hl_partT (t := 37) rfl (rfl) <| hl_on rfl rfl <| zf rfl <| hl_on rfl rfl <| zl rfl rfl <| hl_on rfl rfl <| zv (ov_eql rfl rfl) <| zv (ov_pickT rfl rfl) <| zn <| ?_
 refine hc_cond rfl (fun z => ?_) (fun z => ?_)
 ·have hate : atS S = 16 := by unfold atS; rw [hnw]; exact if_pos Z64
  refine hc_region <| zf rfl <| hl_u0 (on_storeN rfl rfl rfl rfl rfl) rfl rfl <| zn <| hc_seq <| ?_
  refine hc_region <| hl_v (ov_loadW rfl rfl) rfl <| hl_u0 (on_storeW (vs := wrsC n (atS S) qe) rfl (by rw [hate]; rfl) (by simp) (by simp) Z49) rfl rfl ?_
  refine zn <| zq <| ?_
  exact results_c (.inr rfl) rfl rfl (by simp) fun w' H' => ⟨qe, rfl, H'.ent Z8⟩
 have hate : atS S = 0 := by unfold atS; rw [hnw]; exact if_neg Z64
 refine zk <| zg <| hl_v (ov_loadW rfl rfl) rfl <| hl_u0 (on_storeW (vs := wrsC n (atS S) qe) rfl (by rw [hate]; rfl) (by simp) (by simp) Z49) rfl rfl ?_
 refine zn <| zq <| ?_
 exact results_c (.inr rfl) rfl rfl (by simp) fun w' H' => ⟨qe, rfl, H'.ent Z8⟩
set_option maxHeartbeats 1000000 in
theorem RSave_ok (g : Nat) (S : List Sec) (a : Nat) (v : Value) (xs : List UInt8) (hS : 32 ≤ S.length) (hS2 : S.length ≤ 100000) (ha : a < 4294967296) (hl : xs.length ≤ 993) (HA : Old D w (Rep.rep xs [v])) (H : Own D w w [rdsk g S []]) :
  Calls Tryz.prog 52 #[.pointer (some ⟨g, 0, none⟩), .int .u32 (a : Int), v] w fun e w' => e = .returned (.int .i64 0) ∧ Own D w w' [rdsk g (saveS S a xs) []] := by
 obtain ⟨L, hL⟩ : ∃ L, L = encE (snE a xs) := ⟨_, rfl⟩
 have hel : L.length = (15 + xs.length + 62) / 63 := by rw [hL, encE, encS_len, fullB_length]
 have hsv : saveS S a xs = putS S (atS S) L := by unfold saveS; rw [hL]
 obtain ⟨n, hn⟩ : ∃ n, n = L.length := ⟨_, rfl⟩
 have hat := atS_or S
 obtain ⟨at_, hate⟩ : ∃ x, x = atS S := ⟨_, rfl⟩
 rw [← hate] at hat hsv
 refine hc_enter (vs := [.pointer (some ⟨g, 0, none⟩), .int .u32 (a : Int), v]) Tryz.func52 rfl _ Tryz.ntmps52 rfl H ?_
 simp only [argSlots, Nat.zero_add]
 refine zg <| zs rfl <| zn <| hc_seq <| hc_region <| zm rfl <| zm rfl <| zm rfl <| hl_call (σ := Option Addr × Nat) Tryz.call86 rfl rfl (fun w1 => zpx (rdsk g S []) fun D' hold _ H2 => RPlan_ok D' w1 g S a v xs L n hL hn hS ha hl (hold _ HA) H2) ?_
 intro qe
 rw [← hate]
 refine HL.fact (fun w H => Own.factR qe.1 H) ?_
 rintro ⟨_, _, _, hA⟩
 have hA : isA qe.1 := hA (by intro h; have := congrArg List.length h; rw [flat_len secC_len] at this; simp only [List.length_nil] at this; omega)
 refine hl_new (on_alloc) rfl rfl rfl fun b7 =>  ?_
 refine hl_u0 (on_storeW (vs := wrsC n at_ qe) rfl rfl (by simp) (by simp) Z49) rfl rfl ?_
 refine zn <| hc_seq <| zg <| zf rfl <| ?_
 refine zl rfl rfl <| zv (ov_neq rfl rfl) <| zn <| hc_cond_F rfl ((fun h => h rfl)) <| zk <| hc_seq <| zg <| zs rfl <| zn <| hc_block <| hc_loopK1 (σ := Nat) [0, 7] rfl 8 (fun i => .int .i64 (i : Int)) (fun i => [rdsk g S (PW at_ L i), row qe.1 61 64 n qe.2 (L.flatMap secC), blk b7 183 (wrsC n at_ qe)]) (fun i => i ≤ n) (fun i => n - i) (0) (Nat.zero_le _) rfl (show Ent _ [rdsk g S [], row qe.1 61 64 n qe.2 (L.flatMap secC), blk b7 183 (wrsC n at_ qe)] from Z8) ?_
 rintro i hi K1 hK1
 refine hc_seq <| zg <| zm rfl <| zf rfl <| zl rfl rfl <| ?_
 refine zv Z25 <| ?_
 refine zv (ov_lss rfl rfl) <| zn <| hc_cond rfl (fun h => ?_) (fun h => ?_)
 ·have hin : i < n := by omega
  have hiL : i < L.length := by omega
  refine zk <| hc_seq <| hc_block <| hc_tail 10 mixed Z61 ?_
  refine ht_v (ov_move rfl) rfl <| ht_v (ov_fieldA rfl) rfl <| ht_v (zw rfl rfl) rfl <| ht_v (ov_move rfl) rfl <| ?_
  refine ht_v (ov_add (m := ((at_ + i : Nat) : Int)) rfl rfl ((wrap_i64 Z64).trans Z64)) rfl ?_
  refine ht_v (ov_fieldA rfl) rfl <| ht_v (zw rfl rfl) rfl <| ht_v (ov_move rfl) rfl <| ?_
  refine ht_v (ov_idxS rfl hA rfl i rfl hin) rfl ?_
  refine ht_v (ov_loadG (cs := secC L[i]) rfl (secC_len _) (CellsAre.flat (f := secC) (A := qe.1) secC_len hA (i := i) hiL)) rfl ?_
  refine ht_nil <| ?_
  refine hl_c Tryz.call87 rfl rfl (fun w1 => zp (rdsk g S (PW at_ L i)) fun D' _ _ H2 => RWrite_ok D' w1 g (at_ + i) L[i] S (PW at_ L i) Z64 (by have := PW_len (at_ := at_) (l := L) (i := i); omega) H2) ?_
  rw [← PW_succ hiL]
  refine hl_nil <| zb <| zt <| hc_region <| zm rfl <| zv (ov_add rfl rfl Z28) <| ?_
  refine zs rfl <| hl_nil <| hx_next hK1 (i + 1) (hin) Z64 Z16 Z10
 have hin : i = n := by omega
 rw [hin, hn]
 refine hc_exit <| ze <| ze <| hx_block_out <| zt <| hc_seq <| hc_region <| zm rfl <| hl_c Tryz.call88 rfl rfl (fun w1 => zp (rdsk g S (PW at_ L L.length)) fun D' _ _ H2 => RFlush_spec D' w1 g S (PW at_ L L.length) (PW_lt Z64) H2) ?_
 rw [PW_done Z64, ← hsv]
 refine zn <| zg <| zs rfl <| hl_nil <| zt <| zq <| ?_
 exact zz rfl rfl fun w' H' => ⟨rfl, H'.ent Z8⟩
theorem rowsB_one {D : Nat → Prop} {w0 w : World} {l r : List HProp} {t : TypeId} {xs : List (List UInt8)} {cs : List Value} [h : Pick l (rowsB t xs cs) r] (H : Own D w0 w l) : ∀ v ∈ cs, v.oneCell' = true := by
 obtain ⟨x, _, hs⟩ := H.own
 exact repL_one (stars_rowsB (t := t) (xs := xs) hs)
abbrev rjouB (jb g from_ to_ ep end_ n : Nat) (q : Option Addr × Nat) : HProp := blk jb 131 [.pointer (some ⟨g, 0, none⟩), .int .i64 (from_ : Int), .int .i64 (to_ : Int), .int .u32 (ep : Int), .slice q.1 n q.2, .int .i64 (end_ : Int)]
def rjouL (jb g from_ to_ ep end_ : Nat) (L : List (List UInt8)) (q : Option Addr × Nat × List Value) : List HProp :=
 [rjouB jb g from_ to_ ep end_ L.length (q.1, q.2.1), row q.1 108 1 L.length q.2.1 q.2.2, rowsB 5 L q.2.2]
def rjou (jb g from_ to_ ep end_ : Nat) (L : List (List UInt8)) : HProp := exS (rjouL jb g from_ to_ ep end_ L)
section
variable {jb g from_ to_ ep end_ : Nat} {L : List (List UInt8)} {l : List HProp}
theorem rjou_mk {A : Option Addr} {cap : Nat} {cs : List Value} : Ent (rjouB jb g from_ to_ ep end_ L.length (A, cap) :: row A 108 1 L.length cap cs :: rowsB 5 L cs :: l) (rjou jb g from_ to_ ep end_ L :: l) :=
 Ent.exS (L := rjouL jb g from_ to_ ep end_ L) (l := l) (A, cap, cs)
theorem rjou_mk0 : Ent (rjouB jb g from_ to_ ep end_ 0 (none, 0) :: l) (rjou jb g from_ to_ ep end_ [] :: l) :=
 Ent.trans (Ent.cons (rowsB_nil.trans (Ent.nil_row 108 1))) (rjou_mk (L := []) (A := none) (cap := 0) (cs := []))
end
theorem RRoom_spec (jb g from_ to_ ep end_ : Nat) (L : List (List UInt8)) (hle : end_ ≤ to_) (hto : to_ ≤ 100000) (H : Own D w w [rjou jb g from_ to_ ep end_ L]) :
  Calls Tryz.prog 141 #[.pointer (some ⟨jb, 0, none⟩)] w fun e w' => e = .returned (.int .i64 ((to_ - end_ : Nat) : Int)) ∧ Own D w w' [rjou jb g from_ to_ ep end_ L] := by
 refine hc_enter (vs := [.pointer (some ⟨jb, 0, none⟩)]) Tryz.func141 rfl _ Tryz.ntmps141 rfl H ?_
 simp only [argSlots, Nat.zero_add]
 refine HC.exs ?_
 rintro ⟨A, cap, cs⟩
 refine HC.ent (l' := rjouB jb g from_ to_ ep end_ L.length (A, cap) :: row A 108 1 L.length cap cs :: rowsB 5 L cs :: []) (fun _ h => h) ?_
 refine zg <| zs rfl <| zn <| hc_seq <| hc_quiet mixed Z61 <| hq_v (ov_move rfl) rfl <| hq_v (ov_nil rfl) rfl <| hq_v (ov_fieldA rfl) rfl <| hq_v (zw rfl rfl) rfl <| hq_v (ov_move rfl) rfl <| ?_
 refine hq_v (ov_nil rfl) rfl <| hq_v (ov_fieldA rfl) rfl <| hq_v (zw rfl rfl) rfl <| ?_
 refine hq_v (ov_sub (m := ((to_ - end_ : Nat) : Int)) rfl rfl ((wrap_i64 Z64).trans Z64)) rfl ?_
 refine hq_v (ov_assign rfl) rfl <| hq_nil <| zt <| zq <| ?_
 exact zz rfl rfl fun w' H' => ⟨rfl, H'.ent rjou_mk⟩
theorem RNext_spec (jb g from_ to_ ep end_ : Nat) (L : List (List UInt8)) (ep' : Nat) (H : Own D w w [rjou jb g from_ to_ ep end_ L]) :
  Calls Tryz.prog 71 #[.pointer (some ⟨jb, 0, none⟩), .int .u32 (ep' : Int)] w fun e w' => e = .returned (.tuple #[]) ∧ Own D w w' [rjou jb g from_ to_ ep' from_ []] := by
 refine hc_enter (vs := [.pointer (some ⟨jb, 0, none⟩), .int .u32 (ep' : Int)]) Tryz.func71 rfl _ Tryz.ntmps71 rfl H ?_
 simp only [argSlots, Nat.zero_add]
 refine HC.exs ?_
 rintro ⟨A, cap, cs⟩
 refine HC.ent (l' := rjouB jb g from_ to_ ep end_ L.length (A, cap) :: row A 108 1 L.length cap cs :: rowsB 5 L cs :: []) (fun _ h => h) ?_
 refine hc_region <| zm rfl <| zm rfl <| zm rfl <| zm rfl <| zm rfl <| zv (ov_nil rfl) <| zf rfl <| zl rfl rfl <| zv (ov_nil rfl) <| zf rfl <| hl_u0 (on_storeN rfl rfl rfl rfl rfl) rfl rfl <| ?_
 refine zv (ov_nil rfl) <| zf rfl <| hl_u0 (on_storeN rfl rfl rfl rfl rfl) rfl rfl <| zv (ov_nil rfl) <| zf rfl <| hl_u0 (on_storeN rfl rfl rfl rfl rfl) rfl rfl <| ?_
 refine hl_nil <| ?_
 exact results_0 (.inl rfl) rfl fun w' H' => ⟨rfl, H'.ent (Ent.trans (b := [rjouB jb g from_ to_ ep' from_ 0 (none, 0)]) Z8 rjou_mk0)⟩
theorem RSectors_full (jb g from_ to_ ep end_ : Nat) (L : List (List UInt8)) (v : Value) (x : List UInt8) (hx : x.length ≤ 4000) (n : Nat) (hn : needM x.length = n) (hfull : to_ - end_ < n) (hle : end_ ≤ to_) (hto : to_ ≤ 100000) (hep : ep < 4294967296) (hL : L.length ≤ 1000000) (HA : Old D w (Rep.rep x [v])) (H : Own D w w [rjou jb g from_ to_ ep end_ L]) :
  Calls Tryz.prog 102 #[.pointer (some ⟨jb, 0, none⟩), v] w fun e w' => e = .returned (.tuple #[.slice none 0 0, .int .i64 12]) ∧ Own D w w' [rjou jb g from_ to_ ep end_ L] := by
 obtain ⟨Ax, capx, rfl, _⟩ := HA.openB
 obtain ⟨E, hE⟩ : ∃ E, E = encE (jouE ep L.length x) := ⟨_, rfl⟩
 have hEl : E.length = n := by rw [hE, encE_len _ hx, hn]
 refine hc_enter (vs := [.pointer (some ⟨jb, 0, none⟩), .slice Ax x.length capx]) Tryz.func102 rfl _ Tryz.ntmps102 rfl H ?_
 simp only [argSlots, Nat.zero_add]
 refine zg <| zs rfl <| zs rfl <| zn <| hc_seq <| HC.exs ?_
 rintro ⟨A, cap, cs⟩
 refine HC.ent (l' := rjouB jb g from_ to_ ep end_ L.length (A, cap) :: row A 108 1 L.length cap cs :: rowsB 5 L cs :: []) (fun _ h => h) ?_
 refine hc_any [rjouB jb g from_ to_ ep end_ L.length (A, cap)] mixed 18 rfl ?_
 refine ha_v 0 rfl (ov_move rfl) rfl <| ha_v 1 rfl (ov_nil rfl) rfl <| ha_v 2 rfl (ov_fieldA rfl) rfl <| ha_v 3 rfl (zw rfl rfl) rfl <| ha_v 4 rfl (ov_move rfl) rfl <| ha_v 5 rfl (ov_nil rfl) rfl <| ha_v 6 rfl (ov_fieldA rfl) rfl <| ha_v 7 rfl (zw rfl rfl) rfl <| ha_v 8 rfl Z25 rfl <| ?_
 refine ha_v 10 rfl (ov_move rfl) rfl <| ha_one 9 Z61 <| ho_v rfl (ov_conv (m := ((L.length : Nat) : Int)) rfl (wrap_u32 Z64)) rfl ?_
 refine ha_v 11 rfl (ov_buildSN rfl rfl) rfl <| ?_
 refine ha_one 12 Z61 <| ho_kx (σ := Option Addr × Nat) rfl Tryz.call126 rfl (fun w1 => zu fun D' hold _ _ => REnc_at D' w1 (jouE ep L.length x) _ E n hE hEl.symm ⟨show 1 < 256 by decide, hep, show L.length < 4294967296 by omega, hx⟩ (hold _ HA)) ?_
 intro qe
 try rw [List.nil_append]
 refine ha_v 13 rfl (ov_move rfl) rfl <| ha_v 14 rfl (ov_extract rfl rfl) rfl <| ha_v 15 rfl (ov_extract rfl rfl) rfl <| ha_v 16 rfl (ov_assign rfl) rfl <| ha_v 17 rfl (ov_assign rfl) rfl <| ha_done Z61 <| zt <| hc_seq <| zg <| zm rfl <| ?_
 refine zv (ov_neq rfl rfl) <| zn <| hc_cond_F rfl ((fun h => h rfl)) <| HC.ent (Ent.trans (b := rjouB jb g from_ to_ ep end_ L.length (A, cap) :: row A 108 1 L.length cap cs :: rowsB 5 L cs :: [row qe.1 61 64 n qe.2 (E.flatMap secC)]) Z8 rjou_mk) ?_
 refine zk <| hc_seq <| zg <| zm rfl <| zv Z25 <| ?_
 refine zm rfl <| hl_c Tryz.call141 rfl rfl (fun w1 => zp (rjou jb g from_ to_ ep end_ L) fun D' _ _ H2 => RRoom_spec D' w1 jb g from_ to_ ep end_ L hle hto H2) ?_
 refine zv (ov_gtr rfl rfl) <| zn <| hc_cond_T rfl (Z64) ?_
 refine zg <| zs rfl <| zs rfl <| zn <| zq <| zr <| ?_
 exact results_2 (.inr rfl) rfl rfl rfl fun w' H' => ⟨rfl, H'.ent Z8⟩
theorem RSectors_ok (jb g from_ to_ ep end_ : Nat) (L : List (List UInt8)) (v : Value) (x : List UInt8) (hx : x.length ≤ 4000) (n : Nat) (hn : needM x.length = n) (E : List Sec) (hE : E = encE (jouE ep L.length x)) (hfit : n ≤ to_ - end_) (hle : end_ ≤ to_) (hto : to_ ≤ 100000) (hep : ep < 4294967296) (hL : L.length ≤ 1000000) (HA : Old D w (Rep.rep x [v])) (H : Own D w w [rjou jb g from_ to_ ep end_ L]) :
  Calls Tryz.prog 102 #[.pointer (some ⟨jb, 0, none⟩), v] w fun e w' => ∃ qe : Option Addr × Nat, e = .returned (.tuple #[.slice qe.1 n qe.2, .int .i64 0]) ∧ Own D w w' [rjou jb g from_ to_ ep end_ L, row qe.1 61 64 n qe.2 (E.flatMap secC)] := by
 obtain ⟨Ax, capx, rfl, _⟩ := HA.openB
 have hEl : E.length = n := by rw [hE, encE_len _ hx, hn]
 refine hc_enter (vs := [.pointer (some ⟨jb, 0, none⟩), .slice Ax x.length capx]) Tryz.func102 rfl _ Tryz.ntmps102 rfl H ?_
 simp only [argSlots, Nat.zero_add]
 refine zg <| zs rfl <| zs rfl <| zn <| hc_seq <| HC.exs ?_
 rintro ⟨A, cap, cs⟩
 refine HC.ent (l' := rjouB jb g from_ to_ ep end_ L.length (A, cap) :: row A 108 1 L.length cap cs :: rowsB 5 L cs :: []) (fun _ h => h) ?_
 refine hc_any [rjouB jb g from_ to_ ep end_ L.length (A, cap)] mixed 18 rfl ?_
 refine ha_v 0 rfl (ov_move rfl) rfl <| ha_v 1 rfl (ov_nil rfl) rfl <| ha_v 2 rfl (ov_fieldA rfl) rfl <| ha_v 3 rfl (zw rfl rfl) rfl <| ha_v 4 rfl (ov_move rfl) rfl <| ha_v 5 rfl (ov_nil rfl) rfl <| ha_v 6 rfl (ov_fieldA rfl) rfl <| ha_v 7 rfl (zw rfl rfl) rfl <| ha_v 8 rfl Z25 rfl <| ?_
 refine ha_v 10 rfl (ov_move rfl) rfl <| ha_one 9 Z61 <| ho_v rfl (ov_conv (m := ((L.length : Nat) : Int)) rfl (wrap_u32 Z64)) rfl ?_
 refine ha_v 11 rfl (ov_buildSN rfl rfl) rfl <| ?_
 refine ha_one 12 Z61 <| ho_kx (σ := Option Addr × Nat) rfl Tryz.call126 rfl (fun w1 => zu fun D' hold _ _ => REnc_at D' w1 (jouE ep L.length x) _ E n hE hEl.symm ⟨show 1 < 256 by decide, hep, show L.length < 4294967296 by omega, hx⟩ (hold _ HA)) ?_
 intro qe
 try rw [List.nil_append]
 refine ha_v 13 rfl (ov_move rfl) rfl <| ha_v 14 rfl (ov_extract rfl rfl) rfl <| ha_v 15 rfl (ov_extract rfl rfl) rfl <| ha_v 16 rfl (ov_assign rfl) rfl <| ha_v 17 rfl (ov_assign rfl) rfl <| ha_done Z61 <| zt <| hc_seq <| zg <| zm rfl <| ?_
 refine zv (ov_neq rfl rfl) <| zn <| hc_cond_F rfl ((fun h => h rfl)) <| HC.ent (Ent.trans (b := rjouB jb g from_ to_ ep end_ L.length (A, cap) :: row A 108 1 L.length cap cs :: rowsB 5 L cs :: [row qe.1 61 64 n qe.2 (E.flatMap secC)]) Z8 rjou_mk) ?_
 refine zk <| hc_seq <| zg <| zm rfl <| zv Z25 <| ?_
 refine zm rfl <| hl_c Tryz.call141 rfl rfl (fun w1 => zp (rjou jb g from_ to_ ep end_ L) fun D' _ _ H2 => RRoom_spec D' w1 jb g from_ to_ ep end_ L hle hto H2) ?_
 refine zv (ov_gtr rfl rfl) <| zn <| hc_cond_F rfl (Z64) ?_
 refine zk <| zg <| zm rfl <| zs rfl <| zs rfl <| zn <| zq <| ?_
 exact results_2 (.inr rfl) rfl rfl rfl fun w' H' => ⟨qe, rfl, H'.ent Z8⟩
theorem RAppend_full (jb g from_ to_ ep end_ : Nat) (L : List (List UInt8)) (v : Value) (x : List UInt8) (hx : x.length ≤ 4000) (n : Nat) (hn : needM x.length = n) (hfull : to_ - end_ < n) (hle : end_ ≤ to_) (hto : to_ ≤ 100000) (hep : ep < 4294967296) (hL : L.length ≤ 1000000) (HA : Old D w (Rep.rep x [v])) (H : Own D w w [rjou jb g from_ to_ ep end_ L]) :
  Calls Tryz.prog 60 #[.pointer (some ⟨jb, 0, none⟩), v] w fun e w' => e = .returned (.int .i64 12) ∧ Own D w w' [rjou jb g from_ to_ ep end_ L] := by
 refine hc_enter (vs := [.pointer (some ⟨jb, 0, none⟩), v]) Tryz.func60 rfl _ Tryz.ntmps60 rfl H ?_
 simp only [argSlots, Nat.zero_add]
 refine zg <| zs rfl <| zn <| hc_seq <| hc_region <| zm rfl <| zm rfl <| hl_c Tryz.call102 rfl rfl (fun w1 => zp (rjou jb g from_ to_ ep end_ L) fun D' hold _ H2 => RSectors_full D' w1 jb g from_ to_ ep end_ L v x hx n hn hfull hle hto hep hL (hold _ HA) H2) ?_
 refine zm rfl <| zx rfl rfl <| zx rfl rfl <| zs rfl <| zs rfl <| hl_nil <| zt <| hc_seq <| zg <| zm rfl <| zv (ov_neq rfl rfl) <| zn <| hc_cond_T rfl (Z63) ?_
 refine zg <| zm rfl <| zs rfl <| zn <| zq <| zr <| ?_
 exact zz rfl rfl fun w' H' => ⟨rfl, H'⟩
set_option maxHeartbeats 1000000 in
theorem RAppend_ok (jb g from_ to_ ep end_ : Nat) (L : List (List UInt8)) (v : Value) (S : List Sec) (x : List UInt8) (n end' : Nat) (L' : List (List UInt8)) (S' : List Sec) (hn : needM x.length = n) (he : end' = end_ + n) (hL' : L' = L ++ [x]) (hS' : S' = putS S end_ (encE (jouE ep L.length x))) (hle : end_ ≤ to_) (hto : to_ ≤ S.length) (hS : S.length ≤ 100000) (hp : x.length ≤ 4000) (hfit : n ≤ to_ - end_) (hep : ep < 4294967296) (hL : L.length ≤ 1000000) (HA : Old D w (Rep.rep x [v])) (H : Own D w w [rjou jb g from_ to_ ep end_ L, rdsk g S []]) :
  Calls Tryz.prog 60 #[.pointer (some ⟨jb, 0, none⟩), v] w fun e w' => e = .returned (.int .i64 0) ∧ Own D w w' [rjou jb g from_ to_ ep end' L', rdsk g S' []] := by
 obtain ⟨E, hE⟩ : ∃ E, E = encE (jouE ep L.length x) := ⟨_, rfl⟩
 have hEl : E.length = n := by rw [hE, encE_len _ hp, hn]
 have hpos := enc_pos (jouE ep L.length x)
 rw [← hE] at hpos hS'
 obtain ⟨Ax, capx, rfl, _, _, HS⟩ := HA.openB
 refine hc_enter (vs := [.pointer (some ⟨jb, 0, none⟩), .slice Ax x.length capx]) Tryz.func60 rfl _ Tryz.ntmps60 rfl H ?_
 simp only [argSlots, Nat.zero_add]
 refine zg <| zs rfl <| zn <| hc_seq <| hc_region <| zm rfl <| zm rfl <| hl_call (σ := Option Addr × Nat) Tryz.call102 rfl rfl (fun w1 => zpx (rjou jb g from_ to_ ep end_ L) fun D' hold _ H2 => RSectors_ok D' w1 jb g from_ to_ ep end_ L _ x hp n hn E hE hfit hle Z64 hep hL (hold _ HA) H2) ?_
 intro qe
 refine HL.fact (fun w H => Own.factR qe.1 H) ?_
 rintro ⟨_, _, _, hAe'⟩
 have hAe : isA qe.1 := hAe' (by intro h; have := congrArg List.length h; rw [flat_len secC_len] at this; simp only [List.length_nil] at this; omega)
 refine zm rfl <| zx rfl rfl <| zx rfl rfl <| zs rfl <| zs rfl <| hl_nil <| zt <| hc_seq <| zg <| zm rfl <| zv (ov_neq rfl rfl) <| zn <| hc_cond_F rfl ((fun h => h rfl)) <| zk <| hc_seq <| hc_seq <| HC.exs ?_
 rintro ⟨A, cap, cs⟩
 refine HC.ent (l' := rjouB jb g from_ to_ ep end_ L.length (A, cap) :: row A 108 1 L.length cap cs :: rowsB 5 L cs :: [row qe.1 61 64 n qe.2 (E.flatMap secC), rdsk g S []]) (fun _ h => h) ?_
 refine HC.fact (fun w H => Own.factR A H) (fun hf => ?_)
 obtain ⟨hcl0, hcap, hcap2, hA⟩ := hf
 refine HC.fact (fun w H => rowsB_one (t := 5) (xs := L) (cs := cs) H) (fun hone => ?_)
 refine hc_region <| zs rfl <| zn <| hc_block <| hc_loopK1 (σ := Nat) [0, 1, 5] rfl 7 (fun i => .int .i64 (i : Int)) (fun i => [rdsk g S (PW end_ E i), row qe.1 61 64 n qe.2 (E.flatMap secC), rjouB jb g from_ to_ ep end_ L.length (A, cap), row A 108 1 L.length cap cs, rowsB 5 L cs]) (fun i => i ≤ n) (fun i => n - i) (0) (Nat.zero_le _) rfl (show Ent _ [rdsk g S [], row qe.1 61 64 n qe.2 (E.flatMap secC), rjouB jb g from_ to_ ep end_ L.length (A, cap), row A 108 1 L.length cap cs, rowsB 5 L cs] from Z8) ?_
 rintro i hi K1 hK1
 refine hc_seq <| zg <| zm rfl <| zm rfl <| zv Z25 <| ?_
 refine zv (ov_lss rfl rfl) <| zn <| hc_cond rfl (fun h => ?_) (fun h => ?_)
 ·have hin : i < n := by omega
  have hiE : i < E.length := by omega
  refine zk <| hc_seq <| hc_block <| hc_tail 14 mixed Z61 ?_
  refine ht_v (ov_move rfl) rfl <| ht_v (ov_nil rfl) rfl <| ht_v (ov_fieldA rfl) rfl <| ht_v (zw rfl rfl) rfl <| ht_v (ov_move rfl) rfl <| ht_v (ov_nil rfl) rfl <| ?_
  refine ht_v (ov_fieldA rfl) rfl <| ht_v (zw rfl rfl) rfl <| ht_v (ov_move rfl) rfl <| ?_
  refine ht_v (ov_add (m := ((end_ + i : Nat) : Int)) rfl rfl ((wrap_i64 Z64).trans Z64)) rfl ?_
  refine ht_v (ov_move rfl) rfl <| ht_v (ov_move rfl) rfl <| ?_
  refine ht_v (ov_idxS rfl hAe rfl i rfl hin) rfl ?_
  refine ht_v (ov_loadG (cs := secC E[i]) rfl (secC_len _) (CellsAre.flat (f := secC) (A := qe.1) secC_len hAe (i := i) hiE)) rfl ?_
  refine ht_nil <| ?_
  refine hl_c Tryz.call87 rfl rfl (fun w1 => zp (rdsk g S (PW end_ E i)) fun D' _ _ H2 => RWrite_ok D' w1 g (end_ + i) E[i] S (PW end_ E i) Z64 (by have := PW_len (at_ := end_) (l := E) (i := i); omega) H2) ?_
  rw [← PW_succ hiE]
  refine hl_nil <| zb <| zt <| hc_region <| zm rfl <| zv (ov_add rfl rfl Z28) <| ?_
  refine zs rfl <| hl_nil <| hx_next hK1 (i + 1) (hin) Z64 Z16 Z10
 have hin : i = n := by omega
 have hPd : settleL (fun _ => true) 0 S (PW end_ E E.length) = S' := by rw [hS']; exact PW_done Z64
 rw [hin, ← hEl]
 refine hc_exit <| ze <| ze <| hx_block_out <| zt <| hc_seq <| hc_region <| zm rfl <| zv (ov_nil rfl) <| zf rfl <| zl rfl rfl <| ?_
 refine hl_c Tryz.call88 rfl rfl (fun w1 => zp (rdsk g S (PW end_ E E.length)) fun D' _ _ H2 => RFlush_spec D' w1 g S (PW end_ E E.length) (PW_lt Z64) H2) ?_
 rw [hPd]
 refine zn <| zg <| zm rfl <| hl_new (on_buildSliceN rfl rfl rfl) rfl rfl rfl (fun b44 => ?_)
 refine HL.ent (Ent.blk_row (b := b44) 1 0 rfl Z63) ?_
 refine zm rfl <| zv (ov_nil rfl) <| zf rfl <| zl rfl rfl <| ?_
 refine hl_new (on_appendR (A := some ⟨b44, 0, none⟩) (news := cs) rfl rfl (SrcIs.rowR (A := A) hA) Z64 hone Z63 Z64) rfl rfl rfl ?_
 rintro ⟨A2, cap2⟩
 dsimp only
 simp only [Nat.zero_add, List.nil_append]
 refine hl_new (on_buildSliceN rfl rfl rfl) rfl rfl rfl (fun b50 => ?_)
 refine HL.ent (Ent.blk_row (b := b50) 1 0 rfl Z63) ?_
 refine zm rfl <| hl_new (on_appendR (A := some ⟨b50, 0, none⟩) (news := x.map u8v) rfl rfl (SrcIs.old HS) (by simp) (u8_one _) Z63 Z64) rfl rfl rfl ?_
 rintro ⟨A3, cap3⟩
 dsimp only
 simp only [Nat.zero_add, List.nil_append]
 refine hl_new (on_buildSliceN rfl rfl rfl) rfl rfl rfl fun b53 =>  ?_
 refine hl_new (on_appendR (A := A2) (news := [.slice A3 x.length cap3]) rfl rfl (SrcIs.blk (b := b53)) rfl Z49 Z63 Z64) rfl rfl rfl ?_
 rintro ⟨A4, cap4⟩
 dsimp only
 refine zv (ov_nil rfl) <| zf rfl <| hl_u0 (on_storeN rfl rfl rfl rfl rfl) rfl rfl <| zn <| hc_seq <| ?_
 refine hc_region <| zm rfl <| zv (ov_nil rfl) <| zf rfl <| zl rfl rfl <| zm rfl <| ?_
 refine zv Z25 <| ?_
 refine hl_v (ov_add (m := ((end' : Nat) : Int)) rfl rfl ((wrap_i64 Z64).trans Z64)) rfl ?_
 refine zv (ov_nil rfl) <| zf rfl <| hl_u0 (on_storeN rfl rfl rfl rfl rfl) rfl rfl <| zn <| hc_seq <| ?_
 refine hc_region <| zs rfl <| zn <| zq <| ?_
 exact zz rfl rfl fun w' H' => ⟨rfl, H'.ent (Ent.trans (b := rowsB 5 L cs :: row A3 5 1 x.length cap3 (x.map u8v) :: [rjouB jb g from_ to_ ep end' (L.length + 1) (A4, cap4), row A4 108 1 (L.length + 1) cap4 (cs ++ [.slice A3 x.length cap3]), rdsk g S' []]) Z8 (Ent.trans rowsB_snoc (by have hj := rjou_mk (jb := jb) (g := g) (from_ := from_) (to_ := to_) (ep := ep) (end_ := end') (L := L ++ [x]) (A := A4) (cap := cap4) (cs := cs ++ [.slice A3 x.length cap3]) (l := [rdsk g S' []]); rw [List.length_append] at hj; rw [hL']; exact Ent.trans Z8 hj)))⟩
end Go.Proofs.YtjlolpmmpafjeaaGreat
