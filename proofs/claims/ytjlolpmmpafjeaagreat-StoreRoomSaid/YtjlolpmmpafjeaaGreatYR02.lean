import Derived.Test.YtjlolpmmpafjeaaGreatZ01
import Derived.Test.YtjlolpmmpafjeaaGreatZ02
import Derived.Test.YtjlolpmmpafjeaaGreatZ03
import Derived.Test.YtjlolpmmpafjeaaGreatZ04
import Derived.Test.YtjlolpmmpafjeaaGreatZ05
import Derived.Test.YtjlolpmmpafjeaaGreatZ06
import Derived.Test.YtjlolpmmpafjeaaGreatZ07
import Derived.Test.YtjlolpmmpafjeaaGreatZ08
import Derived.Test.YtjlolpmmpafjeaaGreatZ09
import Derived.Test.YtjlolpmmpafjeaaGreatZ10
import Derived.Test.YtjlolpmmpafjeaaGreatZ11
import Derived.Test.YtjlolpmmpafjeaaGreatZ12
import Derived.Test.YtjlolpmmpafjeaaGreatZ13
import Derived.Test.YtjlolpmmpafjeaaGreatZ14
import Derived.Test.YtjlolpmmpafjeaaGreatZ15
import Derived.Test.YtjlolpmmpafjeaaGreatZ16
import Derived.Test.YtjlolpmmpafjeaaGreatZ17
import Derived.Test.YtjlolpmmpafjeaaGreatZ18
import Derived.Test.YtjlolpmmpafjeaaGreatZ19
import Derived.Test.YtjlolpmmpafjeaaGreatZ20
import Derived.Test.YtjlolpmmpafjeaaGreatZ21
import Derived.Test.YtjlolpmmpafjeaaGreatZ22
import Derived.Test.YtjlolpmmpafjeaaGreatZ23
import Derived.Test.YtjlolpmmpafjeaaGreatZ24
import Derived.Test.YtjlolpmmpafjeaaGreatYR01
import Derived.WalkKit
import Derived.ProofKit
import Derived.OpenShut
import Derived.ShutString
import Derived.ChangeOld
import Derived.Below
import Derived.Test.YtjlolpmmpafjeaaGreatRows
set_option linter.unusedVariables false
set_option linter.unusedSimpArgs false
namespace Go.Proofs.YtjlolpmmpafjeaaGreat
open Slk
/-! ### Costs of ports -/
def costE (i : Nat) : EditC := (5, (i % 3 : Nat), (1 + i : Nat), 0, 0, 0, 0)
def cst3 (a b c : UInt32) : ConfC := (32768, 20, 15, [(true, a, 1), (true, b, 1), (true, c, 1)], [(1, 7, 0)], [])
def bndC (a : UInt32) : Prop := 1 ≤ a.toNat ∧ a.toNat ≤ 200000000
theorem cst3_good {a b c : UInt32} (ha : bndC a) (hb : bndC b) (hc : bndC c) : goodP (cst3 a b c) := by
  have h := firstC_good 3 (by decide) (by decide)
  obtain ⟨h1, h2, ⟨h3, h3', h3''⟩, h4, h5, h6⟩ := h
  refine ⟨h1, h2, ⟨h3, h3', fun i hi => ?_⟩, h4, h5, h6⟩
  have e : ∃ i, ∃ h : i < [((1 : Int), (7 : UInt8), (0 : UInt8))].length, [((1 : Int), (7 : UInt8), (0 : UInt8))][i].1 = 1 := ⟨0, Nat.zero_lt_one, rfl⟩
  match i, hi with
  | 0, _ => exact ⟨e, ha⟩
  | 1, _ => exact ⟨e, hb⟩
  | 2, _ => exact ⟨e, hc⟩
theorem one_cost (i : Nat) (hi : i < 60) (a b c : UInt32) : ∀ k : Nat, k < 3 → oneC (cst3 a b c) (5, (k : Int), ((1 + i : Nat) : Int), 0, 0, 0, 0) = (if k = 0 then cst3 (UInt32.ofNat (1 + i)) b c else if k = 1 then cst3 a (UInt32.ofNat (1 + i)) c else cst3 a b (UInt32.ofNat (1 + i)), 0) := by
  intro k hk
  unfold oneC
  dsimp only
  rw [if_neg (by decide), if_neg (by decide), if_neg (by decide), if_pos (by decide), if_neg (show ¬ ((k : Int) < 0 ∨ ((cst3 a b c).2.2.2.1.length : Int) ≤ (k : Int)) by show ¬ ((k : Int) < 0 ∨ (3 : Int) ≤ (k : Int)); omega), if_neg (by decide), if_pos rfl, if_neg (show ¬ (((1 + i : Nat) : Int) < 0 ∨ 4294967295 < ((1 + i : Nat) : Int)) by omega)]
  match k, hk with
  | 0, _ => rfl
  | 1, _ => rfl
  | 2, _ => rfl
theorem costE_ok (i : Nat) (hi : i < 60) : ∀ x ∈ [costE i], Flat.ok x := fun x hx => by
  obtain rfl := List.mem_singleton.1 hx
  have h3 : i % 3 < 3 := Nat.mod_lt _ (by decide)
  refine editOk1 _ ⟨?_, ?_⟩ ⟨?_, ?_⟩ (inI _ ⟨?_, ?_⟩) ⟨?_, ?_⟩ <;> simp only [costE] <;> omega
theorem costE_eds (i : Nat) (hi : i < 60) : okEds [costE i] := by
  have h3 : i % 3 < 3 := Nat.mod_lt _ (by decide)
  refine ⟨Nat.le_of_ble_eq_true rfl, fun j hj => ?_⟩
  match j, hj with
  | 0, _ =>
    show goodE (costE i)
    refine ⟨?_, ?_, ?_, ?_, ?_, ?_, ?_, ?_, Nat.lt_of_lt_of_le (show (0 : UInt64).toNat < 1 by decide) (by decide)⟩ <;> simp only [costE] <;> omega
def costC (c : ConfC) : Prop := ∃ x y z, c = cst3 x y z ∧ bndC x ∧ bndC y ∧ bndC z
theorem room_step {m : Nat} {s : SSt} (h : SI m s) (i : Nat) (hi : i < 60) (hc : costC s.c) (hep : s.ep < 4294967290) :
    ∃ s', commR m s [costE i] = (0, s') ∧ SI m s' ∧ s.ep ≤ s'.ep ∧ s'.ep ≤ s.ep + 1 ∧ costC s'.c ∧ s'.c.2.2.2.1.length = 3 ∧ ∃ p, s'.c.2.2.2.1[i % 3]? = some p ∧ p.2.1.toNat = 1 + i := by
  obtain ⟨x, y, z, hs, hx, hy, hz⟩ := hc
  have h3 : i % 3 < 3 := Nat.mod_lt _ (by decide)
  have hb : bndC (UInt32.ofNat (1 + i)) := by unfold bndC; rw [UInt32.toNat_ofNat_of_lt' (show 1 + i < 4294967296 by omega)]; omega
  have hbt : (UInt32.ofNat (1 + i)).toNat = 1 + i := UInt32.toNat_ofNat_of_lt' (show 1 + i < 4294967296 by omega)
  have h1 := one_cost i hi x y z (i % 3) h3
  obtain ⟨d, hd, hdc, hdl, p, hp, hpc⟩ : ∃ d, oneC s.c (costE i) = (d, 0) ∧ costC d ∧ d.2.2.2.1.length = 3 ∧ ∃ p, d.2.2.2.1[i % 3]? = some p ∧ p.2.1.toNat = 1 + i := by
    rw [hs]
    refine ⟨_, h1, ?_⟩
    have : i % 3 = 0 ∨ i % 3 = 1 ∨ i % 3 = 2 := by omega
    rcases this with k | k | k <;> rw [k]
    · exact ⟨⟨_, _, _, rfl, hb, hy, hz⟩, rfl, _, rfl, hbt⟩
    · exact ⟨⟨_, _, _, rfl, hx, hb, hz⟩, rfl, _, rfl, hbt⟩
    · exact ⟨⟨_, _, _, rfl, hx, hy, hb⟩, rfl, _, rfl, hbt⟩
  have hf : foldC s.c [costE i] = (d, 0) := by
    show (if (oneC s.c (costE i)).2 = 0 then foldC (oneC s.c (costE i)).1 [] else oneC s.c (costE i)) = _
    rw [hd]; rfl
  have hg : goodP d := by obtain ⟨_, _, _, rfl, k1, k2, k3⟩ := hdc; exact cst3_good k1 k2 k3
  have he : edF s.c [costE i] = (d, 0) := (edF_R _ _).ok h.gc (Nat.le_of_ble_eq_true rfl) hf hg
  have hn : needM (edsB [costE i]).length = 1 := by rw [edsB_len]; show needM (1 + 16 * 1) = 1; decide
  have hm := h.m40
  have hk : ∃ s', commR m s [costE i] = (0, s') := by
    unfold commR
    rw [he, if_neg (fun h => h rfl), if_neg (fun h => h (costE_eds i hi)), hn]
    split
    · exact ⟨_, rfl⟩
    · rw [if_pos (by omega)]; exact ⟨_, rfl⟩
  obtain ⟨s', hk⟩ := hk
  have hr := commR_ok h (costE_ok i hi) hep
  rw [hk] at hr
  obtain ⟨r1, r2, r3, r4, _⟩ := hr
  rw [if_pos rfl, he] at r4
  have r4 : s'.c = d := r4
  refine ⟨s', hk, r1, r2, r3, ?_⟩
  rw [r4]
  exact ⟨hdc, hdl, p, hp, hpc⟩
set_option maxHeartbeats 1000000 in
theorem StoreRoom_walk (W : World) (v0 v1 : Value) (n many : UInt8) (h0 : Old none' W (Rep.rep n [v0])) (h1 : Old none' W (Rep.rep many [v1])) :
    Calls Tryz.prog 6 #[v0, v1] W fun e w' => e = .returned (.bool true) ∧ Own none' W w' [] := by
  obtain rfl : v0 = .int .u8 n.toNat := u8_open h0
  obtain rfl : v1 = .int .u8 many.toNat := u8_open h1
  obtain ⟨N, hN, hN2⟩ : ∃ v, v = n.toNat ∧ v < 256 := ⟨_, rfl, n.toNat_lt⟩
  obtain ⟨M, hM, hM2⟩ : ∃ v, v = many.toNat ∧ v < 256 := ⟨_, rfl, many.toNat_lt⟩
  obtain ⟨K, hK, hK2⟩ : ∃ K, K = M % 60 ∧ K < 60 := ⟨_, rfl, Nat.mod_lt _ (by decide)⟩
  rw [← hN, ← hM]
  obtain ⟨m, hm, hm1, hm2⟩ : ∃ m, m = 40 + N % 10 ∧ 40 ≤ m ∧ m ≤ 49 := ⟨_, rfl, by omega, by omega⟩
  obtain ⟨S0, hS0⟩ : ∃ S, S = List.replicate m zeroSec := ⟨_, rfl⟩
  obtain ⟨s1, hs1⟩ : ∃ s, s = firstSt m 3 := ⟨_, rfl⟩
  have k1 : SI m s1 := by rw [hs1]; exact firstSt_ok hm1 (by decide) (by decide)
  have e1 : s1.ep = 1 := by rw [hs1]; rfl
  have c1 : costC s1.c := by rw [hs1]; exact ⟨20000, 20000, 20000, rfl, by unfold bndC; decide, by unfold bndC; decide, by unfold bndC; decide⟩
  refine hc_enter (vs := [.int .u8 (N : Int), .int .u8 (M : Int)]) Tryz.func6 rfl _ Tryz.ntmps6 rfl (Own.start none' W) ?_
  simp only [argSlots, Nat.zero_add]
  refine hc_seq <| hc_region <| hl_v (ov_assign rfl) rfl <| hl_nil <| hx_then_normal <| hc_seq <| ?_
  refine hc_region <| hl_v (ov_move rfl) rfl <| hl_v (ov_conv rfl (by first | exact wrap_i64 (by omega) | rfl)) rfl <| ?_
  refine hl_v (ov_remE (m := N % 10) (b := 10) rfl rfl (by omega) rfl) rfl ?_
  refine hl_v (ov_add rfl rfl (by first | exact wrap_i64 (by omega) | rfl)) rfl <| ?_
  rw [show (40 : Int) + ((N % 10 : Nat) : Int) = (m : Int) by omega]
  refine hl_call (σ := Nat) Tryz.call15 rfl rfl (fun w1 H1 => Own.callx0 H1 fun D' hold hin H2 => (New_ok D' w1 m (by omega) (by omega)).mono fun e w' ⟨g, he, H'⟩ => ⟨g, he, show Own D' w1 w' [dsk g S0 []] by rw [hS0]; exact H'⟩) ?_
  intro g
  try rw [List.nil_append]
  refine hl_v (ov_move rfl) rfl <| hl_v (ov_extract rfl rfl) rfl <| hl_v (ov_extract rfl rfl) rfl <| hl_v (ov_assign rfl) rfl <| hl_v (ov_assign rfl) rfl <| hl_nil <| ?_
  refine hx_then_normal <| hc_seq <| hc_region <| hl_v (ov_move rfl) rfl <| ?_
  refine hl_call (σ := Nat) Tryz.call17 rfl rfl (fun w1 H1 => Own.callpx (dsk g S0 []) H1 fun D' hold hin H2 => (SOpen_new D' w1 g m 3 (by omega) (by omega) (by decide) (by decide) S0 hS0 H2).mono fun e w' ⟨sb, he, H'⟩ => ⟨sb, he, show Own D' w1 w' [sto sb g m s1, dsk g s1.S []] by rw [hs1]; exact H'⟩) ?_
  intro sb
  refine hl_v (ov_move rfl) rfl <| hl_v (ov_extract rfl rfl) rfl <| hl_v (ov_extract rfl rfl) rfl <| hl_v (ov_assign rfl) rfl <| hl_v (ov_assign rfl) rfl <| hl_nil <| ?_
  refine hx_then_normal <| hc_seq <| hc_seq <| hc_region <| hl_v (ov_move rfl) rfl <| hl_v (ov_neq rfl rfl) rfl <| ?_
  refine hl_v (ov_move rfl) rfl <| ?_
  refine hl_partF (t := 30) rfl ((fun h => h rfl)) ?_
  refine hl_on rfl rfl <| hl_v (ov_move rfl) rfl <| hl_on rfl rfl <| hl_v (ov_neq rfl rfl) rfl <| hl_v (ov_pickF rfl rfl) rfl <| hl_v (ov_move rfl) rfl <| ?_
  refine hl_partF (t := 34) rfl ((fun h => h rfl)) ?_
  refine hl_on rfl rfl <| hl_v (ov_move rfl) rfl <| hl_on rfl rfl <| hl_v (ov_eqlP rfl rfl) rfl <| hl_v (ov_pickF rfl rfl) rfl <| hl_nil <| hx_then_normal <| ?_
  refine hc_cond_false rfl ?_
  refine hc_skip <| hx_then_normal <| hc_seq <| hc_region <| hl_v (ov_move rfl) rfl <| ?_
  refine hl_c Tryz.call32 rfl rfl (fun w1 H1 => Own.callp (sto sb g m s1) H1 fun D' hold hin H2 => SEpoch_spec D' w1 sb g m s1 H2) ?_
  refine hl_v (ov_assign rfl) rfl <| hl_nil <| hx_then_normal <| hc_seq <| hc_seq <| hc_region <| ?_
  refine hl_v (ov_assign rfl) rfl <| hl_nil <| hx_then_normal <| hc_block <| ?_
  refine hc_loopK2 (σ := Nat × SSt) [1, 5, 7] rfl 10 (fun s => .int .i64 (s.1 : Int)) 9 (fun s => .int .u32 (s.2.ep : Int)) (fun s => [sto sb g m s.2, dsk g s.2.S []]) (fun s => s.1 ≤ K ∧ SI m s.2 ∧ s.2.ep ≤ s.1 + 1 ∧ costC s.2.c) (fun s => K - s.1) ((0, s1)) (⟨Nat.zero_le _, k1, by show s1.ep ≤ 1; omega, c1⟩) rfl rfl (by first | assumption | exact Ent.refl _ | exact Ent.nil _ | (repeat (first | exact Ent.refl _ | exact Ent.nil _ | refine Ent.pick ?_))) ?_
  rintro ⟨i, s⟩ hj_ K1 hK1
  dsimp only at hj_ ⊢
  obtain ⟨hi, hs, he, hc⟩ := hj_
  refine hc_seq <| hc_seq <| hc_region <| hl_v (ov_move rfl) rfl <| hl_v (ov_move rfl) rfl <| hl_v (ov_conv rfl (by first | exact wrap_i64 (by omega) | rfl)) rfl <| ?_
  refine hl_v (ov_remE (m := K) (b := 60) rfl rfl (by omega) (by omega)) rfl ?_
  refine hl_v (ov_lss rfl rfl) rfl <| hl_nil <| hx_then_normal <| ?_
  refine hc_cond rfl (fun hlt => ?_) (fun hlt => ?_)
  · have hlt : i < K := by omega
    obtain ⟨s', f1, f2, f3, f4, f5, f6, p, f7, f8⟩ := room_step hs i (by omega) hc (by omega)
    refine hc_skip <| hx_then_normal <| hc_seq <| hc_block <| hc_seq <| hc_seq <| ?_
    refine hc_region <| hl_v (ov_move rfl) rfl <| hl_v (ov_move rfl) rfl <| ?_
    refine hl_v (ov_remE (m := i % 3) (b := 3) rfl rfl (by omega) rfl) rfl ?_
    refine hl_v (ov_move rfl) rfl <| ?_
    refine hl_v (ov_add (m := ((1 + i : Nat) : Int)) rfl rfl ((wrap_i64 (by omega)).trans (by omega))) rfl ?_
    refine hl_v (ov_buildSN rfl rfl) rfl <| ?_
    refine hl_new (on_buildSliceN rfl rfl rfl) rfl rfl rfl fun b53 =>  ?_
    refine hl_c Tryz.call19 rfl rfl (fun w1 H1 => Own.callp2 (sto sb g m s) (dsk g s.S []) H1 fun D' hold hin H2 => (Commit_spec D' w1 sb g m s _ [costE i] hs (by omega) (by omega) (by simp) (hin _ fun h hs ho => rep_lits (b := b53) hs [costE i] (repL_F.2 ⟨rfl, costE_ok i (by omega)⟩) (by simp)) H2).mono fun e w' ⟨he, H'⟩ => ⟨(by rw [f1] at he; exact he : e = .returned (.int .i64 0)), show Own D' w1 w' [sto sb g m s', dsk g s'.S []] by rw [f1] at H'; exact H'⟩) ?_
    refine hl_v (ov_neq rfl rfl) rfl <| hl_v (ov_move rfl) rfl <| ?_
    refine hl_partF (t := 56) rfl ((fun h => h rfl)) ?_
    refine hl_on rfl rfl <| hl_v (ov_move rfl) rfl <| ?_
    refine hl_on rfl rfl <| hl_c Tryz.call32 rfl rfl (fun w1 H1 => Own.callp (sto sb g m s') H1 fun D' hold hin H2 => SEpoch_spec D' w1 sb g m s' H2) ?_
    refine hl_on rfl rfl <| hl_v (ov_move rfl) rfl <| hl_on rfl rfl <| hl_v (ov_lss rfl rfl) rfl <| hl_v (ov_pickF rfl rfl) rfl <| hl_nil <| hx_then_normal <| ?_
    refine hc_cond_F rfl ((by omega)) ?_
    refine hc_skip <| hx_then_normal <| hc_seq <| hc_region <| hl_v (ov_move rfl) rfl <| ?_
    refine hl_c Tryz.call32 rfl rfl (fun w1 H1 => Own.callp (sto sb g m s') H1 fun D' hold hin H2 => SEpoch_spec D' w1 sb g m s' H2) ?_
    refine hl_v (ov_assign rfl) rfl <| hl_nil <| hx_then_normal <| hc_seq <| hc_region <| hl_v (ov_move rfl) rfl <| ?_
    refine hl_call (σ := Three) Tryz.call26 rfl rfl (fun w1 H1 => Own.callpx (sto sb g m s') H1 fun D' hold hin H2 => SConfig_spec D' w1 sb g m s' f2.okc H2) ?_
    intro q
    refine hl_new (on_alloc) rfl rfl rfl fun b11 =>  ?_
    refine hl_u0 (on_storeW (vs := cfgA s'.c q) rfl rfl rfl (by simp) (by simp [Value.oneCell'])) rfl rfl ?_
    refine hl_nil <| hx_then_normal <| hc_seq <| hc_region <| hl_v (ov_fieldA rfl) rfl <| hl_v (ov_load rfl (CellIs.blk rfl)) rfl <| ?_
    refine hl_v (by first | exact ov_len rfl | exact ov_lenS rfl) rfl <| ?_
    refine hl_v (ov_neq rfl rfl) rfl <| hl_v (ov_move rfl) rfl <| ?_
    refine hl_partF (t := 70) rfl ((by rw [f6]; exact fun h => h rfl)) ?_
    have h3 : i % 3 < 3 := Nat.mod_lt _ (by decide)
    refine HL.fact (fun w H => Own.factR q.1.1 H) ?_
    rintro ⟨_, _, _, hA⟩
    have hA : isA q.1.1 := hA (by have := flat_len (f := portV) (sz := 3) (fun _ => rfl) s'.c.2.2.2.1; intro h; rw [h] at this; simp at this; omega)
    refine hl_on rfl rfl <| hl_v (ov_fieldA rfl) rfl <| hl_on rfl rfl <| hl_v (ov_load rfl (CellIs.blk rfl)) rfl <| hl_on rfl rfl <| hl_v (ov_move rfl) rfl <| ?_
    refine hl_on rfl rfl <| hl_v (ov_remE (m := i % 3) (b := 3) rfl rfl (by omega) rfl) rfl ?_
    refine hl_on rfl rfl <| hl_v (ov_idxS rfl hA rfl (i % 3) rfl (by rw [f6]; exact h3)) rfl ?_
    refine hl_on rfl rfl <| hl_v (ov_fieldA rfl) rfl <| ?_
    refine hl_on rfl rfl <| hl_v (ov_load (v := .int .u32 ((1 + i : Nat) : Int)) rfl (CellIs.row (A := q.1.1) hA (i := (i % 3) * 3 + 1) (by obtain ⟨hlt3, hp⟩ := List.getElem?_eq_some_iff.1 f7; rw [flat_at (f := portV) (sz := 3) (fun _ => rfl) _ (i % 3) 1 hlt3 (by decide), hp, ← f8]; rfl))) rfl ?_
    refine hl_on rfl rfl <| hl_v (ov_move rfl) rfl <| ?_
    refine hl_on rfl rfl <| hl_v (ov_add (m := ((1 + i : Nat) : Int)) rfl rfl ((wrap_i64 (by omega)).trans (by omega))) rfl ?_
    refine hl_on rfl rfl <| hl_v (ov_conv (m := ((1 + i : Nat) : Int)) rfl (wrap_u32 (by omega))) rfl ?_
    refine hl_on rfl rfl <| hl_v (ov_neq rfl rfl) rfl <| hl_v (ov_pickF rfl rfl) rfl <| hl_nil <| hx_then_normal <| ?_
    refine hc_cond_F rfl ((fun h => h rfl)) ?_
    refine hc_skip <| hx_block_normal <| hx_then_normal <| hc_region <| hl_v (ov_move rfl) rfl <| hl_v (ov_add rfl rfl (by first | exact wrap_i64 (by omega) | rfl)) rfl <| ?_
    refine hl_v (ov_assign rfl) rfl <| hl_nil <| ?_
    refine hx_next hK1 ((i + 1, s')) (⟨hlt, f2, by show s'.ep ≤ i + 1 + 1; omega, f5⟩) (by show K - (i + 1) < K - i; omega) (by repeat (first | exact Slots.sub_nil _ | refine Slots.sub_cons rfl ?_)) (by first | assumption | exact Ent.refl _ | exact Ent.nil _ | (repeat (first | exact Ent.refl _ | exact Ent.nil _ | refine Ent.pick ?_)))
  have hil : i = K := by omega
  obtain ⟨s2, hs2⟩ : ∃ s2, s2 = saveSt s := ⟨_, rfl⟩
  have k2 : SI m s2 := by rw [hs2]; exact saveSt_ok hs (by omega)
  have e2 : s2.ep = s.ep + 1 := by rw [hs2]; rfl
  have p2 : s2.c0.2.2.2.1.length = 3 := by
    obtain ⟨x, y, z, hc, _⟩ := hc
    rw [hs2]; show s.c.2.2.2.1.length = 3
    rw [hc]; rfl
  refine hc_exit <| hx_then_exit <| hx_then_exit <| hx_block_out <| hx_then_normal <| hc_seq <| ?_
  refine hc_seq <| hc_region <| hl_v (ov_move rfl) rfl <| ?_
  refine hl_c Tryz.call31 rfl rfl (fun w1 H1 => Own.callp2 (sto sb g m s) (dsk g s.S []) H1 fun D' hold hin H2 => (SSave_spec D' w1 sb g m s hs (by omega) H2).mono fun e w' ⟨he, H'⟩ => ⟨he, show Own D' w1 w' [sto sb g m s2, dsk g s2.S []] by rw [hs2]; exact H'⟩) ?_
  refine hl_v (ov_neq rfl rfl) rfl <| hl_v (ov_move rfl) rfl <| ?_
  refine hl_partF (t := 86) rfl ((fun h => h rfl)) ?_
  refine hl_on rfl rfl <| hl_v (ov_move rfl) rfl <| ?_
  refine hl_on rfl rfl <| hl_c Tryz.call32 rfl rfl (fun w1 H1 => Own.callp (sto sb g m s2) H1 fun D' hold hin H2 => SEpoch_spec D' w1 sb g m s2 H2) ?_
  refine hl_on rfl rfl <| hl_v (ov_move rfl) rfl <| ?_
  refine hl_on rfl rfl <| hl_v (ov_add (m := ((s.ep + 1 : Nat) : Int)) rfl rfl ((wrap_u32 (by omega)).trans (by omega))) rfl ?_
  refine hl_on rfl rfl <| hl_v (ov_neq rfl rfl) rfl <| hl_v (ov_pickF rfl rfl) rfl <| hl_nil <| hx_then_normal <| ?_
  refine hc_cond_F rfl ((by omega)) ?_
  refine hc_skip <| hx_then_normal <| hc_seq <| hc_region <| hl_v (ov_move rfl) rfl <| ?_
  refine hl_call (σ := Three) Tryz.call26 rfl rfl (fun w1 H1 => Own.callpx (sto sb g m s2) H1 fun D' hold hin H2 => SConfig_spec D' w1 sb g m s2 k2.okc H2) ?_
  intro q
  refine hl_new (on_alloc) rfl rfl rfl fun b12 =>  ?_
  refine hl_u0 (on_storeW (vs := cfgA s2.c q) rfl rfl rfl (by simp) (by simp [Value.oneCell'])) rfl rfl ?_
  refine hl_nil <| hx_then_normal <| hc_seq <| hc_region <| hl_v (ov_move rfl) rfl <| ?_
  refine hl_call (σ := Nat) Tryz.call17 rfl rfl (fun w1 H1 => Own.callpx (dsk g s2.S []) H1 fun D' hold hin H2 => SOpen_old D' w1 g m s2 3 k2 (by omega) (by omega) (by decide) (by decide) p2 H2) ?_
  intro tb
  refine hl_v (ov_move rfl) rfl <| hl_v (ov_extract rfl rfl) rfl <| hl_v (ov_extract rfl rfl) rfl <| hl_v (ov_assign rfl) rfl <| hl_v (ov_assign rfl) rfl <| hl_nil <| ?_
  refine hx_then_normal <| hc_seq <| ?_
  refine hc_any [blk b12 49 (cfgA s2.c q)] mixed 23 rfl ?_
  refine ha_v 0 rfl (ov_move rfl) rfl <| ?_
  refine ha_v 1 rfl (ov_eql rfl rfl) rfl <| ?_
  refine ha_v 2 rfl (ov_move rfl) rfl <| ?_
  refine ha_partT (t := 102) rfl (rfl) ?_
  refine ha_v 3 rfl (ov_move rfl) rfl <| ?_
  refine ha_v 4 rfl (ov_neqP rfl rfl) rfl <| ?_
  refine ha_v 5 rfl (ov_pickT rfl rfl) rfl <| ?_
  refine ha_v 6 rfl (ov_move rfl) rfl <| ?_
  refine ha_v 7 rfl (ov_move rfl) rfl <| ?_
  refine ha_v 9 rfl (by first | exact ov_loadW rfl (by simp; done) | exact ov_loadGB rfl rfl) rfl <| ?_
  refine ha_one 8 (by kernel_rfl) <| ?_
  refine ho_kx (σ := Three) rfl Tryz.call26 rfl (fun w1 H1 => Own.callpx (sto tb g m s2) H1 fun D' hold hin H2 => SConfig_spec D' w1 tb g m s2 k2.okc H2) ?_
  intro q3
  refine ha_one 10 (by kernel_rfl) <| ?_
  refine ho_kx (σ := BIff (s2.c = s2.c)) rfl Tryz.call27 rfl (fun w1 H1 => Own.callx0 H1 fun D' hold hin H2 => keepC_spec D' w1 s2.c s2.c _ _ _ _ _ _ (ConfOld.rows (q := q3) k2.okc hin) (ConfOld.rows (q := q) k2.okc hin)) ?_
  intro g1
  try rw [List.nil_append]
  have hg1 : g1.1 = true := g1.2.2 rfl
  refine ha_v 11 rfl (ov_pickT rfl rfl) rfl <| ?_
  refine ha_v 12 rfl (ov_move rfl) rfl <| ?_
  refine ha_partb (t := 112) rfl (fun y3 => ?_) (fun y3 => ?_)
  · refine ha_v 13 rfl (ov_move rfl) rfl <| ?_
    refine ha_v 15 rfl (ov_move rfl) rfl <| ?_
    refine ha_v 16 rfl (ov_add rfl rfl (by first | exact wrap_u32 (by omega) | rfl)) rfl <| ?_
    refine ha_one 14 (by kernel_rfl) <| ?_
    refine ho_k rfl Tryz.call32 rfl (fun w1 H1 => Own.callp (sto tb g m s2) H1 fun D' hold hin H2 => SEpoch_spec D' w1 tb g m s2 H2) ?_
    refine ha_v 17 rfl (ov_eql rfl rfl) rfl <| ?_
    refine ha_v 18 rfl (ov_pickT rfl rfl) rfl <| ?_
    refine ha_v 19 rfl (ov_move rfl) rfl <| ?_
    refine ha_partT (t := 119) rfl ((by omega)) ?_
    refine ha_one 20 (by kernel_rfl) <| ?_
    refine ho_k rfl Tryz.call13 rfl (fun w1 H1 => Own.calln H1 fun D' hold hin H2 => wakes8_spec D' w1) ?_
    refine ha_v 21 rfl (ov_pickT rfl rfl) rfl <| ?_
    refine ha_v 22 rfl (ov_assign rfl) rfl <| ?_
    refine ha_done (by kernel_rfl) <| hx_then_normal <| hc_ret <| ?_
    exact results_1 (.inr rfl) rfl rfl fun w' H' => ⟨rfl, H'.ent (Ent.nil _)⟩
  rw [hg1] at y3; cases y3
end Go.Proofs.YtjlolpmmpafjeaaGreat
/- PROVED: the given statement StoreRoom: for every input the law returns true, and each argument reads behind the call as it read before; no condition. -/
set_option linter.unusedVariables false
namespace Go.Proofs.YtjlolpmmpafjeaaGreat.storeRoom
open Go.ChangeShapes Go.WideShapes Go.ChangeAt Go.RowKit
open Slk
theorem own : ownKnob Tryz.prog.godebug = none := by kernel_rfl
theorem laidOut : laidOutB Tryz.prog = true := by kernel_rfl
set_option maxRecDepth 100000 in
theorem lifted (os : Os) (started : os.Started) (H : Type) (enc : TypeId × Value → H) :
    ReturnsInHanded {} Tryz.checked os 6 .any (Rows.storeRoomSpec.pre6 enc Tryz.prog Tryz.f6 Rows.storeRoomRow.domain false) (Rows.storeRoomSpec.post enc Tryz.prog Tryz.f6 false true false false) := by
  refine returnsInHanded_of_change (C := Tryz.checked) own started (by kernel_rfl) Tryz.func6
    (ChangeSpec.witness6 (enc := enc) (C := Tryz.checked) false ⟨#[], #[.int .u8 0, .int .u8 0], []⟩ 8 (by kernel_rfl) (by kernel_rfl) (by kernel_rfl) (by kernel_rfl)) ?_
  intro W base args ds gs before hval0 hW hcnd _
  have hval : ∀ (j : Nat) t v, Tryz.f6.params[j]? = some t → args[j]? = some v → Value.okWide Tryz.prog W .any base t v := hval0
  have hW' := hW
  obtain ⟨p, q, hA0, hV, rfl, hfz, hnd⟩ := hW
  have hA : DataW.TrodAll enc Tryz.prog W 0 (fun _ => true) true Tryz.f6.params.toList args.toList ds p := hA0
  rw [Tryz.params6] at hA hval
  obtain ⟨v0, vs0, d0, ds0, p0, q0, hargs, rfl, rfl, h0, r0⟩ := trodAll_cons hA
  obtain ⟨v1, vs1, d1, ds1, p1, q1, rfl, rfl, rfl, h1, r1⟩ := trodAll_cons r0
  obtain ⟨rfl, rfl, rfl⟩ := trodAll_nil r1
  obtain rfl : args = #[v0, v1] := by cases args; simp_all
  obtain ⟨rfl, rfl⟩ := trodVars_none hV
  have k0 := h0
  have lt0 : ∀ x ∈ p0, x.block < W.heap.size := by obtain ⟨m, hm⟩ := k0; exact DataW.trod_lt m _ _ _ hm
  have e0 := cells_one (hval 0 5 v0 rfl rfl)
  obtain ⟨x0, y0⟩ := arg_rep (α := UInt8) h0
  rw [e0] at y0
  have k1 := h1
  have lt1 : ∀ x ∈ p1, x.block < W.heap.size := by obtain ⟨m, hm⟩ := k1; exact DataW.trod_lt m _ _ _ hm
  have e1 := cells_one (hval 1 5 v1 rfl rfl)
  obtain ⟨x1, y1⟩ := arg_rep (α := UInt8) h1
  rw [e1] at y1
  clear hA0 hval0
  refine (StoreRoom_walk W v0 v1 x0 x1 y0 y1).mono fun e W' ⟨he, hO⟩ => ?_
  have bel := hO.below
  subst he
  exact ⟨_, rfl, _, _, _, [], _, [], hW', trodAll_mk1 (shut_bool Tryz.underlying4 _), (trodAll_cons_mk (Below.trod laidOut (by kernel_rfl) (of_decide_eq_true (by kernel_rfl)) k0 bel lt0) (trodAll_cons_mk (Below.trod laidOut (by kernel_rfl) (of_decide_eq_true (by kernel_rfl)) k1 bel lt1) trodAll_mk0)), rfl, bel.frame _, fun h => by cases h⟩
theorem over : Rows.storeRoomRow.holds Tryz.pinned (OpenSpec.ofChange Rows.storeRoomSpec) :=
  OpenClaim.holds_of_wide 6 Tryz.f6 rfl rfl rfl rfl rfl rfl rfl ⟨rfl, rfl, rfl, rfl, rfl⟩ rfl rfl rfl rfl rfl (by kernel_rfl) Tryz.func6 (by kernel_rfl)
    (of_decide_eq_true (by kernel_rfl)) (by unfold Func.isWrapper; first | (rw [if_pos (by decide +kernel)]; kernel_rfl) | (rw [if_neg (by decide +kernel)]; exact ⟨rfl, rfl⟩))
    (fun os started H enc _ => lifted os started H enc)
theorem proved : Rows.StoreRoomSaid := over
#print axioms proved
end Go.Proofs.YtjlolpmmpafjeaaGreat.storeRoom
