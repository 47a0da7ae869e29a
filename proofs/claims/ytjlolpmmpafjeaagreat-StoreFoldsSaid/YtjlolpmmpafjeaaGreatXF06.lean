import Derived.Test.YtjlolpmmpafjeaaGreatW01
import Derived.Test.YtjlolpmmpafjeaaGreatW02
import Derived.Test.YtjlolpmmpafjeaaGreatW03
import Derived.Test.YtjlolpmmpafjeaaGreatW04
import Derived.Test.YtjlolpmmpafjeaaGreatW05
import Derived.Test.YtjlolpmmpafjeaaGreatW06
import Derived.Test.YtjlolpmmpafjeaaGreatW07
import Derived.Test.YtjlolpmmpafjeaaGreatW08
import Derived.Test.YtjlolpmmpafjeaaGreatW09
import Derived.Test.YtjlolpmmpafjeaaGreatW10
import Derived.Test.YtjlolpmmpafjeaaGreatW11
import Derived.Test.YtjlolpmmpafjeaaGreatW12
import Derived.Test.YtjlolpmmpafjeaaGreatW13
import Derived.Test.YtjlolpmmpafjeaaGreatW14
import Derived.Test.YtjlolpmmpafjeaaGreatW15
import Derived.Test.YtjlolpmmpafjeaaGreatW16
import Derived.Test.YtjlolpmmpafjeaaGreatW17
import Derived.Test.YtjlolpmmpafjeaaGreatW18
import Derived.Test.YtjlolpmmpafjeaaGreatW19
import Derived.Test.YtjlolpmmpafjeaaGreatW20
import Derived.Test.YtjlolpmmpafjeaaGreatW21
import Derived.Test.YtjlolpmmpafjeaaGreatW22
import Derived.Test.YtjlolpmmpafjeaaGreatXF05
import Derived.Test.YtjlolpmmpafjeaaGreatXF01
import Derived.Test.YtjlolpmmpafjeaaGreatXF02
import Derived.WalkKit
import Derived.ProofKit
import Derived.OpenShut
import Derived.ShutString
import Derived.ChangeOld
import Derived.Below
import Derived.Test.YtjlolpmmpafjeaaGreatRows
set_option linter.unusedVariables false
set_option linter.unusedSimpArgs false
namespace Go.Proofs.YtjlolpmmpafjeaaGreat
open Slk
abbrev zeroV : List Value := [.int .i64 0, .int .i64 0, .int .i64 0, .slice none 0 0, .slice none 0 0, .slice none 0 0]
theorem REdit_spec (D : Nat → Prop) (w : World) (c : ConfC) (vp vv vs v1 : Value) (l : List EditC) (hll : l.length ≤ 1000000) (HC0 : ConfOld D w c vp vv vs) (HE : Old D w (Rep.rep l [v1])) :
    Calls Tryz.prog 30 #[.agg (cfgV c vp vv vs).toArray, v1] w fun e w' => ∃ r : EditT c l, e = .returned (.tuple #[.agg (cfgA r.1.2.1 r.1.1).toArray, .int .i64 r.1.2.2]) ∧ Own D w w' (cfgR r.1.2.1 r.1.1) := by
  obtain ⟨Ae, ce, rfl, hce1, hce2, HSe, heok⟩ := HE.openF
  have HSe : OldS D w Ae (l.flatMap editV) := HSe
  have hokc := HC0.okC
  have h1p : ∃ A n cap, vp = .slice A n cap := by obtain ⟨A, cap, rfl, _⟩ := HC0.p.openF; exact ⟨_, _, _, rfl⟩
  have h1v : ∃ A n cap, vv = .slice A n cap := by obtain ⟨A, cap, rfl, _⟩ := HC0.v.openF; exact ⟨_, _, _, rfl⟩
  have h1s : ∃ A n cap, vs = .slice A n cap := by obtain ⟨A, cap, rfl, _⟩ := HC0.s.openF; exact ⟨_, _, _, rfl⟩
  obtain ⟨Ap', np', cp', hvp⟩ := h1p
  obtain ⟨Av', nv', cv', hvv⟩ := h1v
  obtain ⟨As', ns', cs', hvs⟩ := h1s
  refine hc_enter (vs := [.agg (cfgV c vp vv vs).toArray, .slice Ae l.length ce]) Tryz.func30 rfl _ Tryz.ntmps30 rfl (Own.start D w) ?_
  simp only [argSlots, Nat.zero_add]
  refine zg <| hl_new (on_boxN rfl rfl) rfl rfl rfl fun b2 =>  ?_
  refine hl_new (on_alloc) rfl rfl rfl fun b4 => 
    hl_v (ov_assign rfl) rfl <| zn <| hc_seq <| hc_seq <| ?_
  refine hc_region <| hl_v za10 rfl <| ?_
  refine hl_call (σ := BIff (goodP c)) Tryz.call66 rfl rfl (fun w1 H1 => Own.callx0 H1 fun D' hold hin H2 => RGood_spec D' w1 c vp vv vs (HC0.hold hold)) ?_
  intro r1
  try rw [List.nil_append]
  refine hl_v za16 rfl <| ?_
  refine zn <| ?_
  refine hc_cond_bool rfl (fun a1 => ?_) (fun a1 => ?_)
  · have hno : ¬ goodP c := fun h => by have := r1.2.2 h; rw [this] at a1; cases a1
    have hR : EditR c l (zeroC, 14) := .inl ⟨hno, rfl⟩
    refine zg <| hl_v (ov_buildSN rfl rfl) rfl <| ?_
    refine hl_u0 (on_storeW (vs := zeroV) rfl rfl rfl (by simp) za33) rfl rfl ?_
    refine hl_v (ov_assign rfl) rfl <| zn <| hc_ret <| hx_then_ret <| ?_
    exact results_ct (.inr rfl) rfl rfl (by simp) rfl fun w' H' => ⟨⟨(q0, zeroC, 14), hR⟩, rfl, H'.ent (Ent.trans (Ent.cfgR0 _) Ent.append_l)⟩
  have hg : goodP c := r1.2.1 (by simpa using a1)
  have hm0 : Mid c 0 := hg.mid hokc.i1 hokc.i2 hokc.i3 hokc.p hokc.v hokc.s
  refine zk <| hc_seq <| zg <| hl_v (ov_move rfl) rfl <| ?_
  refine hl_v za15 rfl <| ?_
  refine hl_v (ov_gtr rfl rfl) rfl <| zn <| ?_
  refine hc_cond rfl (fun a2 => ?_) (fun a2 => ?_)
  · have hR : EditR c l (zeroC, 3) := .inr (.inl ⟨hg, by omega, rfl⟩)
    refine zg <| hl_v (ov_buildSN rfl rfl) rfl <| ?_
    refine hl_u0 (on_storeW (vs := zeroV) rfl rfl rfl (by simp) za33) rfl rfl ?_
    refine hl_v (ov_assign rfl) rfl <| zn <| hc_ret <| hx_then_ret <| ?_
    exact results_ct (.inr rfl) rfl rfl (by simp) rfl fun w' H' => ⟨⟨(q0, zeroC, 3), hR⟩, rfl, H'.ent (Ent.trans (Ent.cfgR0 _) Ent.append_l)⟩
  have hl32 : l.length ≤ 32 := by omega
  refine zk <| zg <| hl_v za10 rfl <| ?_
  refine hl_call (σ := Three) Tryz.call67 rfl rfl (fun w1 H1 => Own.callx0 H1 fun D' hold hin H2 => RCopy_spec D' w1 c vp vv vs (HC0.hold hold)) ?_
  intro q
  try rw [List.nil_append]
  refine hl_new (on_alloc) rfl rfl rfl fun b6 =>  ?_
  refine hl_u0 (on_storeW (vs := cfgA c q) rfl rfl rfl (by simp) za33) rfl rfl ?_
  refine zn <| hc_seq <| zg <| hl_v (ov_assign rfl) rfl <| ?_
  refine zn <| hc_block <| ?_
  refine hc_loopK1 (σ := Nat × ConfC) [1, 4, 6] rfl 7 (fun s => .int .i64 (s.1 : Int)) (fun s => [cfgO b6 s.2, blk b4 49 zeroV]) (fun s => (s.1 ≤ l.length ∧ Mid s.2 s.1) ∧ foldC c (l.take s.1) = (s.2, 0)) (fun s => l.length - s.1) ((0, c)) (⟨⟨Nat.zero_le _, hm0⟩, rfl⟩) rfl (Ent.trans (b := cfgQ b6 c q ++ [blk b4 49 zeroV]) za4 (cfgO_mk q)) ?_
  rintro ⟨i, ci⟩ hj_ K1 hK1
  dsimp only at hj_ ⊢
  obtain ⟨⟨hi, hm⟩, hf⟩ := hj_
  refine hc_seq <| zg <| hl_v (ov_move rfl) rfl <| hl_v (ov_move rfl) rfl <| hl_v za15 rfl <| ?_
  refine hl_v (ov_lss rfl rfl) rfl <| zn <| ?_
  refine hc_cond rfl (fun h => ?_) (fun h => ?_)
  · have hlt : i < l.length := by omega
    obtain ⟨hA, _⟩ := OldS.cells_flat (D := D) (w0 := w) (f := editV) (sz := 7) (fun _ => rfl) (by decide) HSe hlt []
    have hc := fun l' => (OldS.cells_flat (D := D) (w0 := w) (f := editV) (sz := 7) (fun _ => rfl) (by decide) HSe hlt l').2
    have hox := heok l[i] (List.getElem_mem hlt)
    have hmx := hm.one hox
    have hsn := foldC_snoc hlt hf
    have hst : (oneC ci l[i]).2 ≠ 0 → foldC c l = oneC ci l[i] := foldC_stop hlt hf
    generalize l[i] = x at *
    refine zk <| hc_seq <| hc_block <| zg <| ?_
    refine hl_v (ov_move rfl) rfl <| hl_v (ov_move rfl) rfl <| ?_
    refine hl_v (ov_idxS rfl hA rfl i rfl hlt) rfl ?_
    refine hl_v (ov_loadG (cs := editV x) rfl rfl (hc _)) rfl ?_
    refine hl_c Tryz.call68 rfl rfl (fun w1 H1 => Own.callp (cfgO b6 ci) H1 fun D' hold hin H2 => rone_spec D' w1 b6 ci x i (by omega) hm hox H2) ?_
    refine hl_v (ov_assign rfl) rfl <| zn <| zg <| hl_v (ov_move rfl) rfl <| ?_
    refine hl_v (ov_neq rfl rfl) rfl <| zn <| ?_
    refine hc_cond rfl (fun h2 => ?_) (fun h2 => ?_)
    · have hfc := hst h2
      have hR : EditR c l (zeroC, (oneC ci x).2) := .inr (.inr (.inl ⟨hg, hl32, by rw [hfc]; exact h2, by rw [hfc]⟩))
      refine zg <| hl_v (ov_buildSN rfl rfl) rfl <| ?_
      refine hl_v (ov_move rfl) rfl <| ?_
      refine hl_u0 (on_storeW (vs := zeroV) rfl rfl rfl (by simp) za33) rfl rfl ?_
      refine hl_v (ov_assign rfl) rfl <| zn <| hc_ret <| hx_block_ret <| hx_then_ret <| ?_
      refine hx_then_ret <| hx_block_ret <| hx_then_ret <| ?_
      exact results_ct (.inr rfl) rfl rfl (by simp) rfl fun w' H' => ⟨⟨(q0, zeroC, (oneC ci x).2), hR⟩, rfl, H'.ent (Ent.trans (Ent.cfgR0 _) Ent.append_l)⟩
    have h0 : (oneC ci x).2 = 0 := Classical.not_not.1 h2
    have hfn : foldC c (l.take (i + 1)) = ((oneC ci x).1, 0) := by rw [hsn]; exact Prod.ext rfl h0
    refine hc_skip <| hx_block_normal <| hx_then_normal <| hc_region <| hl_v (ov_move rfl) rfl <| hl_v (ov_add rfl rfl za18) rfl <| ?_
    refine hl_v (ov_assign rfl) rfl <| hl_nil <| ?_
    refine hx_next hK1 ((i + 1, (oneC ci x).1)) (⟨⟨hlt, hmx⟩, hfn⟩) (by show l.length - (i + 1) < l.length - i; omega) za9 za6
  have hie : i = l.length := by omega
  subst hie
  rw [List.take_length] at hf
  have hok2 := hm.okC (by omega)
  refine HC.exs ?_
  intro q2
  refine HC.ent (l' := cfgQ b6 ci q2 ++ [blk b4 49 zeroV]) (fun _ h => h) ?_
  refine hc_exit <| hx_then_exit <| hx_then_exit <| hx_block_out <| hx_then_normal <| hc_seq <| ?_
  refine zg <| hl_v za10 rfl <| ?_
  refine hl_call (σ := BIff (goodP ci)) Tryz.call66 rfl rfl (fun w1 H1 => Own.callx0 H1 fun D' hold hin H2 => RGood_spec D' w1 ci _ _ _ (ConfOld.rows (q := q2) hok2 hin)) ?_
  intro r2
  try rw [List.nil_append]
  refine hl_v za16 rfl <| ?_
  refine zn <| ?_
  refine hc_cond_bool rfl (fun a3 => ?_) (fun a3 => ?_)
  · have hno : ¬ goodP ci := fun h => by have := r2.2.2 h; rw [this] at a3; cases a3
    have hR : EditR c l (zeroC, 14) := .inr (.inr (.inr (.inl ⟨hg, hl32, by rw [hf], by rw [hf]; exact hno, rfl⟩)))
    refine zg <| hl_v (ov_buildSN rfl rfl) rfl <| ?_
    refine hl_u0 (on_storeW (vs := zeroV) rfl rfl rfl (by simp) za33) rfl rfl ?_
    refine hl_v (ov_assign rfl) rfl <| zn <| hc_ret <| hx_then_ret <| ?_
    exact results_ct (.inr rfl) rfl rfl (by simp) rfl fun w' H' => ⟨⟨(q0, zeroC, 14), hR⟩, rfl, H'.ent (Ent.trans (Ent.cfgR0 _) Ent.append_l)⟩
  have hyes : goodP ci := r2.2.1 (by simpa using a3)
  have hR : EditR c l (ci, 0) := .inr (.inr (.inr (.inr ⟨hg, hl32, by rw [hf], by rw [hf]; exact hyes, by rw [hf]⟩)))
  refine zk <| zg <| hl_v za10 rfl <| ?_
  refine hl_u0 (on_storeW (vs := cfgA ci q2) rfl rfl rfl (by simp) za33) rfl rfl ?_
  refine hl_v (ov_assign rfl) rfl <| zn <| hc_ret <| ?_
  exact results_ct (.inr rfl) rfl rfl (by simp) rfl fun w' H' => ⟨⟨(q2, ci, 0), hR⟩, rfl, H'.ent za4⟩
end Go.Proofs.YtjlolpmmpafjeaaGreat
namespace Go.Proofs.YtjlolpmmpafjeaaGreat
open Slk
theorem Mod_nat (D : Nat → Prop) (w : World) (k : Int) (n : Nat) (hk : inI64 k) (h0 : 0 < n) (hn : n ≤ 1000000) :
    Calls Tryz.prog 14 #[.int .i64 k, .int .i64 n] w fun e w' => e = .returned (.int .i64 (modN k n : Nat)) ∧ Own D w w' [] := by
  refine (Mod_spec D w k n hk (by unfold inI64; omega) (by omega)).mono fun e w' ⟨he, H'⟩ => ⟨?_, H'⟩
  rw [he, if_neg (by omega)]
  have := Int.emod_nonneg k (show (n : Int) ≠ 0 by omega)
  unfold modN
  rw [Int.toNat_of_nonneg this]
end Go.Proofs.YtjlolpmmpafjeaaGreat
set_option linter.unusedVariables false
set_option linter.unusedSimpArgs false
namespace Go.Proofs.YtjlolpmmpafjeaaGreat
open Slk
theorem RFirst_is (D : Nat → Prop) (w : World) (n : Nat) (h1 : 1 ≤ n) (h8 : n ≤ 8) :
    Calls Tryz.prog 29 #[.int .i64 (n : Int)] w fun e w' => ∃ q : Three, e = .returned (.tuple #[.agg (cfgA (firstC n) q).toArray, .int .i64 0]) ∧ Own D w w' (cfgR (firstC n) q) :=
  (RFirst_res D w n (inI _ ⟨by omega, by omega⟩)).mono fun e w' ⟨⟨⟨q, d, er⟩, hR⟩, he, H'⟩ => by
    rcases hR with ⟨h, _⟩ | ⟨_, _, h⟩
    · exact absurd ⟨by omega, by omega⟩ h
    · have h : (d, er) = (firstC ((n : Int)).toNat, 0) := h
      injection h with h1 h2
      subst h1; subst h2
      exact ⟨q, he, H'⟩
theorem REdit_is (D : Nat → Prop) (w : World) (c : ConfC) (vp vv vs v1 : Value) (l : List EditC) (d : ConfC) (er : Int) (hr : edF c l = (d, er)) (hll : l.length ≤ 1000000) (HC0 : ConfOld D w c vp vv vs) (HE : Old D w (Rep.rep l [v1])) :
    Calls Tryz.prog 30 #[.agg (cfgV c vp vv vs).toArray, v1] w fun e w' => ∃ q : Three, e = .returned (.tuple #[.agg (cfgA d q).toArray, .int .i64 er]) ∧ Own D w w' (cfgR d q) :=
  (REdit_spec D w c vp vv vs v1 l hll HC0 HE).mono fun e w' ⟨⟨⟨q, d', er'⟩, hR⟩, he, H'⟩ => by
    have h := (edF_of hR).trans hr
    injection h with h1 h2
    subst h1; subst h2
    exact ⟨q, he, H'⟩
set_option maxHeartbeats 2000000 in
theorem StoreFolds_walk (W : World) (v0 v1 : Value) (n : Int) (l : List SStep) (h0 : Old none' W (Rep.rep n [v0])) (h1 : Old none' W (Rep.rep l [v1])) :
    Calls Tryz.prog 4 #[v0, v1] W fun e w' => e = .returned (.bool true) ∧ Own none' W w' [] := by
  obtain ⟨hh0, _, e0, i0⟩ := h0
  have e0 : [v0] = [Value.int .i64 n] := e0
  obtain rfl : v0 = .int .i64 n := by simpa using e0
  obtain ⟨A, cap, rfl, hc1, hc2, hel⟩ := h1.openX (by decide)
  refine hc_enter (vs := [.int .i64 n, .slice A l.length cap]) Tryz.func4 rfl _ Tryz.ntmps4 rfl (Own.start none' W) ?_
  simp only [argSlots, Nat.zero_add]
  refine zg <| hl_v (ov_assign rfl) rfl <| zn <| hc_seq <| ?_
  refine zg <| hl_v (ov_move rfl) rfl <| ?_
  refine hl_call (σ := { b : Bool // b = true → fairS l }) Tryz.call28 rfl rfl (fun w1 H1 => Own.callx0 H1 fun D' hold hin H2 => fair8_spec D' w1 _ l (hold _ h1)) ?_
  rintro ⟨bv, hbv⟩
  try rw [List.nil_append]
  cases bv
  · skip
    refine hl_v (ov_not rfl) rfl <| zn <| hc_cond_true rfl <| zg <| ?_
    refine hl_c Tryz.call13 rfl rfl (fun w1 H1 => Own.calln H1 fun D' hold hin H2 => wakes8_spec D' w1) ?_
    refine hl_v (ov_assign rfl) rfl <| zn <| hc_ret <| hx_then_ret <| ?_
    exact results_1 (.inr rfl) rfl rfl fun w' H' => ⟨rfl, H'.ent (Ent.nil _)⟩
  skip
  obtain ⟨hll, hle⟩ := hbv rfl
  obtain ⟨m, hm, hm1, hm2⟩ : ∃ m, m = 40 + modN n 30 ∧ 40 ≤ m ∧ m ≤ 69 := ⟨_, rfl, by omega, by have := modN_lt n (n := 30) (by decide); omega⟩
  obtain ⟨S0, hS0⟩ : ∃ S, S = List.replicate m zeroSec := ⟨_, rfl⟩
  obtain ⟨s1, hs1⟩ : ∃ s, s = firstSt m 3 := ⟨_, rfl⟩
  have k1 : SI m s1 := by rw [hs1]; exact firstSt_ok hm1 (by decide) (by decide)
  have e1 : s1.ep = 1 := by rw [hs1]; rfl
  have p1 : s1.c.2.2.2.1.length = 3 := by rw [hs1]; rfl
  have c1 : firstC 3 = s1.c := by rw [hs1]; rfl
  refine hl_v (ov_not rfl) rfl <| zn <| hc_cond_false rfl <| zk <| ?_
  refine zg <| hl_v (ov_move rfl) rfl <| ?_
  refine hl_c Tryz.call14 rfl rfl (fun w1 H1 => Own.calln H1 fun D' hold hin H2 => Mod_nat D' w1 n 30 i0 (by decide) (by decide)) ?_
  refine hl_v (ov_add rfl rfl za18) rfl <| ?_
  rw [show (40 : Int) + ((modN n 30 : Nat) : Int) = (m : Int) by omega]
  refine hl_call (σ := Nat) Tryz.call15 rfl rfl (fun w1 H1 => Own.callx0 H1 fun D' hold hin H2 => (New_ok D' w1 m (by omega) (by omega)).mono fun e w' ⟨g, he, H'⟩ => ⟨g, he, show Own D' w1 w' [dsk g S0 []] by rw [hS0]; exact H'⟩) ?_
  intro g
  try rw [List.nil_append]
  refine hl_v (ov_move rfl) rfl <| hl_v (ov_extract rfl rfl) rfl <| hl_v (ov_extract rfl rfl) rfl <| hl_v (ov_assign rfl) rfl <| hl_v (ov_assign rfl) rfl <| hl_nil <| ?_
  refine hx_then_normal <| zg <| hl_v (ov_move rfl) rfl <| ?_
  refine hl_call (σ := Nat) Tryz.call17 rfl rfl (fun w1 H1 => Own.callpx (dsk g S0 []) H1 fun D' hold hin H2 => (SOpen_new D' w1 g m 3 (by omega) (by omega) (by decide) (by decide) S0 hS0 H2).mono fun e w' ⟨sb, he, H'⟩ => ⟨sb, he, show Own D' w1 w' [sto sb g m s1, dsk g s1.S []] by rw [hs1]; exact H'⟩) ?_
  intro sb
  refine hl_v (ov_move rfl) rfl <| hl_v (ov_extract rfl rfl) rfl <| hl_v (ov_extract rfl rfl) rfl <| hl_v (ov_assign rfl) rfl <| hl_v (ov_assign rfl) rfl <| hl_nil <| ?_
  refine hx_then_normal <| zg <| ?_
  refine hl_call (σ := Three) Tryz.call29 rfl rfl (fun w1 H1 => Own.callx0 H1 fun D' hold hin H2 => RFirst_is D' w1 3 (by decide) (by decide)) ?_
  intro qr
  try rw [List.nil_append]
  rw [c1]
  refine hl_v (ov_move rfl) rfl <| hl_v (ov_extract rfl rfl) rfl <| hl_v (ov_extract rfl rfl) rfl <| hl_new (on_alloc) rfl rfl rfl fun b9 =>  ?_
  refine hl_u0 (on_storeW (vs := cfgA s1.c qr) rfl rfl rfl (by simp) za33) rfl rfl ?_
  refine hl_v (ov_assign rfl) rfl <| zn <| hc_seq <| zg <| ?_
  refine hl_v (ov_move rfl) rfl <| hl_v (ov_neq rfl rfl) rfl <| hl_v (ov_move rfl) rfl <| ?_
  refine hl_partF (t := 38) rfl ((fun h => h rfl)) ?_
  refine hl_on rfl rfl <| hl_v (ov_move rfl) rfl <| hl_on rfl rfl <| hl_v (ov_neq rfl rfl) rfl <| hl_v (ov_pickF rfl rfl) rfl <| hl_v (ov_move rfl) rfl <| ?_
  refine hl_partF (t := 42) rfl ((fun h => h rfl)) ?_
  refine hl_on rfl rfl <| hl_v (ov_move rfl) rfl <| hl_on rfl rfl <| hl_v (ov_eqlP rfl rfl) rfl <| hl_v (ov_pickF rfl rfl) rfl <| zn <| ?_
  refine hc_cond_false rfl ?_
  refine zk <| hc_seq <| zg <| hl_v (ov_assign rfl) rfl <| ?_
  refine zn <| hc_block <| ?_
  refine hc_loopK2 (σ := Nat × SSt × Nat) [1, 5, 9] rfl 11 (fun st => .int .i64 (st.1 : Int)) 7 (fun st => .pointer (some ⟨st.2.2, 0, none⟩)) (fun st => [cfgO b9 st.2.1.c, sto st.2.2 g m st.2.1, dsk g st.2.1.S []]) (fun st => st.1 ≤ l.length ∧ SI m st.2.1 ∧ st.2.1.ep ≤ st.1 + 1 ∧ st.2.1.c.2.2.2.1.length = 3) (fun st => l.length - st.1) ((0, s1, sb)) (⟨Nat.zero_le _, k1, by show s1.ep ≤ 1; omega, p1⟩) rfl rfl (Ent.trans (b := blk b9 49 (cfgA s1.c qr) :: (cfgR s1.c qr ++ [sto sb g m s1, dsk g s1.S []])) za4 (Ent.trans (cfgO_mk qr) za4)) ?_
  rintro ⟨i, s, sb2⟩ hj_ K1 hK1
  dsimp only at hj_ ⊢
  obtain ⟨hi, hs, he, hp⟩ := hj_
  refine hc_seq <| zg <| hl_v (ov_move rfl) rfl <| hl_v (ov_move rfl) rfl <| hl_v za15 rfl <| ?_
  refine hl_v (ov_lss rfl rfl) rfl <| zn <| ?_
  refine hc_cond rfl (fun hlt => ?_) (fun hlt => ?_)
  · have hlt : i < l.length := by omega
    have hpc := hs.ports
    refine HC.exs ?_
    intro qc
    refine HC.ent (l' := blk b9 49 (cfgA s.c qc) :: (cfgR s.c qc ++ [sto sb2 g m s, dsk g s.S []])) (fun _ h => h) ?_
    obtain ⟨hA, cs, hx, hcs⟩ := hel i hlt
    obtain ⟨B, capB, rfl, _, _, hu⟩ := sstep_open hx
    have hcl := hcs 0 _ rfl
    have hcl2 := hcs 2 _ rfl
    rw [show Rep.sz SStep = 3 from rfl] at hcl hcl2
    have hl40 := hle l[i] (List.getElem_mem hlt)
    obtain ⟨_, _, _, _, _, _, hfl⟩ := hu.openF
    obtain ⟨kd, hkd⟩ : ∃ kd, kd = l[i].1 := ⟨_, rfl⟩
    obtain ⟨le, hle2⟩ : ∃ le, le = l[i].2.2 := ⟨_, rfl⟩
    rw [← hkd] at hcl
    rw [← hle2] at hcl2 hu hl40 hfl
    refine zk <| hc_seq <| hc_block <| hc_seq <| hc_seq <| ?_
    refine hc_region <| hl_v (ov_move rfl) rfl <| hl_v (ov_move rfl) rfl <| ?_
    refine hl_v (ov_idxS rfl hA rfl i rfl hlt) rfl ?_
    refine hl_v (ov_fieldA rfl) rfl <| hl_v za5 rfl <| ?_
    refine zn <| hc_block <| zg <| hl_v (ov_eql rfl rfl) rfl <| ?_
    refine hl_v (ov_assign rfl) rfl <| zn <| ?_
    refine hc_cond rfl (fun hk0 => ?_) (fun hk0 => ?_)
    · obtain ⟨er, s2, hcm⟩ : ∃ er s2, commR m s le = (er, s2) := ⟨_, _, rfl⟩
      have hr := commR_ok hs hfl (by omega)
      have hpl := commR_ports hs hfl (by omega)
      rw [hcm] at hr hpl
      obtain ⟨k2, r2, r3, r4, r5⟩ := hr
      have k2 : SI m s2 := k2
      have r3 : s2.ep ≤ s.ep + 1 := r3
      have p2 : s2.c.2.2.2.1.length = 3 := hpl.trans hp
      refine zg <| hl_v (ov_move rfl) rfl <| hl_v (ov_move rfl) rfl <| hl_v (ov_move rfl) rfl <| ?_
      refine hl_v (ov_idxS rfl hA rfl i rfl hlt) rfl ?_
      refine hl_v (ov_fieldA rfl) rfl <| hl_v za5 rfl <| ?_
      refine hl_c Tryz.call19 rfl rfl (fun w1 H1 => Own.callp2 (sto sb2 g m s) (dsk g s.S []) H1 fun D' hold hin H2 => (Commit_spec D' w1 sb2 g m s _ le hs (by omega) (by omega) (by omega) (hold _ hu) H2).mono fun e w' ⟨he, H'⟩ => ⟨(by rw [hcm] at he; exact he : e = .returned (.int .i64 er)), show Own D' w1 w' [sto sb2 g m s2, dsk g s2.S []] by rw [hcm] at H'; exact H'⟩) ?_
      refine hl_v (ov_eql rfl rfl) rfl <| zn <| ?_
      refine hc_cond rfl (fun her => ?_) (fun her => ?_)
      · have her : er = 0 := her
        subst her
        have r4 : s2.c = (edF s.c le).1 := by have : s2.c = (if (0 : Int) = 0 then (edF s.c le).1 else s.c) := r4; rwa [if_pos rfl] at this
        have hed : edF s.c le = (s2.c, 0) := Prod.ext r4.symm (r5 rfl).1
        refine hc_seq <| ?_
        refine hc_cutK2 (σ := Three × Nat) [1, 5, 7, 9, 11] rfl 12 (fun q => .pointer (some ⟨q.2, 0, none⟩)) 13 (fun q => .int .i64 0) (fun q => blk q.2 49 (cfgA s2.c q.1) :: cfgR s2.c q.1 ++ (blk b9 49 (cfgA s.c qc) :: [sto sb2 g m s2, dsk g s2.S []])) (fun K2 hK2 => ?_) (fun q => ?_)
        · refine hc_any [blk b9 49 (cfgA s.c qc)] mixed 13 rfl ?_
          refine ha_v 0 rfl za10 rfl <| ?_
          refine ha_v 1 rfl (ov_move rfl) rfl <| ?_
          refine ha_v 2 rfl (ov_move rfl) rfl <| ?_
          refine ha_v 3 rfl (ov_idxS rfl (by assumption) rfl _ rfl (by omega)) rfl <| ?_
          refine ha_v 4 rfl (ov_fieldA rfl) rfl <| ?_
          refine ha_v 5 rfl za5 rfl <| ?_
          refine ha_two 6 10 (by kernel_rfl) ?_ ?_
          · skip
            refine ho_kx (σ := Three) rfl Tryz.call30 rfl (fun w1 H1 => Own.callx0 H1 fun D' hold hin H2 => REdit_is D' w1 s.c _ _ _ _ le s2.c 0 hed (by omega) (ConfOld.rows (q := qc) hs.okc hin) (hold _ hu)) ?_
            intro qn
            try rw [List.nil_append]
            refine ha_v 7 rfl (ov_move rfl) rfl <| ?_
            refine ha_v 8 rfl (ov_extract rfl rfl) rfl <| ?_
            refine ha_v 9 rfl (ov_extract rfl rfl) rfl <| ?_
            refine ha_one 10 (by kernel_rfl) <| ?_
            refine ho_n rfl (on_alloc) rfl fun b12 =>  ?_
            refine ha_one 11 (by kernel_rfl) <| ?_
            refine ho_w0 rfl (on_storeW (vs := cfgA s2.c qn) rfl rfl rfl (by simp) za33) rfl ?_
            refine ha_v 12 rfl (ov_assign rfl) rfl <| ?_
            refine ha_done (by kernel_rfl) <| ?_
            refine hx_cut hK2 ((qn, b12)) za9 za6
          skip
          refine ho_n rfl (on_alloc) rfl fun b12 =>  ?_
          refine ha_one 6 (by kernel_rfl) <| ?_
          refine ho_kx (σ := Three) rfl Tryz.call30 rfl (fun w1 H1 => Own.callx0 H1 fun D' hold hin H2 => REdit_is D' w1 s.c _ _ _ _ le s2.c 0 hed (by omega) (ConfOld.rows (q := qc) hs.okc hin) (hold _ hu)) ?_
          intro qn
          try rw [List.nil_append]
          refine ha_v 7 rfl (ov_move rfl) rfl <| ?_
          refine ha_v 8 rfl (ov_extract rfl rfl) rfl <| ?_
          refine ha_v 9 rfl (ov_extract rfl rfl) rfl <| ?_
          refine ha_one 11 (by kernel_rfl) <| ?_
          refine ho_w0 rfl (on_storeW (vs := cfgA s2.c qn) rfl rfl rfl (by simp) za33) rfl ?_
          refine ha_v 12 rfl (ov_assign rfl) rfl <| ?_
          refine ha_done (by kernel_rfl) <| ?_
          refine hx_cut hK2 ((qn, b12)) za9 za6
        obtain ⟨qn, bN⟩ := q
        refine hx_then_normal <| hc_seq <| zg <| hl_v (ov_move rfl) rfl <| hl_v (ov_neq rfl rfl) rfl <| ?_
        refine zn <| ?_
        refine hc_cond_F rfl ((fun h => h rfl)) ?_
        refine zk <| hc_region <| ?_
        refine hl_v (ov_loadW rfl rfl) rfl ?_
        obtain ⟨qo, hqo⟩ : ∃ x, x = qc := ⟨_, rfl⟩
        rw [← hqo]
        obtain ⟨qc, hqc⟩ : ∃ x, x = qn := ⟨_, rfl⟩
        rw [← hqc]
        refine hl_u0 (on_storeW (vs := cfgA s2.c qc) rfl rfl rfl (by simp) za33) rfl rfl ?_
        refine hl_nil <| hx_block_normal <| hx_then_normal <| hc_seq <| ?_
        refine hc_any [blk b9 49 (cfgA s2.c qc)] mixed 5 rfl ?_
        refine ha_v 0 rfl (ov_move rfl) rfl <| ?_
        refine ha_v 2 rfl za10 rfl <| ?_
        refine ha_one 1 (by kernel_rfl) <| ?_
        refine ho_kx (σ := Three) rfl Tryz.call26 rfl (fun w1 H1 => Own.callpx (sto sb2 g m s2) H1 fun D' hold hin H2 => SConfig_spec D' w1 sb2 g m s2 k2.okc H2) ?_
        intro q6
        refine ha_one 3 (by kernel_rfl) <| ?_
        refine ho_kx (σ := BIff (s2.c = s2.c)) rfl Tryz.call27 rfl (fun w1 H1 => Own.callx0 H1 fun D' hold hin H2 => keepC_spec D' w1 s2.c s2.c _ _ _ _ _ _ (ConfOld.rows (q := q6) k2.okc hin) (ConfOld.rows (q := qc) k2.okc hin)) ?_
        intro g1
        try rw [List.nil_append]
        have hg1 : g1.1 = true := g1.2.2 rfl
        rw [hg1]
        refine ha_v 4 rfl za16 rfl <| ?_
        refine ha_done (by kernel_rfl) <| hx_then_normal <| ?_
        refine hc_cond_false rfl ?_
        refine hc_skip <| hx_block_normal <| hx_then_normal <| hc_region <| hl_v (ov_move rfl) rfl <| hl_v (ov_add rfl rfl za18) rfl <| ?_
        refine hl_v (ov_assign rfl) rfl <| hl_nil <| ?_
        exact hx_next hK1 ((i + 1, s2, sb2)) (⟨hlt, k2, by show s2.ep ≤ i + 1 + 1; omega, p2⟩) (by show l.length - (i + 1) < l.length - i; omega) za9 (Ent.trans (b := blk b9 49 (cfgA s2.c qc) :: (cfgR s2.c qc ++ [sto sb2 g m s2, dsk g s2.S []])) za4 (Ent.trans (cfgO_mk qc) za4))
      have hcc : s2.c = s.c := by have : s2.c = (if er = 0 then (edF s.c le).1 else s.c) := r4; rwa [if_neg her] at this
      rw [← hcc]
      refine hc_skip <| hx_block_normal <| hx_then_normal <| hc_seq <| ?_
      refine hc_any [blk b9 49 (cfgA s2.c qc)] mixed 5 rfl ?_
      refine ha_v 0 rfl (ov_move rfl) rfl <| ?_
      refine ha_v 2 rfl za10 rfl <| ?_
      refine ha_one 1 (by kernel_rfl) <| ?_
      refine ho_kx (σ := Three) rfl Tryz.call26 rfl (fun w1 H1 => Own.callpx (sto sb2 g m s2) H1 fun D' hold hin H2 => SConfig_spec D' w1 sb2 g m s2 k2.okc H2) ?_
      intro q6
      refine ha_one 3 (by kernel_rfl) <| ?_
      refine ho_kx (σ := BIff (s2.c = s2.c)) rfl Tryz.call27 rfl (fun w1 H1 => Own.callx0 H1 fun D' hold hin H2 => keepC_spec D' w1 s2.c s2.c _ _ _ _ _ _ (ConfOld.rows (q := q6) k2.okc hin) (ConfOld.rows (q := qc) k2.okc hin)) ?_
      intro g1
      try rw [List.nil_append]
      have hg1 : g1.1 = true := g1.2.2 rfl
      rw [hg1]
      refine ha_v 4 rfl za16 rfl <| ?_
      refine ha_done (by kernel_rfl) <| hx_then_normal <| ?_
      refine hc_cond_false rfl ?_
      refine hc_skip <| hx_block_normal <| hx_then_normal <| hc_region <| hl_v (ov_move rfl) rfl <| hl_v (ov_add rfl rfl za18) rfl <| ?_
      refine hl_v (ov_assign rfl) rfl <| hl_nil <| ?_
      exact hx_next hK1 ((i + 1, s2, sb2)) (⟨hlt, k2, by show s2.ep ≤ i + 1 + 1; omega, p2⟩) (by show l.length - (i + 1) < l.length - i; omega) za9 (Ent.trans (b := blk b9 49 (cfgA s2.c qc) :: (cfgR s2.c qc ++ [sto sb2 g m s2, dsk g s2.S []])) za4 (Ent.trans (cfgO_mk qc) za4))
    refine zg <| hl_v (ov_eql rfl rfl) rfl <| hl_v (ov_assign rfl) rfl <| zn <| ?_
    refine hc_cond rfl (fun hk1 => ?_) (fun hk1 => ?_)
    · obtain ⟨s2, hs2⟩ : ∃ s2, s2 = saveSt s := ⟨_, rfl⟩
      have k2 : SI m s2 := by rw [hs2]; exact saveSt_ok hs (by omega)
      have e2 : s2.ep = s.ep + 1 := by rw [hs2]; rfl
      have hcc : s2.c = s.c := by rw [hs2]; rfl
      have p2 : s2.c.2.2.2.1.length = 3 := by rw [hcc]; exact hp
      rw [← hcc]
      refine hc_region <| hl_v (ov_move rfl) rfl <| ?_
      refine hl_c Tryz.call31 rfl rfl (fun w1 H1 => Own.callp2 (sto sb2 g m s) (dsk g s.S []) H1 fun D' hold hin H2 => (SSave_spec D' w1 sb2 g m s hs (by omega) H2).mono fun e w' ⟨he, H'⟩ => ⟨he, show Own D' w1 w' [sto sb2 g m s2, dsk g s2.S []] by rw [hs2]; exact H'⟩) ?_
      refine hl_nil <| hx_block_normal <| hx_then_normal <| hc_seq <| ?_
      refine hc_any [blk b9 49 (cfgA s2.c qc)] mixed 5 rfl ?_
      refine ha_v 0 rfl (ov_move rfl) rfl <| ?_
      refine ha_v 2 rfl za10 rfl <| ?_
      refine ha_one 1 (by kernel_rfl) <| ?_
      refine ho_kx (σ := Three) rfl Tryz.call26 rfl (fun w1 H1 => Own.callpx (sto sb2 g m s2) H1 fun D' hold hin H2 => SConfig_spec D' w1 sb2 g m s2 k2.okc H2) ?_
      intro q6
      refine ha_one 3 (by kernel_rfl) <| ?_
      refine ho_kx (σ := BIff (s2.c = s2.c)) rfl Tryz.call27 rfl (fun w1 H1 => Own.callx0 H1 fun D' hold hin H2 => keepC_spec D' w1 s2.c s2.c _ _ _ _ _ _ (ConfOld.rows (q := q6) k2.okc hin) (ConfOld.rows (q := qc) k2.okc hin)) ?_
      intro g1
      try rw [List.nil_append]
      have hg1 : g1.1 = true := g1.2.2 rfl
      rw [hg1]
      refine ha_v 4 rfl za16 rfl <| ?_
      refine ha_done (by kernel_rfl) <| hx_then_normal <| ?_
      refine hc_cond_false rfl ?_
      refine hc_skip <| hx_block_normal <| hx_then_normal <| hc_region <| hl_v (ov_move rfl) rfl <| hl_v (ov_add rfl rfl za18) rfl <| ?_
      refine hl_v (ov_assign rfl) rfl <| hl_nil <| ?_
      exact hx_next hK1 ((i + 1, s2, sb2)) (⟨hlt, k2, by show s2.ep ≤ i + 1 + 1; omega, p2⟩) (by show l.length - (i + 1) < l.length - i; omega) za9 (Ent.trans (b := blk b9 49 (cfgA s2.c qc) :: (cfgR s2.c qc ++ [sto sb2 g m s2, dsk g s2.S []])) za4 (Ent.trans (cfgO_mk qc) za4))
    obtain ⟨s2, rfl⟩ : ∃ x, x = s := ⟨_, rfl⟩
    have k2 := hs
    have p2 := hp
    refine zg <| hl_v (ov_move rfl) rfl <| ?_
    refine hl_c Tryz.call25 rfl rfl (fun w1 H1 => Own.callp (dsk g s2.S []) H1 fun D' hold hin H2 => Crash_none D' w1 g s2.S H2) ?_
    refine zn <| zg <| hl_v (ov_move rfl) rfl <| ?_
    refine hl_call (σ := Nat) Tryz.call17 rfl rfl (fun w1 H1 => Own.callpx (dsk g s2.S []) H1 fun D' hold hin H2 => SOpen_old D' w1 g m s2 3 k2 (by omega) (by omega) (by decide) (by decide) (by omega) H2) ?_
    intro sb2
    refine hl_v (ov_move rfl) rfl <| hl_v (ov_extract rfl rfl) rfl <| hl_v (ov_extract rfl rfl) rfl <| hl_v (ov_assign rfl) rfl <| hl_v (ov_assign rfl) rfl <| hl_nil <| ?_
    refine hx_then_normal <| hc_seq <| zg <| hl_v (ov_move rfl) rfl <| hl_v (ov_neq rfl rfl) rfl <| ?_
    refine hl_v (ov_move rfl) rfl <| ?_
    refine hl_partF (t := 66) rfl ((fun h => h rfl)) ?_
    refine hl_on rfl rfl <| hl_v (ov_move rfl) rfl <| hl_on rfl rfl <| hl_v (ov_eqlP rfl rfl) rfl <| hl_v (ov_pickF rfl rfl) rfl <| zn <| ?_
    refine hc_cond_false rfl ?_
    refine zk <| hc_region <| hl_v (ov_move rfl) rfl <| hl_v (ov_assign rfl) rfl <| hl_nil <| ?_
    refine hx_block_normal <| hx_then_normal <| hc_seq <| ?_
    refine hc_any [blk b9 49 (cfgA s2.c qc)] mixed 5 rfl ?_
    refine ha_v 0 rfl (ov_move rfl) rfl <| ?_
    refine ha_v 2 rfl za10 rfl <| ?_
    refine ha_one 1 (by kernel_rfl) <| ?_
    refine ho_kx (σ := Three) rfl Tryz.call26 rfl (fun w1 H1 => Own.callpx (sto sb2 g m s2) H1 fun D' hold hin H2 => SConfig_spec D' w1 sb2 g m s2 k2.okc H2) ?_
    intro q6
    refine ha_one 3 (by kernel_rfl) <| ?_
    refine ho_kx (σ := BIff (s2.c = s2.c)) rfl Tryz.call27 rfl (fun w1 H1 => Own.callx0 H1 fun D' hold hin H2 => keepC_spec D' w1 s2.c s2.c _ _ _ _ _ _ (ConfOld.rows (q := q6) k2.okc hin) (ConfOld.rows (q := qc) k2.okc hin)) ?_
    intro g1
    try rw [List.nil_append]
    have hg1 : g1.1 = true := g1.2.2 rfl
    rw [hg1]
    refine ha_v 4 rfl za16 rfl <| ?_
    refine ha_done (by kernel_rfl) <| hx_then_normal <| ?_
    refine hc_cond_false rfl ?_
    refine hc_skip <| hx_block_normal <| hx_then_normal <| hc_region <| hl_v (ov_move rfl) rfl <| hl_v (ov_add rfl rfl za18) rfl <| ?_
    refine hl_v (ov_assign rfl) rfl <| hl_nil <| ?_
    exact hx_next hK1 ((i + 1, s2, sb2)) (⟨hlt, k2, by show s2.ep ≤ i + 1 + 1; omega, p2⟩) (by show l.length - (i + 1) < l.length - i; omega) za9 (Ent.trans (b := blk b9 49 (cfgA s2.c qc) :: (cfgR s2.c qc ++ [sto sb2 g m s2, dsk g s2.S []])) za4 (Ent.trans (cfgO_mk qc) za4))
  refine hc_exit <| hx_then_exit <| hx_then_exit <| hx_block_out <| hx_then_normal <| hc_seq <| ?_
  refine hc_region <| ?_
  refine hl_c Tryz.call13 rfl rfl (fun w1 H1 => Own.calln H1 fun D' hold hin H2 => wakes8_spec D' w1) ?_
  refine hl_v (ov_assign rfl) rfl <| zn <| hc_ret <| ?_
  exact results_1 (.inr rfl) rfl rfl fun w' H' => ⟨rfl, H'.ent (Ent.nil _)⟩
end Go.Proofs.YtjlolpmmpafjeaaGreat
/- PROVED: the given statement StoreFolds: for every input the law returns true, and each argument reads behind the call as it read before; no condition. -/
set_option linter.unusedVariables false
namespace Go.Proofs.YtjlolpmmpafjeaaGreat.storeFolds
open Go.ChangeShapes Go.WideShapes Go.ChangeAt Go.RowKit
open Slk
theorem own : ownKnob Tryz.prog.godebug = none := by kernel_rfl
theorem laidOut : laidOutB Tryz.prog = true := by kernel_rfl
set_option maxRecDepth 100000 in
theorem lifted (os : Os) (started : os.Started) (H : Type) (enc : TypeId × Value → H) :
    ReturnsInHanded {} Tryz.checked os 4 .any (Rows.storeFoldsSpec.pre6 enc Tryz.prog Tryz.f4 Rows.storeFoldsRow.domain false) (Rows.storeFoldsSpec.post enc Tryz.prog Tryz.f4 false true false false) := by
  refine returnsInHanded_of_change (C := Tryz.checked) own started (by kernel_rfl) Tryz.func4
    (ChangeSpec.witness6 (enc := enc) (C := Tryz.checked) false ⟨#[], #[.int .i64 0, .slice none 0 0], []⟩ 8 (by kernel_rfl) (by kernel_rfl) (by kernel_rfl) (by kernel_rfl)) ?_
  intro W base args ds gs before hval0 hW hcnd _
  have hval : ∀ (j : Nat) t v, Tryz.f4.params[j]? = some t → args[j]? = some v → Value.okWide Tryz.prog W .any base t v := hval0
  have hW' := hW
  obtain ⟨p, q, hA0, hV, rfl, hfz, hnd⟩ := hW
  have hA : DataW.TrodAll enc Tryz.prog W 0 (fun _ => true) true Tryz.f4.params.toList args.toList ds p := hA0
  rw [Tryz.params4] at hA hval
  obtain ⟨v0, vs0, d0, ds0, p0, q0, hargs, rfl, rfl, h0, r0⟩ := trodAll_cons hA
  obtain ⟨v1, vs1, d1, ds1, p1, q1, rfl, rfl, rfl, h1, r1⟩ := trodAll_cons r0
  obtain ⟨rfl, rfl, rfl⟩ := trodAll_nil r1
  obtain rfl : args = #[v0, v1] := by cases args; simp_all
  obtain ⟨rfl, rfl⟩ := trodVars_none hV
  have k0 := h0
  have lt0 : ∀ x ∈ p0, x.block < W.heap.size := by obtain ⟨m, hm⟩ := k0; exact DataW.trod_lt m _ _ _ hm
  have e0 := cells_one (hval 0 3 v0 rfl rfl)
  obtain ⟨x0, y0⟩ := arg_rep (α := Int) h0
  rw [e0] at y0
  have k1 := h1
  have lt1 : ∀ x ∈ p1, x.block < W.heap.size := by obtain ⟨m, hm⟩ := k1; exact DataW.trod_lt m _ _ _ hm
  have e1 := cells_one (hval 1 69 v1 rfl rfl)
  obtain ⟨x1, y1⟩ := arg_rep (α := List SStep) h1
  rw [e1] at y1
  clear hA0 hval0
  refine (StoreFolds_walk W v0 v1 x0 x1 y0 y1).mono fun e W' ⟨he, hO⟩ => ?_
  have bel := hO.below
  subst he
  exact ⟨_, rfl, _, _, _, [], _, [], hW', trodAll_mk1 (shut_bool Tryz.underlying4 _), (trodAll_cons_mk (Below.trod laidOut (by kernel_rfl) (of_decide_eq_true (by kernel_rfl)) k0 bel lt0) (trodAll_cons_mk (Below.trod laidOut (by kernel_rfl) (of_decide_eq_true (by kernel_rfl)) k1 bel lt1) trodAll_mk0)), rfl, bel.frame _, fun h => by cases h⟩
theorem over : Rows.storeFoldsRow.holds Tryz.pinned (OpenSpec.ofChange Rows.storeFoldsSpec) :=
  OpenClaim.holds_of_wide 4 Tryz.f4 rfl rfl rfl rfl rfl rfl rfl ⟨rfl, rfl, rfl, rfl, rfl⟩ rfl rfl rfl rfl rfl (by kernel_rfl) Tryz.func4 (by kernel_rfl)
    (of_decide_eq_true (by kernel_rfl)) (by unfold Func.isWrapper; first | (rw [if_pos (by decide +kernel)]; kernel_rfl) | (rw [if_neg (by decide +kernel)]; exact ⟨rfl, rfl⟩))
    (fun os started H enc _ => lifted os started H enc)
theorem proved : Rows.StoreFoldsSaid := over
#print axioms proved
end Go.Proofs.YtjlolpmmpafjeaaGreat.storeFolds
