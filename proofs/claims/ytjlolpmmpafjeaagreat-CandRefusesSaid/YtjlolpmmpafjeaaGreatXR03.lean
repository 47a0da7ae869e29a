import Derived.Test.YtjlolpmmpafjeaaGreatW01
import Derived.Test.YtjlolpmmpafjeaaGreatW02
import Derived.Test.YtjlolpmmpafjeaaGreatW03
import Derived.Test.YtjlolpmmpafjeaaGreatW04
import Derived.Test.YtjlolpmmpafjeaaGreatW05
import Derived.Test.YtjlolpmmpafjeaaGreatW06
import Derived.Test.YtjlolpmmpafjeaaGreatW07
import Derived.Test.YtjlolpmmpafjeaaGreatW08
import Derived.Test.YtjlolpmmpafjeaaGreatW09
import Derived.Test.YtjlolpmmpafjeaaGreatW10
import Derived.Test.YtjlolpmmpafjeaaGreatW11
import Derived.Test.YtjlolpmmpafjeaaGreatW12
import Derived.Test.YtjlolpmmpafjeaaGreatW13
import Derived.Test.YtjlolpmmpafjeaaGreatW14
import Derived.Test.YtjlolpmmpafjeaaGreatW15
import Derived.Test.YtjlolpmmpafjeaaGreatW16
import Derived.Test.YtjlolpmmpafjeaaGreatW17
import Derived.Test.YtjlolpmmpafjeaaGreatW18
import Derived.Test.YtjlolpmmpafjeaaGreatW19
import Derived.Test.YtjlolpmmpafjeaaGreatW20
import Derived.Test.YtjlolpmmpafjeaaGreatW21
import Derived.Test.YtjlolpmmpafjeaaGreatW22
import Derived.Test.YtjlolpmmpafjeaaGreatXR02
import Derived.WalkKit
import Derived.ProofKit
import Derived.OpenShut
import Derived.ShutString
import Derived.ChangeOld
import Derived.Below
import Derived.Test.YtjlolpmmpafjeaaGreatRows
set_option linter.unusedVariables false
set_option linter.unusedSimpArgs false
namespace Go.Proofs.YtjlolpmmpafjeaaGreat
open Slk
theorem oldCutC {α : Type} [Rep α] {D : Nat → Prop} {w0 : World} {xs : List α} {A : Option Addr} {n cap : Nat} (k : Old D w0 (Rep.rep xs [.slice A n cap])) (lo hi : Nat) (h1 : lo ≤ hi) (h2 : hi ≤ xs.length) : Old D w0 (Rep.rep ((xs.drop lo).take (hi - lo)) [.slice (if cap = lo then A else A.map (·.add (lo * Rep.sz α))) (hi - lo) (cap - lo)]) := by
  obtain ⟨h, hh, q⟩ := k
  exact ⟨h, hh, rep_cut q lo hi h1 h2⟩
theorem CAdd_fit (D : Nat → Prop) (w : World) (b : Nat) (l x y : List EditC) (v : Value) (hy : y = l ++ x) (hn : l.length + x.length ≤ 32) (HA : Old D w (Rep.rep x [v])) (H : Own D w w [ses b l]) :
    Calls Tryz.prog 38 #[.pointer (some ⟨b, 0, none⟩), v] w fun e w' => e = .returned (.int .i64 0) ∧ Own D w w' [ses b y] :=
  (CAdd_spec D w b l x v (by omega) (by omega) HA H).mono fun e w' ⟨he, H'⟩ => by
    rw [if_pos hn] at he H'
    rw [hy]; exact ⟨he, H'⟩
theorem ccom_cases (m : Nat) (s : SSt) (l : List EditC) (h : SI m s) (hf : ∀ x ∈ l, Flat.ok x) (hep : s.ep < 4294967290) :
    ∃ n er s', ccomR m s l = (n, er, s') ∧ SI m s' ∧ s'.ep ≤ s.ep + 1 ∧ s'.c.2.2.2.1.length = s.c.2.2.2.1.length ∧
      (er ≠ 0 → n = 0 ∧ s'.c = s.c ∧ l.length ≠ 0 ∧ commR m s l = (er, s')) ∧ (er = 0 → n = (l.length : Int) ∧ (l.length = 0 ∧ s' = s ∨ l.length ≠ 0 ∧ commR m s l = (0, s'))) := by
  unfold ccomR
  by_cases h0 : l.length = 0
  · rw [if_pos h0]
    exact ⟨_, _, _, rfl, h, Nat.le_succ _, rfl, fun h => absurd rfl h, fun _ => ⟨by omega, .inl ⟨h0, rfl⟩⟩⟩
  rw [if_neg h0]
  have hr := commR_ok h hf hep
  have hp := commR_ports h hf hep
  obtain ⟨er, s', hc⟩ : ∃ er s', commR m s l = (er, s') := ⟨_, _, rfl⟩
  rw [hc] at hr hp ⊢
  obtain ⟨r1, r2, r3, r4, r5⟩ := hr
  have r4 : s'.c = if er = 0 then (edF s.c l).1 else s.c := r4
  by_cases he : er = 0
  · subst he
    rw [if_neg (fun k => k rfl)]
    exact ⟨_, _, _, rfl, r1, r3, hp, fun h => absurd rfl h, fun _ => ⟨rfl, .inr ⟨h0, rfl⟩⟩⟩
  rw [if_pos he]
  rw [if_neg he] at r4
  exact ⟨_, _, _, rfl, r1, r3, hp, fun _ => ⟨rfl, r4, h0, rfl⟩, fun h => absurd h he⟩
set_option maxHeartbeats 2000000 in
theorem CandRefuses_walk (W : World) (v0 v1 : Value) (l : List EditC) (cut : Int) (h0 : Old none' W (Rep.rep l [v0])) (h1 : Old none' W (Rep.rep cut [v1])) :
    Calls Tryz.prog 9 #[v0, v1] W fun e w' => e = .returned (.bool true) ∧ Own none' W w' [] := by
  obtain ⟨hh1, _, e1', i1⟩ := h1
  have e1' : [v1] = [Value.int .i64 cut] := e1'
  obtain rfl : v1 = .int .i64 cut := by simpa using e1'
  obtain ⟨A, cap, rfl, hc1, hc2, _, hfl⟩ := h0.openF
  obtain ⟨S0, hS0⟩ : ∃ S, S = List.replicate 48 zeroSec := ⟨_, rfl⟩
  obtain ⟨s1, hs1⟩ : ∃ s, s = firstSt 48 3 := ⟨_, rfl⟩
  have k1 : SI 48 s1 := by rw [hs1]; exact firstSt_ok (by decide) (by decide) (by decide)
  have e1 : s1.ep = 1 := by rw [hs1]; rfl
  refine hc_enter (vs := [.slice A l.length cap, .int .i64 cut]) Tryz.func9 rfl _ Tryz.ntmps9 rfl (Own.start none' W) ?_
  simp only [argSlots, Nat.zero_add]
  refine zg <| hl_v (ov_assign rfl) rfl <| zn <| hc_seq <| ?_
  refine zg <| hl_v (ov_move rfl) rfl <| hl_v za15 rfl <| ?_
  refine hl_v (ov_gtr rfl rfl) rfl <| zn <| ?_
  refine hc_cond rfl (fun hbig => ?_) (fun hbig => ?_)
  · refine zg <| ?_
    refine hl_c Tryz.call36 rfl rfl (fun w1 H1 => Own.calln H1 fun D' hold hin H2 => wakes23_spec D' w1) ?_
    refine hl_v (ov_assign rfl) rfl <| zn <| hc_ret <| hx_then_ret <| ?_
    exact results_1 (.inr rfl) rfl rfl fun w' H' => ⟨rfl, H'.ent (Ent.nil _)⟩
  have hll : l.length ≤ 32 := by omega
  obtain ⟨k, hk, hkl⟩ : ∃ k, k = modN cut (l.length + 1) ∧ k ≤ l.length := ⟨_, rfl, by have := modN_lt cut (n := l.length + 1) (by omega); omega⟩
  obtain ⟨lt, hlt⟩ : ∃ x, x = l.take k := ⟨_, rfl⟩
  obtain ⟨ld, hld⟩ : ∃ x, x = l.drop k := ⟨_, rfl⟩
  have hltl : lt.length = k := by rw [hlt, List.length_take]; omega
  have hldl : ld.length = l.length - k := by rw [hld, List.length_drop]
  have hcat : l = lt ++ ld := by rw [hlt, hld, List.take_append_drop]
  have hTk := oldCutC h0 0 k (by omega) hkl
  have hDk := oldCutC h0 k l.length hkl (by omega)
  rw [cut0, List.drop_zero, Nat.sub_zero, Nat.sub_zero, ← hlt] at hTk
  rw [List.take_of_length_le za27, ← hld] at hDk
  obtain ⟨nn, er, s', f1, f2, f3, f4, f5, f6⟩ := ccom_cases 48 s1 l k1 hfl (by omega)
  refine zk <| zg <| ?_
  refine hl_call (σ := Nat) Tryz.call15 rfl rfl (fun w1 H1 => Own.callx0 H1 fun D' hold hin H2 => (New_ok D' w1 48 (by decide) (by decide)).mono fun e w' ⟨g, he, H'⟩ => ⟨g, he, show Own D' w1 w' [dsk g S0 []] by rw [hS0]; exact H'⟩) ?_
  intro g
  try rw [List.nil_append]
  refine hl_v (ov_move rfl) rfl <| hl_v (ov_extract rfl rfl) rfl <| hl_v (ov_extract rfl rfl) rfl <| hl_v (ov_assign rfl) rfl <| hl_v (ov_assign rfl) rfl <| hl_nil <| ?_
  refine hx_then_normal <| zg <| hl_v (ov_move rfl) rfl <| ?_
  refine hl_call (σ := Nat) Tryz.call17 rfl rfl (fun w1 H1 => Own.callpx (dsk g S0 []) H1 fun D' hold hin H2 => (SOpen_new D' w1 g 48 3 (by decide) (by decide) (by decide) (by decide) S0 hS0 H2).mono fun e w' ⟨sb, he, H'⟩ => ⟨sb, he, show Own D' w1 w' [sto sb g 48 s1, dsk g s1.S []] by rw [hs1]; exact H'⟩) ?_
  intro sb
  refine hl_v (ov_move rfl) rfl <| hl_v (ov_extract rfl rfl) rfl <| hl_v (ov_extract rfl rfl) rfl <| hl_v (ov_assign rfl) rfl <| hl_v (ov_assign rfl) rfl <| hl_nil <| ?_
  refine hx_then_normal <| zg <| ?_
  refine hl_call (σ := Nat) Tryz.call15 rfl rfl (fun w1 H1 => Own.callx0 H1 fun D' hold hin H2 => (New_ok D' w1 48 (by decide) (by decide)).mono fun e w' ⟨g, he, H'⟩ => ⟨g, he, show Own D' w1 w' [dsk g S0 []] by rw [hS0]; exact H'⟩) ?_
  intro h
  try rw [List.nil_append]
  refine hl_v (ov_move rfl) rfl <| hl_v (ov_extract rfl rfl) rfl <| hl_v (ov_extract rfl rfl) rfl <| hl_v (ov_assign rfl) rfl <| hl_v (ov_assign rfl) rfl <| hl_nil <| ?_
  refine hx_then_normal <| zg <| hl_v (ov_move rfl) rfl <| ?_
  refine hl_call (σ := Nat) Tryz.call17 rfl rfl (fun w1 H1 => Own.callpx (dsk h S0 []) H1 fun D' hold hin H2 => (SOpen_new D' w1 h 48 3 (by decide) (by decide) (by decide) (by decide) S0 hS0 H2).mono fun e w' ⟨sb, he, H'⟩ => ⟨sb, he, show Own D' w1 w' [sto sb h 48 s1, dsk h s1.S []] by rw [hs1]; exact H'⟩) ?_
  intro tb
  refine hl_v (ov_move rfl) rfl <| hl_v (ov_extract rfl rfl) rfl <| hl_v (ov_extract rfl rfl) rfl <| hl_v (ov_assign rfl) rfl <| hl_v (ov_assign rfl) rfl <| hl_nil <| ?_
  refine hx_then_normal <| zg <| ?_
  refine hl_call (σ := Nat) Tryz.call37 rfl rfl (fun w1 H1 => Own.callx0 H1 fun D' hold hin H2 => CNew_spec D' w1) ?_
  intro b
  try rw [List.nil_append]
  refine hl_v (ov_assign rfl) rfl <| zn <| hc_seq <| zg <| ?_
  refine hl_v (ov_move rfl) rfl <| hl_v (ov_neq rfl rfl) rfl <| hl_v (ov_move rfl) rfl <| ?_
  refine hl_partF (t := 43) rfl ((fun h => h rfl)) ?_
  refine hl_on rfl rfl <| hl_v (ov_move rfl) rfl <| hl_on rfl rfl <| hl_v (ov_neq rfl rfl) rfl <| hl_v (ov_pickF rfl rfl) rfl <| hl_v (ov_move rfl) rfl <| ?_
  refine hl_partF (t := 47) rfl ((fun h => h rfl)) ?_
  refine hl_on rfl rfl <| hl_v (ov_move rfl) rfl <| hl_on rfl rfl <| hl_v (ov_neq rfl rfl) rfl <| hl_v (ov_pickF rfl rfl) rfl <| hl_v (ov_move rfl) rfl <| ?_
  refine hl_partF (t := 51) rfl ((fun h => h rfl)) ?_
  refine hl_on rfl rfl <| hl_v (ov_move rfl) rfl <| hl_on rfl rfl <| hl_v (ov_eqlP rfl rfl) rfl <| hl_v (ov_pickF rfl rfl) rfl <| hl_v (ov_move rfl) rfl <| ?_
  refine hl_on rfl rfl <| hl_v (ov_move rfl) rfl <| hl_on rfl rfl <| hl_v (ov_eqlP rfl rfl) rfl <| hl_v (ov_pickF rfl rfl) rfl <| hl_v (ov_move rfl) rfl <| ?_
  refine hl_on rfl rfl <| hl_v (ov_move rfl) rfl <| hl_on rfl rfl <| hl_v (ov_eqlP rfl rfl) rfl <| hl_v (ov_pickF rfl rfl) rfl <| zn <| ?_
  refine hc_cond_false rfl ?_
  refine zk <| zg <| hl_v (ov_move rfl) rfl <| hl_v (ov_move rfl) rfl <| ?_
  refine hl_v za15 rfl <| ?_
  refine hl_v (ov_add rfl rfl za18) rfl <| ?_
  refine hl_c Tryz.call14 rfl rfl (fun w1 H1 => Own.calln H1 fun D' hold hin H2 => (Mod_nat D' w1 cut (l.length + 1) i1 (by omega) (by omega)).mono fun e w' ⟨he, H'⟩ => ⟨(by rw [← hk] at he; exact he : e = .returned (.int .i64 (k : Int))), H'⟩) ?_
  refine hl_v (ov_assign rfl) rfl <| zn <| hc_seq <| zg <| ?_
  refine hl_v (ov_move rfl) rfl <| hl_v (ov_move rfl) rfl <| hl_v (ov_move rfl) rfl <| ?_
  refine hl_v (ov_slTo rfl k rfl (by omega)) rfl ?_
  refine hl_c Tryz.call38 rfl rfl (fun w1 H1 => Own.callp (ses b []) H1 fun D' hold hin H2 => CAdd_fit D' w1 b [] lt lt _ rfl (by simp; omega) (hold _ hTk) H2) ?_
  refine hl_v (ov_neq rfl rfl) rfl <| hl_v (ov_move rfl) rfl <| ?_
  refine hl_partF (t := 74) rfl ((fun h => h rfl)) ?_
  refine hl_on rfl rfl <| hl_v (ov_move rfl) rfl <| hl_on rfl rfl <| hl_v (ov_move rfl) rfl <| hl_on rfl rfl <| hl_v (ov_move rfl) rfl <| ?_
  refine hl_on rfl rfl <| hl_v (ov_slice rfl k l.length (.inr ⟨_, _, rfl, rfl⟩) (.inl ⟨rfl, rfl⟩) hkl (by omega)) rfl ?_
  refine hl_on rfl rfl <| hl_c Tryz.call38 rfl rfl (fun w1 H1 => Own.callp (ses b lt) H1 fun D' hold hin H2 => CAdd_fit D' w1 b lt ld l _ hcat (by omega) (hold _ hDk) H2) ?_
  refine hl_on rfl rfl <| hl_v (ov_neq rfl rfl) rfl <| hl_v (ov_pickF rfl rfl) rfl <| zn <| ?_
  refine hc_cond_F rfl ((fun h => h rfl)) ?_
  refine zk <| zg <| hl_v (ov_move rfl) rfl <| ?_
  refine hl_call (σ := Three) Tryz.call26 rfl rfl (fun w1 H1 => Own.callpx (sto sb g 48 s1) H1 fun D' hold hin H2 => SConfig_spec D' w1 sb g 48 s1 k1.okc H2) ?_
  intro q
  refine hl_new (on_alloc) rfl rfl rfl fun b15 =>  ?_
  refine hl_u0 (on_storeW (vs := cfgA s1.c q) rfl rfl rfl (by simp) za33) rfl rfl ?_
  refine zn <| zg <| hl_v (ov_move rfl) rfl <| hl_v (ov_move rfl) rfl <| ?_
  refine hl_c Tryz.call39 rfl rfl (fun w1 H1 => Own.callp3 (ses b l) (sto sb g 48 s1) (dsk g s1.S []) H1 fun D' hold hin H2 => (CCommit_spec D' w1 b sb g 48 s1 l k1 (by decide) (by omega) hll hfl H2).mono fun e w' ⟨he, H'⟩ => ⟨(by rw [f1] at he; exact he : e = .returned (.tuple #[.int .i64 nn, .int .i64 er])), show Own D' w1 w' [ses b [], sto sb g 48 s', dsk g s'.S []] by rw [f1] at H'; exact H'⟩) ?_
  refine hl_v (ov_move rfl) rfl <| hl_v (ov_extract rfl rfl) rfl <| hl_v (ov_extract rfl rfl) rfl <| hl_v (ov_assign rfl) rfl <| hl_v (ov_assign rfl) rfl <| hl_nil <| ?_
  refine hx_then_normal <| hc_seq <| zg <| hl_v (ov_move rfl) rfl <| ?_
  refine hl_call (σ := Option Addr × Nat) Tryz.call40 rfl rfl (fun w1 H1 => Own.callpx (ses b []) H1 fun D' hold hin H2 => CAll_spec D' w1 b [] (by decide) (fun x hx => by cases hx) H2) ?_
  intro q2
  refine hl_v za15 rfl <| ?_
  refine hl_v (ov_neq rfl rfl) rfl <| zn <| ?_
  refine hc_cond_F rfl ((fun h => h rfl)) ?_
  refine zk <| hc_seq <| zg <| hl_v (ov_move rfl) rfl <| ?_
  refine hl_v (ov_neq rfl rfl) rfl <| zn <| ?_
  refine hc_cond rfl (fun her => ?_) (fun her => ?_)
  · obtain ⟨n1, n2, n3, n4⟩ := f5 her
    subst n1
    refine hc_seq <| ?_
    refine hc_any [blk b15 49 (cfgA s1.c q)] mixed 19 rfl ?_
    refine ha_v 0 rfl (ov_move rfl) rfl <| ?_
    refine ha_v 1 rfl (ov_eql rfl rfl) rfl <| ?_
    refine ha_v 2 rfl (ov_move rfl) rfl <| ?_
    refine ha_partT (t := 98) rfl (rfl) ?_
    refine ha_v 3 rfl (ov_move rfl) rfl <| ?_
    refine ha_v 5 rfl za10 rfl <| ?_
    refine ha_one 4 (by kernel_rfl) <| ?_
    refine ho_kx (σ := Three) rfl Tryz.call26 rfl (fun w1 H1 => Own.callpx (sto sb g 48 s') H1 fun D' hold hin H2 => SConfig_spec D' w1 sb g 48 s' f2.okc H2) ?_
    intro q3
    rw [n2]
    refine ha_one 6 (by kernel_rfl) <| ?_
    refine ho_kx (σ := BIff (s1.c = s1.c)) rfl Tryz.call27 rfl (fun w1 H1 => Own.callx0 H1 fun D' hold hin H2 => keepC_spec D' w1 s1.c s1.c _ _ _ _ _ _ (ConfOld.rows (q := q3) k1.okc hin) (ConfOld.rows (q := q) k1.okc hin)) ?_
    intro g1
    try rw [List.nil_append]
    have hg1 : g1.1 = true := g1.2.2 rfl
    rw [hg1]
    refine ha_v 7 rfl (ov_pickT rfl rfl) rfl <| ?_
    refine ha_v 8 rfl (ov_move rfl) rfl <| ?_
    refine ha_v 9 rfl (ov_move rfl) rfl <| ?_
    refine ha_v 10 rfl (ov_move rfl) rfl <| ?_
    refine ha_v 12 rfl (ov_move rfl) rfl <| ?_
    refine ha_one 11 (by kernel_rfl) <| ?_
    refine ho_k rfl Tryz.call19 rfl (fun w1 H1 => Own.callp2 (sto tb h 48 s1) (dsk h s1.S []) H1 fun D' hold hin H2 => (Commit_spec D' w1 tb h 48 s1 _ l k1 (by decide) (by omega) (by omega) (hold _ h0) H2).mono fun e w' ⟨he, H'⟩ => ⟨(by rw [n4] at he; exact he : e = .returned (.int .i64 er)), show Own D' w1 w' [sto tb h 48 s', dsk h s'.S []] by rw [n4] at H'; exact H'⟩) ?_
    refine ha_v 13 rfl (ov_eql rfl rfl) rfl <| ?_
    refine ha_v 14 rfl (ov_pickT rfl rfl) rfl <| ?_
    refine ha_v 15 rfl (ov_move rfl) rfl <| ?_
    refine ha_partT (t := 111) rfl (rfl) ?_
    refine ha_one 16 (by kernel_rfl) <| ?_
    refine ho_k rfl Tryz.call36 rfl (fun w1 H1 => Own.calln H1 fun D' hold hin H2 => wakes23_spec D' w1) ?_
    refine ha_v 17 rfl (ov_pickT rfl rfl) rfl <| ?_
    refine ha_v 18 rfl (ov_assign rfl) rfl <| ?_
    refine ha_done (by kernel_rfl) <| hx_then_normal <| hc_ret <| hx_then_ret <| ?_
    exact results_1 (.inr rfl) rfl rfl fun w' H' => ⟨rfl, H'.ent (Ent.nil _)⟩
  have her : er = 0 := Classical.not_not.1 her
  obtain ⟨n1, n2⟩ := f6 her
  subst n1
  subst her
  refine zk <| zg <| hl_v (ov_move rfl) rfl <| hl_v (ov_move rfl) rfl <| ?_
  refine hl_v za15 rfl <| ?_
  refine hl_v (ov_eql rfl rfl) rfl <| hl_v (ov_move rfl) rfl <| ?_
  refine hl_partT (t := 118) rfl (rfl) ?_
  rcases n2 with ⟨n2, n3⟩ | ⟨n2, n3⟩
  · subst n3
    refine hl_on rfl rfl <| hl_v (ov_move rfl) rfl <| hl_on rfl rfl <| hl_v za15 rfl <| ?_
    refine hl_on rfl rfl <| hl_v (ov_eql rfl rfl) rfl <| hl_on rfl rfl <| hl_v (ov_move rfl) rfl <| ?_
    refine hl_partT (t := 122) rfl ((by omega)) ?_
    refine hl_off rfl rfl rfl rfl rfl rfl <| hl_off rfl rfl rfl rfl rfl rfl <| hl_off rfl rfl rfl rfl rfl rfl <| hl_off rfl rfl rfl rfl rfl rfl <| hl_on rfl rfl <| hl_v (ov_pickT rfl rfl) rfl <| hl_v (ov_pickT rfl rfl) rfl <| ?_
    refine hl_v (ov_move rfl) rfl <| hl_on rfl rfl <| hl_v (ov_move rfl) rfl <| ?_
    refine hl_on rfl rfl <| hl_call (σ := Three) Tryz.call26 rfl rfl (fun w1 H1 => Own.callpx (sto sb g 48 s') H1 fun D' hold hin H2 => SConfig_spec D' w1 sb g 48 s' f2.okc H2) ?_
    intro q3
    refine hl_on rfl rfl <| hl_v (ov_move rfl) rfl <| ?_
    refine hl_on rfl rfl <| hl_call (σ := Three) Tryz.call26 rfl rfl (fun w1 H1 => Own.callpx (sto tb h 48 s') H1 fun D' hold hin H2 => SConfig_spec D' w1 tb h 48 s' f2.okc H2) ?_
    intro q4
    refine hl_on rfl rfl <| hl_call (σ := BIff (s'.c = s'.c)) Tryz.call27 rfl rfl (fun w1 H1 => Own.callx0 H1 fun D' hold hin H2 => keepC_spec D' w1 s'.c s'.c _ _ _ _ _ _ (ConfOld.rows (q := q3) f2.okc hin) (ConfOld.rows (q := q4) f2.okc hin)) ?_
    intro g1
    try rw [List.nil_append]
    have hg1 : g1.1 = true := g1.2.2 rfl
    rw [hg1]
    refine hl_v (ov_pickT rfl rfl) rfl <| hl_v (ov_move rfl) rfl <| ?_
    refine hl_on rfl rfl <| hl_c Tryz.call36 rfl rfl (fun w1 H1 => Own.calln H1 fun D' hold hin H2 => wakes23_spec D' w1) ?_
    refine hl_v (ov_pickT rfl rfl) rfl <| hl_v (ov_assign rfl) rfl <| zn <| hc_ret <| ?_
    exact results_1 (.inr rfl) rfl rfl fun w' H' => ⟨rfl, H'.ent (Ent.nil _)⟩
  refine hl_on rfl rfl <| hl_v (ov_move rfl) rfl <| hl_on rfl rfl <| hl_v za15 rfl <| ?_
  refine hl_on rfl rfl <| hl_v (ov_eql rfl rfl) rfl <| hl_on rfl rfl <| hl_v (ov_move rfl) rfl <| ?_
  refine hl_partF (t := 122) rfl ((by omega)) ?_
  refine hl_on rfl rfl <| hl_v (ov_move rfl) rfl <| hl_on rfl rfl <| hl_v (ov_move rfl) rfl <| ?_
  refine hl_on rfl rfl <| hl_c Tryz.call19 rfl rfl (fun w1 H1 => Own.callp2 (sto tb h 48 s1) (dsk h s1.S []) H1 fun D' hold hin H2 => (Commit_spec D' w1 tb h 48 s1 _ l k1 (by decide) (by omega) (by omega) (hold _ h0) H2).mono fun e w' ⟨he, H'⟩ => ⟨(by rw [n3] at he; exact he : e = .returned (.int .i64 0)), show Own D' w1 w' [sto tb h 48 s', dsk h s'.S []] by rw [n3] at H'; exact H'⟩) ?_
  refine hl_on rfl rfl <| hl_v (ov_eql rfl rfl) rfl <| hl_on rfl rfl <| hl_v (ov_pickF rfl rfl) rfl <| hl_v (ov_pickT rfl rfl) rfl <| hl_v (ov_move rfl) rfl <| ?_
  refine hl_partT (t := 129) rfl (rfl) ?_
  refine hl_on rfl rfl <| hl_v (ov_move rfl) rfl <| ?_
  refine hl_on rfl rfl <| hl_call (σ := Three) Tryz.call26 rfl rfl (fun w1 H1 => Own.callpx (sto sb g 48 s') H1 fun D' hold hin H2 => SConfig_spec D' w1 sb g 48 s' f2.okc H2) ?_
  intro q3
  refine hl_on rfl rfl <| hl_v (ov_move rfl) rfl <| ?_
  refine hl_on rfl rfl <| hl_call (σ := Three) Tryz.call26 rfl rfl (fun w1 H1 => Own.callpx (sto tb h 48 s') H1 fun D' hold hin H2 => SConfig_spec D' w1 tb h 48 s' f2.okc H2) ?_
  intro q4
  refine hl_on rfl rfl <| hl_call (σ := BIff (s'.c = s'.c)) Tryz.call27 rfl rfl (fun w1 H1 => Own.callx0 H1 fun D' hold hin H2 => keepC_spec D' w1 s'.c s'.c _ _ _ _ _ _ (ConfOld.rows (q := q3) f2.okc hin) (ConfOld.rows (q := q4) f2.okc hin)) ?_
  intro g1
  try rw [List.nil_append]
  have hg1 : g1.1 = true := g1.2.2 rfl
  rw [hg1]
  refine hl_v (ov_pickT rfl rfl) rfl <| hl_v (ov_move rfl) rfl <| ?_
  refine hl_on rfl rfl <| hl_c Tryz.call36 rfl rfl (fun w1 H1 => Own.calln H1 fun D' hold hin H2 => wakes23_spec D' w1) ?_
  refine hl_v (ov_pickT rfl rfl) rfl <| hl_v (ov_assign rfl) rfl <| zn <| hc_ret <| ?_
  exact results_1 (.inr rfl) rfl rfl fun w' H' => ⟨rfl, H'.ent (Ent.nil _)⟩
end Go.Proofs.YtjlolpmmpafjeaaGreat
/- PROVED: the given statement CandRefuses: for every input the law returns true, and each argument reads behind the call as it read before; no condition. -/
set_option linter.unusedVariables false
namespace Go.Proofs.YtjlolpmmpafjeaaGreat.candRefuses
open Go.ChangeShapes Go.WideShapes Go.ChangeAt Go.RowKit
open Slk
theorem own : ownKnob Tryz.prog.godebug = none := by kernel_rfl
theorem laidOut : laidOutB Tryz.prog = true := by kernel_rfl
set_option maxRecDepth 100000 in
theorem lifted (os : Os) (started : os.Started) (H : Type) (enc : TypeId × Value → H) :
    ReturnsInHanded {} Tryz.checked os 9 .any (Rows.candRefusesSpec.pre6 enc Tryz.prog Tryz.f9 Rows.candRefusesRow.domain false) (Rows.candRefusesSpec.post enc Tryz.prog Tryz.f9 false true false false) := by
  refine returnsInHanded_of_change (C := Tryz.checked) own started (by kernel_rfl) Tryz.func9
    (ChangeSpec.witness6 (enc := enc) (C := Tryz.checked) false ⟨#[], #[.slice none 0 0, .int .i64 0], []⟩ 8 (by kernel_rfl) (by kernel_rfl) (by kernel_rfl) (by kernel_rfl)) ?_
  intro W base args ds gs before hval0 hW hcnd _
  have hval : ∀ (j : Nat) t v, Tryz.f9.params[j]? = some t → args[j]? = some v → Value.okWide Tryz.prog W .any base t v := hval0
  have hW' := hW
  obtain ⟨p, q, hA0, hV, rfl, hfz, hnd⟩ := hW
  have hA : DataW.TrodAll enc Tryz.prog W 0 (fun _ => true) true Tryz.f9.params.toList args.toList ds p := hA0
  rw [Tryz.params9] at hA hval
  obtain ⟨v0, vs0, d0, ds0, p0, q0, hargs, rfl, rfl, h0, r0⟩ := trodAll_cons hA
  obtain ⟨v1, vs1, d1, ds1, p1, q1, rfl, rfl, rfl, h1, r1⟩ := trodAll_cons r0
  obtain ⟨rfl, rfl, rfl⟩ := trodAll_nil r1
  obtain rfl : args = #[v0, v1] := by cases args; simp_all
  obtain ⟨rfl, rfl⟩ := trodVars_none hV
  have k0 := h0
  have lt0 : ∀ x ∈ p0, x.block < W.heap.size := by obtain ⟨m, hm⟩ := k0; exact DataW.trod_lt m _ _ _ hm
  have e0 := cells_one (hval 0 23 v0 rfl rfl)
  obtain ⟨x0, y0⟩ := arg_rep (α := List EditC) h0
  rw [e0] at y0
  have k1 := h1
  have lt1 : ∀ x ∈ p1, x.block < W.heap.size := by obtain ⟨m, hm⟩ := k1; exact DataW.trod_lt m _ _ _ hm
  have e1 := cells_one (hval 1 3 v1 rfl rfl)
  obtain ⟨x1, y1⟩ := arg_rep (α := Int) h1
  rw [e1] at y1
  clear hA0 hval0
  refine (CandRefuses_walk W v0 v1 x0 x1 y0 y1).mono fun e W' ⟨he, hO⟩ => ?_
  have bel := hO.below
  subst he
  exact ⟨_, rfl, _, _, _, [], _, [], hW', trodAll_mk1 (shut_bool Tryz.underlying4 _), (trodAll_cons_mk (Below.trod laidOut (by kernel_rfl) (of_decide_eq_true (by kernel_rfl)) k0 bel lt0) (trodAll_cons_mk (Below.trod laidOut (by kernel_rfl) (of_decide_eq_true (by kernel_rfl)) k1 bel lt1) trodAll_mk0)), rfl, bel.frame _, fun h => by cases h⟩
theorem over : Rows.candRefusesRow.holds Tryz.pinned (OpenSpec.ofChange Rows.candRefusesSpec) :=
  OpenClaim.holds_of_wide 9 Tryz.f9 rfl rfl rfl rfl rfl rfl rfl ⟨rfl, rfl, rfl, rfl, rfl⟩ rfl rfl rfl rfl rfl (by kernel_rfl) Tryz.func9 (by kernel_rfl)
    (of_decide_eq_true (by kernel_rfl)) (by unfold Func.isWrapper; first | (rw [if_pos (by decide +kernel)]; kernel_rfl) | (rw [if_neg (by decide +kernel)]; exact ⟨rfl, rfl⟩))
    (fun os started H enc _ => lifted os started H enc)
theorem proved : Rows.CandRefusesSaid := over
#print axioms proved
end Go.Proofs.YtjlolpmmpafjeaaGreat.candRefuses
