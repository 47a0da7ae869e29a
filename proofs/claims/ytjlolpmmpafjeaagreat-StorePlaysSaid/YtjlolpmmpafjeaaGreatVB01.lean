import Derived.Test.YtjlolpmmpafjeaaGreatV26
import Derived.Test.YtjlolpmmpafjeaaGreatRows
set_option linter.unusedVariables false
set_option linter.unusedSimpArgs false
namespace Slk
open Go
section
variable {P : Program} {t : TypeId}
instance ReadsAs.u8 [h : TyInt P t .u8] {b : Nat} {z : List Value} [TyI P t 1 b z] : ReadsAs P t UInt8 where
 of := by
  intro H enc w sp held fuel cs x k
  obtain ⟨n, rfl, _, hw⟩ := DataW.trod_int h.out k
  have hb : 0 ≤ n ∧ n ≤ 255 := by simpa [Lit.wf, IntKind.min, IntKind.max, IntKind.signed, IntKind.bits] using hw
  refine ⟨UInt8.ofNat n.toNat, ?_⟩
  show [Value.int .u8 n] = [u8v _]
  simp only [u8v, UInt8.toNat_ofNat', List.cons.injEq, Value.int.injEq, and_true, true_and]
  omega
 size := cellsOf_of
instance ReadsAs.u64 [h : TyInt P t .u64] {b : Nat} {z : List Value} [TyI P t 1 b z] : ReadsAs P t UInt64 where
 of := by
  intro H enc w sp held fuel cs x k
  obtain ⟨n, rfl, _, hw⟩ := DataW.trod_int h.out k
  have hb : 0 ≤ n ∧ n ≤ 18446744073709551615 := by simpa [Lit.wf, IntKind.min, IntKind.max, IntKind.signed, IntKind.bits] using hw
  refine ⟨UInt64.ofNat n.toNat, ?_⟩
  show [Value.int .u64 n] = [Value.int .u64 _]
  simp only [UInt64.toNat_ofNat', List.cons.injEq, Value.int.injEq, and_true, true_and]
  omega
 size := cellsOf_of
end
section
variable {P : Program} {t : TypeId}
theorem ReadsG.last (i : Nat) {o tot fz : Nat} {ft : TypeId} {α : Type} [Rep α] [hf : TyF P t i o ft fz] [h : ReadsAs P ft α] (ht : tot ≤ o + Rep.sz α) : ReadsG P t o tot α := by
 intro H enc w sp held fuel cs x k hl
 obtain ⟨_, y, n, hy⟩ := trod_field (hf := hf) k
 rw [h.size, List.take_of_length_le Z40] at hy
 exact h.of enc w sp held n _ _ hy
theorem ReadsAs.structG (i : Nat) {o fz tot : Nat} {ft : TypeId} {α : Type} [Rep α] [hf : TyF P t i o ft fz] (ht : P.cellsOf t = tot) (hs : tot = Rep.sz α) (k : ReadsG P t 0 tot α) : ReadsAs P t α where
 of := by
  intro H enc w sp held fuel cs x hx
  obtain ⟨hl, _⟩ := trod_field (hf := hf) hx
  exact k enc w sp held fuel cs x hx (by rw [hl, ht])
 size := by rw [ht, hs]
end
end Slk
namespace Go.Proofs.YtjlolpmmpafjeaaGreat
open Slk
instance : TyI Tryz.prog 23 1 24 ([.slice none 0 0]) := ⟨Z61, Z61⟩
instance : TyI Tryz.prog 79 1 8 ([.int .u64 0]) := ⟨Z61, Z61⟩
instance : ReadsAs Tryz.prog 81 EditC := ReadsAs.structG 0 Z61 rfl (ReadsG.cons 0 (ReadsG.cons 1 (ReadsG.cons 2 (ReadsG.cons 3 (ReadsG.cons 4 (ReadsG.cons 5 (ReadsG.last 6 Z63)))))))
instance : ReadsAs Tryz.prog 74 SStep := ReadsAs.structG 0 Z61 rfl (ReadsG.cons 0 (ReadsG.cons 1 (ReadsG.last 2 Z63)))
abbrev sstepC (x : SStep) (B : Option Addr) (capB : Nat) : List Value := [.int .i64 x.1, .int .i64 x.2.1, .slice B x.2.2.length capB]
set_option maxHeartbeats 4000000 in
theorem StorePlays_walk (W : World) (v0 v1 v2 : Value) (n ports : Int) (l : List SStep) (h0 : Old none' W (Rep.rep n [v0])) (h1 : Old none' W (Rep.rep ports [v1])) (h2 : Old none' W (Rep.rep l [v2])) :
  Calls Tryz.prog 7 #[v0, v1, v2] W fun e w' => e = .returned (.bool true) ∧ Own none' W w' [] := by
 obtain ⟨hh0, _, e0, i0⟩ := h0
 have e0 : [v0] = [Value.int .i64 n] := e0
 obtain rfl : v0 = .int .i64 n := by simpa using e0
 obtain ⟨hh1, _, e1, i1⟩ := h1
 have e1 : [v1] = [Value.int .i64 ports] := e1
 obtain rfl : v1 = .int .i64 ports := by simpa using e1
 obtain ⟨A, cap, rfl, hc1, hc2, hel⟩ := h2.openX Z63
 refine hc_enter (vs := [.int .i64 n, .int .i64 ports, .slice A l.length cap]) Tryz.func7 rfl _ Tryz.ntmps7 rfl (Own.start none' W) ?_
 simp only [argSlots, Nat.zero_add]
 refine zg <| zs rfl <| zn <| hc_seq <| zg <| zm rfl <| hl_call (σ := { b : Bool // b = true → fairS l }) Tryz.call28 rfl rfl (fun w1 => zu fun D' hold _ _ => fair8_spec D' w1 _ l (hold _ h2)) ?_
 rintro ⟨bv, hbv⟩
 try rw [List.nil_append]
 cases bv
 ·refine zv Z26 <| ?_
  refine zm rfl <| zo rfl rfl <| zo rfl rfl <| zv (ov_pickT rfl rfl) <| zn <| hc_cond_true rfl <| zg <| hl_c Tryz.call13 rfl rfl (fun w1 => zun fun D' _ _ _ => wakes8_spec D' w1) ?_
  refine zs rfl <| zn <| zq <| zr <| ?_
  exact zz rfl rfl fun w' H' => ⟨rfl, H'.ent (Ent.nil _)⟩
 refine zv Z26 <| ?_
 refine zm rfl <| ?_
 obtain ⟨hll, hle⟩ := hbv rfl
 refine hl_on rfl rfl <| zm rfl <| hl_on rfl rfl <| zv (ov_gtr rfl rfl) <| zv (ov_pickF rfl rfl) <| zn <| hc_cond rfl (fun big => ?_) (fun big => ?_)
 ·refine zg <| hl_c Tryz.call13 rfl rfl (fun w1 => zun fun D' _ _ _ => wakes8_spec D' w1) ?_
  refine zs rfl <| zn <| zq <| zr <| ?_
  exact zz rfl rfl fun w' H' => ⟨rfl, H'.ent (Ent.nil _)⟩
 by_cases hr : 1 ≤ n
 ·obtain ⟨m, rfl⟩ : ∃ m : Nat, n = m := ⟨n.toNat, by omega⟩
  obtain ⟨S0, hS0⟩ : ∃ S, S = List.replicate m zeroSec := ⟨_, rfl⟩
  have hl0 : S0.length = m := by rw [hS0]; exact List.length_replicate
  refine zk <| zg <| zm rfl <| hl_call (σ := Nat) Tryz.call15 rfl rfl (fun w1 => zu fun D' _ _ _ => (New_ok D' w1 m Z64 Z64).mono fun e w' ⟨g, he, H'⟩ => ⟨g, he, show Own D' w1 w' [dsk g S0 []] by rw [hS0]; exact H'⟩) ?_
  intro g
  try rw [List.nil_append]
  refine zm rfl <| zx rfl rfl <| zx rfl rfl <| zs rfl <| zs rfl <| zn <| zg <| zm rfl <| hl_call (σ := Nat) Tryz.call16 rfl rfl (fun w1 => zu fun D' _ _ _ => (RNew_ok D' w1 m Z64 Z64).mono fun e w' ⟨g, he, H'⟩ => ⟨g, he, show Own D' w1 w' [rdsk g S0 []] by rw [hS0]; exact H'⟩) ?_
  intro q
  try rw [List.nil_append]
  by_cases hg : 40 ≤ m ∧ 1 ≤ ports ∧ ports ≤ 8
  ·obtain ⟨p, rfl⟩ : ∃ k : Nat, ports = k := ⟨ports.toNat, by omega⟩
   obtain ⟨s1, hs1⟩ : ∃ s, s = firstSt m p := ⟨_, rfl⟩
   have k1 : SI m s1 := by rw [hs1]; exact firstSt_ok Z64 Z64 Z64
   have e1 : s1.ep = 1 := by rw [hs1]; rfl
   have c1 : s1.c.2.2.2.1.length = p := by rw [hs1]; exact List.length_replicate
   refine zm rfl <| zx rfl rfl <| zx rfl rfl <| zs rfl <| zs rfl <| zn <| zg <| zm rfl <| zm rfl <| hl_call (σ := Nat) Tryz.call17 rfl rfl (fun w1 => zpx (dsk g S0 []) fun D' _ _ H2 => (SOpen_new D' w1 g m p Z64 Z64 Z64 Z64 S0 hS0 H2).mono fun e w' ⟨sb, he, H'⟩ => ⟨sb, he, show Own D' w1 w' [sto sb g m s1, dsk g s1.S []] by rw [hs1]; exact H'⟩) ?_
   intro sb
   refine zm rfl <| zx rfl rfl <| zx rfl rfl <| zs rfl <| zs rfl <| zn <| zg <| zm rfl <| zm rfl <| hl_call (σ := Nat) Tryz.call18 rfl rfl (fun w1 => zpx (rdsk q S0 []) fun D' _ _ H2 => (SROpen_new D' w1 q m p Z64 Z64 Z64 Z64 S0 hS0 H2).mono fun e w' ⟨sb, he, H'⟩ => ⟨sb, he, show Own D' w1 w' [rsto sb q m s1, rdsk q s1.S []] by rw [hs1]; exact H'⟩) ?_
   intro tb
   refine zm rfl <| zx rfl rfl <| zx rfl rfl <| zs rfl <| zs rfl <| zn <| hc_seq <| zg <| zm rfl <| zm rfl <| zv (ov_neq rfl rfl) <| zm rfl <| hl_partF (t := 61) rfl ((fun h => h rfl)) <| hl_on rfl rfl <| zm rfl <| hl_on rfl rfl <| zv (ov_eqlP rfl rfl) <| hl_on rfl rfl <| zm rfl <| hl_on rfl rfl <| zv (ov_eqlP rfl rfl) <| hl_on rfl rfl <| zv (ov_neqB rfl rfl) <| zv (ov_pickF rfl rfl) <| zn <| hc_cond_F rfl ((by simp)) ?_
   refine zk <| hc_seq <| zg <| zs rfl <| zn <| hc_block <| hc_loopK3 (σ := Nat × SSt × Nat × Nat) [1, 2, 7, 9] rfl 15 (fun st => .int .i64 (st.1 : Int)) 11 (fun st => .pointer (some ⟨st.2.2.1, 0, none⟩)) 13 (fun st => .pointer (some ⟨st.2.2.2, 0, none⟩)) (fun st => [sto st.2.2.1 g m st.2.1, dsk g st.2.1.S [], rsto st.2.2.2 q m st.2.1, rdsk q st.2.1.S []]) (fun st => st.1 ≤ l.length ∧ SI m st.2.1 ∧ st.2.1.ep ≤ st.1 + 1 ∧ st.2.1.c.2.2.2.1.length = p) (fun st => l.length - st.1) ((0, s1, sb, tb)) (⟨Nat.zero_le _, k1, by show s1.ep ≤ 1; omega, c1⟩) rfl rfl rfl Z10 ?_
   rintro ⟨i, s, sb, tb⟩ hj_ K1 hK1
   dsimp only at hj_ ⊢
   obtain ⟨hi, hs, he, hp⟩ := hj_
   refine hc_seq <| zg <| zm rfl <| zm rfl <| zv Z25 <| ?_
   refine zv (ov_lss rfl rfl) <| zm rfl <| hl_part (t := 72) rfl (fun hlt => ?_) (fun hlt => ?_)
   ·have hlt : i < l.length := by omega
    refine hl_on rfl rfl <| zm rfl <| hl_on rfl rfl <| zv (ov_neqP rfl rfl) <| zv (ov_pickT rfl rfl) <| zn <| hc_cond_true rfl ?_
    have hpc := hs.ports
    obtain ⟨hA, cs, hx, hcs⟩ := hel i hlt
    obtain ⟨B, capB, rfl, _, _, hu⟩ := sstep_open hx
    rw [show Rep.sz SStep = 3 from rfl] at hcs
    have hl40 := hle _ (List.getElem_mem hlt)
    obtain ⟨x, hxe⟩ : ∃ x, x = l[i] := ⟨_, rfl⟩
    rw [← hxe] at hcs hu hl40
    obtain ⟨_, _, eqx, hxc1, hxc2, HSx, hfl⟩ := hu.openF
    simp only [Value.slice.injEq] at eqx
    obtain ⟨rfl, _, rfl⟩ := eqx
    have HSx : OldS none' W B (x.2.2.flatMap editV) := HSx
    refine zk <| hc_seq <| hc_block <| zg <| zm rfl <| zm rfl <| hl_v (ov_idxS rfl hA rfl i rfl hlt) rfl <| hl_v (ov_loadG (cs := sstepC x B capB) rfl rfl (fun w H m v hv => hcs m v hv _ w H)) rfl ?_
    refine hl_new (on_alloc) rfl rfl rfl fun b16 =>
     hl_u0 (on_storeGN rfl rfl rfl rfl rfl rfl) rfl rfl <| zn <| hc_seq <| hc_seq <| ?_
    refine hc_region <| zf rfl <| zl rfl rfl <| zn <| ?_
    have is2 : s.ep ≤ i + 2 := by omega
    refine hc_cutK2 (σ := SSt × Nat × Nat) [1, 2, 7, 9, 15] rfl 11 (fun st => .pointer (some ⟨st.2.1, 0, none⟩)) 13 (fun st => .pointer (some ⟨st.2.2, 0, none⟩)) (fun st => [pureP (SI m st.1 ∧ st.1.ep ≤ i + 2 ∧ st.1.c.2.2.2.1.length = p), sto st.2.1 g m st.1, dsk g st.1.S [], rsto st.2.2 q m st.1, rdsk q st.1.S []]) (fun K2 hK2 => ?_) (fun st => ?_)
    ·refine hc_block <| zg <| zv (ov_eql rfl rfl) <| zs rfl <| zn <| hc_cond rfl (fun kd0 => ?_) (fun kd0 => ?_)
     ·obtain ⟨er, s2, hcm⟩ : ∃ er s2, commR m s x.2.2 = (er, s2) := ⟨_, _, rfl⟩
      have hrr := commR_ok hs hfl Z64
      have hpl := commR_ports hs hfl Z64
      rw [hcm] at hrr hpl
      obtain ⟨k2, r2, r3, r4, r5⟩ := hrr
      have k2 : SI m s2 := k2
      have r3 : s2.ep ≤ s.ep + 1 := r3
      have p2 : s2.c.2.2.2.1.length = p := hpl.trans hp
      have i2 : s2.ep ≤ i + 2 := by omega
      refine hc_seq <| hc_any [blk b16 74 (sstepC x B capB)] mixed 11 rfl ?_
      refine ha_v 0 rfl (ov_move rfl) rfl <| ha_v 2 rfl (ov_fieldA rfl) rfl <| ha_v 3 rfl (zw rfl rfl) rfl <| ha_v 6 rfl (ov_move rfl) rfl <| ha_v 7 rfl (ov_fieldA rfl) rfl <| ha_v 8 rfl (zw rfl rfl) rfl <| ha_one 1 Z61 <| ho_n rfl (on_buildSliceN rfl rfl rfl) rfl fun b87 =>  ?_
      refine ha_one 4 Z61 <| ho_ent (Ent.blk_row (b := b87) 7 0 rfl Z63) ?_
      refine ho_n rfl (on_appendR (A := some ⟨b87, 0, none⟩) (news := x.2.2.flatMap editV) rfl rfl (SrcIs.old HSx) (flat_len (f := editV) (sz := 7) (fun _ => rfl) x.2.2) (flat_one editV_one x.2.2) Z63 Z64) rfl (fun qA => ?_)
      rw [List.nil_append, Nat.zero_add]
      refine ha_one 5 Z61 <| ho_k rfl Tryz.call19 rfl (fun w1 H1 => Own.callp2 (sto sb g m s) (dsk g s.S []) H1 fun D' _ hin H2 => (Commit_spec D' w1 sb g m s _ x.2.2 hs Z64 Z64 Z64 (hin _ fun h hs ho => rep_row (A := qA.1) hs x.2.2 rfl (repL_F.2 ⟨rfl, hfl⟩)) H2).mono fun e w' ⟨he, H'⟩ => ⟨(by rw [hcm] at he; exact he : e = .returned (.int .i64 er)), show Own D' w1 w' [sto sb g m s2, dsk g s2.S []] by rw [hcm] at H'; exact H'⟩) ?_
      refine ha_one 9 Z61 <| ho_k rfl Tryz.call20 rfl (fun w1 H1 => Own.callp2 (rsto tb q m s) (rdsk q s.S []) H1 fun D' hold _ H2 => (SRCommit_spec D' w1 tb q m s _ x.2.2 hs Z64 Z64 Z64 (hold _ hu) H2).mono fun e w' ⟨he, H'⟩ => ⟨(by rw [hcm] at he; exact he : e = .returned (.int .i64 er)), show Own D' w1 w' [rsto tb q m s2, rdsk q s2.S []] by rw [hcm] at H'; exact H'⟩) ?_
      refine ha_v 10 rfl (ov_neq rfl rfl) rfl <| ha_done Z61 <| zt <| ?_
      refine hc_cond_F rfl ((fun h => h rfl)) <| hc_skip <| zb <| ?_
      exact hx_cut hK2 ((s2, sb, tb)) Z16 (Ent.pure_cons ⟨k2, i2, p2⟩ Z8)
     refine zg <| zv (ov_eql rfl rfl) <| zs rfl <| zn <| hc_cond rfl (fun kd1 => ?_) (fun kd1 => ?_)
     ·obtain ⟨s2, hs2⟩ : ∃ s2, s2 = saveSt s := ⟨_, rfl⟩
      have k2 : SI m s2 := by rw [hs2]; exact saveSt_ok hs Z64
      have e2 : s2.ep = s.ep + 1 := by rw [hs2]; rfl
      have i2 : s2.ep ≤ i + 2 := by omega
      have p2 : s2.c.2.2.2.1.length = p := by rw [hs2]; exact hp
      refine zg <| zm rfl <| hl_c Tryz.call31 rfl rfl (fun w1 H1 => Own.callp2 (sto sb g m s) (dsk g s.S []) H1 fun D' _ _ H2 => (SSave_spec D' w1 sb g m s hs Z64 H2).mono fun e w' ⟨he, H'⟩ => ⟨he, show Own D' w1 w' [sto sb g m s2, dsk g s2.S []] by rw [hs2]; exact H'⟩) ?_
      refine zm rfl <| hl_c Tryz.call33 rfl rfl (fun w1 H1 => Own.callp2 (rsto tb q m s) (rdsk q s.S []) H1 fun D' _ _ H2 => (SRSave_spec D' w1 tb q m s hs Z64 Z64 H2).mono fun e w' ⟨he, H'⟩ => ⟨he, show Own D' w1 w' [rsto tb q m s2, rdsk q s2.S []] by rw [hs2]; exact H'⟩) ?_
      refine zv (ov_neq rfl rfl) <| zn <| hc_cond_F rfl ((fun h => h rfl)) <| hc_skip <| zb <| ?_
      exact hx_cut hK2 ((s2, sb, tb)) Z16 (Ent.pure_cons ⟨k2, i2, p2⟩ Z8)
     refine zg <| zv (ov_eql rfl rfl) <| zs rfl <| zn <| hc_cond rfl (fun kd2 => ?_) (fun kd2 => ?_)
     ·refine zg <| zm rfl <| hl_c Tryz.call25 rfl rfl (fun w1 => zp (dsk g s.S []) fun D' _ _ H2 => Crash_none D' w1 g s.S H2) ?_
      refine zn <| zg <| zm rfl <| zm rfl <| hl_call (σ := Nat) Tryz.call17 rfl rfl (fun w1 => zpx (dsk g s.S []) fun D' _ _ H2 => SOpen_old D' w1 g m s p hs Z64 Z64 Z64 Z64 Z64 H2) ?_
      intro sb2
      refine zm rfl <| zx rfl rfl <| zx rfl rfl <| zs rfl <| zs rfl <| zn <| zg <| zm rfl <| zm rfl <| hl_call (σ := Nat) Tryz.call18 rfl rfl (fun w1 => zpx (rdsk q s.S []) fun D' _ _ H2 => SROpen_old D' w1 q m s p hs Z64 Z64 Z64 Z64 Z64 H2) ?_
      intro tb2
      refine zm rfl <| zx rfl rfl <| zx rfl rfl <| zs rfl <| zs rfl <| zn <| hc_seq <| zg <| zm rfl <| zm rfl <| zv (ov_neq rfl rfl) <| zm rfl <| hl_partF (t := 123) rfl ((fun h => h rfl)) <| hl_on rfl rfl <| zm rfl <| hl_on rfl rfl <| zv (ov_eqlP rfl rfl) <| zv (ov_pickF rfl rfl) <| zm rfl <| hl_on rfl rfl <| zm rfl <| hl_on rfl rfl <| zv (ov_eqlP rfl rfl) <| zv (ov_pickF rfl rfl) <| zn <| hc_cond_false rfl <| zk <| hc_region <| zm rfl <| zm rfl <| zs rfl <| zs rfl <| hl_nil <| zb <| ?_
      exact hx_cut hK2 ((s, sb2, tb2)) Z16 (Ent.pure_cons ⟨hs, is2, hp⟩ Z8)
     refine zg <| zv (ov_eql rfl rfl) <| zs rfl <| zn <| hc_cond rfl (fun kd3 => ?_) (fun kd3 => ?_)
     ·obtain ⟨N, hN⟩ : ∃ N, N = x.2.1 := ⟨_, rfl⟩
      by_cases hbad : N < 1 ∨ 8 < N
      ·refine zg <| zm rfl <| zf rfl <| zl rfl rfl <| ?_
       rw [← hN]
       refine hl_c Tryz.call17 rfl rfl (fun w1 => zp (dsk g s.S []) fun D' _ _ H2 => SOpen_no D' w1 g s.S N (.inr hbad) H2) ?_
       refine zm rfl <| zx rfl rfl <| zx rfl rfl <| zs rfl <| zs rfl <| zn <| zg <| zm rfl <| zf rfl <| zl rfl rfl <| ?_
       refine hl_c Tryz.call18 rfl rfl (fun w1 => zp (rdsk q s.S []) fun D' _ _ H2 => SROpen_no D' w1 q s.S N (.inr hbad) H2) ?_
       refine zm rfl <| zx rfl rfl <| zx rfl rfl <| zs rfl <| zs rfl <| zn <| zg <| zm rfl <| zm rfl <| zv (ov_neq rfl rfl) <| zm rfl <| hl_partF (t := 152) rfl ((fun h => h rfl)) <| hl_on rfl rfl <| zm rfl <| hl_on rfl rfl <| zv (ov_eqlP rfl rfl) <| hl_on rfl rfl <| zm rfl <| hl_on rfl rfl <| zv (ov_eqlP rfl rfl) <| hl_on rfl rfl <| zv (ov_neqB rfl rfl) <| zv (ov_pickF rfl rfl) <| zn <| hc_cond_F rfl ((by simp)) ?_
       refine hc_skip <| zb <| ?_
       exact hx_cut hK2 ((s, sb, tb)) Z16 (Ent.pure_cons ⟨hs, is2, hp⟩ Z8)
      obtain ⟨p2, rfl⟩ : ∃ k : Nat, N = k := ⟨N.toNat, by omega⟩
      by_cases hpp : p2 = p
      ·subst hpp
       refine zg <| zm rfl <| zf rfl <| zl rfl rfl <| ?_
       rw [← hN]
       refine hl_call (σ := Nat) Tryz.call17 rfl rfl (fun w1 => zpx (dsk g s.S []) fun D' _ _ H2 => SOpen_old D' w1 g m s p2 hs Z64 Z64 Z64 Z64 Z64 H2) ?_
       intro sb2
       refine zm rfl <| zx rfl rfl <| zx rfl rfl <| zs rfl <| zs rfl <| zn <| zg <| zm rfl <| zf rfl <| zl rfl rfl <| ?_
       refine hl_call (σ := Nat) Tryz.call18 rfl rfl (fun w1 => zpx (rdsk q s.S []) fun D' _ _ H2 => SROpen_old D' w1 q m s p2 hs Z64 Z64 Z64 Z64 Z64 H2) ?_
       intro tb2
       refine zm rfl <| zx rfl rfl <| zx rfl rfl <| zs rfl <| zs rfl <| zn <| zg <| zm rfl <| zm rfl <| zv (ov_neq rfl rfl) <| zm rfl <| hl_partF (t := 152) rfl ((fun h => h rfl)) <| hl_on rfl rfl <| zm rfl <| hl_on rfl rfl <| zv (ov_eqlP rfl rfl) <| hl_on rfl rfl <| zm rfl <| hl_on rfl rfl <| zv (ov_eqlP rfl rfl) <| hl_on rfl rfl <| zv (ov_neqB rfl rfl) <| zv (ov_pickF rfl rfl) <| zn <| hc_cond_F rfl ((by simp)) ?_
       refine hc_skip <| zb <| ?_
       exact hx_cut hK2 ((s, sb, tb)) Z16 (Ent.pure_cons ⟨hs, is2, hp⟩ Z8)
      refine zg <| zm rfl <| zf rfl <| zl rfl rfl <| ?_
      rw [← hN]
      refine hl_c Tryz.call17 rfl rfl (fun w1 => zp (dsk g s.S []) fun D' _ _ H2 => SOpen_ports D' w1 g m s p2 hs Z64 Z64 Z64 H2) ?_
      refine zm rfl <| zx rfl rfl <| zx rfl rfl <| zs rfl <| zs rfl <| zn <| zg <| zm rfl <| zf rfl <| zl rfl rfl <| ?_
      refine hl_c Tryz.call18 rfl rfl (fun w1 => zp (rdsk q s.S []) fun D' _ _ H2 => SROpen_ports D' w1 q m s p2 hs Z64 Z64 Z64 H2) ?_
      refine zm rfl <| zx rfl rfl <| zx rfl rfl <| zs rfl <| zs rfl <| zn <| zg <| zm rfl <| zm rfl <| zv (ov_neq rfl rfl) <| zm rfl <| hl_partF (t := 152) rfl ((fun h => h rfl)) <| hl_on rfl rfl <| zm rfl <| hl_on rfl rfl <| zv (ov_eqlP rfl rfl) <| hl_on rfl rfl <| zm rfl <| hl_on rfl rfl <| zv (ov_eqlP rfl rfl) <| hl_on rfl rfl <| zv (ov_neqB rfl rfl) <| zv (ov_pickF rfl rfl) <| zn <| hc_cond_F rfl ((by simp)) ?_
      refine hc_skip <| zb <| ?_
      exact hx_cut hK2 ((s, sb, tb)) Z16 (Ent.pure_cons ⟨hs, is2, hp⟩ Z8)
     refine hc_skip <| zb <| ?_
     exact hx_cut hK2 ((s, sb, tb)) Z16 (Ent.pure_cons ⟨hs, is2, hp⟩ Z8)
    obtain ⟨s2, sb2, tb2⟩ := st
    refine HX.pure fun hI2 => ?_
    dsimp only at hI2 ⊢
    obtain ⟨k2, e2, p2⟩ := hI2
    have hl2 := k2.len
    refine zt <| hc_seq <| HC.ent (Ent.pick (A := rsto tb2 q m s2) (Ent.refl _)) ?_
    refine HC.exs ?_
    rintro ⟨jb, xq⟩
    refine HC.ent (l' := blk tb2 52 (rstoC jb q s2 xq) :: rjou jb q 32 m s2.ep (32 + s2.k) (s2.Ls.map edsB) :: (cfgR s2.c xq ++ [sto sb2 g m s2, dsk g s2.S [], rdsk q s2.S []])) (fun _ h => h) ?_
    refine hc_any [blk tb2 52 (rstoC jb q s2 xq)] mixed 22 rfl ?_
    refine ha_v 0 rfl (ov_move rfl) rfl <| ha_v 2 rfl (ov_move rfl) rfl <| ha_v 3 rfl (ov_nil rfl) rfl <| ha_v 4 rfl (ov_fieldA rfl) rfl <| ha_v 5 rfl (ov_loadGB (vs := cfgA s2.c xq) rfl rfl) rfl <| ha_one 1 Z61 <| ho_kx (σ := Three) rfl Tryz.call26 rfl (fun w1 => zpx (sto sb2 g m s2) fun D' _ _ H2 => SConfig_spec D' w1 sb2 g m s2 k2.okc H2) ?_
    intro q3
    refine ha_one 6 Z61 <| ho_kx (σ := BIff (s2.c = s2.c)) rfl Tryz.call27 rfl (fun w1 => zu fun D' _ hin _ => keepC_spec D' w1 s2.c s2.c _ _ _ _ _ _ (ConfOld.rows (q := q3) k2.okc hin) (ConfOld.rows (q := xq) k2.okc hin)) ?_
    intro g1
    try rw [List.nil_append]
    have hg1 : g1.1 = true := g1.2.2 rfl
    rw [hg1]
    refine ha_v 7 rfl Z26 rfl <| ?_
    refine ha_v 8 rfl (ov_move rfl) rfl <| ha_v 9 rfl (ov_move rfl) rfl <| ha_v 11 rfl (ov_move rfl) rfl <| ha_v 12 rfl (ov_nil rfl) rfl <| ha_v 13 rfl (ov_fieldA rfl) rfl <| ha_v 14 rfl (zw rfl rfl) rfl <| ha_one 10 Z61 <| ho_k rfl Tryz.call32 rfl (fun w1 => zp (sto sb2 g m s2) fun D' _ _ H2 => SEpoch_spec D' w1 sb2 g m s2 H2) ?_
    refine ha_v 15 rfl (ov_neq rfl rfl) rfl <| ha_v 16 rfl (ov_pickF rfl rfl) rfl <| ha_v 17 rfl (ov_move rfl) rfl <| ha_partF (t := 176) rfl ((fun h => h rfl)) <| ha_v 18 rfl (ov_move rfl) rfl <| ha_one 19 Z61 <| ho_k rfl Tryz.call34 rfl (fun w1 => zp (dsk g s2.S []) fun D' _ _ H2 => Pending_spec D' w1 g s2.S [] H2) ?_
    refine ha_v 20 rfl (ov_neq rfl rfl) rfl <| ha_v 21 rfl (ov_pickF rfl rfl) rfl <| ha_done Z61 <| zt <| ?_
    refine hc_cond_F rfl ((fun h => h rfl)) <| hc_skip <| zb <| zt <| hc_region <| zm rfl <| zv (ov_add rfl rfl Z28) <| ?_
    refine zs rfl <| hl_nil <| ?_
    exact hx_next hK1 ((i + 1, s2, sb2, tb2)) (⟨hlt, k2, by show s2.ep ≤ i + 1 + 1; omega, p2⟩) Z24 Z16 (Ent.trans (b := blk tb2 52 (rstoC jb q s2 xq) :: rjou jb q 32 m s2.ep (32 + s2.k) (s2.Ls.map edsB) :: (cfgR s2.c xq ++ [sto sb2 g m s2, dsk g s2.S [], rdsk q s2.S []])) Z8 (Ent.trans (rsto_mk jb xq) Z8))
   refine zo rfl rfl <| zo rfl rfl <| zv (ov_pickF rfl rfl) <| zn <| hc_cond_false rfl <| hc_exit <| ze <| ze <| hx_block_out <| zt <| hc_seq <| zg <| zs rfl <| zn <| hc_block <| HC.ent (l' := [dsk g s.S [], rdsk q s.S []]) Z8 ?_
   obtain ⟨S, hS⟩ : ∃ S, S = s.S := ⟨_, rfl⟩
   rw [← hS]
   refine hc_loops1 (σ := Nat) [7, 9, 13] rfl 25 (fun jj => .int .i64 (jj : Int)) (fun jj => jj ≤ S.length) (fun jj => S.length - jj) (0) (Nat.zero_le _) rfl ?_
   rintro jj hjj K3 hK3
   refine HC.ent (Ent.pick (A := rdsk q S []) (Ent.refl _)) ?_
   refine HC.exs ?_
   rintro ⟨⟨A0, c0⟩, A1, c1⟩
   refine HC.ent (l' := [dsk g S [], blk q 56 [.slice A0 S.length c0, .slice A1 0 c1], row A0 61 64 S.length c0 (S.flatMap secC), row A1 63 65 0 c1 []]) (show Ent [blk q 56 [.slice A0 S.length c0, .slice A1 0 c1], row A0 61 64 S.length c0 (S.flatMap secC), row A1 63 65 0 c1 [], dsk g S []] _ from Z8) ?_
   refine HC.fact (fun w H => dsk_facts (A := A0) H) (fun hf0 => ?_)
   refine hc_seq <| zg <| zm rfl <| zv (ov_neqP rfl rfl) <| zm rfl <| hl_on rfl rfl <| zm rfl <| hl_on rfl rfl <| zm rfl <| hl_on rfl rfl <| zv (ov_nil rfl) <| hl_on rfl rfl <| zf rfl <| hl_on rfl rfl <| zl rfl rfl <| hl_on rfl rfl <| zv Z25 <| ?_
   refine hl_on rfl rfl <| zv (ov_lss rfl rfl) <| zv (ov_pickT rfl rfl) <| zn <| hc_cond rfl (fun hj1 => ?_) (fun hj1 => ?_)
   ·have hj1 : jj < S.length := by omega
    have hA0 : isA A0 := hf0.2 (flat_ne secC_len Z63 Z64)
    refine zk <| hc_seq <| hc_block <| zg <| zm rfl <| zm rfl <| hl_c Tryz.call35 rfl rfl (fun w1 => zp (dsk g S []) fun D' _ _ H2 => (Read_ok D' w1 g jj S [] hj1 H2).mono fun e w' ⟨he, H'⟩ => ⟨show e = Ending.returned (.tuple #[.agg (secC S[jj]).toArray, .int .i64 0]) by rw [he]; rfl, H'⟩) ?_
    refine zm rfl <| zx rfl rfl <| zx rfl rfl <| hl_new (on_alloc) rfl rfl rfl fun b26 =>  ?_
    refine hl_u0 (on_storeW (vs := secC S[jj]) rfl rfl Z56 Z56 (secC_one _)) rfl rfl ?_
    refine zs rfl <| zn <| hc_seq <| hc_quiet mixed Z61 <| hq_v (ov_move rfl) rfl <| ?_
    refine hq_v (ov_neq rfl rfl) rfl <| hq_v (ov_move rfl) rfl <| ?_
    refine hq_partF (t := 202) rfl ((fun h => h rfl)) ?_
    refine hq_on rfl rfl <| hq_v (ov_loadW rfl (secC_len S[jj])) rfl ?_
    refine hq_on rfl rfl <| hq_v (ov_move rfl) rfl <| hq_on rfl rfl <| hq_v (ov_nil rfl) rfl <| hq_on rfl rfl <| hq_v (ov_fieldA rfl) rfl <| hq_on rfl rfl <| hq_v (zw rfl rfl) rfl <| hq_on rfl rfl <| hq_v (ov_move rfl) rfl <| ?_
    refine hq_on rfl rfl <| hq_v (ov_idxS rfl hA0 rfl jj rfl hj1) rfl ?_
    refine hq_on rfl rfl <| hq_v (ov_loadG (cs := secC S[jj]) rfl (secC_len _) (CellsAre.flat (f := secC) (A := A0) secC_len hA0 (i := jj) hj1)) rfl ?_
    refine hq_on rfl rfl <| hq_v (ov_neqSec (s := S[jj]) (t := S[jj]) rfl rfl) rfl ?_
    refine hq_v (ov_pickF rfl rfl) rfl <| hq_nil <| zt <| ?_
    refine hc_cond_F rfl ((fun h => h rfl)) <| hc_skip <| zb <| zt <| hc_region <| zm rfl <| zv (ov_add rfl rfl Z28) <| ?_
    refine zs rfl <| hl_nil <| ?_
    exact hx_next hK3 (jj + 1) (hj1) Z64 Z16 (Ent.trans (b := [dsk g S [], blk q 56 [.slice A0 S.length c0, .slice A1 0 c1], row A0 61 64 S.length c0 (S.flatMap secC), row A1 63 65 0 c1 []]) Z8 (Ent.cons (dsk_mk (P := []))))
   refine HC.ent (l' := []) (Ent.nil _) ?_
   refine hc_exit <| ze <| ze <| hx_block_out <| zt <| hc_seq <| hc_region <| hl_c Tryz.call13 rfl rfl (fun w1 => zun fun D' _ _ _ => wakes8_spec D' w1) ?_
   refine zs rfl <| zn <| zq <| ?_
   exact zz rfl rfl fun w' H' => ⟨rfl, H'.ent (Ent.nil _)⟩
  have hbad : S0.length < 40 ∨ ports < 1 ∨ 8 < ports := by omega
  refine zm rfl <| zx rfl rfl <| zx rfl rfl <| zs rfl <| zs rfl <| zn <| zg <| zm rfl <| zm rfl <| hl_c Tryz.call17 rfl rfl (fun w1 => zp (dsk g S0 []) fun D' _ _ H2 => SOpen_no D' w1 g S0 ports hbad H2) ?_
  refine zm rfl <| zx rfl rfl <| zx rfl rfl <| zs rfl <| zs rfl <| zn <| zg <| zm rfl <| zm rfl <| hl_c Tryz.call18 rfl rfl (fun w1 => zp (rdsk q S0 []) fun D' _ _ H2 => SROpen_no D' w1 q S0 ports hbad H2) ?_
  refine zm rfl <| zx rfl rfl <| zx rfl rfl <| zs rfl <| zs rfl <| zn <| hc_seq <| zg <| zm rfl <| zm rfl <| zv (ov_neq rfl rfl) <| zm rfl <| hl_partF (t := 61) rfl ((fun h => h rfl)) <| hl_on rfl rfl <| zm rfl <| hl_on rfl rfl <| zv (ov_eqlP rfl rfl) <| hl_on rfl rfl <| zm rfl <| hl_on rfl rfl <| zv (ov_eqlP rfl rfl) <| hl_on rfl rfl <| zv (ov_neqB rfl rfl) <| zv (ov_pickF rfl rfl) <| zn <| hc_cond_F rfl ((by simp)) ?_
  refine HC.ent (l' := []) (Ent.nil _) ?_
  refine zk <| hc_seq <| zg <| zs rfl <| zn <| hc_block <| hc_loops2 (σ := Nat) [1, 2, 7, 9] rfl 15 (fun s => .int .i64 s) 13 (fun s => .pointer none) (fun s => s = 0) (fun s => 0) (0) (rfl) rfl rfl ?_
  rintro s hj K4 hK4
  refine hc_seq <| zg <| zm rfl <| zm rfl <| zv Z25 <| ?_
  refine zv (ov_lss rfl rfl) <| zm rfl <| ?_
  subst hj
  refine hl_part (t := 72) rfl (fun hp => ?_) (fun hp => ?_)
  ·refine hl_on rfl rfl <| zm rfl <| hl_on rfl rfl <| zv (ov_neqP rfl rfl) <| zv (ov_pickT rfl rfl) <| zn <| hc_cond_false rfl <| hc_exit <| ze <| ze <| hx_block_out <| zt <| hc_seq <| zg <| zs rfl <| zn <| hc_block <| hc_loops1 (σ := Nat) [7, 9, 13] rfl 25 (fun s => .int .i64 0) (fun s => s = 0) (fun s => 0) (0) (rfl) rfl ?_
   rintro s hj K5 hK5
   refine hc_seq <| zg <| zm rfl <| zv (ov_neqP rfl rfl) <| zm rfl <| zo rfl rfl <| zo rfl rfl <| zo rfl rfl <| zo rfl rfl <| zo rfl rfl <| zo rfl rfl <| zo rfl rfl <| zv (ov_pickF rfl rfl) <| zn <| hc_cond_false rfl <| hc_exit <| ze <| ze <| hx_block_out <| zt <| zg <| hl_c Tryz.call13 rfl rfl (fun w1 => zun fun D' _ _ _ => wakes8_spec D' w1) ?_
   refine zs rfl <| zn <| zq <| ?_
   exact zz rfl rfl fun w' H' => ⟨rfl, H'.ent (Ent.nil _)⟩
  refine zo rfl rfl <| zo rfl rfl <| zv (ov_pickF rfl rfl) <| zn <| hc_cond_false rfl <| hc_exit <| ze <| ze <| hx_block_out <| zt <| hc_seq <| zg <| zs rfl <| zn <| hc_block <| hc_loops1 (σ := Nat) [7, 9, 13] rfl 25 (fun s => .int .i64 0) (fun s => s = 0) (fun s => 0) (0) (rfl) rfl ?_
  rintro s hj K6 hK6
  refine hc_seq <| zg <| zm rfl <| zv (ov_neqP rfl rfl) <| zm rfl <| zo rfl rfl <| zo rfl rfl <| zo rfl rfl <| zo rfl rfl <| zo rfl rfl <| zo rfl rfl <| zo rfl rfl <| zv (ov_pickF rfl rfl) <| zn <| hc_cond_false rfl <| hc_exit <| ze <| ze <| hx_block_out <| zt <| zg <| hl_c Tryz.call13 rfl rfl (fun w1 => zun fun D' _ _ _ => wakes8_spec D' w1) ?_
  refine zs rfl <| zn <| zq <| ?_
  exact zz rfl rfl fun w' H' => ⟨rfl, H'.ent (Ent.nil _)⟩
 refine zk <| zg <| zm rfl <| hl_c Tryz.call15 rfl rfl (fun w1 => zun fun D' _ _ _ => New_no D' w1 n Z64) ?_
 refine zm rfl <| zx rfl rfl <| zx rfl rfl <| zs rfl <| zs rfl <| zn <| zg <| zm rfl <| hl_c Tryz.call16 rfl rfl (fun w1 => zun fun D' _ _ _ => RNew_no D' w1 n Z64) ?_
 refine zm rfl <| zx rfl rfl <| zx rfl rfl <| zs rfl <| zs rfl <| zn <| zg <| zm rfl <| zm rfl <| hl_c Tryz.call17 rfl rfl (fun w1 => zun fun D' _ _ _ => SOpen_nil D' w1 ports) ?_
 refine zm rfl <| zx rfl rfl <| zx rfl rfl <| zs rfl <| zs rfl <| zn <| zg <| zm rfl <| zm rfl <| hl_c Tryz.call18 rfl rfl (fun w1 => zun fun D' _ _ _ => SROpen_nil D' w1 ports) ?_
 refine zm rfl <| zx rfl rfl <| zx rfl rfl <| zs rfl <| zs rfl <| zn <| hc_seq <| zg <| zm rfl <| zm rfl <| zv (ov_neq rfl rfl) <| zm rfl <| hl_partF (t := 61) rfl ((fun h => h rfl)) <| hl_on rfl rfl <| zm rfl <| hl_on rfl rfl <| zv (ov_eqlP rfl rfl) <| hl_on rfl rfl <| zm rfl <| hl_on rfl rfl <| zv (ov_eqlP rfl rfl) <| hl_on rfl rfl <| zv (ov_neqB rfl rfl) <| zv (ov_pickF rfl rfl) <| zn <| hc_cond_F rfl ((by simp)) ?_
 refine HC.ent (l' := []) (Ent.nil _) ?_
 refine zk <| hc_seq <| zg <| zs rfl <| zn <| hc_block <| hc_loops2 (σ := Nat) [1, 2, 7, 9] rfl 15 (fun s => .int .i64 s) 13 (fun s => .pointer none) (fun s => s = 0) (fun s => 0) (0) (rfl) rfl rfl ?_
 rintro s hj K7 hK7
 refine hc_seq <| zg <| zm rfl <| zm rfl <| zv Z25 <| ?_
 refine zv (ov_lss rfl rfl) <| zm rfl <| ?_
 subst hj
 refine hl_part (t := 72) rfl (fun hp => ?_) (fun hp => ?_)
 ·refine hl_on rfl rfl <| zm rfl <| hl_on rfl rfl <| zv (ov_neqP rfl rfl) <| zv (ov_pickT rfl rfl) <| zn <| hc_cond_false rfl <| hc_exit <| ze <| ze <| hx_block_out <| zt <| hc_seq <| zg <| zs rfl <| zn <| hc_block <| hc_loops1 (σ := Nat) [7, 9, 13] rfl 25 (fun s => .int .i64 0) (fun s => s = 0) (fun s => 0) (0) (rfl) rfl ?_
  rintro s hj K8 hK8
  refine hc_seq <| zg <| zm rfl <| zv (ov_neqP rfl rfl) <| zm rfl <| zo rfl rfl <| zo rfl rfl <| zo rfl rfl <| zo rfl rfl <| zo rfl rfl <| zo rfl rfl <| zo rfl rfl <| zv (ov_pickF rfl rfl) <| zn <| hc_cond_false rfl <| hc_exit <| ze <| ze <| hx_block_out <| zt <| zg <| hl_c Tryz.call13 rfl rfl (fun w1 => zun fun D' _ _ _ => wakes8_spec D' w1) ?_
  refine zs rfl <| zn <| zq <| ?_
  exact zz rfl rfl fun w' H' => ⟨rfl, H'.ent (Ent.nil _)⟩
 refine zo rfl rfl <| zo rfl rfl <| zv (ov_pickF rfl rfl) <| zn <| hc_cond_false rfl <| hc_exit <| ze <| ze <| hx_block_out <| zt <| hc_seq <| zg <| zs rfl <| zn <| hc_block <| hc_loops1 (σ := Nat) [7, 9, 13] rfl 25 (fun s => .int .i64 0) (fun s => s = 0) (fun s => 0) (0) (rfl) rfl ?_
 rintro s hj K9 hK9
 refine hc_seq <| zg <| zm rfl <| zv (ov_neqP rfl rfl) <| zm rfl <| zo rfl rfl <| zo rfl rfl <| zo rfl rfl <| zo rfl rfl <| zo rfl rfl <| zo rfl rfl <| zo rfl rfl <| zv (ov_pickF rfl rfl) <| zn <| hc_cond_false rfl <| hc_exit <| ze <| ze <| hx_block_out <| zt <| zg <| hl_c Tryz.call13 rfl rfl (fun w1 => zun fun D' _ _ _ => wakes8_spec D' w1) ?_
 refine zs rfl <| zn <| zq <| ?_
 exact zz rfl rfl fun w' H' => ⟨rfl, H'.ent (Ent.nil _)⟩
end Go.Proofs.YtjlolpmmpafjeaaGreat
/- PROVED: the given statement StorePlays: for every input the law returns true, and each argument reads behind the call as it read before; no condition. -/
namespace Go.Proofs.YtjlolpmmpafjeaaGreat.storePlays
open Go.ChangeShapes Go.WideShapes Go.ChangeAt Go.RowKit
open Slk
theorem own : ownKnob Tryz.prog.godebug = none := by kernel_rfl
theorem laidOut : laidOutB Tryz.prog = true := by kernel_rfl
set_option maxRecDepth 100000 in
theorem lifted (os : Os) (started : os.Started) (H : Type) (enc : TypeId × Value → H) :
  ReturnsInHanded {} Tryz.checked os 7 .any (Rows.storePlaysSpec.pre6 enc Tryz.prog Tryz.f7 Rows.storePlaysRow.domain false) (Rows.storePlaysSpec.post enc Tryz.prog Tryz.f7 false true false false) := by
 refine returnsInHanded_of_change (C := Tryz.checked) own started Z61 Tryz.func7
  (ChangeSpec.witness6 (enc := enc) (C := Tryz.checked) false ⟨#[], #[.int .i64 0, .int .i64 0, .slice none 0 0], []⟩ 8 Z61 Z61 Z61 Z61) ?_
 intro W base args ds gs before hval0 hW hcnd _
 have hval : ∀ (j : Nat) t v, Tryz.f7.params[j]? = some t → args[j]? = some v → Value.okWide Tryz.prog W .any base t v := hval0
 have hW' := hW
 obtain ⟨p, q, hA0, hV, rfl, hfz, hnd⟩ := hW
 have hA : DataW.TrodAll enc Tryz.prog W 0 (fun _ => true) true Tryz.f7.params.toList args.toList ds p := hA0
 rw [Tryz.params7] at hA hval
 obtain ⟨v0, vs0, d0, ds0, p0, q0, hargs, rfl, rfl, h0, r0⟩ := trodAll_cons hA
 obtain ⟨v1, vs1, d1, ds1, p1, q1, rfl, rfl, rfl, h1, r1⟩ := trodAll_cons r0
 obtain ⟨v2, vs2, d2, ds2, p2, q2, rfl, rfl, rfl, h2, r2⟩ := trodAll_cons r1
 obtain ⟨rfl, rfl, rfl⟩ := trodAll_nil r2
 obtain rfl : args = #[v0, v1, v2] := by cases args; simp_all
 obtain ⟨rfl, rfl⟩ := trodVars_none hV
 have k0 := h0
 have lt0 : ∀ x ∈ p0, x.block < W.heap.size := by obtain ⟨m, hm⟩ := k0; exact DataW.trod_lt m _ _ _ hm
 have e0 := cells_one (hval 0 3 v0 rfl rfl)
 obtain ⟨x0, y0⟩ := arg_rep (α := Int) h0
 rw [e0] at y0
 have k1 := h1
 have lt1 : ∀ x ∈ p1, x.block < W.heap.size := by obtain ⟨m, hm⟩ := k1; exact DataW.trod_lt m _ _ _ hm
 have e1 := cells_one (hval 1 3 v1 rfl rfl)
 obtain ⟨x1, y1⟩ := arg_rep (α := Int) h1
 rw [e1] at y1
 have k2 := h2
 have lt2 : ∀ x ∈ p2, x.block < W.heap.size := by obtain ⟨m, hm⟩ := k2; exact DataW.trod_lt m _ _ _ hm
 have e2 := cells_one (hval 2 69 v2 rfl rfl)
 obtain ⟨x2, y2⟩ := arg_rep (α := List SStep) h2
 rw [e2] at y2
 clear hA0 hval0
 refine (StorePlays_walk W v0 v1 v2 x0 x1 x2 y0 y1 y2).mono fun e W' ⟨he, hO⟩ => ?_
 have bel := hO.below
 subst he
 exact ⟨_, rfl, _, _, _, [], _, [], hW', trodAll_mk1 (shut_bool Tryz.underlying4 _), (trodAll_cons_mk (Below.trod laidOut Z61 (of_decide_eq_true Z61) k0 bel lt0) (trodAll_cons_mk (Below.trod laidOut Z61 (of_decide_eq_true Z61) k1 bel lt1) (trodAll_cons_mk (Below.trod laidOut Z61 (of_decide_eq_true Z61) k2 bel lt2) trodAll_mk0))), rfl, bel.frame _, fun h => by cases h⟩
theorem over : Rows.storePlaysRow.holds Tryz.pinned (OpenSpec.ofChange Rows.storePlaysSpec) :=
 OpenClaim.holds_of_wide 7 Tryz.f7 rfl rfl rfl rfl rfl rfl rfl ⟨rfl, rfl, rfl, rfl, rfl⟩ rfl rfl rfl rfl rfl Z61 Tryz.func7 Z61
  (of_decide_eq_true Z61) (by unfold Func.isWrapper; first | (rw [if_pos (by decide +kernel)]; kernel_rfl) | (rw [if_neg (by decide +kernel)]; exact ⟨rfl, rfl⟩))
  (fun os started H enc _ => lifted os started H enc)
theorem proved : Rows.StorePlaysSaid := over
#print axioms proved
end Go.Proofs.YtjlolpmmpafjeaaGreat.storePlays
