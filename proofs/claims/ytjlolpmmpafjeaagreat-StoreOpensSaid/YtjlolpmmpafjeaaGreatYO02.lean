import Derived.Test.YtjlolpmmpafjeaaGreatZ01
import Derived.Test.YtjlolpmmpafjeaaGreatZ02
import Derived.Test.YtjlolpmmpafjeaaGreatZ03
import Derived.Test.YtjlolpmmpafjeaaGreatZ04
import Derived.Test.YtjlolpmmpafjeaaGreatZ05
import Derived.Test.YtjlolpmmpafjeaaGreatZ06
import Derived.Test.YtjlolpmmpafjeaaGreatZ07
import Derived.Test.YtjlolpmmpafjeaaGreatZ08
import Derived.Test.YtjlolpmmpafjeaaGreatZ09
import Derived.Test.YtjlolpmmpafjeaaGreatZ10
import Derived.Test.YtjlolpmmpafjeaaGreatZ11
import Derived.Test.YtjlolpmmpafjeaaGreatZ12
import Derived.Test.YtjlolpmmpafjeaaGreatZ13
import Derived.Test.YtjlolpmmpafjeaaGreatZ14
import Derived.Test.YtjlolpmmpafjeaaGreatZ15
import Derived.Test.YtjlolpmmpafjeaaGreatZ16
import Derived.Test.YtjlolpmmpafjeaaGreatZ17
import Derived.Test.YtjlolpmmpafjeaaGreatZ18
import Derived.Test.YtjlolpmmpafjeaaGreatZ19
import Derived.Test.YtjlolpmmpafjeaaGreatZ20
import Derived.Test.YtjlolpmmpafjeaaGreatZ21
import Derived.Test.YtjlolpmmpafjeaaGreatZ22
import Derived.Test.YtjlolpmmpafjeaaGreatZ23
import Derived.Test.YtjlolpmmpafjeaaGreatZ24
import Derived.Test.YtjlolpmmpafjeaaGreatYO01
import Derived.WalkKit
import Derived.ProofKit
import Derived.OpenShut
import Derived.ShutString
import Derived.ChangeOld
import Derived.Below
import Derived.Test.YtjlolpmmpafjeaaGreatRows
set_option linter.unusedVariables false
set_option linter.unusedSimpArgs false
namespace Go.Proofs.YtjlolpmmpafjeaaGreat
open Slk
theorem Read_at (D : Nat → Prop) (w : World) (g i : Nat) (S : List Sec) (s : Sec) (hs : S[i]? = some s) (H : Own D w w [dsk g S []]) :
    Calls Tryz.prog 35 #[.pointer (some ⟨g, 0, none⟩), .int .i64 (i : Int)] w fun e w' => e = .returned (.tuple #[.agg (secC s).toArray, .int .i64 0]) ∧ Own D w w' [dsk g S []] := by
  obtain ⟨hi, rfl⟩ := List.getElem?_eq_some_iff.1 hs
  exact Read_ok D w g i S [] hi H
theorem edits_open {D : Nat → Prop} {w0 : World} {l : List EditC} {cs : List Value} (k : Old D w0 (Rep.rep l cs)) : ∃ B cap, cs = [.slice B l.length cap] ∧ Old D w0 (Rep.rep l [.slice B l.length cap]) := by
  obtain ⟨h, hh, A, cap, rfl, hr⟩ := k
  exact ⟨A, cap, rfl, h, hh, A, cap, rfl, hr⟩
set_option maxHeartbeats 2000000 in
theorem StoreOpens_walk (W : World) (v0 : Value) (l : List (List EditC)) (h0 : Old none' W (Rep.rep l [v0])) :
    Calls Tryz.prog 8 #[v0] W fun e w' => e = .returned (.bool true) ∧ Own none' W w' [] := by
  obtain ⟨A, cap, rfl, hc1, hc2, hel⟩ := h0.openX (by decide)
  obtain ⟨S0, hS0⟩ : ∃ S, S = List.replicate 52 zeroSec := ⟨_, rfl⟩
  obtain ⟨s1, hs1⟩ : ∃ s, s = firstSt 52 3 := ⟨_, rfl⟩
  have k1 : SI 52 s1 := by rw [hs1]; exact firstSt_ok (by decide) (by decide) (by decide)
  have e1 : s1.ep = 1 := by rw [hs1]; rfl
  have c1 : s1.c.2.2.2.1.length = 3 := by rw [hs1]; rfl
  refine hc_enter (vs := [.slice A l.length cap]) Tryz.func8 rfl _ Tryz.ntmps8 rfl (Own.start none' W) ?_
  simp only [argSlots, Nat.zero_add]
  refine hc_seq <| hc_region <| hl_v (ov_assign rfl) rfl <| hl_nil <| hx_then_normal <| hc_seq <| ?_
  refine hc_seq <| hc_region <| hl_v (ov_move rfl) rfl <| hl_v (by first | exact ov_len rfl | exact ov_lenS rfl) rfl <| ?_
  refine hl_v (ov_gtr rfl rfl) rfl <| hl_nil <| hx_then_normal <| ?_
  refine hc_cond rfl (fun hbig => ?_) (fun hbig => ?_)
  · refine hc_seq <| hc_region <| ?_
    refine hl_c Tryz.call13 rfl rfl (fun w1 H1 => Own.calln H1 fun D' hold hin H2 => wakes8_spec D' w1) ?_
    refine hl_v (ov_assign rfl) rfl <| hl_nil <| hx_then_normal <| hc_ret <| hx_then_ret <| ?_
    exact results_1 (.inr rfl) rfl rfl fun w' H' => ⟨rfl, H'.ent (Ent.nil _)⟩
  have hll : l.length ≤ 12 := by omega
  refine hc_skip <| hx_then_normal <| hc_seq <| hc_region <| ?_
  refine hl_call (σ := Nat) Tryz.call15 rfl rfl (fun w1 H1 => Own.callx0 H1 fun D' hold hin H2 => (New_ok D' w1 52 (by decide) (by decide)).mono fun e w' ⟨g, he, H'⟩ => ⟨g, he, show Own D' w1 w' [dsk g S0 []] by rw [hS0]; exact H'⟩) ?_
  intro g
  try rw [List.nil_append]
  refine hl_v (ov_move rfl) rfl <| hl_v (ov_extract rfl rfl) rfl <| hl_v (ov_extract rfl rfl) rfl <| hl_v (ov_assign rfl) rfl <| hl_v (ov_assign rfl) rfl <| hl_nil <| ?_
  refine hx_then_normal <| hc_seq <| hc_region <| hl_v (ov_move rfl) rfl <| ?_
  refine hl_call (σ := Nat) Tryz.call17 rfl rfl (fun w1 H1 => Own.callpx (dsk g S0 []) H1 fun D' hold hin H2 => (SOpen_new D' w1 g 52 3 (by decide) (by decide) (by decide) (by decide) S0 hS0 H2).mono fun e w' ⟨sb, he, H'⟩ => ⟨sb, he, show Own D' w1 w' [sto sb g 52 s1, dsk g s1.S []] by rw [hs1]; exact H'⟩) ?_
  intro sb
  refine hl_v (ov_move rfl) rfl <| hl_v (ov_extract rfl rfl) rfl <| hl_v (ov_extract rfl rfl) rfl <| hl_v (ov_assign rfl) rfl <| hl_v (ov_assign rfl) rfl <| hl_nil <| ?_
  refine hx_then_normal <| hc_seq <| hc_seq <| hc_region <| hl_v (ov_move rfl) rfl <| hl_v (ov_neq rfl rfl) rfl <| ?_
  refine hl_v (ov_move rfl) rfl <| ?_
  refine hl_partF (t := 35) rfl ((fun h => h rfl)) ?_
  refine hl_on rfl rfl <| hl_v (ov_move rfl) rfl <| hl_on rfl rfl <| hl_v (ov_neq rfl rfl) rfl <| hl_v (ov_pickF rfl rfl) rfl <| hl_v (ov_move rfl) rfl <| ?_
  refine hl_partF (t := 39) rfl ((fun h => h rfl)) ?_
  refine hl_on rfl rfl <| hl_v (ov_move rfl) rfl <| hl_on rfl rfl <| hl_v (ov_eqlP rfl rfl) rfl <| hl_v (ov_pickF rfl rfl) rfl <| hl_nil <| hx_then_normal <| ?_
  refine hc_cond_false rfl ?_
  refine hc_skip <| hx_then_normal <| hc_seq <| hc_seq <| hc_region <| hl_v (ov_assign rfl) rfl <| ?_
  refine hl_nil <| hx_then_normal <| hc_block <| ?_
  refine hc_loopK1 (σ := Nat × SSt) [0, 3, 5] rfl 7 (fun s => .int .i64 (s.1 : Int)) (fun s => [sto sb g 52 s.2, dsk g s.2.S []]) (fun s => s.1 ≤ l.length ∧ SI 52 s.2 ∧ s.2.ep ≤ s.1 + 1 ∧ s.2.c.2.2.2.1.length = 3) (fun s => l.length - s.1) ((0, s1)) (⟨Nat.zero_le _, k1, by show s1.ep ≤ 1; omega, c1⟩) rfl (by first | assumption | exact Ent.refl _ | exact Ent.nil _ | (repeat (first | exact Ent.refl _ | exact Ent.nil _ | refine Ent.pick ?_))) ?_
  rintro ⟨i, s⟩ hj_ K1 hK1
  dsimp only at hj_ ⊢
  obtain ⟨hi, hs, he, hc⟩ := hj_
  refine hc_seq <| hc_seq <| hc_region <| hl_v (ov_move rfl) rfl <| hl_v (ov_move rfl) rfl <| hl_v (by first | exact ov_len rfl | exact ov_lenS rfl) rfl <| ?_
  refine hl_v (ov_lss rfl rfl) rfl <| hl_nil <| hx_then_normal <| ?_
  refine hc_cond rfl (fun hlt => ?_) (fun hlt => ?_)
  · have hlt : i < l.length := by omega
    obtain ⟨hA, cs, hx, hcs⟩ := hel i hlt
    obtain ⟨B, capB, rfl, hx⟩ := edits_open hx
    obtain ⟨_, _, _, _, _, _, hfl⟩ := hx.openF
    have hcl : ∀ l', CellIs none' W l' (ab A) (ao A + i * 1) (.slice B l[i].length capB) := fun l' => hcs 0 _ rfl l'
    obtain ⟨le, hle⟩ : ∃ le, le = l[i] := ⟨_, rfl⟩
    rw [← hle] at hcl hx hfl
    refine hc_skip <| hx_then_normal <| hc_seq <| hc_block <| hc_seq <| hc_seq <| ?_
    refine hc_region <| hl_v (ov_move rfl) rfl <| hl_v (ov_move rfl) rfl <| ?_
    refine hl_v (ov_idxS rfl hA rfl i rfl hlt) rfl ?_
    refine hl_v (ov_load rfl (hcl _)) rfl ?_
    refine hl_v (by first | exact ov_len rfl | exact ov_lenS rfl) rfl <| ?_
    refine hl_v (ov_gtr rfl rfl) rfl <| hl_nil <| hx_then_normal <| ?_
    refine hc_cond rfl (fun hmany => ?_) (fun hmany => ?_)
    · refine hc_seq <| hc_region <| ?_
      refine hl_c Tryz.call13 rfl rfl (fun w1 H1 => Own.calln H1 fun D' hold hin H2 => wakes8_spec D' w1) ?_
      refine hl_v (ov_assign rfl) rfl <| hl_nil <| hx_then_normal <| hc_ret <| hx_then_ret <| hx_block_ret <| ?_
      refine hx_then_ret <| hx_then_ret <| hx_block_ret <| hx_then_ret <| ?_
      exact results_1 (.inr rfl) rfl rfl fun w' H' => ⟨rfl, H'.ent (Ent.nil _)⟩
    obtain ⟨s', hs'⟩ : ∃ s', s' = (commR 52 s le).2 := ⟨_, rfl⟩
    have hr := commR_ok hs hfl (by omega)
    have hpl := commR_ports hs hfl (by omega)
    rw [← hs'] at hr hpl
    refine hc_skip <| hx_then_normal <| hc_region <| hl_v (ov_move rfl) rfl <| hl_v (ov_move rfl) rfl <| hl_v (ov_move rfl) rfl <| ?_
    refine hl_v (ov_idxS rfl (by assumption) rfl _ rfl (by omega)) rfl <| hl_v (by first | exact ov_load rfl (by assumption) | exact ov_load rfl (hcl _) | exact ov_load rfl (hcl2 _) | exact ov_load rfl (hcl3 _) | exact ov_load rfl (CellIs.blk rfl)) rfl <| ?_
    refine hl_c Tryz.call19 rfl rfl (fun w1 H1 => Own.callp2 (sto sb g 52 s) (dsk g s.S []) H1 fun D' hold hin H2 => (Commit_spec D' w1 sb g 52 s _ le hs (by decide) (by omega) (by omega) (hold _ hx) H2).mono fun e w' ⟨he, H'⟩ => ⟨he, show Own D' w1 w' [sto sb g 52 s', dsk g s'.S []] by rw [hs']; exact H'⟩) ?_
    refine hl_nil <| hx_block_normal <| hx_then_normal <| hc_region <| hl_v (ov_move rfl) rfl <| hl_v (ov_add rfl rfl (by first | exact wrap_i64 (by omega) | rfl)) rfl <| ?_
    refine hl_v (ov_assign rfl) rfl <| hl_nil <| ?_
    refine hx_next hK1 ((i + 1, s')) (⟨hlt, hr.1, by have := hr.2.2.1; show s'.ep ≤ i + 1 + 1; omega, hpl.trans hc⟩) (by show l.length - (i + 1) < l.length - i; omega) (by repeat (first | exact Slots.sub_nil _ | refine Slots.sub_cons rfl ?_)) (by first | assumption | exact Ent.refl _ | exact Ent.nil _ | (repeat (first | exact Ent.refl _ | exact Ent.nil _ | refine Ent.pick ?_)))
  have hlen := hs.len
  have hpt := hs.ports
  refine hc_exit <| hx_then_exit <| hx_then_exit <| hx_block_out <| hx_then_normal <| hc_seq <| ?_
  refine hc_region <| hl_v (ov_assign rfl) rfl <| hl_nil <| hx_then_normal <| hc_seq <| hc_seq <| ?_
  refine hc_region <| hl_v (ov_assign rfl) rfl <| hl_nil <| hx_then_normal <| hc_block <| ?_
  refine hc_loopK2 (σ := Nat × Option Addr × Nat) [3, 5] rfl 9 (fun x => .int .i64 (x.1 : Int)) 8 (fun x => .slice x.2.1 x.1 x.2.2) (fun x => [sto sb g 52 s, dsk g s.S [], row x.2.1 61 64 x.1 x.2.2 ((s.S.take x.1).flatMap secC)]) (fun x => x.1 ≤ 52) (fun x => 52 - x.1) ((0, none, 0)) (Nat.zero_le _) rfl rfl (Ent.trans (b := [sto sb g 52 s, dsk g s.S [], row none 61 64 0 0 []]) (Ent.trans (Ent.nil_row 61 64) (by first | assumption | exact Ent.refl _ | exact Ent.nil _ | exact Ent.row_any (Ent.refl _) | (repeat (first | exact Ent.refl _ | exact Ent.nil _ | refine Ent.pick ?_)))) (Ent.refl _)) ?_
  rintro ⟨j, Aw, cw⟩ hj K2 hK2
  dsimp only at hj ⊢
  refine hc_seq <| hc_seq <| hc_region <| hl_v (ov_move rfl) rfl <| hl_v (ov_lss rfl rfl) rfl <| hl_nil <| ?_
  refine hx_then_normal <| ?_
  refine hc_cond rfl (fun hj2 => ?_) (fun hj2 => ?_)
  · have hj2 : j < 52 := by omega
    obtain ⟨x, hx⟩ : ∃ x, s.S[j]? = some x := ⟨_, List.getElem?_eq_getElem (by omega)⟩
    have hsn : (s.S.take (j + 1)).flatMap secC = (s.S.take j).flatMap secC ++ secC x := by
      obtain ⟨hjl, hjx⟩ := List.getElem?_eq_some_iff.1 hx
      rw [List.take_succ_eq_append_getElem hjl, List.flatMap_append, hjx]; simp
    refine hc_skip <| hx_then_normal <| hc_seq <| hc_block <| hc_seq <| hc_region <| ?_
    refine hl_v (ov_move rfl) rfl <| hl_v (ov_move rfl) rfl <| ?_
    refine hl_c Tryz.call35 rfl rfl (fun w1 H1 => Own.callp (dsk g s.S []) H1 fun D' hold hin H2 => Read_at D' w1 g j s.S x hx H2) ?_
    refine hl_v (ov_move rfl) rfl <| hl_v (ov_extract rfl rfl) rfl <| hl_v (ov_extract rfl rfl) rfl <| hl_new (on_alloc) rfl rfl rfl fun b10 =>  ?_
    refine hl_u0 (on_storeW (vs := secC x) rfl rfl (by simp [secC_len]) (by simp [secC_len]) (secC_one _)) rfl rfl ?_
    refine hl_v (ov_assign rfl) rfl <| hl_nil <| hx_then_normal <| hc_seq <| hc_seq <| hc_region <| ?_
    refine hl_v (ov_move rfl) rfl <| hl_v (ov_neq rfl rfl) rfl <| hl_nil <| hx_then_normal <| ?_
    refine hc_cond_F rfl ((fun h => h rfl)) ?_
    refine hc_skip <| hx_then_normal <| hc_region <| hl_v (ov_move rfl) rfl <| ?_
    refine hl_v (ov_loadW rfl (secC_len x)) rfl ?_
    refine hl_new (on_buildSlice (res := secC x) rfl rfl (fill_sec1 _)) rfl rfl rfl (fun b76 => ?_)
    refine hl_new (on_appendR (A := Aw) (news := secC x) rfl rfl (SrcIs.blk (b := b76)) (by rw [secC_len]) (secC_one _) (by decide) (by omega)) rfl rfl rfl (fun q2 => ?_)
    rw [← hsn]
    refine hl_v (ov_assign rfl) rfl <| hl_nil <| hx_block_normal <| hx_then_normal <| hc_region <| hl_v (ov_move rfl) rfl <| ?_
    refine hl_v (ov_add rfl rfl (by first | exact wrap_i64 (by omega) | rfl)) rfl <| ?_
    refine hl_v (ov_assign rfl) rfl <| hl_nil <| ?_
    refine hx_next hK2 ((j + 1, q2)) (hj2) (by show 52 - (j + 1) < 52 - j; omega) (by repeat (first | exact Slots.sub_nil _ | refine Slots.sub_cons rfl ?_)) (by first | assumption | exact Ent.refl _ | exact Ent.nil _ | (repeat (first | exact Ent.refl _ | exact Ent.nil _ | refine Ent.pick ?_)))
  have hj52 : j = 52 := by omega
  subst hj52
  rw [List.take_of_length_le (by omega)]
  refine hc_exit <| hx_then_exit <| hx_then_exit <| hx_block_out <| hx_then_normal <| hc_seq <| ?_
  refine hc_region <| hl_v (ov_move rfl) rfl <| ?_
  refine hl_call (σ := Three) Tryz.call26 rfl rfl (fun w1 H1 => Own.callpx (sto sb g 52 s) H1 fun D' hold hin H2 => SConfig_spec D' w1 sb g 52 s hs.okc H2) ?_
  intro q
  refine hl_v (ov_move rfl) rfl <| ?_
  refine hl_c Tryz.call32 rfl rfl (fun w1 H1 => Own.callp (sto sb g 52 s) H1 fun D' hold hin H2 => SEpoch_spec D' w1 sb g 52 s H2) ?_
  refine hl_new (on_alloc) rfl rfl rfl fun b12 =>  ?_
  refine hl_u0 (on_storeW (vs := cfgA s.c q) rfl rfl rfl (by simp) (by simp [Value.oneCell'])) rfl rfl ?_
  refine hl_v (ov_assign rfl) rfl <| hl_nil <| hx_then_normal <| hc_seq <| hc_seq <| hc_region <| ?_
  refine hl_v (ov_assign rfl) rfl <| hl_nil <| hx_then_normal <| hc_block <| ?_
  refine HC.ent (l' := [dsk g s.S [], row Aw 61 64 52 cw (s.S.flatMap secC), blk b12 49 (cfgA s.c q), row q.1.1 83 3 s.c.2.2.2.1.length q.1.2 (s.c.2.2.2.1.flatMap portV), row q.2.1.1 147 3 s.c.2.2.2.2.1.length q.2.1.2 (s.c.2.2.2.2.1.flatMap vlanV), row q.2.2.1 149 3 s.c.2.2.2.2.2.length q.2.2.2 (s.c.2.2.2.2.2.flatMap statV)]) (by first | assumption | exact Ent.refl _ | exact Ent.nil _ | exact Ent.row_any (Ent.refl _) | (repeat (first | exact Ent.refl _ | exact Ent.nil _ | refine Ent.pick ?_))) ?_
  refine hc_loops1 (σ := Nat) [3, 8, 12, 13] rfl 14 (fun k => .int .i64 (k : Int)) (fun k => k ≤ 2) (fun k => 2 - k) (0) (Nat.zero_le _) rfl ?_
  rintro k hk K3 hK3
  refine hc_seq <| hc_seq <| hc_region <| hl_v (ov_move rfl) rfl <| hl_v (ov_lss rfl rfl) rfl <| hl_nil <| ?_
  refine hx_then_normal <| ?_
  refine hc_cond rfl (fun hk2 => ?_) (fun hk2 => ?_)
  · have hk2 : k < 2 := by omega
    refine hc_skip <| hx_then_normal <| hc_seq <| hc_block <| hc_seq <| hc_region <| ?_
    refine hl_v (ov_move rfl) rfl <| ?_
    refine hl_call (σ := Nat) Tryz.call17 rfl rfl (fun w1 H1 => Own.callpx (dsk g s.S []) H1 fun D' hold hin H2 => SOpen_old D' w1 g 52 s 3 hs (by decide) (by omega) (by decide) (by decide) (by omega) H2) ?_
    intro tb
    refine hl_v (ov_move rfl) rfl <| hl_v (ov_extract rfl rfl) rfl <| hl_v (ov_extract rfl rfl) rfl <| hl_v (ov_assign rfl) rfl <| hl_v (ov_assign rfl) rfl <| hl_nil <| ?_
    refine hx_then_normal <| hc_seq <| ?_
    refine hc_any [blk b12 49 (cfgA s.c q)] mixed 24 rfl ?_
    refine ha_v 0 rfl (ov_move rfl) rfl <| ?_
    refine ha_v 1 rfl (ov_neq rfl rfl) rfl <| ?_
    refine ha_v 2 rfl (ov_move rfl) rfl <| ?_
    refine ha_partF (t := 93) rfl ((fun h => h rfl)) ?_
    refine ha_v 3 rfl (ov_move rfl) rfl <| ?_
    refine ha_v 4 rfl (ov_eqlP rfl rfl) rfl <| ?_
    refine ha_v 5 rfl (ov_pickF rfl rfl) rfl <| ?_
    refine ha_v 6 rfl (ov_move rfl) rfl <| ?_
    refine ha_v 7 rfl (ov_move rfl) rfl <| ?_
    refine ha_v 9 rfl (by first | exact ov_loadW rfl (by simp; done) | exact ov_loadGB rfl rfl) rfl <| ?_
    refine ha_one 8 (by kernel_rfl) <| ?_
    refine ho_kx (σ := Three) rfl Tryz.call26 rfl (fun w1 H1 => Own.callpx (sto tb g 52 s) H1 fun D' hold hin H2 => SConfig_spec D' w1 tb g 52 s hs.okc H2) ?_
    intro q3
    refine ha_one 10 (by kernel_rfl) <| ?_
    refine ho_kx (σ := BIff (s.c = s.c)) rfl Tryz.call27 rfl (fun w1 H1 => Own.callx0 H1 fun D' hold hin H2 => keepC_spec D' w1 s.c s.c _ _ _ _ _ _ (ConfOld.rows (q := q3) hs.okc hin) (ConfOld.rows (q := q) hs.okc hin)) ?_
    intro g1
    try rw [List.nil_append]
    have hg1 : g1.1 = true := g1.2.2 rfl
    rw [hg1]
    refine ha_v 11 rfl (by first | exact ov_notd rfl | exact ov_not rfl) rfl <| ?_
    refine ha_v 12 rfl (ov_pickF rfl rfl) rfl <| ?_
    refine ha_v 13 rfl (ov_move rfl) rfl <| ?_
    refine ha_v 14 rfl (ov_move rfl) rfl <| ?_
    refine ha_v 16 rfl (ov_move rfl) rfl <| ?_
    refine ha_one 15 (by kernel_rfl) <| ?_
    refine ho_k rfl Tryz.call32 rfl (fun w1 H1 => Own.callp (sto tb g 52 s) H1 fun D' hold hin H2 => SEpoch_spec D' w1 tb g 52 s H2) ?_
    refine ha_v 17 rfl (ov_neq rfl rfl) rfl <| ?_
    refine ha_v 18 rfl (ov_pickF rfl rfl) rfl <| ?_
    refine ha_v 19 rfl (ov_move rfl) rfl <| ?_
    refine ha_partF (t := 110) rfl ((fun h => h rfl)) ?_
    refine ha_v 20 rfl (ov_move rfl) rfl <| ?_
    refine ha_one 21 (by kernel_rfl) <| ?_
    refine ho_k rfl Tryz.call34 rfl (fun w1 H1 => Own.callp (dsk g s.S []) H1 fun D' hold hin H2 => Pending_spec D' w1 g s.S [] H2) ?_
    refine ha_v 22 rfl (ov_neq rfl rfl) rfl <| ?_
    refine ha_v 23 rfl (ov_pickF rfl rfl) rfl <| ?_
    refine ha_done (by kernel_rfl) <| hx_then_normal <| ?_
    refine hc_cond_F rfl ((fun h => h rfl)) ?_
    refine hc_skip <| hx_block_normal <| hx_then_normal <| hc_region <| hl_v (ov_move rfl) rfl <| hl_v (ov_add rfl rfl (by first | exact wrap_i64 (by omega) | rfl)) rfl <| ?_
    refine hl_v (ov_assign rfl) rfl <| hl_nil <| ?_
    refine hx_next hK3 (k + 1) (by omega) (by omega) (by repeat (first | exact Slots.sub_nil _ | refine Slots.sub_cons rfl ?_)) (by first | assumption | exact Ent.refl _ | exact Ent.nil _ | (repeat (first | exact Ent.refl _ | exact Ent.nil _ | refine Ent.pick ?_)))
  refine hc_exit <| hx_then_exit <| hx_then_exit <| hx_block_out <| hx_then_normal <| hc_seq <| ?_
  refine hc_seq <| hc_region <| hl_v (ov_assign rfl) rfl <| hl_nil <| hx_then_normal <| hc_block <| ?_
  refine HC.ent (l' := [dsk g s.S [], row Aw 61 64 52 cw (s.S.flatMap secC)]) (by first | assumption | exact Ent.refl _ | exact Ent.nil _ | exact Ent.row_any (Ent.refl _) | (repeat (first | exact Ent.refl _ | exact Ent.nil _ | refine Ent.pick ?_))) ?_
  refine HC.fact (fun w H => Own.factR Aw H) ?_
  rintro ⟨_, _, _, hAw⟩
  have hAw : isA Aw := hAw (by have := flat_len (f := secC) (sz := 64) secC_len s.S; intro h; rw [h] at this; simp at this; omega)
  refine hc_loops1 (σ := Nat) [3, 8] rfl 17 (fun jj => .int .i64 (jj : Int)) (fun jj => jj ≤ 52) (fun jj => 52 - jj) (0) (Nat.zero_le _) rfl ?_
  rintro jj hjj K4 hK4
  refine hc_seq <| hc_seq <| hc_region <| hl_v (ov_move rfl) rfl <| hl_v (ov_lss rfl rfl) rfl <| hl_nil <| ?_
  refine hx_then_normal <| ?_
  refine hc_cond rfl (fun hj1 => ?_) (fun hj1 => ?_)
  · have hj1 : jj < 52 := by omega
    obtain ⟨x, hx⟩ : ∃ x, s.S[jj]? = some x := ⟨_, List.getElem?_eq_getElem (by omega)⟩
    refine hc_skip <| hx_then_normal <| hc_seq <| hc_block <| hc_seq <| hc_region <| ?_
    refine hl_v (ov_move rfl) rfl <| hl_v (ov_move rfl) rfl <| ?_
    refine hl_c Tryz.call35 rfl rfl (fun w1 H1 => Own.callp (dsk g s.S []) H1 fun D' hold hin H2 => Read_at D' w1 g jj s.S x hx H2) ?_
    refine hl_v (ov_move rfl) rfl <| hl_v (ov_extract rfl rfl) rfl <| hl_v (ov_extract rfl rfl) rfl <| hl_new (on_alloc) rfl rfl rfl fun b18 =>  ?_
    refine hl_u0 (on_storeW (vs := secC x) rfl rfl (by simp [secC_len]) (by simp [secC_len]) (secC_one _)) rfl rfl ?_
    refine hl_v (ov_assign rfl) rfl <| hl_nil <| hx_then_normal <| hc_seq <| hc_quiet mixed (by kernel_rfl) <| hq_v (ov_move rfl) rfl <| ?_
    refine hq_v (ov_neq rfl rfl) rfl <| hq_v (ov_move rfl) rfl <| ?_
    obtain ⟨hjl, hjx⟩ := List.getElem?_eq_some_iff.1 hx
    refine hq_partF (t := 127) rfl ((fun h => h rfl)) ?_
    refine hq_on rfl rfl <| hq_v (ov_loadW rfl (secC_len x)) rfl ?_
    refine hq_on rfl rfl <| hq_v (ov_move rfl) rfl <| hq_on rfl rfl <| hq_v (ov_move rfl) rfl <| ?_
    refine hq_on rfl rfl <| hq_v (ov_idxS rfl hAw rfl jj rfl hj1) rfl ?_
    refine hq_on rfl rfl <| hq_v (ov_loadG (cs := secC x) rfl (secC_len _) (by rw [← hjx]; exact CellsAre.flat (f := secC) (A := Aw) secC_len hAw (i := jj) hjl)) rfl ?_
    refine hq_on rfl rfl <| hq_v (ov_neqSec (s := x) (t := x) rfl rfl) rfl ?_
    refine hq_v (ov_pickF rfl rfl) rfl <| hq_nil <| hx_then_normal <| ?_
    refine hc_cond_F rfl ((fun h => h rfl)) ?_
    refine hc_skip <| hx_block_normal <| hx_then_normal <| hc_region <| hl_v (ov_move rfl) rfl <| hl_v (ov_add rfl rfl (by first | exact wrap_i64 (by omega) | rfl)) rfl <| ?_
    refine hl_v (ov_assign rfl) rfl <| hl_nil <| ?_
    refine hx_next hK4 (jj + 1) (by omega) (by omega) (by repeat (first | exact Slots.sub_nil _ | refine Slots.sub_cons rfl ?_)) (by first | assumption | exact Ent.refl _ | exact Ent.nil _ | (repeat (first | exact Ent.refl _ | exact Ent.nil _ | refine Ent.pick ?_)))
  refine hc_exit <| hx_then_exit <| hx_then_exit <| hx_block_out <| hx_then_normal <| hc_seq <| ?_
  refine hc_region <| ?_
  refine hl_c Tryz.call13 rfl rfl (fun w1 H1 => Own.calln H1 fun D' hold hin H2 => wakes8_spec D' w1) ?_
  refine hl_v (ov_assign rfl) rfl <| hl_nil <| hx_then_normal <| hc_ret <| ?_
  exact results_1 (.inr rfl) rfl rfl fun w' H' => ⟨rfl, H'.ent (Ent.nil _)⟩
end Go.Proofs.YtjlolpmmpafjeaaGreat
/- PROVED: the given statement StoreOpens: for every input the law returns true, and each argument reads behind the call as it read before; no condition. -/
set_option linter.unusedVariables false
namespace Go.Proofs.YtjlolpmmpafjeaaGreat.storeOpens
open Go.ChangeShapes Go.WideShapes Go.ChangeAt Go.RowKit
open Slk
theorem own : ownKnob Tryz.prog.godebug = none := by kernel_rfl
theorem laidOut : laidOutB Tryz.prog = true := by kernel_rfl
set_option maxRecDepth 100000 in
theorem lifted (os : Os) (started : os.Started) (H : Type) (enc : TypeId × Value → H) :
    ReturnsInHanded {} Tryz.checked os 8 .any (Rows.storeOpensSpec.pre6 enc Tryz.prog Tryz.f8 Rows.storeOpensRow.domain false) (Rows.storeOpensSpec.post enc Tryz.prog Tryz.f8 false true false false) := by
  refine returnsInHanded_of_change (C := Tryz.checked) own started (by kernel_rfl) Tryz.func8
    (ChangeSpec.witness6 (enc := enc) (C := Tryz.checked) false ⟨#[], #[.slice none 0 0], []⟩ 8 (by kernel_rfl) (by kernel_rfl) (by kernel_rfl) (by kernel_rfl)) ?_
  intro W base args ds gs before hval0 hW hcnd _
  have hval : ∀ (j : Nat) t v, Tryz.f8.params[j]? = some t → args[j]? = some v → Value.okWide Tryz.prog W .any base t v := hval0
  have hW' := hW
  obtain ⟨p, q, hA0, hV, rfl, hfz, hnd⟩ := hW
  have hA : DataW.TrodAll enc Tryz.prog W 0 (fun _ => true) true Tryz.f8.params.toList args.toList ds p := hA0
  rw [Tryz.params8] at hA hval
  obtain ⟨v0, vs0, d0, ds0, p0, q0, hargs, rfl, rfl, h0, r0⟩ := trodAll_cons hA
  obtain ⟨rfl, rfl, rfl⟩ := trodAll_nil r0
  obtain rfl : args = #[v0] := by cases args; simp_all
  obtain ⟨rfl, rfl⟩ := trodVars_none hV
  have k0 := h0
  have lt0 : ∀ x ∈ p0, x.block < W.heap.size := by obtain ⟨m, hm⟩ := k0; exact DataW.trod_lt m _ _ _ hm
  have e0 := cells_one (hval 0 22 v0 rfl rfl)
  obtain ⟨x0, y0⟩ := arg_rep (α := List (List EditC)) h0
  rw [e0] at y0
  clear hA0 hval0
  refine (StoreOpens_walk W v0 x0 y0).mono fun e W' ⟨he, hO⟩ => ?_
  have bel := hO.below
  subst he
  exact ⟨_, rfl, _, _, _, [], _, [], hW', trodAll_mk1 (shut_bool Tryz.underlying4 _), (trodAll_cons_mk (Below.trod laidOut (by kernel_rfl) (of_decide_eq_true (by kernel_rfl)) k0 bel lt0) trodAll_mk0), rfl, bel.frame _, fun h => by cases h⟩
theorem over : Rows.storeOpensRow.holds Tryz.pinned (OpenSpec.ofChange Rows.storeOpensSpec) :=
  OpenClaim.holds_of_wide 8 Tryz.f8 rfl rfl rfl rfl rfl rfl rfl ⟨rfl, rfl, rfl, rfl, rfl⟩ rfl rfl rfl rfl rfl (by kernel_rfl) Tryz.func8 (by kernel_rfl)
    (of_decide_eq_true (by kernel_rfl)) (by unfold Func.isWrapper; first | (rw [if_pos (by decide +kernel)]; kernel_rfl) | (rw [if_neg (by decide +kernel)]; exact ⟨rfl, rfl⟩))
    (fun os started H enc _ => lifted os started H enc)
theorem proved : Rows.StoreOpensSaid := over
#print axioms proved
end Go.Proofs.YtjlolpmmpafjeaaGreat.storeOpens
