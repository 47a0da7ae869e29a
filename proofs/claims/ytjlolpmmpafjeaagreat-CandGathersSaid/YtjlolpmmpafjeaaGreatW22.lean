import Derived.Test.YtjlolpmmpafjeaaGreatW21
import Derived.Test.YtjlolpmmpafjeaaGreatW17
set_option linter.unusedVariables false
set_option linter.unusedSimpArgs false
namespace Go.Proofs.YtjlolpmmpafjeaaGreat
open Slk
theorem Commit_nil (D : Nat → Prop) (w : World) (v : Value) : Calls Tryz.prog 19 #[.pointer none, v] w fun e w' => e = .returned (.int .i64 1) ∧ Own D w w' [] := by
  refine hc_enter (vs := [.pointer none, v]) Tryz.func19 rfl _ Tryz.ntmps19 rfl (Own.start D w) ?_
  simp only [argSlots, Nat.zero_add]
  refine zg <| hl_v (ov_assign rfl) rfl <| zn <| hc_seq <| ?_
  refine zg <| hl_v (ov_move rfl) rfl <| hl_v (ov_eqlP rfl rfl) rfl <| zn <| ?_
  refine hc_cond_true rfl ?_
  refine zg <| hl_v (ov_assign rfl) rfl <| zn <| hc_ret <| ?_
  refine hx_then_ret <| ?_
  exact results_1 (.inr rfl) rfl rfl fun w' H' => ⟨rfl, H'⟩
set_option maxHeartbeats 2000000 in
theorem Commit_spec (D : Nat → Prop) (w : World) (sb g m : Nat) (s : SSt) (v : Value) (l : List EditC) (h : SI m s) (hm2 : m ≤ 100000) (hep : s.ep < 4294967290) (hll : l.length ≤ 1000000) (HA : Old D w (Rep.rep l [v])) (H : Own D w w [sto sb g m s, dsk g s.S []]) :
    Calls Tryz.prog 19 #[.pointer (some ⟨sb, 0, none⟩), v] w fun e w' => e = .returned (.int .i64 (commR m s l).1) ∧ Own D w w' [sto sb g m (commR m s l).2, dsk g (commR m s l).2.S []] := by
  obtain ⟨Al, cl, rfl, _, _, _, hfl⟩ := HA.openF
  have hlen := h.len
  have hm := h.m40
  have hk := h.kle
  have hmany := h.many
  have hml : (s.Ls.map edsB).length = s.Ls.length := List.length_map _
  obtain ⟨c2, er, hed⟩ : ∃ c2 er, edF s.c l = (c2, er) := ⟨_, _, rfl⟩
  refine hc_enter (vs := [.pointer (some ⟨sb, 0, none⟩), .slice Al l.length cl]) Tryz.func19 rfl _ Tryz.ntmps19 rfl H ?_
  simp only [argSlots, Nat.zero_add]
  refine HC.exs ?_
  rintro ⟨jb, q⟩
  refine HC.ent (l' := blk sb 120 (stoC jb g s q) :: jou jb g 32 m s.ep (32 + s.k) (s.Ls.map edsB) :: (cfgR s.c q ++ [dsk g s.S []])) (fun _ h => h) ?_
  refine zg <| hl_v (ov_assign rfl) rfl <| zn <| hc_seq <| ?_
  refine zg <| hl_v (ov_move rfl) rfl <| hl_v (ov_eqlP rfl rfl) rfl <| zn <| ?_
  refine hc_cond_false rfl ?_
  refine zk <| zg <| hl_v (ov_move rfl) rfl <| hl_v (ov_nil rfl) rfl <| ?_
  refine hl_v (ov_fieldA rfl) rfl <| ?_
  refine hl_v (ov_loadGB (vs := cfgA s.c q) rfl rfl) rfl ?_
  refine hl_v (ov_move rfl) rfl <| ?_
  refine hl_call (σ := Three) Tryz.call56 rfl rfl (fun w1 H1 => Own.callx0 H1 fun D' hold hin H2 => Edit_is D' w1 s.c _ _ _ _ l c2 er hed hll (ConfOld.rows (q := q) h.okc hin) (hold _ HA)) ?_
  intro qd
  try rw [List.nil_append]
  refine hl_v (ov_move rfl) rfl <| hl_v (ov_extract rfl rfl) rfl <| hl_v (ov_extract rfl rfl) rfl <| hl_new (on_alloc) rfl rfl rfl fun b5 =>  ?_
  refine hl_u0 (on_storeW (vs := cfgA c2 qd) rfl rfl rfl (by simp) za33) rfl rfl ?_
  refine hl_v (ov_assign rfl) rfl <| zn <| hc_seq <| zg <| ?_
  refine hl_v (ov_move rfl) rfl <| hl_v (ov_neq rfl rfl) rfl <| zn <| ?_
  refine hc_cond rfl (fun he => ?_) (fun he => ?_)
  · have hc : commR m s l = (er, s) := by unfold commR; rw [hed, if_pos he]
    refine zg <| hl_v (ov_move rfl) rfl <| hl_v (ov_assign rfl) rfl <| zn <| ?_
    refine hc_ret <| hx_then_ret <| ?_
    exact results_1 (.inr rfl) rfl rfl fun w' H' => ⟨by rw [hc]; rfl, by rw [hc]; exact H'.ent (Ent.trans (b := blk sb 120 (stoC jb g s q) :: jou jb g 32 m s.ep (32 + s.k) (s.Ls.map edsB) :: (cfgR s.c q ++ [dsk g s.S []])) za4 (sto_mk jb q))⟩
  have he : er = 0 := Classical.not_not.1 he
  subst he
  have h0 : (edF s.c l).2 = 0 := by rw [hed]
  have hl32 : l.length ≤ 32 := (edF_ok h0).2.1
  have hsm := edsB_small hl32
  have hc2 : c2 = (edF s.c l).1 := by rw [hed]
  by_cases hok : okEds l
  · obtain ⟨n, hn⟩ : ∃ n, needM (edsB l).length = n := ⟨_, rfl⟩
    refine zk <| zg <| hl_v (ov_move rfl) rfl <| ?_
    refine hl_call (σ := Option Addr × Nat) Tryz.call57 rfl rfl (fun w1 H1 => Own.callx0 H1 fun D' hold hin H2 => Edits_g D' w1 _ l hok (hold _ HA)) ?_
    intro qe
    try rw [List.nil_append]
    refine hl_v (ov_move rfl) rfl <| hl_v (ov_extract rfl rfl) rfl <| hl_v (ov_extract rfl rfl) rfl <| hl_v (ov_assign rfl) rfl <| hl_v (ov_assign rfl) rfl <| hl_nil <| ?_
    refine hx_then_normal <| hc_seq <| zg <| hl_v (ov_move rfl) rfl <| hl_v (ov_neq rfl rfl) rfl <| ?_
    refine zn <| ?_
    refine hc_cond_F rfl ((fun h => h rfl)) ?_
    refine zk <| hc_seq <| zg <| hl_v (ov_move rfl) rfl <| ?_
    refine hl_v (ov_nil rfl) rfl <| hl_v (ov_fieldA rfl) rfl <| hl_v (ov_load rfl (CellIs.blk rfl)) rfl <| hl_v (ov_move rfl) rfl <| hl_new (on_buildSliceN rfl rfl rfl) rfl rfl rfl fun b35 =>  ?_
    by_cases hfit : n ≤ m - 32 - s.k
    · obtain ⟨sN, hsN⟩ : ∃ sN, sN = appSt s l := ⟨_, rfl⟩
      have hc : commR m s l = (0, sN) := by unfold commR; rw [hed, if_neg (fun h => h rfl), if_neg (fun h => h hok), hn, if_pos hfit, hsN]
      have hS' : sN.S = putS s.S (32 + s.k) (encE (jouE s.ep (s.Ls.map edsB).length (edsB l))) := by rw [hsN, hml]; rfl
      have hL' : sN.Ls.map edsB = s.Ls.map edsB ++ [edsB l] := by rw [hsN]; show (s.Ls ++ [l]).map edsB = _; rw [List.map_append]; rfl
      have hk' : 32 + sN.k = 32 + s.k + n := by rw [hsN]; show 32 + (s.k + needM (edsB l).length) = _; omega
      have hcN : sN.c = c2 := by rw [hsN, hc2]; rfl
      have heN : sN.ep = s.ep := by rw [hsN]; rfl
      rw [hc]
      subst hcN
      refine hl_c Tryz.call58 rfl rfl (fun w1 H1 => Own.callp2 (jou jb g 32 m s.ep (32 + s.k) (s.Ls.map edsB)) (dsk g s.S []) H1 fun D' hold hin H2 => Append_is D' w1 jb g 32 m s.ep (32 + s.k) (s.Ls.map edsB) [edsB l] _ s.S (edsB l) n (32 + sN.k) (sN.Ls.map edsB) sN.S (by simp) hn hk' hL' hS' (by omega) (by omega) (by omega) (by omega) (by omega) (by omega) (by omega) (hin _ fun h hs ho => rep_lits (b := b35) hs [edsB l] ⟨[_], [], rfl, rep_row (A := qe.1) hs (edsB l) rfl (repL_bytes.2 rfl), rfl⟩ (by simp)) H2) ?_
      rw [← heN]
      obtain ⟨jb2, hjb2⟩ : ∃ x, x = jb := ⟨_, rfl⟩
      rw [← hjb2]
      refine hl_v (ov_assign rfl) rfl <| zn <| zg <| hl_v (ov_move rfl) rfl <| ?_
      refine hl_v (ov_eql rfl rfl) rfl <| zn <| ?_
      refine hc_cond_F rfl ((by decide)) ?_
      refine zk <| hc_seq <| zg <| hl_v (ov_move rfl) rfl <| ?_
      refine hl_v (ov_neq rfl rfl) rfl <| zn <| ?_
      refine hc_cond_F rfl ((fun h => h rfl)) ?_
      refine zk <| zg <| hl_v (ov_move rfl) rfl <| ?_
      refine hl_v (ov_loadW rfl rfl) rfl ?_
      refine hl_v (ov_nil rfl) rfl <| hl_v (ov_fieldA rfl) rfl <| ?_
      refine hl_u0 (on_storeGE (stoC jb2 g sN qd) rfl rfl rfl (by simp) za33 (by unfold stoC; rw [heN]; rfl)) rfl rfl ?_
      refine zn <| zg <| hl_v (ov_assign rfl) rfl <| hl_nil <| ?_
      refine hx_then_normal <| hc_ret <| ?_
      exact results_1 (.inr rfl) rfl rfl fun w' H' => ⟨rfl, H'.ent (Ent.trans (b := blk sb 120 (stoC jb2 g sN qd) :: jou jb2 g 32 m sN.ep (32 + sN.k) (sN.Ls.map edsB) :: (cfgR sN.c qd ++ [dsk g sN.S []])) za4 (sto_mk (s := sN) jb2 qd))⟩
    refine hl_c Tryz.call58 rfl rfl (fun w1 H1 => Own.callp (jou jb g 32 m s.ep (32 + s.k) (s.Ls.map edsB)) H1 fun D' hold hin H2 => Append_full D' w1 jb g 32 m s.ep (32 + s.k) (s.Ls.map edsB) [edsB l] _ (by omega) (by omega) (by simp; omega) (by simp; omega) (hin _ fun h hs ho => rep_lits (b := b35) hs [edsB l] ⟨[_], [], rfl, rep_row (A := qe.1) hs (edsB l) rfl (repL_bytes.2 rfl), rfl⟩ (by simp)) H2) ?_
    refine HL.ent (Ent.trans (b := blk sb 120 (stoC jb g s q) :: jou jb g 32 m s.ep (32 + s.k) (s.Ls.map edsB) :: (cfgR s.c q ++ [dsk g s.S [], row qe.1 5 1 (edsB l).length qe.2 ((edsB l).map u8v), blk b5 49 (cfgA c2 qd), row qd.1.1 83 3 c2.2.2.2.1.length qd.1.2 (c2.2.2.2.1.flatMap portV), row qd.2.1.1 147 3 c2.2.2.2.2.1.length qd.2.1.2 (c2.2.2.2.2.1.flatMap vlanV), row qd.2.2.1 149 3 c2.2.2.2.2.2.length qd.2.2.2 (c2.2.2.2.2.2.flatMap statV)])) za4 (sto_mk jb q)) ?_
    have h1 := saveSt_ok h hep
    obtain ⟨s1, hs1⟩ : ∃ s1, s1 = saveSt s := ⟨_, rfl⟩
    have hs1k : s1.k = 0 := by rw [hs1]; rfl
    have hs1c : s1.c = s.c := by rw [hs1]; rfl
    have hs1L : s1.Ls = [] := by rw [hs1]; rfl
    have hs1e : s1.ep = s.ep + 1 := by rw [hs1]; rfl
    rw [← hs1] at h1
    have hl1 := h1.len
    refine hl_v (ov_assign rfl) rfl <| zn <| zg <| hl_v (ov_move rfl) rfl <| ?_
    refine hl_v (ov_eql rfl rfl) rfl <| zn <| ?_
    refine hc_cond_T rfl (rfl) ?_
    refine zg <| hl_v (ov_move rfl) rfl <| ?_
    refine hl_c Tryz.call31 rfl rfl (fun w1 H1 => Own.callp2 (sto sb g m s) (dsk g s.S []) H1 fun D' hold hin H2 => SSave_spec D' w1 sb g m s h hep H2) ?_
    rw [← hs1]
    refine hl_v (ov_assign rfl) rfl <| zn <| zg <| hl_v (ov_move rfl) rfl <| ?_
    refine hl_v (ov_eql rfl rfl) rfl <| zn <| ?_
    refine hc_cond_T rfl (rfl) ?_
    refine HC.exs ?_
    rintro ⟨jb2, q2⟩
    refine HC.ent (l' := blk sb 120 (stoC jb2 g s1 q2) :: jou jb2 g 32 m s1.ep (32 + s1.k) (s1.Ls.map edsB) :: (cfgR s1.c q2 ++ [dsk g s1.S [], row qe.1 5 1 (edsB l).length qe.2 ((edsB l).map u8v), blk b5 49 (cfgA c2 qd), row qd.1.1 83 3 c2.2.2.2.1.length qd.1.2 (c2.2.2.2.1.flatMap portV), row qd.2.1.1 147 3 c2.2.2.2.2.1.length qd.2.1.2 (c2.2.2.2.2.1.flatMap vlanV), row qd.2.2.1 149 3 c2.2.2.2.2.2.length qd.2.2.2 (c2.2.2.2.2.2.flatMap statV)])) (fun _ h => h) ?_
    refine hc_region <| hl_v (ov_move rfl) rfl <| hl_v (ov_nil rfl) rfl <| hl_v (ov_fieldA rfl) rfl <| hl_v (ov_load rfl (CellIs.blk rfl)) rfl <| hl_v (ov_move rfl) rfl <| ?_
    refine hl_new (on_buildSliceN rfl rfl rfl) rfl rfl rfl fun b48 =>  ?_
    by_cases hfit2 : n ≤ m - 32
    · obtain ⟨sN, hsN⟩ : ∃ sN, sN = appSt s1 l := ⟨_, rfl⟩
      have hc : commR m s l = (0, sN) := by unfold commR; rw [hed, if_neg (fun h => h rfl), if_neg (fun h => h hok), hn, if_neg hfit, if_pos hfit2, hsN, hs1]
      have hS' : sN.S = putS s1.S (32 + s1.k) (encE (jouE s1.ep (s1.Ls.map edsB).length (edsB l))) := by rw [hsN, List.length_map]; rfl
      have hL' : sN.Ls.map edsB = s1.Ls.map edsB ++ [edsB l] := by rw [hsN]; show (s1.Ls ++ [l]).map edsB = _; rw [List.map_append]; rfl
      have hk' : 32 + sN.k = 32 + s1.k + n := by rw [hsN]; show 32 + (s1.k + needM (edsB l).length) = _; omega
      have hcN : sN.c = c2 := by rw [hsN, hc2]; show (edF s1.c l).1 = _; rw [hs1c]
      have heN : sN.ep = s1.ep := by rw [hsN]; rfl
      rw [hc]
      subst hcN
      refine hl_c Tryz.call58 rfl rfl (fun w1 H1 => Own.callp2 (jou jb2 g 32 m s1.ep (32 + s1.k) (s1.Ls.map edsB)) (dsk g s1.S []) H1 fun D' hold hin H2 => Append_is D' w1 jb2 g 32 m s1.ep (32 + s1.k) (s1.Ls.map edsB) [edsB l] _ s1.S (edsB l) n (32 + sN.k) (sN.Ls.map edsB) sN.S (by simp) hn hk' hL' hS' (by omega) (by omega) (by omega) (by omega) (by omega) (by omega) (by rw [hs1L]; decide) (hin _ fun h hs ho => rep_lits (b := b48) hs [edsB l] ⟨[_], [], rfl, rep_row (A := qe.1) hs (edsB l) rfl (repL_bytes.2 rfl), rfl⟩ (by simp)) H2) ?_
      rw [← heN]
      refine hl_v (ov_assign rfl) rfl <| zn <| hc_seq <| zg <| ?_
      refine hl_v (ov_move rfl) rfl <| hl_v (ov_neq rfl rfl) rfl <| zn <| ?_
      refine hc_cond_F rfl ((fun h => h rfl)) ?_
      refine zk <| zg <| hl_v (ov_move rfl) rfl <| ?_
      refine hl_v (ov_loadW rfl rfl) rfl ?_
      refine hl_v (ov_nil rfl) rfl <| hl_v (ov_fieldA rfl) rfl <| ?_
      refine hl_u0 (on_storeGE (stoC jb2 g sN qd) rfl rfl rfl (by simp) za33 (by unfold stoC; rw [heN]; rfl)) rfl rfl ?_
      refine zn <| zg <| hl_v (ov_assign rfl) rfl <| hl_nil <| ?_
      refine hx_then_normal <| hc_ret <| ?_
      exact results_1 (.inr rfl) rfl rfl fun w' H' => ⟨rfl, H'.ent (Ent.trans (b := blk sb 120 (stoC jb2 g sN qd) :: jou jb2 g 32 m sN.ep (32 + sN.k) (sN.Ls.map edsB) :: (cfgR sN.c qd ++ [dsk g sN.S []])) za4 (sto_mk (s := sN) jb2 qd))⟩
    have hc : commR m s l = (12, s1) := by unfold commR; rw [hed, if_neg (fun h => h rfl), if_neg (fun h => h hok), hn, if_neg hfit, if_neg hfit2, hs1]
    rw [hc]
    refine hl_c Tryz.call58 rfl rfl (fun w1 H1 => Own.callp (jou jb2 g 32 m s1.ep (32 + s1.k) (s1.Ls.map edsB)) H1 fun D' hold hin H2 => Append_full D' w1 jb2 g 32 m s1.ep (32 + s1.k) (s1.Ls.map edsB) [edsB l] _ (by omega) (by omega) (by simp; omega) (by simp; omega) (hin _ fun h hs ho => rep_lits (b := b48) hs [edsB l] ⟨[_], [], rfl, rep_row (A := qe.1) hs (edsB l) rfl (repL_bytes.2 rfl), rfl⟩ (by simp)) H2) ?_
    refine hl_v (ov_assign rfl) rfl <| zn <| hc_seq <| zg <| ?_
    refine hl_v (ov_move rfl) rfl <| hl_v (ov_neq rfl rfl) rfl <| zn <| ?_
    refine hc_cond_T rfl ((by decide)) ?_
    refine zg <| hl_v (ov_move rfl) rfl <| hl_v (ov_assign rfl) rfl <| zn <| ?_
    refine hc_ret <| hx_then_ret <| ?_
    exact results_1 (.inr rfl) rfl rfl fun w' H' => ⟨rfl, H'.ent (Ent.trans (b := blk sb 120 (stoC jb2 g s1 q2) :: jou jb2 g 32 m s1.ep (32 + s1.k) (s1.Ls.map edsB) :: (cfgR s1.c q2 ++ [dsk g s1.S []])) za4 (sto_mk jb2 q2))⟩
  have hc : commR m s l = (11, s) := by unfold commR; rw [hed, if_neg (fun h => h rfl), if_pos hok]
  rw [hc]
  refine zk <| zg <| hl_v (ov_move rfl) rfl <| ?_
  refine hl_c Tryz.call57 rfl rfl (fun w1 H1 => Own.calln H1 fun D' hold hin H2 => Edits_b D' w1 _ l hl32 hok (hold _ HA)) ?_
  refine hl_v (ov_move rfl) rfl <| hl_v (ov_extract rfl rfl) rfl <| hl_v (ov_extract rfl rfl) rfl <| hl_v (ov_assign rfl) rfl <| hl_v (ov_assign rfl) rfl <| hl_nil <| ?_
  refine hx_then_normal <| hc_seq <| zg <| hl_v (ov_move rfl) rfl <| hl_v (ov_neq rfl rfl) rfl <| ?_
  refine zn <| ?_
  refine hc_cond_T rfl ((by decide)) ?_
  refine zg <| hl_v (ov_move rfl) rfl <| hl_v (ov_assign rfl) rfl <| zn <| ?_
  refine hc_ret <| hx_then_ret <| ?_
  exact results_1 (.inr rfl) rfl rfl fun w' H' => ⟨rfl, H'.ent (Ent.trans (b := blk sb 120 (stoC jb g s q) :: jou jb g 32 m s.ep (32 + s.k) (s.Ls.map edsB) :: (cfgR s.c q ++ [dsk g s.S []])) za4 (sto_mk jb q))⟩
end Go.Proofs.YtjlolpmmpafjeaaGreat
set_option linter.unusedVariables false
set_option linter.unusedSimpArgs false
namespace Go.Proofs.YtjlolpmmpafjeaaGreat
open Slk
def lA : List EditC := [(1, 0, 4096, 0, 0, 0, 0)]
def lB : List EditC := [(1, 0, 5, 0, 0, 0, 0)]
def dA : ConfC := (4096, 20, 15, [(true, 20000, 1), (true, 20000, 1)], [(1, 3, 0)], [])
def dB : ConfC := (5, 20, 15, [(true, 20000, 1), (true, 20000, 1)], [(1, 3, 0)], [])
theorem lA_fold : foldC (firstC 2) lA = (dA, 0) := by decide +kernel
theorem lB_fold : foldC dA lB = (dB, 0) := by decide +kernel
theorem dA_good : goodP dA := by decide +kernel
theorem dB_bad : ¬ goodP dB := by decide +kernel
theorem lA_eds : okEds lA := by decide +kernel
theorem lA_ok : ∀ x ∈ lA, Flat.ok x := fun x hx => by
  have : x = (1, 0, 4096, 0, 0, 0, 0) := by simpa [lA] using hx
  subst this; exact editOk1 _ ⟨by decide, by decide⟩ ⟨by decide, by decide⟩ (inI _ ⟨by decide, by decide⟩) ⟨by decide, by decide⟩
theorem lB_ok : ∀ x ∈ lB, Flat.ok x := fun x hx => by
  have : x = (1, 0, 5, 0, 0, 0, 0) := by simpa [lB] using hx
  subst this; exact editOk1 _ ⟨by decide, by decide⟩ ⟨by decide, by decide⟩ (inI _ ⟨by decide, by decide⟩) ⟨by decide, by decide⟩
theorem firstC2 : goodP (firstC 2) := firstC_good 2 (by decide) (by decide)
theorem lA_ed : edF (firstC 2) lA = (dA, 0) := (edF_R _ _).ok firstC2 (by decide) lA_fold dA_good
theorem lB_ed : edF dA lB = (zeroC, 14) := (edF_R _ _).no dA_good (by decide) lB_fold dB_bad
theorem wake8_facts : ∃ s2, commR 44 (firstSt 44 2) lA = (0, s2) ∧ SI 44 s2 ∧ s2.c = dA ∧ s2.ep = 1 ∧ s2.c0 = firstC 2 ∧ commR 44 s2 lB = (14, s2) := by
  have h1 := firstSt_ok (m := 44) (p := 2) (by decide) (by decide) (by decide)
  have hn : needM (edsB lA).length ≤ 44 - 32 := by
    rw [edsB_len]
    show needM (1 + 16 * 1) ≤ 12
    decide
  have hc : commR 44 (firstSt 44 2) lA = (0, appSt (firstSt 44 2) lA) := by
    unfold commR
    have he : edF (firstSt 44 2).c lA = (dA, 0) := lA_ed
    rw [he, if_neg (fun h => h rfl), if_neg (fun h => h lA_eds)]
    exact if_pos (show _ ≤ 44 - 32 - 0 from hn)
  have h2 := commR_ok h1 lA_ok (show 1 < 4294967290 by decide)
  rw [hc] at h2
  have hc2 : (appSt (firstSt 44 2) lA).c = dA := by show (edF (firstC 2) lA).1 = _; rw [lA_ed]
  refine ⟨_, hc, h2.1, hc2, rfl, rfl, ?_⟩
  unfold commR
  rw [hc2, lB_ed, if_pos (by decide)]
theorem Crash_none (D : Nat → Prop) (w : World) (g : Nat) (S : List Sec) (H : Own D w w [dsk g S []]) :
    Calls Tryz.prog 25 #[.pointer (some ⟨g, 0, none⟩), .slice none 0 0] w fun e w' => e = .returned (.tuple #[]) ∧ Own D w w' [dsk g S []] := Crash_spec D w g S [] (.slice none 0 0) [] (fun p hp => by cases hp) Old.nil H
set_option maxHeartbeats 1000000 in
theorem wakes8_spec (D : Nat → Prop) (w : World) : Calls Tryz.prog 13 #[] w fun e w' => e = .returned (.bool true) ∧ Own D w w' [] := by
  obtain ⟨s1, hs1⟩ : ∃ s, s = firstSt 44 2 := ⟨_, rfl⟩
  obtain ⟨s2, f1, f2, f3, f4, f5, f6⟩ := wake8_facts
  rw [← hs1] at f1
  have k1 : SI 44 s1 := by rw [hs1]; exact firstSt_ok (by decide) (by decide) (by decide)
  have e1 : s1.ep = 1 := by rw [hs1]; rfl
  have k3 := saveSt_ok f2 (by omega)
  obtain ⟨s3, hs3⟩ : ∃ s, s = saveSt s2 := ⟨_, rfl⟩
  have e3 : s3.ep = 2 := by rw [hs3]; show s2.ep + 1 = 2; omega
  obtain ⟨S0, hS0⟩ : ∃ S, S = List.replicate 44 zeroSec := ⟨_, rfl⟩
  have hpl : s2.c0.2.2.2.1.length = 2 := by rw [f5]; rfl
  have hcl : s2.c.2.2.2.1.length = 2 := by rw [f3]; rfl
  refine hc_enter (vs := []) Tryz.func13 rfl _ Tryz.ntmps13 rfl (Own.start D w) ?_
  simp only [argSlots, Nat.zero_add]
  refine zg <| hl_v (ov_assign rfl) rfl <| zn <| hc_seq <| ?_
  refine hc_region <| ?_
  refine hl_call (σ := Nat) Tryz.call15 rfl rfl (fun w1 H1 => Own.callx0 H1 fun D' hold hin H2 => (New_ok D' w1 44 (by decide) (by decide)).mono fun e w' ⟨g, he, H'⟩ => ⟨g, he, show Own D' w1 w' [dsk g S0 []] by rw [hS0]; exact H'⟩) ?_
  intro g
  try rw [List.nil_append]
  refine hl_v (ov_move rfl) rfl <| hl_v (ov_extract rfl rfl) rfl <| hl_v (ov_extract rfl rfl) rfl <| hl_v (ov_assign rfl) rfl <| hl_v (ov_assign rfl) rfl <| hl_nil <| ?_
  refine hx_then_normal <| zg <| hl_v (ov_move rfl) rfl <| ?_
  refine hl_call (σ := Nat) Tryz.call17 rfl rfl (fun w1 H1 => Own.callpx (dsk g S0 []) H1 fun D' hold hin H2 => (SOpen_new D' w1 g 44 2 (by decide) (by decide) (by decide) (by decide) S0 hS0 H2).mono fun e w' ⟨sb, he, H'⟩ => ⟨sb, he, show Own D' w1 w' [sto sb g 44 s1, dsk g s1.S []] by rw [hs1]; exact H'⟩) ?_
  intro sb
  refine hl_v (ov_move rfl) rfl <| hl_v (ov_extract rfl rfl) rfl <| hl_v (ov_extract rfl rfl) rfl <| hl_v (ov_assign rfl) rfl <| hl_v (ov_assign rfl) rfl <| hl_nil <| ?_
  refine hx_then_normal <| hc_seq <| zg <| hl_v (ov_move rfl) rfl <| hl_v (ov_neq rfl rfl) rfl <| ?_
  refine hl_v (ov_move rfl) rfl <| ?_
  refine hl_partF (t := 18) rfl ((fun h => h rfl)) ?_
  refine hl_on rfl rfl <| hl_v (ov_move rfl) rfl <| hl_on rfl rfl <| hl_v (ov_neq rfl rfl) rfl <| hl_v (ov_pickF rfl rfl) rfl <| hl_v (ov_move rfl) rfl <| ?_
  refine hl_partF (t := 22) rfl ((fun h => h rfl)) ?_
  refine hl_on rfl rfl <| hl_v (ov_move rfl) rfl <| hl_on rfl rfl <| hl_v (ov_eqlP rfl rfl) rfl <| hl_v (ov_pickF rfl rfl) rfl <| hl_v (ov_move rfl) rfl <| ?_
  refine hl_on rfl rfl <| hl_v (ov_move rfl) rfl <| ?_
  refine hl_on rfl rfl <| hl_c Tryz.call32 rfl rfl (fun w1 H1 => Own.callp (sto sb g 44 s1) H1 fun D' hold hin H2 => SEpoch_spec D' w1 sb g 44 s1 H2) ?_
  refine hl_on rfl rfl <| hl_v (ov_neq rfl rfl) rfl <| hl_v (ov_pickF rfl rfl) rfl <| hl_v (ov_move rfl) rfl <| ?_
  refine hl_partF (t := 31) rfl ((by omega)) ?_
  refine hl_on rfl rfl <| hl_v (ov_move rfl) rfl <| hl_on rfl rfl <| hl_v (ov_buildSN rfl rfl) rfl <| ?_
  refine hl_on rfl rfl <| hl_new (on_buildSliceN rfl rfl rfl) rfl rfl rfl fun b34 =>  ?_
  refine hl_on rfl rfl <| hl_c Tryz.call19 rfl rfl (fun w1 H1 => Own.callp2 (sto sb g 44 s1) (dsk g s1.S []) H1 fun D' hold hin H2 => (Commit_spec D' w1 sb g 44 s1 _ lA k1 (by decide) (by omega) (by decide) (hin _ fun h hs ho => rep_lits (b := b34) hs lA (repL_F.2 ⟨rfl, lA_ok⟩) (by decide)) H2).mono fun e w' ⟨he, H'⟩ => ⟨(by rw [f1] at he; exact he : e = .returned (.int .i64 0)), show Own D' w1 w' [sto sb g 44 s2, dsk g s2.S []] by rw [f1] at H'; exact H'⟩) ?_
  refine hl_on rfl rfl <| hl_v (ov_neq rfl rfl) rfl <| hl_v (ov_pickF rfl rfl) rfl <| hl_v (ov_move rfl) rfl <| ?_
  refine hl_partF (t := 38) rfl ((fun h => h rfl)) ?_
  refine hl_on rfl rfl <| hl_v (ov_move rfl) rfl <| hl_on rfl rfl <| hl_v (ov_buildSN rfl rfl) rfl <| ?_
  refine hl_on rfl rfl <| hl_new (on_buildSliceN rfl rfl rfl) rfl rfl rfl fun b41 =>  ?_
  refine hl_on rfl rfl <| hl_c Tryz.call19 rfl rfl (fun w1 H1 => Own.callp2 (sto sb g 44 s2) (dsk g s2.S []) H1 fun D' hold hin H2 => (Commit_spec D' w1 sb g 44 s2 _ lB f2 (by decide) (by omega) (by decide) (hin _ fun h hs ho => rep_lits (b := b41) hs lB (repL_F.2 ⟨rfl, lB_ok⟩) (by decide)) H2).mono fun e w' ⟨he, H'⟩ => ⟨(by rw [f6] at he; exact he : e = .returned (.int .i64 14)), show Own D' w1 w' [sto sb g 44 s2, dsk g s2.S []] by rw [f6] at H'; exact H'⟩) ?_
  refine hl_on rfl rfl <| hl_v (ov_neq rfl rfl) rfl <| hl_v (ov_pickF rfl rfl) rfl <| zn <| ?_
  refine hc_cond_F rfl ((fun h => h rfl)) ?_
  refine zk <| zg <| hl_v (ov_move rfl) rfl <| ?_
  refine hl_c Tryz.call25 rfl rfl (fun w1 H1 => Own.callp (dsk g s2.S []) H1 fun D' hold hin H2 => Crash_none D' w1 g s2.S H2) ?_
  refine zn <| zg <| hl_v (ov_move rfl) rfl <| ?_
  refine hl_call (σ := Nat) Tryz.call17 rfl rfl (fun w1 H1 => Own.callpx (dsk g s2.S []) H1 fun D' hold hin H2 => SOpen_old D' w1 g 44 s2 2 f2 (by decide) (by omega) (by decide) (by decide) hpl H2) ?_
  intro tb
  refine hl_v (ov_move rfl) rfl <| hl_v (ov_extract rfl rfl) rfl <| hl_v (ov_extract rfl rfl) rfl <| hl_v (ov_assign rfl) rfl <| hl_v (ov_assign rfl) rfl <| hl_nil <| ?_
  refine hx_then_normal <| zg <| hl_v (ov_move rfl) rfl <| hl_v (ov_eql rfl rfl) rfl <| hl_v (ov_move rfl) rfl <| ?_
  refine hl_partT (t := 54) rfl (rfl) ?_
  refine hl_on rfl rfl <| hl_v (ov_move rfl) rfl <| hl_on rfl rfl <| hl_v (ov_neqP rfl rfl) rfl <| hl_v (ov_pickT rfl rfl) rfl <| hl_v (ov_move rfl) rfl <| ?_
  refine hl_on rfl rfl <| hl_v (ov_move rfl) rfl <| ?_
  refine hl_on rfl rfl <| hl_call (σ := Three) Tryz.call26 rfl rfl (fun w1 H1 => Own.callpx (sto tb g 44 s2) H1 fun D' hold hin H2 => SConfig_spec D' w1 tb g 44 s2 f2.okc H2) ?_
  intro q1
  refine hl_on rfl rfl <| hl_v (ov_field rfl rfl) rfl <| hl_on rfl rfl <| hl_v (ov_eql rfl rfl) rfl <| hl_v (ov_pickT rfl rfl) rfl <| hl_v (ov_move rfl) rfl <| ?_
  refine hl_partT (t := 64) rfl ((by rw [f3]; rfl)) ?_
  refine hl_on rfl rfl <| hl_v (ov_move rfl) rfl <| ?_
  refine hl_on rfl rfl <| hl_call (σ := Three) Tryz.call26 rfl rfl (fun w1 H1 => Own.callpx (sto tb g 44 s2) H1 fun D' hold hin H2 => SConfig_spec D' w1 tb g 44 s2 f2.okc H2) ?_
  intro q2
  refine hl_on rfl rfl <| hl_v (ov_field rfl rfl) rfl <| hl_on rfl rfl <| hl_v za15 rfl <| ?_
  refine hl_on rfl rfl <| hl_v (ov_eql rfl rfl) rfl <| hl_v (ov_pickT rfl rfl) rfl <| hl_v (ov_move rfl) rfl <| ?_
  refine hl_partT (t := 71) rfl ((by omega)) ?_
  refine hl_on rfl rfl <| hl_v (ov_move rfl) rfl <| ?_
  refine hl_on rfl rfl <| hl_c Tryz.call32 rfl rfl (fun w1 H1 => Own.callp (sto tb g 44 s2) H1 fun D' hold hin H2 => SEpoch_spec D' w1 tb g 44 s2 H2) ?_
  refine hl_on rfl rfl <| hl_v (ov_eql rfl rfl) rfl <| hl_v (ov_pickT rfl rfl) rfl <| hl_v (ov_move rfl) rfl <| ?_
  refine hl_partT (t := 76) rfl ((by omega)) ?_
  refine hl_on rfl rfl <| hl_v (ov_move rfl) rfl <| ?_
  refine hl_on rfl rfl <| hl_c Tryz.call31 rfl rfl (fun w1 H1 => Own.callp2 (sto tb g 44 s2) (dsk g s2.S []) H1 fun D' hold hin H2 => (SSave_spec D' w1 tb g 44 s2 f2 (by omega) H2).mono fun e w' ⟨he, H'⟩ => ⟨he, show Own D' w1 w' [sto tb g 44 s3, dsk g s3.S []] by rw [hs3]; exact H'⟩) ?_
  refine hl_on rfl rfl <| hl_v (ov_eql rfl rfl) rfl <| hl_v (ov_pickT rfl rfl) rfl <| hl_v (ov_move rfl) rfl <| ?_
  refine hl_partT (t := 81) rfl (rfl) ?_
  refine hl_on rfl rfl <| hl_v (ov_move rfl) rfl <| ?_
  refine hl_on rfl rfl <| hl_c Tryz.call32 rfl rfl (fun w1 H1 => Own.callp (sto tb g 44 s3) H1 fun D' hold hin H2 => SEpoch_spec D' w1 tb g 44 s3 H2) ?_
  refine hl_on rfl rfl <| hl_v (ov_eql rfl rfl) rfl <| hl_v (ov_pickT rfl rfl) rfl <| hl_v (ov_assign rfl) rfl <| zn <| hc_ret <| ?_
  exact results_1 (.inr rfl) rfl rfl fun w' H' => ⟨by rw [e3]; rfl, H'.ent (Ent.nil _)⟩
/-! ### Steps -/
abbrev SStep := Int × Int × List EditC
instance : ReadsAs Tryz.prog 74 SStep := ReadsAs.structG 0 (by kernel_rfl) rfl (ReadsG.cons 0 (ReadsG.cons 1 (ReadsG.last 2 (by decide))))
theorem u8_open {D : Nat → Prop} {w : World} {n : UInt8} {v : Value} (h : Old D w (Rep.rep n [v])) : v = .int .u8 n.toNat := by
  obtain ⟨_, _, e⟩ := h
  have e : [v] = [Value.int .u8 n.toNat] := e
  simpa using e
theorem sstep_open {D : Nat → Prop} {w0 : World} {x : SStep} {cs : List Value} (k : Old D w0 (Rep.rep x cs)) : ∃ A cap, cs = [.int .i64 x.1, .int .i64 x.2.1, .slice A x.2.2.length cap] ∧ inI64 x.1 ∧ inI64 x.2.1 ∧ Old D w0 (Rep.rep x.2.2 [.slice A x.2.2.length cap]) := by
  obtain ⟨h, hh, c1, c2, rfl, ⟨rfl, ia⟩, c3, c4, rfl, ⟨rfl, ib⟩, A, cap, rfl, hr2⟩ := k
  exact ⟨A, cap, rfl, ia, ib, h, hh, A, cap, rfl, hr2⟩
def fairS (l : List SStep) : Prop := l.length ≤ 60 ∧ ∀ x ∈ l, x.2.2.length ≤ 40
theorem fair8_spec (D : Nat → Prop) (w : World) (v : Value) (l : List SStep) (HA : Old D w (Rep.rep l [v])) :
    Calls Tryz.prog 28 #[v] w fun e w' => ∃ b : { b : Bool // b = true → fairS l }, e = .returned (.bool b.1) ∧ Own D w w' [] := by
  obtain ⟨A, cap, rfl, hc1, hc2, hel⟩ := HA.openX (by decide)
  refine hc_enter (vs := [.slice A l.length cap]) Tryz.func28 rfl _ Tryz.ntmps28 rfl (Own.start D w) ?_
  simp only [argSlots, Nat.zero_add]
  refine zg <| hl_v (ov_assign rfl) rfl <| zn <| hc_seq <| ?_
  refine zg <| hl_v (ov_assign rfl) rfl <| zn <| hc_block <| ?_
  refine hc_loops1 (σ := Nat) [0] rfl 3 (fun i => .int .i64 i) (fun i => i ≤ l.length ∧ ∀ x ∈ l.take i, x.2.2.length ≤ 40) (fun i => l.length - i) (0) (⟨Nat.zero_le _, by simp⟩) rfl ?_
  rintro i ⟨hi, hok⟩ K1 hK1
  refine hc_seq <| zg <| hl_v (ov_move rfl) rfl <| hl_v (ov_move rfl) rfl <| hl_v za15 rfl <| ?_
  refine hl_v (ov_lss rfl rfl) rfl <| zn <| ?_
  refine hc_cond rfl (fun hlt => ?_) (fun hlt => ?_)
  · have hlt : i < l.length := by omega
    obtain ⟨hA, cs, hx, hcs⟩ := hel i hlt
    obtain ⟨B, capB, rfl, _, _, hu⟩ := sstep_open hx
    have hcl := hcs 2 _ rfl
    rw [show Rep.sz SStep = 3 from rfl] at hcl
    have hsn := List.take_succ_eq_append_getElem hlt
    refine zk <| hc_seq <| hc_block <| zg <| ?_
    refine hl_v (ov_move rfl) rfl <| hl_v (ov_move rfl) rfl <| ?_
    refine hl_v (ov_idxS rfl hA rfl i rfl hlt) rfl ?_
    refine hl_v (ov_fieldA rfl) rfl <| hl_v za5 rfl <| ?_
    refine hl_v za15 rfl <| ?_
    refine hl_v (ov_gtr rfl rfl) rfl <| zn <| ?_
    refine hc_cond rfl (fun hbig => ?_) (fun hbig => ?_)
    · refine zg <| hl_v (ov_assign rfl) rfl <| zn <| hc_ret <| ?_
      refine hx_block_ret <| hx_then_ret <| hx_then_ret <| hx_block_ret <| hx_then_ret <| ?_
      exact results_1 (.inr rfl) rfl rfl fun w' H' => ⟨⟨false, fun h => by cases h⟩, rfl, H'⟩
    have hok' : ∀ x ∈ l.take (i + 1), x.2.2.length ≤ 40 := fun x hx => by
      rw [hsn] at hx
      rcases List.mem_append.1 hx with hx | hx
      · exact hok x hx
      · obtain rfl := List.mem_singleton.1 hx; omega
    refine hc_skip <| hx_block_normal <| hx_then_normal <| hc_region <| hl_v (ov_move rfl) rfl <| hl_v (ov_add rfl rfl za18) rfl <| ?_
    refine hl_v (ov_assign rfl) rfl <| hl_nil <| ?_
    refine hx_next hK1 (i + 1) (⟨by omega, hok'⟩) (by omega) za9 za6
  have hil : i = l.length := by omega
  subst hil
  rw [List.take_length] at hok
  refine hc_exit <| hx_then_exit <| hx_then_exit <| hx_block_out <| hx_then_normal <| hc_seq <| ?_
  refine hc_region <| hl_v (ov_move rfl) rfl <| hl_v za15 rfl <| ?_
  refine hl_v (ov_leq rfl rfl) rfl <| hl_v (ov_assign rfl) rfl <| zn <| hc_ret <| ?_
  exact results_1 (.inr rfl) rfl rfl fun w' H' => ⟨⟨_, fun hb => ⟨by have := of_decide_eq_true hb; omega, hok⟩⟩, rfl, H'⟩
set_option maxHeartbeats 1000000 in
theorem StoreNone_walk (W : World) (c0 : List Value) (v1 : Value) (x : SStep) (n : UInt8) (h0 : Old none' W (Rep.rep x c0)) (hn : Old none' W (Rep.rep n [v1])) :
    Calls Tryz.prog 5 #[.agg c0.toArray, v1] W fun e w' => e = .returned (.bool true) ∧ Own none' W w' [] := by
  obtain ⟨A, cap, rfl, h1, h2, hk⟩ := sstep_open h0
  obtain rfl : v1 = .int .u8 n.toNat := u8_open hn
  obtain ⟨v, hv, hv2⟩ : ∃ v, v = n.toNat ∧ v < 256 := ⟨_, rfl, n.toNat_lt⟩
  rw [← hv]
  refine hc_enter (vs := [.agg #[.int .i64 x.1, .int .i64 x.2.1, .slice A x.2.2.length cap], .int .u8 (v : Int)]) Tryz.func5 rfl _ Tryz.ntmps5 rfl (Own.start none' W) ?_
  simp only [argSlots, Nat.zero_add]
  refine zg <| hl_new (on_boxN rfl rfl) rfl rfl rfl fun b2 =>  ?_
  refine hl_v (ov_assign rfl) rfl <| zn <| hc_seq <| zg <| ?_
  refine hl_v za10 rfl <| ?_
  refine hl_new (on_buildSliceN rfl rfl rfl) rfl rfl rfl fun b13 =>  ?_
  refine hl_call (σ := { b : Bool // b = true → fairS [x] }) Tryz.call28 rfl rfl (fun w1 H1 => Own.callx0 H1 fun D' hold hin H2 => fair8_spec D' w1 _ [x] (hin _ fun h hs ho => rep_lits (b := b13) hs [x] ⟨_, [], rfl, rep_old ho h0, rfl⟩ (by simp))) ?_
  rintro ⟨bv, hbv⟩
  try rw [List.nil_append]
  cases bv
  · skip
    refine hl_v (ov_not rfl) rfl <| zn <| hc_cond_true rfl <| zg <| ?_
    refine hl_c Tryz.call13 rfl rfl (fun w1 H1 => Own.calln H1 fun D' hold hin H2 => wakes8_spec D' w1) ?_
    refine hl_v (ov_assign rfl) rfl <| zn <| hc_ret <| hx_then_ret <| ?_
    exact results_1 (.inr rfl) rfl rfl fun w' H' => ⟨rfl, H'.ent (Ent.nil _)⟩
  skip
  have hf := (hbv rfl).2 x (by simp)
  obtain ⟨m, hm, hm1, hm2⟩ : ∃ m, m = 1 + v % 39 ∧ 1 ≤ m ∧ m ≤ 39 := ⟨_, rfl, by omega, by omega⟩
  refine hl_v (ov_not rfl) rfl <| zn <| hc_cond_false rfl <| zk <| ?_
  refine zg <| hl_v (ov_assign rfl) rfl <| zn <| hc_seq <| ?_
  refine hc_region <| hl_v (ov_move rfl) rfl <| hl_v (ov_conv rfl za18) rfl <| ?_
  refine hl_v (ov_remE (m := v % 39) (b := 39) rfl rfl (by omega) rfl) rfl ?_
  refine hl_v (ov_add rfl rfl za18) rfl <| ?_
  rw [show (1 : Int) + ((v % 39 : Nat) : Int) = (m : Int) by omega]
  refine hl_call (σ := Nat) Tryz.call15 rfl rfl (fun w1 H1 => Own.callx0 H1 fun D' hold hin H2 => New_ok D' w1 m (by omega) (by omega)) ?_
  intro g
  try rw [List.nil_append]
  refine hl_v (ov_move rfl) rfl <| hl_v (ov_extract rfl rfl) rfl <| hl_v (ov_extract rfl rfl) rfl <| hl_v (ov_assign rfl) rfl <| hl_v (ov_assign rfl) rfl <| hl_nil <| ?_
  refine hx_then_normal <| zg <| hl_v (ov_move rfl) rfl <| ?_
  obtain ⟨S0, hS0, hl0⟩ : ∃ S, S = List.replicate m zeroSec ∧ S.length = m := ⟨_, rfl, List.length_replicate⟩
  rw [← hS0]
  refine hl_c Tryz.call17 rfl rfl (fun w1 H1 => Own.callp (dsk g S0 []) H1 fun D' hold hin H2 => SOpen_no D' w1 g S0 2 (.inl (by omega)) H2) ?_
  refine hl_v (ov_move rfl) rfl <| hl_v (ov_extract rfl rfl) rfl <| hl_v (ov_extract rfl rfl) rfl <| hl_v (ov_assign rfl) rfl <| hl_v (ov_assign rfl) rfl <| hl_nil <| ?_
  refine hx_then_normal <| zg <| ?_
  refine hl_c Tryz.call17 rfl rfl (fun w1 H1 => Own.calln H1 fun D' hold hin H2 => SOpen_nil D' w1 2) ?_
  refine hl_v (ov_move rfl) rfl <| hl_v (ov_extract rfl rfl) rfl <| hl_v (ov_extract rfl rfl) rfl <| hl_v (ov_assign rfl) rfl <| hl_v (ov_assign rfl) rfl <| hl_nil <| ?_
  refine hx_then_normal <| zg <| hl_v (ov_move rfl) rfl <| hl_v (ov_eqlP rfl rfl) rfl <| hl_v (ov_move rfl) rfl <| ?_
  refine hl_on rfl rfl <| hl_v (ov_move rfl) rfl <| hl_on rfl rfl <| hl_v (ov_eqlP rfl rfl) rfl <| hl_v (ov_pickT rfl rfl) rfl <| hl_v (ov_move rfl) rfl <| ?_
  refine hl_on rfl rfl <| hl_v (ov_move rfl) rfl <| hl_on rfl rfl <| hl_v (ov_eql rfl rfl) rfl <| hl_v (ov_pickT rfl rfl) rfl <| hl_v (ov_move rfl) rfl <| ?_
  refine hl_partT (t := 44) rfl (rfl) ?_
  refine hl_on rfl rfl <| hl_v (ov_move rfl) rfl <| hl_on rfl rfl <| hl_v (ov_eql rfl rfl) rfl <| hl_v (ov_pickT rfl rfl) rfl <| hl_v (ov_move rfl) rfl <| ?_
  refine hl_partT (t := 48) rfl (rfl) ?_
  refine hl_on rfl rfl <| hl_v (ov_move rfl) rfl <| hl_on rfl rfl <| hl_v (ov_fieldA rfl) rfl <| hl_on rfl rfl <| hl_v (ov_load rfl (CellIs.blk rfl)) rfl <| ?_
  refine hl_on rfl rfl <| hl_c Tryz.call19 rfl rfl (fun w1 H1 => Own.calln H1 fun D' hold hin H2 => Commit_nil D' w1 _) ?_
  refine hl_on rfl rfl <| hl_v (ov_eql rfl rfl) rfl <| hl_v (ov_pickT rfl rfl) rfl <| hl_v (ov_move rfl) rfl <| ?_
  refine hl_partT (t := 55) rfl (rfl) ?_
  refine hl_on rfl rfl <| hl_v (ov_move rfl) rfl <| ?_
  refine hl_on rfl rfl <| hl_c Tryz.call31 rfl rfl (fun w1 H1 => Own.calln H1 fun D' hold hin H2 => SSave_nil D' w1) ?_
  refine hl_on rfl rfl <| hl_v (ov_eql rfl rfl) rfl <| hl_v (ov_pickT rfl rfl) rfl <| hl_v (ov_move rfl) rfl <| ?_
  refine hl_partT (t := 60) rfl (rfl) ?_
  refine hl_on rfl rfl <| hl_v (ov_move rfl) rfl <| ?_
  refine hl_on rfl rfl <| hl_call (σ := Three) Tryz.call26 rfl rfl (fun w1 H1 => Own.callx0 H1 fun D' hold hin H2 => SConfig_nil D' w1) ?_
  intro q1
  try rw [List.nil_append]
  refine hl_on rfl rfl <| hl_v (ov_field rfl rfl) rfl <| hl_on rfl rfl <| hl_v za15 rfl <| ?_
  refine hl_on rfl rfl <| hl_v (ov_eql rfl rfl) rfl <| hl_v (ov_pickT rfl rfl) rfl <| hl_v (ov_move rfl) rfl <| ?_
  refine hl_partT (t := 67) rfl (rfl) ?_
  refine hl_on rfl rfl <| hl_v (ov_move rfl) rfl <| ?_
  refine hl_on rfl rfl <| hl_c Tryz.call32 rfl rfl (fun w1 H1 => Own.calln H1 fun D' hold hin H2 => SEpoch_nil D' w1) ?_
  refine hl_on rfl rfl <| hl_v (ov_eql rfl rfl) rfl <| hl_v (ov_pickT rfl rfl) rfl <| hl_v (ov_move rfl) rfl <| ?_
  refine hl_partT (t := 72) rfl (rfl) ?_
  refine hl_on rfl rfl <| hl_c Tryz.call13 rfl rfl (fun w1 H1 => Own.calln H1 fun D' hold hin H2 => wakes8_spec D' w1) ?_
  refine hl_v (ov_pickT rfl rfl) rfl <| hl_v (ov_assign rfl) rfl <| zn <| hc_ret <| ?_
  exact results_1 (.inr rfl) rfl rfl fun w' H' => ⟨rfl, H'.ent (Ent.nil _)⟩
end Go.Proofs.YtjlolpmmpafjeaaGreat
