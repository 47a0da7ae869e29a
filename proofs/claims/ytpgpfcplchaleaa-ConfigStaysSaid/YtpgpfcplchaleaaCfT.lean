import Derived.Test.YtpgpfcplchaleaaCfP
set_option linter.unusedVariables false
set_option linter.unusedSimpArgs false
namespace Go.Proofs.Ytpgpfcplchaleaa
open Slk
theorem ConfigStays_walk (W : World) (c0 : List Value) (v1 v2 : Value) (c : ConfC) (l : List EditC) (cut : Int) (h0 : Old none' W (Rep.rep c c0)) (h1 : Old none' W (Rep.rep l [v1])) (h2 : Old none' W (Rep.rep cut [v2])) :
    Calls Try.prog 10 #[.agg c0.toArray, v1, v2] W fun e w' => e = .returned (.bool true) ∧ Own none' W w' [] := by
  obtain ⟨Ap, cp, Av, cv, As, cx, rfl, HCo⟩ := conf_open h0
  obtain ⟨Al, cl, hv1, hl1, hl2, HSl, hlok⟩ := h1.openF
  subst hv1
  obtain ⟨hh, _, e2, hn⟩ := h2
  obtain rfl : v2 = .int .i64 cut := by simpa using e2
  refine hc_enter (vs := [.agg (cfgV c (.slice Ap c.2.2.2.1.length cp) (.slice Av c.2.2.2.2.1.length cv) (.slice As c.2.2.2.2.2.length cx)).toArray, .slice Al l.length cl, .int .i64 cut]) Try.func10 rfl _ Try.ntmps10 rfl (Own.start none' W) ?_
  simp only [argSlots, Nat.zero_add]
  refine hc_seq <| hc_region <| hl_new (on_boxN rfl rfl) rfl rfl rfl fun b3 =>  ?_
  refine hl_v (ov_assign rfl) rfl <| hl_nil <| hx_then_normal <| hc_seq <| hc_seq <| hc_region <| ?_
  refine hl_v (by first | exact ov_loadW rfl (by simp; done) | exact ov_loadGB rfl rfl) rfl <| ?_
  refine hl_call (σ := BIff (c.2.2.2.1.length ≤ 20 ∧ c.2.2.2.2.1.length ≤ 40 ∧ c.2.2.2.2.2.length ≤ 40)) Try.call15 rfl rfl (fun w1 H1 => Own.callx0 H1 fun D' hold hin H2 => Fair_spec D' w1 c.1 c.2.1 c.2.2.1 Ap Av As c.2.2.2.1.length cp c.2.2.2.2.1.length cv c.2.2.2.2.2.length cx) ?_
  intro f
  try rw [List.nil_append]
  refine hl_v (by first | exact ov_notd rfl | exact ov_not rfl) rfl <| ?_
  refine hl_v (ov_move rfl) rfl <| ?_
  refine hl_partb (t := 19) rfl (fun a1 => ?_) (fun a1 => ?_)
  · refine hl_off rfl rfl rfl rfl rfl rfl <| hl_off rfl rfl rfl rfl rfl rfl <| hl_off rfl rfl rfl rfl rfl rfl <| hl_v (ov_pickT rfl rfl) rfl <| hl_nil <| hx_then_normal <| ?_
    refine hc_cond_true rfl <| hc_seq <| hc_region <| ?_
    refine hl_c Try.call28 rfl rfl (fun w1 H1 => Own.calln H1 fun D' hold hin H2 => wakes5_spec D' w1) ?_
    refine hl_v (ov_assign rfl) rfl <| hl_nil <| hx_then_normal <| hc_ret <| hx_then_ret <| ?_
    exact results_1 (.inr rfl) rfl rfl fun w' H' => ⟨rfl, H'.ent (Ent.nil _)⟩
  have hf := f.2.1 (by simpa using a1)
  have HCf := HCo (by omega) (by omega) (by omega)
  have hokc := HCf.okC
  obtain ⟨_, _, hcv, _, _, HSv, _⟩ := HCf.v.openF
  have HSv : OldS none' W Av (c.2.2.2.2.1.flatMap vlanV) := by injection hcv with e1 e2 e3; rw [e1]; exact HSv
  refine hl_on rfl rfl <| hl_v (ov_move rfl) rfl <| hl_on rfl rfl <| hl_v (by first | exact ov_len rfl | exact ov_lenS rfl) rfl <| ?_
  refine hl_on rfl rfl <| hl_v (ov_gtr rfl rfl) rfl <| hl_v (ov_pickF rfl rfl) rfl <| hl_nil <| hx_then_normal <| ?_
  refine hc_cond rfl (fun a2 => ?_) (fun a2 => ?_)
  · refine hc_seq <| hc_region <| ?_
    refine hl_c Try.call28 rfl rfl (fun w1 H1 => Own.calln H1 fun D' hold hin H2 => wakes5_spec D' w1) ?_
    refine hl_v (ov_assign rfl) rfl <| hl_nil <| hx_then_normal <| hc_ret <| hx_then_ret <| ?_
    exact results_1 (.inr rfl) rfl rfl fun w' H' => ⟨rfl, H'.ent (Ent.nil _)⟩
  have hl32 : l.length ≤ 32 := by omega
  refine hc_skip <| hx_then_normal <| hc_seq <| hc_region <| hl_v (by first | exact ov_loadW rfl (by simp; done) | exact ov_loadGB rfl rfl) rfl <| ?_
  refine hl_v (ov_move rfl) rfl <| ?_
  refine hl_call (σ := EditT c l) Try.call36 rfl rfl (fun w1 H1 => Own.callx0 H1 fun D' hold hin H2 => Edit_spec D' w1 c _ _ _ _ l (by omega) (HCf.hold hold) (hold _ h1)) ?_
  intro r1
  try rw [List.nil_append]
  refine hl_v (ov_move rfl) rfl <| hl_v (ov_extract rfl rfl) rfl <| hl_v (ov_extract rfl rfl) rfl <| hl_new (on_alloc) rfl rfl rfl fun b7 =>  ?_
  refine hl_u0 (on_storeW (vs := cfgA r1.1.2.1 r1.1.1) rfl rfl rfl (by simp) (by simp [Value.oneCell'])) rfl rfl ?_
  have ok1 := editR_ok r1.2 hokc hlok
  obtain ⟨⟨q1, c1, e1⟩, hs1⟩ := r1
  have hs1 : EditR c l (c1, e1) := hs1
  dsimp only at ok1 ⊢
  refine hl_v (ov_assign rfl) rfl <| hl_nil <| hx_then_normal <| hc_seq <| hc_seq <| ?_
  refine hc_cuts1 (σ := Unit) [1, 2, 3, 7, 8] rfl 37 (fun _u => .bool false) (fun K1 hK1 => ?_) (fun _u => ?_)
  · refine hc_region <| hl_v (ov_move rfl) rfl <| hl_v (ov_eql rfl rfl) rfl <| hl_v (ov_move rfl) rfl <| ?_
    refine hl_part (t := 33) rfl (fun a3 => ?_) (fun a3 => ?_)
    · refine hl_on rfl rfl <| hl_v (by first | exact ov_loadW rfl (by simp; done) | exact ov_loadGB rfl rfl) rfl <| ?_
      refine hl_on rfl rfl <| hl_call (σ := BIff (goodP c1)) Try.call32 rfl rfl (fun w1 H1 => Own.callx0 H1 fun D' hold hin H2 => Good_spec D' w1 c1 _ _ _ (ConfOld.rows (q := q1) ok1 hin)) ?_
      intro g1
      try rw [List.nil_append]
      have hg1 : g1.1 = true := g1.2.2 (hs1.zero a3).2.2.2
      rw [hg1]
      refine hl_on rfl rfl <| hl_v (by first | exact ov_notd rfl | exact ov_not rfl) rfl <| ?_
      refine hl_v (ov_pickT rfl rfl) rfl <| hl_nil <| ?_
      refine hx_cut hK1 (()) (by repeat (first | exact Slots.sub_nil _ | refine Slots.sub_cons rfl ?_)) (by first | assumption | exact Ent.refl _ | exact Ent.nil _ | (repeat (first | exact Ent.refl _ | exact Ent.nil _ | refine Ent.pick ?_)))
    refine hl_off rfl rfl rfl rfl rfl rfl <| hl_off rfl rfl rfl rfl rfl rfl <| hl_off rfl rfl rfl rfl rfl rfl <| hl_v (ov_pickF rfl rfl) rfl <| hl_nil <| ?_
    refine hx_cut hK1 (()) (by repeat (first | exact Slots.sub_nil _ | refine Slots.sub_cons rfl ?_)) (by first | assumption | exact Ent.refl _ | exact Ent.nil _ | (repeat (first | exact Ent.refl _ | exact Ent.nil _ | refine Ent.pick ?_)))
  refine hx_then_normal <| ?_
  refine hc_cond_false rfl ?_
  refine hc_skip <| hx_then_normal <| hc_seq <| hc_region <| hl_v (ov_move rfl) rfl <| hl_v (ov_move rfl) rfl <| ?_
  refine hl_v (by first | exact ov_len rfl | exact ov_lenS rfl) rfl <| ?_
  refine hl_v (ov_add rfl rfl (by first | exact wrap_i64 (by omega) | rfl)) rfl <| ?_
  refine hl_c Try.call38 rfl rfl (fun w1 H1 => Own.calln H1 fun D' hold hin H2 => Mod_spec D' w1 cut (l.length + 1) hn (by unfold inI64; omega) (by omega)) ?_
  obtain ⟨k, hk⟩ : ∃ k : Nat, (k : Int) = (if ((l.length + 1 : Int)) < 1 then 0 else cut % (l.length + 1 : Int)) := ⟨(cut % (l.length + 1 : Int)).toNat, by rw [if_neg (by omega)]; have := Int.emod_nonneg cut (show (l.length + 1 : Int) ≠ 0 by omega); omega⟩
  have hkl : k ≤ l.length := by
    rw [if_neg (by omega)] at hk
    have := Int.emod_lt_of_pos cut (show (0 : Int) < (l.length + 1 : Int) by omega); omega
  rw [← hk]
  have hTk := oldCut h1 0 k (by omega) hkl
  have hDk := oldCut h1 k l.length hkl (by omega)
  rw [cut0, List.drop_zero, Nat.sub_zero, Nat.sub_zero] at hTk
  rw [List.take_of_length_le (by rw [List.length_drop]; omega)] at hDk
  refine hl_v (ov_assign rfl) rfl <| hl_nil <| hx_then_normal <| hc_seq <| ?_
  refine hc_cutK2 (σ := EditT c (l.take k) × Nat) [1, 3, 7, 8, 9] rfl 10 (fun q => .pointer (some ⟨q.2, 0, none⟩)) 11 (fun q => .int .i64 q.1.1.2.2) (fun q => blk q.2 26 (cfgA q.1.1.2.1 q.1.1.1) :: cfgR q.1.1.2.1 q.1.1.1 ++ ([blk b7 26 (cfgA c1 q1), blk b3 26 (cfgV c (.slice Ap c.2.2.2.1.length cp) (.slice Av c.2.2.2.2.1.length cv) (.slice As c.2.2.2.2.2.length cx))] ++ cfgR c1 q1)) (fun K2 hK2 => ?_) (fun q => ?_)
  · refine hc_any [blk b3 26 (cfgV c (.slice Ap c.2.2.2.1.length cp) (.slice Av c.2.2.2.2.1.length cv) (.slice As c.2.2.2.2.2.length cx))] mixed 11 rfl ?_
    refine ha_v 0 rfl (by first | exact ov_loadW rfl (by simp; done) | exact ov_loadGB rfl rfl) rfl <| ?_
    refine ha_v 1 rfl (ov_move rfl) rfl <| ?_
    refine ha_v 2 rfl (ov_move rfl) rfl <| ?_
    refine ha_v 3 rfl (ov_slTo rfl k rfl (by omega)) rfl ?_
    refine ha_two 4 8 (by kernel_rfl) ?_ ?_
    · skip
      refine ho_kx (σ := EditT c (l.take k)) rfl Try.call36 rfl (fun w1 H1 => Own.callx0 H1 fun D' hold hin H2 => Edit_spec D' w1 c _ _ _ _ (l.take k) (by rw [List.length_take]; omega) (HCf.hold hold) (hold _ hTk)) ?_
      intro r2
      try rw [List.nil_append]
      refine ha_v 5 rfl (ov_move rfl) rfl <| ?_
      refine ha_v 6 rfl (ov_extract rfl rfl) rfl <| ?_
      refine ha_v 7 rfl (ov_extract rfl rfl) rfl <| ?_
      refine ha_one 8 (by kernel_rfl) <| ?_
      refine ho_n rfl (on_alloc) rfl fun b10 =>  ?_
      refine ha_one 9 (by kernel_rfl) <| ?_
      refine ho_w0 rfl (on_storeW (vs := cfgA r2.1.2.1 r2.1.1) rfl rfl rfl (by simp) (by simp [Value.oneCell'])) rfl ?_
      refine ha_v 10 rfl (ov_assign rfl) rfl <| ?_
      refine ha_done (by kernel_rfl) <| ?_
      refine hx_cut hK2 ((r2, b10)) (by repeat (first | exact Slots.sub_nil _ | refine Slots.sub_cons rfl ?_)) (by first | assumption | exact Ent.refl _ | exact Ent.nil _ | (repeat (first | exact Ent.refl _ | exact Ent.nil _ | refine Ent.pick ?_)))
    skip
    refine ho_n rfl (on_alloc) rfl fun b10 =>  ?_
    refine ha_one 4 (by kernel_rfl) <| ?_
    refine ho_kx (σ := EditT c (l.take k)) rfl Try.call36 rfl (fun w1 H1 => Own.callx0 H1 fun D' hold hin H2 => Edit_spec D' w1 c _ _ _ _ (l.take k) (by rw [List.length_take]; omega) (HCf.hold hold) (hold _ hTk)) ?_
    intro r2
    try rw [List.nil_append]
    refine ha_v 5 rfl (ov_move rfl) rfl <| ?_
    refine ha_v 6 rfl (ov_extract rfl rfl) rfl <| ?_
    refine ha_v 7 rfl (ov_extract rfl rfl) rfl <| ?_
    refine ha_one 9 (by kernel_rfl) <| ?_
    refine ho_w0 rfl (on_storeW (vs := cfgA r2.1.2.1 r2.1.1) rfl rfl rfl (by simp) (by simp [Value.oneCell'])) rfl ?_
    refine ha_v 10 rfl (ov_assign rfl) rfl <| ?_
    refine ha_done (by kernel_rfl) <| ?_
    refine hx_cut hK2 ((r2, b10)) (by repeat (first | exact Slots.sub_nil _ | refine Slots.sub_cons rfl ?_)) (by first | assumption | exact Ent.refl _ | exact Ent.nil _ | (repeat (first | exact Ent.refl _ | exact Ent.nil _ | refine Ent.pick ?_)))
  obtain ⟨r2, bA⟩ := q
  have ok2 := editR_ok r2.2 hokc (fun x hx => hlok x (List.mem_of_mem_take hx))
  obtain ⟨⟨q2, c2, e2⟩, hs2⟩ := r2
  have hs2 : EditR c (l.take k) (c2, e2) := hs2
  dsimp only at ok2 ⊢
  refine hx_then_normal <| hc_seq <| hc_seq <| hc_region <| hl_v (ov_move rfl) rfl <| hl_v (ov_eql rfl rfl) rfl <| ?_
  refine hl_nil <| hx_then_normal <| ?_
  refine hc_cond rfl (fun a4 => ?_) (fun a4 => ?_)
  · refine hc_seq <| ?_
    refine hc_cutK2 (σ := EditT c2 (l.drop k) × Nat) [3, 7, 8] rfl 12 (fun q => .pointer (some ⟨q.2, 0, none⟩)) 13 (fun q => .int .i64 q.1.1.2.2) (fun q => blk q.2 26 (cfgA q.1.1.2.1 q.1.1.1) :: cfgR q.1.1.2.1 q.1.1.1 ++ (blk bA 26 (cfgA c2 q2) :: cfgR c2 q2 ++ ([blk b7 26 (cfgA c1 q1), blk b3 26 (cfgV c (.slice Ap c.2.2.2.1.length cp) (.slice Av c.2.2.2.2.1.length cv) (.slice As c.2.2.2.2.2.length cx))] ++ cfgR c1 q1))) (fun K3 hK3 => ?_) (fun q => ?_)
    · refine hc_any [blk bA 26 (cfgA c2 q2)] mixed 11 rfl ?_
      refine ha_v 0 rfl (by first | exact ov_loadW rfl (by simp; done) | exact ov_loadGB rfl rfl) rfl <| ?_
      refine ha_v 1 rfl (ov_move rfl) rfl <| ?_
      refine ha_v 2 rfl (ov_move rfl) rfl <| ?_
      refine ha_v 3 rfl (ov_slice rfl k l.length (.inr ⟨_, _, rfl, rfl⟩) (.inl ⟨rfl, rfl⟩) hkl (by omega)) rfl ?_
      refine ha_two 4 8 (by kernel_rfl) ?_ ?_
      · skip
        refine ho_kx (σ := EditT c2 (l.drop k)) rfl Try.call36 rfl (fun w1 H1 => Own.callx0 H1 fun D' hold hin H2 => Edit_spec D' w1 c2 _ _ _ _ (l.drop k) (by rw [List.length_drop]; omega) (ConfOld.rows (q := q2) ok2 hin) (hold _ hDk)) ?_
        intro r3
        try rw [List.nil_append]
        refine ha_v 5 rfl (ov_move rfl) rfl <| ?_
        refine ha_v 6 rfl (ov_extract rfl rfl) rfl <| ?_
        refine ha_v 7 rfl (ov_extract rfl rfl) rfl <| ?_
        refine ha_one 8 (by kernel_rfl) <| ?_
        refine ho_n rfl (on_alloc) rfl fun b12 =>  ?_
        refine ha_one 9 (by kernel_rfl) <| ?_
        refine ho_w0 rfl (on_storeW (vs := cfgA r3.1.2.1 r3.1.1) rfl rfl rfl (by simp) (by simp [Value.oneCell'])) rfl ?_
        refine ha_v 10 rfl (ov_assign rfl) rfl <| ?_
        refine ha_done (by kernel_rfl) <| ?_
        refine hx_cut hK3 ((r3, b12)) (by repeat (first | exact Slots.sub_nil _ | refine Slots.sub_cons rfl ?_)) (by first | assumption | exact Ent.refl _ | exact Ent.nil _ | (repeat (first | exact Ent.refl _ | exact Ent.nil _ | refine Ent.pick ?_)))
      skip
      refine ho_n rfl (on_alloc) rfl fun b12 =>  ?_
      refine ha_one 4 (by kernel_rfl) <| ?_
      refine ho_kx (σ := EditT c2 (l.drop k)) rfl Try.call36 rfl (fun w1 H1 => Own.callx0 H1 fun D' hold hin H2 => Edit_spec D' w1 c2 _ _ _ _ (l.drop k) (by rw [List.length_drop]; omega) (ConfOld.rows (q := q2) ok2 hin) (hold _ hDk)) ?_
      intro r3
      try rw [List.nil_append]
      refine ha_v 5 rfl (ov_move rfl) rfl <| ?_
      refine ha_v 6 rfl (ov_extract rfl rfl) rfl <| ?_
      refine ha_v 7 rfl (ov_extract rfl rfl) rfl <| ?_
      refine ha_one 9 (by kernel_rfl) <| ?_
      refine ho_w0 rfl (on_storeW (vs := cfgA r3.1.2.1 r3.1.1) rfl rfl rfl (by simp) (by simp [Value.oneCell'])) rfl ?_
      refine ha_v 10 rfl (ov_assign rfl) rfl <| ?_
      refine ha_done (by kernel_rfl) <| ?_
      refine hx_cut hK3 ((r3, b12)) (by repeat (first | exact Slots.sub_nil _ | refine Slots.sub_cons rfl ?_)) (by first | assumption | exact Ent.refl _ | exact Ent.nil _ | (repeat (first | exact Ent.refl _ | exact Ent.nil _ | refine Ent.pick ?_)))
    obtain ⟨r3, bB⟩ := q
    have ok3 := editR_ok r3.2 ok2 (fun x hx => hlok x (List.mem_of_mem_drop hx))
    obtain ⟨⟨q3, c3, e3⟩, hs3⟩ := r3
    have hs3 : EditR c2 (l.drop k) (c3, e3) := hs3
    obtain ⟨htw, htw2⟩ := editR_two hl32 hs1 hs2 a4 hs3
    have htw : e3 = 0 ↔ e1 = 0 := htw
    have htw2 : e1 = 0 → c3 = c1 := htw2
    dsimp only at ok3 ⊢
    refine hx_then_normal <| hc_seq <| hc_region <| hl_v (ov_move rfl) rfl <| hl_v (ov_eql rfl rfl) rfl <| hl_v (ov_move rfl) rfl <| ?_
    refine hl_v (ov_eql rfl rfl) rfl <| hl_v (ov_neqB rfl rfl) rfl <| hl_v (ov_move rfl) rfl <| ?_
    refine hl_partF (t := 66) rfl ((by by_cases h : e1 = 0 <;> simp [h, htw])) ?_
    refine hl_on rfl rfl <| hl_v (ov_move rfl) rfl <| hl_on rfl rfl <| hl_v (ov_eql rfl rfl) rfl <| hl_on rfl rfl <| hl_v (ov_move rfl) rfl <| ?_
    refine hl_part (t := 69) rfl (fun a5 => ?_) (fun a5 => ?_)
    · obtain rfl := htw2 a5
      refine hl_on rfl rfl <| hl_v (by first | exact ov_loadW rfl (by simp; done) | exact ov_loadGB rfl rfl) rfl <| ?_
      refine hl_on rfl rfl <| hl_v (by first | exact ov_loadW rfl (by simp; done) | exact ov_loadGB rfl rfl) rfl <| ?_
      refine hl_on rfl rfl <| hl_call (σ := BIff (c3 = c3)) Try.call34 rfl rfl (fun w1 H1 => Own.callx0 H1 fun D' hold hin H2 => Same_spec D' w1 c3 c3 _ _ _ _ _ _ (ConfOld.rows (q := q3) ok3 hin) (ConfOld.rows (q := q1) ok1 hin)) ?_
      intro s3
      try rw [List.nil_append]
      have hs3t : s3.1 = true := s3.2.2 rfl
      rw [hs3t]
      refine hl_on rfl rfl <| hl_v (by first | exact ov_notd rfl | exact ov_not rfl) rfl <| ?_
      refine hl_on rfl rfl <| hl_v (ov_pickT rfl rfl) rfl <| hl_v (ov_pickF rfl rfl) rfl <| hl_nil <| hx_then_normal <| ?_
      refine hc_cond_false rfl ?_
      refine hc_skip <| hx_then_normal <| hc_seq <| hc_region <| hl_v (by first | exact ov_loadW rfl (by simp; done) | exact ov_loadGB rfl rfl) rfl <| ?_
      refine hl_v (ov_buildSN rfl rfl) rfl <| ?_
      refine hl_v (ov_buildSN rfl rfl) rfl <| ?_
      refine hl_new (on_buildSliceN rfl rfl rfl) rfl rfl rfl fun b80 =>  ?_
      refine hl_call (σ := EditT c lvd) Try.call36 rfl rfl (fun w1 H1 => Own.callx0 H1 fun D' hold hin H2 => Edit_spec D' w1 c _ _ _ _ lvd (by decide) (HCf.hold hold) (hin _ fun h hs ho => rep_lits (b := b80) hs lvd (repL_F.2 ⟨rfl, lvd_ok⟩) (by decide))) ?_
      intro r4
      try rw [List.nil_append]
      refine hl_v (ov_move rfl) rfl <| hl_v (ov_extract rfl rfl) rfl <| hl_v (ov_extract rfl rfl) rfl <| hl_new (on_alloc) rfl rfl rfl fun b14 =>  ?_
      refine hl_u0 (on_storeW (vs := cfgA r4.1.2.1 r4.1.1) rfl rfl rfl (by simp) (by simp [Value.oneCell'])) rfl rfl ?_
      refine hl_v (ov_assign rfl) rfl <| hl_nil <| hx_then_normal <| hc_seq <| hc_seq <| hc_region <| ?_
      refine hl_v (by first | exact ov_loadW rfl (by simp; done) | exact ov_loadGB rfl rfl) rfl <| ?_
      refine hl_call (σ := BIff (goodP c)) Try.call32 rfl rfl (fun w1 H1 => Own.callx0 H1 fun D' hold hin H2 => Good_spec D' w1 c _ _ _ (HCf.hold hold)) ?_
      intro g5
      try rw [List.nil_append]
      refine hl_v (by first | exact ov_notd rfl | exact ov_not rfl) rfl <| ?_
      refine hl_v (ov_move rfl) rfl <| ?_
      refine hl_partb (t := 87) rfl (fun a5 => ?_) (fun a5 => ?_)
      · refine hl_off rfl rfl rfl rfl rfl rfl <| hl_off rfl rfl rfl rfl rfl rfl <| hl_off rfl rfl rfl rfl rfl rfl <| hl_off rfl rfl rfl rfl rfl rfl <| hl_off rfl rfl rfl rfl rfl rfl <| hl_offU rfl rfl rfl rfl rfl <| ?_
        refine hl_offU rfl rfl rfl rfl rfl <| hl_offU rfl rfl rfl rfl rfl <| hl_offU rfl rfl rfl rfl rfl <| hl_offU rfl rfl rfl rfl rfl <| hl_offU rfl rfl rfl rfl rfl <| hl_offU rfl rfl rfl rfl rfl <| ?_
        refine hl_offU rfl rfl rfl rfl rfl <| hl_offU rfl rfl rfl rfl rfl <| hl_offU rfl rfl rfl rfl rfl <| hl_off rfl rfl rfl rfl rfl rfl <| hl_v (ov_pickT rfl rfl) rfl <| hl_nil <| ?_
        refine hx_then_normal <| hc_cond_true rfl <| hc_seq <| hc_region <| ?_
        refine hl_c Try.call28 rfl rfl (fun w1 H1 => Own.calln H1 fun D' hold hin H2 => wakes5_spec D' w1) ?_
        refine hl_v (ov_assign rfl) rfl <| hl_nil <| hx_then_normal <| hc_ret <| hx_then_ret <| ?_
        exact results_1 (.inr rfl) rfl rfl fun w' H' => ⟨rfl, H'.ent (Ent.nil _)⟩
      have hg : goodP c := g5.2.1 (by simpa using a5)
      have hv1 : 1 ≤ c.2.2.2.2.1.length := hg.2.1.1
      obtain ⟨j, hj⟩ : ∃ j, j = c.2.2.2.2.1.length - 1 := ⟨_, rfl⟩
      have hjl : j < c.2.2.2.2.1.length := by omega
      obtain ⟨hA, hcell⟩ := OldS.cells_flat (D := none') (w0 := W) (f := vlanV) (sz := 3) (fun _ => rfl) (by decide) HSv hjl []
      have hcell := fun l' => (OldS.cells_flat (D := none') (w0 := W) (f := vlanV) (sz := 3) (fun _ => rfl) (by decide) HSv hjl l').2
      refine hl_on rfl rfl <| hl_v (ov_fieldA rfl) rfl <| hl_on rfl rfl <| hl_v (ov_load rfl (CellIs.blk rfl)) rfl <| hl_on rfl rfl <| hl_v (by first | exact ov_len rfl | exact ov_lenS rfl) rfl <| ?_
      refine hl_on rfl rfl <| hl_v (ov_gtr rfl rfl) rfl <| hl_on rfl rfl <| hl_v (ov_move rfl) rfl <| ?_
      refine hl_partT (t := 92) rfl ((by omega)) ?_
      refine hl_on rfl rfl <| hl_v (ov_fieldA rfl) rfl <| hl_on rfl rfl <| hl_v (ov_load rfl (CellIs.blk rfl)) rfl <| hl_on rfl rfl <| hl_v (ov_fieldA rfl) rfl <| hl_on rfl rfl <| hl_v (ov_load rfl (CellIs.blk rfl)) rfl <| hl_on rfl rfl <| hl_v (by first | exact ov_len rfl | exact ov_lenS rfl) rfl <| ?_
      refine hl_on rfl rfl <| hl_v (ov_sub rfl rfl (by first | exact wrap_i64 (by omega) | rfl)) rfl <| ?_
      refine hl_on rfl rfl <| hl_v (ov_idxS rfl hA rfl j (by omega) (by omega)) rfl ?_
      refine hl_on rfl rfl <| hl_v (ov_fieldA rfl) rfl <| ?_
      refine hl_on rfl rfl <| hl_v (ov_load rfl ((hcell _).cell (i := 0) rfl)) rfl ?_
      refine hl_on rfl rfl <| hl_v (ov_eql rfl rfl) rfl <| hl_on rfl rfl <| hl_v (ov_pickT rfl rfl) rfl <| hl_v (ov_pickF rfl rfl) rfl <| hl_nil <| hx_then_normal <| ?_
      refine hc_cond rfl (fun a6 => ?_) (fun a6 => ?_)
      · refine hc_seq <| hc_region <| ?_
        refine hl_c Try.call28 rfl rfl (fun w1 H1 => Own.calln H1 fun D' hold hin H2 => wakes5_spec D' w1) ?_
        refine hl_v (ov_assign rfl) rfl <| hl_nil <| hx_then_normal <| hc_ret <| hx_then_ret <| ?_
        exact results_1 (.inr rfl) rfl rfl fun w' H' => ⟨rfl, H'.ent (Ent.nil _)⟩
      have hf4 := r4.2.ok hg (by decide) (fold_vd (hg.below hj hjl (by omega))) hg
      obtain ⟨⟨q4, c4, e4⟩, hs4⟩ := r4
      have hf4 : (c4, e4) = (c, 0) := hf4
      simp only [Prod.mk.injEq] at hf4
      dsimp only
      obtain ⟨rfl, rfl⟩ := hf4
      refine hc_skip <| hx_then_normal <| hc_seq <| hc_region <| hl_v (ov_move rfl) rfl <| hl_v (ov_eql rfl rfl) rfl <| ?_
      refine hl_v (ov_move rfl) rfl <| ?_
      refine hl_partT (t := 108) rfl (rfl) ?_
      refine hl_on rfl rfl <| hl_v (by first | exact ov_loadW rfl (by simp; done) | exact ov_loadGB rfl rfl) rfl <| ?_
      refine hl_on rfl rfl <| hl_v (by first | exact ov_loadW rfl (by simp; done) | exact ov_loadGB rfl rfl) rfl <| ?_
      refine hl_on rfl rfl <| hl_call (σ := BIff (c4 = c4)) Try.call34 rfl rfl (fun w1 H1 => Own.callx0 H1 fun D' hold hin H2 => Same_spec D' w1 c4 c4 _ _ _ _ _ _ (ConfOld.rows (q := q4) hokc hin) (HCf.hold hold)) ?_
      intro s4
      try rw [List.nil_append]
      have hs4 : s4.1 = true := s4.2.2 rfl
      refine hl_v (ov_pickT rfl rfl) rfl <| hl_v (ov_move rfl) rfl <| ?_
      refine hl_partb (t := 113) rfl (fun a7 => ?_) (fun a7 => ?_)
      · skip
        refine hl_on rfl rfl <| hl_c Try.call28 rfl rfl (fun w1 H1 => Own.calln H1 fun D' hold hin H2 => wakes5_spec D' w1) ?_
        refine hl_v (ov_pickT rfl rfl) rfl <| hl_v (ov_assign rfl) rfl <| hl_nil <| hx_then_normal <| hc_ret <| ?_
        exact results_1 (.inr rfl) rfl rfl fun w' H' => ⟨rfl, H'.ent (Ent.nil _)⟩
      rw [hs4] at a7; cases a7
    refine hl_off rfl rfl rfl rfl rfl rfl <| hl_off rfl rfl rfl rfl rfl rfl <| hl_off rfl rfl rfl rfl rfl rfl <| hl_off rfl rfl rfl rfl rfl rfl <| hl_on rfl rfl <| hl_v (ov_pickF rfl rfl) rfl <| hl_v (ov_pickF rfl rfl) rfl <| ?_
    refine hl_nil <| hx_then_normal <| hc_cond_false rfl <| hc_skip <| hx_then_normal <| hc_seq <| ?_
    refine hc_region <| hl_v (by first | exact ov_loadW rfl (by simp; done) | exact ov_loadGB rfl rfl) rfl <| ?_
    refine hl_v (ov_buildSN rfl rfl) rfl <| ?_
    refine hl_v (ov_buildSN rfl rfl) rfl <| ?_
    refine hl_new (on_buildSliceN rfl rfl rfl) rfl rfl rfl fun b80 =>  ?_
    refine hl_call (σ := EditT c lvd) Try.call36 rfl rfl (fun w1 H1 => Own.callx0 H1 fun D' hold hin H2 => Edit_spec D' w1 c _ _ _ _ lvd (by decide) (HCf.hold hold) (hin _ fun h hs ho => rep_lits (b := b80) hs lvd (repL_F.2 ⟨rfl, lvd_ok⟩) (by decide))) ?_
    intro r4
    try rw [List.nil_append]
    refine hl_v (ov_move rfl) rfl <| hl_v (ov_extract rfl rfl) rfl <| hl_v (ov_extract rfl rfl) rfl <| hl_new (on_alloc) rfl rfl rfl fun b14 =>  ?_
    refine hl_u0 (on_storeW (vs := cfgA r4.1.2.1 r4.1.1) rfl rfl rfl (by simp) (by simp [Value.oneCell'])) rfl rfl ?_
    refine hl_v (ov_assign rfl) rfl <| hl_nil <| hx_then_normal <| hc_seq <| hc_seq <| hc_region <| ?_
    refine hl_v (by first | exact ov_loadW rfl (by simp; done) | exact ov_loadGB rfl rfl) rfl <| ?_
    refine hl_call (σ := BIff (goodP c)) Try.call32 rfl rfl (fun w1 H1 => Own.callx0 H1 fun D' hold hin H2 => Good_spec D' w1 c _ _ _ (HCf.hold hold)) ?_
    intro g5
    try rw [List.nil_append]
    refine hl_v (by first | exact ov_notd rfl | exact ov_not rfl) rfl <| ?_
    refine hl_v (ov_move rfl) rfl <| ?_
    refine hl_partb (t := 87) rfl (fun a5 => ?_) (fun a5 => ?_)
    · refine hl_off rfl rfl rfl rfl rfl rfl <| hl_off rfl rfl rfl rfl rfl rfl <| hl_off rfl rfl rfl rfl rfl rfl <| hl_off rfl rfl rfl rfl rfl rfl <| hl_off rfl rfl rfl rfl rfl rfl <| hl_offU rfl rfl rfl rfl rfl <| ?_
      refine hl_offU rfl rfl rfl rfl rfl <| hl_offU rfl rfl rfl rfl rfl <| hl_offU rfl rfl rfl rfl rfl <| hl_offU rfl rfl rfl rfl rfl <| hl_offU rfl rfl rfl rfl rfl <| hl_offU rfl rfl rfl rfl rfl <| ?_
      refine hl_offU rfl rfl rfl rfl rfl <| hl_offU rfl rfl rfl rfl rfl <| hl_offU rfl rfl rfl rfl rfl <| hl_off rfl rfl rfl rfl rfl rfl <| hl_v (ov_pickT rfl rfl) rfl <| hl_nil <| ?_
      refine hx_then_normal <| hc_cond_true rfl <| hc_seq <| hc_region <| ?_
      refine hl_c Try.call28 rfl rfl (fun w1 H1 => Own.calln H1 fun D' hold hin H2 => wakes5_spec D' w1) ?_
      refine hl_v (ov_assign rfl) rfl <| hl_nil <| hx_then_normal <| hc_ret <| hx_then_ret <| ?_
      exact results_1 (.inr rfl) rfl rfl fun w' H' => ⟨rfl, H'.ent (Ent.nil _)⟩
    have hg : goodP c := g5.2.1 (by simpa using a5)
    have hv1 : 1 ≤ c.2.2.2.2.1.length := hg.2.1.1
    obtain ⟨j, hj⟩ : ∃ j, j = c.2.2.2.2.1.length - 1 := ⟨_, rfl⟩
    have hjl : j < c.2.2.2.2.1.length := by omega
    obtain ⟨hA, hcell⟩ := OldS.cells_flat (D := none') (w0 := W) (f := vlanV) (sz := 3) (fun _ => rfl) (by decide) HSv hjl []
    have hcell := fun l' => (OldS.cells_flat (D := none') (w0 := W) (f := vlanV) (sz := 3) (fun _ => rfl) (by decide) HSv hjl l').2
    refine hl_on rfl rfl <| hl_v (ov_fieldA rfl) rfl <| hl_on rfl rfl <| hl_v (ov_load rfl (CellIs.blk rfl)) rfl <| hl_on rfl rfl <| hl_v (by first | exact ov_len rfl | exact ov_lenS rfl) rfl <| ?_
    refine hl_on rfl rfl <| hl_v (ov_gtr rfl rfl) rfl <| hl_on rfl rfl <| hl_v (ov_move rfl) rfl <| ?_
    refine hl_partT (t := 92) rfl ((by omega)) ?_
    refine hl_on rfl rfl <| hl_v (ov_fieldA rfl) rfl <| hl_on rfl rfl <| hl_v (ov_load rfl (CellIs.blk rfl)) rfl <| hl_on rfl rfl <| hl_v (ov_fieldA rfl) rfl <| hl_on rfl rfl <| hl_v (ov_load rfl (CellIs.blk rfl)) rfl <| hl_on rfl rfl <| hl_v (by first | exact ov_len rfl | exact ov_lenS rfl) rfl <| ?_
    refine hl_on rfl rfl <| hl_v (ov_sub rfl rfl (by first | exact wrap_i64 (by omega) | rfl)) rfl <| ?_
    refine hl_on rfl rfl <| hl_v (ov_idxS rfl hA rfl j (by omega) (by omega)) rfl ?_
    refine hl_on rfl rfl <| hl_v (ov_fieldA rfl) rfl <| ?_
    refine hl_on rfl rfl <| hl_v (ov_load rfl ((hcell _).cell (i := 0) rfl)) rfl ?_
    refine hl_on rfl rfl <| hl_v (ov_eql rfl rfl) rfl <| hl_on rfl rfl <| hl_v (ov_pickT rfl rfl) rfl <| hl_v (ov_pickF rfl rfl) rfl <| hl_nil <| hx_then_normal <| ?_
    refine hc_cond rfl (fun a6 => ?_) (fun a6 => ?_)
    · refine hc_seq <| hc_region <| ?_
      refine hl_c Try.call28 rfl rfl (fun w1 H1 => Own.calln H1 fun D' hold hin H2 => wakes5_spec D' w1) ?_
      refine hl_v (ov_assign rfl) rfl <| hl_nil <| hx_then_normal <| hc_ret <| hx_then_ret <| ?_
      exact results_1 (.inr rfl) rfl rfl fun w' H' => ⟨rfl, H'.ent (Ent.nil _)⟩
    have hf4 := r4.2.ok hg (by decide) (fold_vd (hg.below hj hjl (by omega))) hg
    obtain ⟨⟨q4, c4, e4⟩, hs4⟩ := r4
    have hf4 : (c4, e4) = (c, 0) := hf4
    simp only [Prod.mk.injEq] at hf4
    dsimp only
    obtain ⟨rfl, rfl⟩ := hf4
    refine hc_skip <| hx_then_normal <| hc_seq <| hc_region <| hl_v (ov_move rfl) rfl <| hl_v (ov_eql rfl rfl) rfl <| ?_
    refine hl_v (ov_move rfl) rfl <| ?_
    refine hl_partT (t := 108) rfl (rfl) ?_
    refine hl_on rfl rfl <| hl_v (by first | exact ov_loadW rfl (by simp; done) | exact ov_loadGB rfl rfl) rfl <| ?_
    refine hl_on rfl rfl <| hl_v (by first | exact ov_loadW rfl (by simp; done) | exact ov_loadGB rfl rfl) rfl <| ?_
    refine hl_on rfl rfl <| hl_call (σ := BIff (c4 = c4)) Try.call34 rfl rfl (fun w1 H1 => Own.callx0 H1 fun D' hold hin H2 => Same_spec D' w1 c4 c4 _ _ _ _ _ _ (ConfOld.rows (q := q4) hokc hin) (HCf.hold hold)) ?_
    intro s4
    try rw [List.nil_append]
    have hs4 : s4.1 = true := s4.2.2 rfl
    refine hl_v (ov_pickT rfl rfl) rfl <| hl_v (ov_move rfl) rfl <| ?_
    refine hl_partb (t := 113) rfl (fun a7 => ?_) (fun a7 => ?_)
    · skip
      refine hl_on rfl rfl <| hl_c Try.call28 rfl rfl (fun w1 H1 => Own.calln H1 fun D' hold hin H2 => wakes5_spec D' w1) ?_
      refine hl_v (ov_pickT rfl rfl) rfl <| hl_v (ov_assign rfl) rfl <| hl_nil <| hx_then_normal <| hc_ret <| ?_
      exact results_1 (.inr rfl) rfl rfl fun w' H' => ⟨rfl, H'.ent (Ent.nil _)⟩
    rw [hs4] at a7; cases a7
  refine hc_skip <| hx_then_normal <| hc_seq <| hc_region <| hl_v (by first | exact ov_loadW rfl (by simp; done) | exact ov_loadGB rfl rfl) rfl <| ?_
  refine hl_v (ov_buildSN rfl rfl) rfl <| ?_
  refine hl_v (ov_buildSN rfl rfl) rfl <| ?_
  refine hl_new (on_buildSliceN rfl rfl rfl) rfl rfl rfl fun b80 =>  ?_
  refine hl_call (σ := EditT c lvd) Try.call36 rfl rfl (fun w1 H1 => Own.callx0 H1 fun D' hold hin H2 => Edit_spec D' w1 c _ _ _ _ lvd (by decide) (HCf.hold hold) (hin _ fun h hs ho => rep_lits (b := b80) hs lvd (repL_F.2 ⟨rfl, lvd_ok⟩) (by decide))) ?_
  intro r4
  try rw [List.nil_append]
  refine hl_v (ov_move rfl) rfl <| hl_v (ov_extract rfl rfl) rfl <| hl_v (ov_extract rfl rfl) rfl <| hl_new (on_alloc) rfl rfl rfl fun b14 =>  ?_
  refine hl_u0 (on_storeW (vs := cfgA r4.1.2.1 r4.1.1) rfl rfl rfl (by simp) (by simp [Value.oneCell'])) rfl rfl ?_
  refine hl_v (ov_assign rfl) rfl <| hl_nil <| hx_then_normal <| hc_seq <| hc_seq <| hc_region <| ?_
  refine hl_v (by first | exact ov_loadW rfl (by simp; done) | exact ov_loadGB rfl rfl) rfl <| ?_
  refine hl_call (σ := BIff (goodP c)) Try.call32 rfl rfl (fun w1 H1 => Own.callx0 H1 fun D' hold hin H2 => Good_spec D' w1 c _ _ _ (HCf.hold hold)) ?_
  intro g5
  try rw [List.nil_append]
  refine hl_v (by first | exact ov_notd rfl | exact ov_not rfl) rfl <| ?_
  refine hl_v (ov_move rfl) rfl <| ?_
  refine hl_partb (t := 87) rfl (fun a5 => ?_) (fun a5 => ?_)
  · refine hl_off rfl rfl rfl rfl rfl rfl <| hl_off rfl rfl rfl rfl rfl rfl <| hl_off rfl rfl rfl rfl rfl rfl <| hl_off rfl rfl rfl rfl rfl rfl <| hl_off rfl rfl rfl rfl rfl rfl <| hl_offU rfl rfl rfl rfl rfl <| ?_
    refine hl_offU rfl rfl rfl rfl rfl <| hl_offU rfl rfl rfl rfl rfl <| hl_offU rfl rfl rfl rfl rfl <| hl_offU rfl rfl rfl rfl rfl <| hl_offU rfl rfl rfl rfl rfl <| hl_offU rfl rfl rfl rfl rfl <| ?_
    refine hl_offU rfl rfl rfl rfl rfl <| hl_offU rfl rfl rfl rfl rfl <| hl_offU rfl rfl rfl rfl rfl <| hl_off rfl rfl rfl rfl rfl rfl <| hl_v (ov_pickT rfl rfl) rfl <| hl_nil <| ?_
    refine hx_then_normal <| hc_cond_true rfl <| hc_seq <| hc_region <| ?_
    refine hl_c Try.call28 rfl rfl (fun w1 H1 => Own.calln H1 fun D' hold hin H2 => wakes5_spec D' w1) ?_
    refine hl_v (ov_assign rfl) rfl <| hl_nil <| hx_then_normal <| hc_ret <| hx_then_ret <| ?_
    exact results_1 (.inr rfl) rfl rfl fun w' H' => ⟨rfl, H'.ent (Ent.nil _)⟩
  have hg : goodP c := g5.2.1 (by simpa using a5)
  have hv1 : 1 ≤ c.2.2.2.2.1.length := hg.2.1.1
  obtain ⟨j, hj⟩ : ∃ j, j = c.2.2.2.2.1.length - 1 := ⟨_, rfl⟩
  have hjl : j < c.2.2.2.2.1.length := by omega
  obtain ⟨hA, hcell⟩ := OldS.cells_flat (D := none') (w0 := W) (f := vlanV) (sz := 3) (fun _ => rfl) (by decide) HSv hjl []
  have hcell := fun l' => (OldS.cells_flat (D := none') (w0 := W) (f := vlanV) (sz := 3) (fun _ => rfl) (by decide) HSv hjl l').2
  refine hl_on rfl rfl <| hl_v (ov_fieldA rfl) rfl <| hl_on rfl rfl <| hl_v (ov_load rfl (CellIs.blk rfl)) rfl <| hl_on rfl rfl <| hl_v (by first | exact ov_len rfl | exact ov_lenS rfl) rfl <| ?_
  refine hl_on rfl rfl <| hl_v (ov_gtr rfl rfl) rfl <| hl_on rfl rfl <| hl_v (ov_move rfl) rfl <| ?_
  refine hl_partT (t := 92) rfl ((by omega)) ?_
  refine hl_on rfl rfl <| hl_v (ov_fieldA rfl) rfl <| hl_on rfl rfl <| hl_v (ov_load rfl (CellIs.blk rfl)) rfl <| hl_on rfl rfl <| hl_v (ov_fieldA rfl) rfl <| hl_on rfl rfl <| hl_v (ov_load rfl (CellIs.blk rfl)) rfl <| hl_on rfl rfl <| hl_v (by first | exact ov_len rfl | exact ov_lenS rfl) rfl <| ?_
  refine hl_on rfl rfl <| hl_v (ov_sub rfl rfl (by first | exact wrap_i64 (by omega) | rfl)) rfl <| ?_
  refine hl_on rfl rfl <| hl_v (ov_idxS rfl hA rfl j (by omega) (by omega)) rfl ?_
  refine hl_on rfl rfl <| hl_v (ov_fieldA rfl) rfl <| ?_
  refine hl_on rfl rfl <| hl_v (ov_load rfl ((hcell _).cell (i := 0) rfl)) rfl ?_
  refine hl_on rfl rfl <| hl_v (ov_eql rfl rfl) rfl <| hl_on rfl rfl <| hl_v (ov_pickT rfl rfl) rfl <| hl_v (ov_pickF rfl rfl) rfl <| hl_nil <| hx_then_normal <| ?_
  refine hc_cond rfl (fun a6 => ?_) (fun a6 => ?_)
  · refine hc_seq <| hc_region <| ?_
    refine hl_c Try.call28 rfl rfl (fun w1 H1 => Own.calln H1 fun D' hold hin H2 => wakes5_spec D' w1) ?_
    refine hl_v (ov_assign rfl) rfl <| hl_nil <| hx_then_normal <| hc_ret <| hx_then_ret <| ?_
    exact results_1 (.inr rfl) rfl rfl fun w' H' => ⟨rfl, H'.ent (Ent.nil _)⟩
  have hf4 := r4.2.ok hg (by decide) (fold_vd (hg.below hj hjl (by omega))) hg
  obtain ⟨⟨q4, c4, e4⟩, hs4⟩ := r4
  have hf4 : (c4, e4) = (c, 0) := hf4
  simp only [Prod.mk.injEq] at hf4
  dsimp only
  obtain ⟨rfl, rfl⟩ := hf4
  refine hc_skip <| hx_then_normal <| hc_seq <| hc_region <| hl_v (ov_move rfl) rfl <| hl_v (ov_eql rfl rfl) rfl <| ?_
  refine hl_v (ov_move rfl) rfl <| ?_
  refine hl_partT (t := 108) rfl (rfl) ?_
  refine hl_on rfl rfl <| hl_v (by first | exact ov_loadW rfl (by simp; done) | exact ov_loadGB rfl rfl) rfl <| ?_
  refine hl_on rfl rfl <| hl_v (by first | exact ov_loadW rfl (by simp; done) | exact ov_loadGB rfl rfl) rfl <| ?_
  refine hl_on rfl rfl <| hl_call (σ := BIff (c4 = c4)) Try.call34 rfl rfl (fun w1 H1 => Own.callx0 H1 fun D' hold hin H2 => Same_spec D' w1 c4 c4 _ _ _ _ _ _ (ConfOld.rows (q := q4) hokc hin) (HCf.hold hold)) ?_
  intro s4
  try rw [List.nil_append]
  have hs4 : s4.1 = true := s4.2.2 rfl
  refine hl_v (ov_pickT rfl rfl) rfl <| hl_v (ov_move rfl) rfl <| ?_
  refine hl_partb (t := 113) rfl (fun a7 => ?_) (fun a7 => ?_)
  · skip
    refine hl_on rfl rfl <| hl_c Try.call28 rfl rfl (fun w1 H1 => Own.calln H1 fun D' hold hin H2 => wakes5_spec D' w1) ?_
    refine hl_v (ov_pickT rfl rfl) rfl <| hl_v (ov_assign rfl) rfl <| hl_nil <| hx_then_normal <| hc_ret <| ?_
    exact results_1 (.inr rfl) rfl rfl fun w' H' => ⟨rfl, H'.ent (Ent.nil _)⟩
  rw [hs4] at a7; cases a7
end Go.Proofs.Ytpgpfcplchaleaa
