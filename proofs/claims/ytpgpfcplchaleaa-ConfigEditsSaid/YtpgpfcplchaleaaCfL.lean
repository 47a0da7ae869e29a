import Derived.Test.YtpgpfcplchaleaaCfK
set_option linter.unusedVariables false
set_option linter.unusedSimpArgs false
namespace Go.Proofs.Ytpgpfcplchaleaa
open Slk
theorem ConfigEdits_walk (W : World) (c0 : List Value) (v1 : Value) (c : ConfC) (l : List EditC) (h0 : Old none' W (Rep.rep c c0)) (h1 : Old none' W (Rep.rep l [v1])) :
    Calls Try.prog 9 #[.agg c0.toArray, v1] W fun e w' => e = .returned (.bool true) ∧ Own none' W w' [] := by
  obtain ⟨Ap, cp, Av, cv, As, cx, rfl, HCo⟩ := conf_open h0
  obtain ⟨Al, cl, hv1, hl1, hl2, HSl, hlok⟩ := h1.openF
  have HSl : OldS none' W Al (l.flatMap editV) := HSl
  subst hv1
  refine hc_enter (vs := [.agg (cfgV c (.slice Ap c.2.2.2.1.length cp) (.slice Av c.2.2.2.2.1.length cv) (.slice As c.2.2.2.2.2.length cx)).toArray, .slice Al l.length cl]) Try.func9 rfl _ Try.ntmps9 rfl (Own.start none' W) ?_
  simp only [argSlots, Nat.zero_add]
  refine hc_seq <| hc_region <| hl_new (on_boxN rfl rfl) rfl rfl rfl fun b2 =>  ?_
  refine hl_v (ov_assign rfl) rfl <| hl_nil <| hx_then_normal <| hc_seq <| hc_seq <| hc_region <| ?_
  refine hl_v (by first | exact ov_loadW rfl (by simp; done) | exact ov_loadGB rfl rfl) rfl <| ?_
  refine hl_call (σ := BIff (c.2.2.2.1.length ≤ 20 ∧ c.2.2.2.2.1.length ≤ 40 ∧ c.2.2.2.2.2.length ≤ 40)) Try.call15 rfl rfl (fun w1 H1 => Own.callx0 H1 fun D' hold hin H2 => Fair_spec D' w1 c.1 c.2.1 c.2.2.1 Ap Av As c.2.2.2.1.length cp c.2.2.2.2.1.length cv c.2.2.2.2.2.length cx) ?_
  intro f
  try rw [List.nil_append]
  refine hl_v (by first | exact ov_notd rfl | exact ov_not rfl) rfl <| ?_
  refine hl_v (ov_move rfl) rfl <| ?_
  refine hl_partb (t := 13) rfl (fun a1 => ?_) (fun a1 => ?_)
  · refine hl_off rfl rfl rfl rfl rfl rfl <| hl_off rfl rfl rfl rfl rfl rfl <| hl_off rfl rfl rfl rfl rfl rfl <| hl_v (ov_pickT rfl rfl) rfl <| hl_nil <| hx_then_normal <| ?_
    refine hc_cond_true rfl <| hc_seq <| hc_region <| ?_
    refine hl_c Try.call28 rfl rfl (fun w1 H1 => Own.calln H1 fun D' hold hin H2 => wakes5_spec D' w1) ?_
    refine hl_v (ov_assign rfl) rfl <| hl_nil <| hx_then_normal <| hc_ret <| hx_then_ret <| ?_
    exact results_1 (.inr rfl) rfl rfl fun w' H' => ⟨rfl, H'.ent (Ent.nil _)⟩
  have hf := f.2.1 (by simpa using a1)
  have HCf := HCo (by omega) (by omega) (by omega)
  have hokc := HCf.okC
  refine hl_on rfl rfl <| hl_v (ov_move rfl) rfl <| hl_on rfl rfl <| hl_v (by first | exact ov_len rfl | exact ov_lenS rfl) rfl <| ?_
  refine hl_on rfl rfl <| hl_v (ov_gtr rfl rfl) rfl <| hl_v (ov_pickF rfl rfl) rfl <| hl_nil <| hx_then_normal <| ?_
  refine hc_cond rfl (fun a2 => ?_) (fun a2 => ?_)
  · refine hc_seq <| hc_region <| ?_
    refine hl_c Try.call28 rfl rfl (fun w1 H1 => Own.calln H1 fun D' hold hin H2 => wakes5_spec D' w1) ?_
    refine hl_v (ov_assign rfl) rfl <| hl_nil <| hx_then_normal <| hc_ret <| hx_then_ret <| ?_
    exact results_1 (.inr rfl) rfl rfl fun w' H' => ⟨rfl, H'.ent (Ent.nil _)⟩
  have hl60 : l.length ≤ 60 := by omega
  refine hc_skip <| hx_then_normal <| hc_seq <| hc_region <| hl_v (by first | exact ov_loadW rfl (by simp; done) | exact ov_loadGB rfl rfl) rfl <| ?_
  refine hl_call (σ := Three) Try.call35 rfl rfl (fun w1 H1 => Own.callx0 H1 fun D' hold hin H2 => KCopy_spec D' w1 c _ _ _ (HCf.hold hold)) ?_
  intro q1
  try rw [List.nil_append]
  refine hl_new (on_alloc) rfl rfl rfl fun b5 =>  ?_
  refine hl_u0 (on_storeW (vs := cfgA c q1) rfl rfl rfl (by simp) (by simp [Value.oneCell'])) rfl rfl ?_
  refine hl_nil <| hx_then_normal <| hc_seq <| ?_
  refine hc_cutK2 (σ := EditT c l × Nat) [1, 2, 5] rfl 6 (fun q => .pointer (some ⟨q.2, 0, none⟩)) 7 (fun q => .int .i64 q.1.1.2.2) (fun q => blk q.2 26 (cfgA q.1.1.2.1 q.1.1.1) :: cfgR q.1.1.2.1 q.1.1.1 ++ ([blk b5 26 (cfgA c q1), blk b2 26 (cfgV c (.slice Ap c.2.2.2.1.length cp) (.slice Av c.2.2.2.2.1.length cv) (.slice As c.2.2.2.2.2.length cx))] ++ cfgR c q1)) (fun K1 hK1 => ?_) (fun q => ?_)
  · refine hc_any [blk b5 26 (cfgA c q1)] mixed 11 rfl ?_
    refine ha_v 0 rfl (by first | exact ov_loadW rfl (by simp; done) | exact ov_loadGB rfl rfl) rfl <| ?_
    refine ha_v 2 rfl (ov_move rfl) rfl <| ?_
    refine ha_two 1 8 (by kernel_rfl) ?_ ?_
    · skip
      refine ho_n rfl (on_buildSliceN rfl rfl rfl) rfl fun b23 =>  ?_
      refine ha_two 3 8 (by kernel_rfl) ?_ ?_
      · skip
        first | refine ho_ent (Ent.blk_row (b := b23) 7 0 rfl (by decide)) ?_ | refine ho_ent (Ent.trans (Ent.perm (List.Perm.swap _ _ _)) (Ent.blk_row (b := b23) 7 0 rfl (by decide))) ?_
        refine ho_n rfl (on_appendR (A := some ⟨b23, 0, none⟩) (news := l.flatMap editV) rfl rfl (SrcIs.old HSl) (flat_len (f := editV) (sz := 7) (fun _ => rfl) l) (flat_one editV_one l) (by decide) (by omega)) rfl (fun qA => ?_)
        rw [List.nil_append, Nat.zero_add]
        refine ha_two 4 8 (by kernel_rfl) ?_ ?_
        · skip
          refine ho_kx (σ := EditT c l) rfl Try.call36 rfl (fun w1 H1 => Own.callx0 H1 fun D' hold hin H2 => Edit_spec D' w1 c _ _ _ _ l (by omega) (ConfOld.rows (q := q1) hokc hin) (hin _ fun h hs ho => rep_row (A := qA.1) hs l rfl (repL_F.2 ⟨rfl, hlok⟩))) ?_
          intro r1
          try rw [List.nil_append]
          refine ha_v 5 rfl (ov_move rfl) rfl <| ?_
          refine ha_v 6 rfl (ov_extract rfl rfl) rfl <| ?_
          refine ha_v 7 rfl (ov_extract rfl rfl) rfl <| ?_
          refine ha_one 8 (by kernel_rfl) <| ?_
          refine ho_n rfl (on_alloc) rfl fun b6 =>  ?_
          refine ha_one 9 (by kernel_rfl) <| ?_
          refine ho_w0 rfl (on_storeW (vs := cfgA r1.1.2.1 r1.1.1) rfl rfl rfl (by simp) (by simp [Value.oneCell'])) rfl ?_
          refine ha_v 10 rfl (ov_assign rfl) rfl <| ?_
          refine ha_done (by kernel_rfl) <| ?_
          refine hx_cut hK1 ((r1, b6)) (by repeat (first | exact Slots.sub_nil _ | refine Slots.sub_cons rfl ?_)) (by first | assumption | exact Ent.refl _ | exact Ent.nil _ | (repeat (first | exact Ent.refl _ | exact Ent.nil _ | refine Ent.pick ?_)))
        skip
        refine ho_n rfl (on_alloc) rfl fun b6 =>  ?_
        refine ha_one 4 (by kernel_rfl) <| ?_
        refine ho_kx (σ := EditT c l) rfl Try.call36 rfl (fun w1 H1 => Own.callx0 H1 fun D' hold hin H2 => Edit_spec D' w1 c _ _ _ _ l (by omega) (ConfOld.rows (q := q1) hokc hin) (hin _ fun h hs ho => rep_row (A := qA.1) hs l rfl (repL_F.2 ⟨rfl, hlok⟩))) ?_
        intro r1
        try rw [List.nil_append]
        refine ha_v 5 rfl (ov_move rfl) rfl <| ?_
        refine ha_v 6 rfl (ov_extract rfl rfl) rfl <| ?_
        refine ha_v 7 rfl (ov_extract rfl rfl) rfl <| ?_
        refine ha_one 9 (by kernel_rfl) <| ?_
        refine ho_w0 rfl (on_storeW (vs := cfgA r1.1.2.1 r1.1.1) rfl rfl rfl (by simp) (by simp [Value.oneCell'])) rfl ?_
        refine ha_v 10 rfl (ov_assign rfl) rfl <| ?_
        refine ha_done (by kernel_rfl) <| ?_
        refine hx_cut hK1 ((r1, b6)) (by repeat (first | exact Slots.sub_nil _ | refine Slots.sub_cons rfl ?_)) (by first | assumption | exact Ent.refl _ | exact Ent.nil _ | (repeat (first | exact Ent.refl _ | exact Ent.nil _ | refine Ent.pick ?_)))
      skip
      refine ho_n rfl (on_alloc) rfl fun b6 =>  ?_
      refine ha_one 3 (by kernel_rfl) <| ?_
      first | refine ho_ent (Ent.blk_row (b := b23) 7 0 rfl (by decide)) ?_ | refine ho_ent (Ent.trans (Ent.perm (List.Perm.swap _ _ _)) (Ent.blk_row (b := b23) 7 0 rfl (by decide))) ?_
      refine ho_n rfl (on_appendR (A := some ⟨b23, 0, none⟩) (news := l.flatMap editV) rfl rfl (SrcIs.old HSl) (flat_len (f := editV) (sz := 7) (fun _ => rfl) l) (flat_one editV_one l) (by decide) (by omega)) rfl (fun qA => ?_)
      rw [List.nil_append, Nat.zero_add]
      refine ha_one 4 (by kernel_rfl) <| ?_
      refine ho_kx (σ := EditT c l) rfl Try.call36 rfl (fun w1 H1 => Own.callx0 H1 fun D' hold hin H2 => Edit_spec D' w1 c _ _ _ _ l (by omega) (ConfOld.rows (q := q1) hokc hin) (hin _ fun h hs ho => rep_row (A := qA.1) hs l rfl (repL_F.2 ⟨rfl, hlok⟩))) ?_
      intro r1
      try rw [List.nil_append]
      refine ha_v 5 rfl (ov_move rfl) rfl <| ?_
      refine ha_v 6 rfl (ov_extract rfl rfl) rfl <| ?_
      refine ha_v 7 rfl (ov_extract rfl rfl) rfl <| ?_
      refine ha_one 9 (by kernel_rfl) <| ?_
      refine ho_w0 rfl (on_storeW (vs := cfgA r1.1.2.1 r1.1.1) rfl rfl rfl (by simp) (by simp [Value.oneCell'])) rfl ?_
      refine ha_v 10 rfl (ov_assign rfl) rfl <| ?_
      refine ha_done (by kernel_rfl) <| ?_
      refine hx_cut hK1 ((r1, b6)) (by repeat (first | exact Slots.sub_nil _ | refine Slots.sub_cons rfl ?_)) (by first | assumption | exact Ent.refl _ | exact Ent.nil _ | (repeat (first | exact Ent.refl _ | exact Ent.nil _ | refine Ent.pick ?_)))
    skip
    refine ho_n rfl (on_alloc) rfl fun b6 =>  ?_
    refine ha_one 1 (by kernel_rfl) <| ?_
    refine ho_n rfl (on_buildSliceN rfl rfl rfl) rfl fun b23 =>  ?_
    refine ha_one 3 (by kernel_rfl) <| ?_
    first | refine ho_ent (Ent.blk_row (b := b23) 7 0 rfl (by decide)) ?_ | refine ho_ent (Ent.trans (Ent.perm (List.Perm.swap _ _ _)) (Ent.blk_row (b := b23) 7 0 rfl (by decide))) ?_
    refine ho_n rfl (on_appendR (A := some ⟨b23, 0, none⟩) (news := l.flatMap editV) rfl rfl (SrcIs.old HSl) (flat_len (f := editV) (sz := 7) (fun _ => rfl) l) (flat_one editV_one l) (by decide) (by omega)) rfl (fun qA => ?_)
    rw [List.nil_append, Nat.zero_add]
    refine ha_one 4 (by kernel_rfl) <| ?_
    refine ho_kx (σ := EditT c l) rfl Try.call36 rfl (fun w1 H1 => Own.callx0 H1 fun D' hold hin H2 => Edit_spec D' w1 c _ _ _ _ l (by omega) (ConfOld.rows (q := q1) hokc hin) (hin _ fun h hs ho => rep_row (A := qA.1) hs l rfl (repL_F.2 ⟨rfl, hlok⟩))) ?_
    intro r1
    try rw [List.nil_append]
    refine ha_v 5 rfl (ov_move rfl) rfl <| ?_
    refine ha_v 6 rfl (ov_extract rfl rfl) rfl <| ?_
    refine ha_v 7 rfl (ov_extract rfl rfl) rfl <| ?_
    refine ha_one 9 (by kernel_rfl) <| ?_
    refine ho_w0 rfl (on_storeW (vs := cfgA r1.1.2.1 r1.1.1) rfl rfl rfl (by simp) (by simp [Value.oneCell'])) rfl ?_
    refine ha_v 10 rfl (ov_assign rfl) rfl <| ?_
    refine ha_done (by kernel_rfl) <| ?_
    refine hx_cut hK1 ((r1, b6)) (by repeat (first | exact Slots.sub_nil _ | refine Slots.sub_cons rfl ?_)) (by first | assumption | exact Ent.refl _ | exact Ent.nil _ | (repeat (first | exact Ent.refl _ | exact Ent.nil _ | refine Ent.pick ?_)))
  obtain ⟨r1, bA⟩ := q
  have ok1 := editR_ok r1.2 hokc hlok
  refine hx_then_normal <| hc_seq <| hc_region <| hl_v (by first | exact ov_loadW rfl (by simp; done) | exact ov_loadGB rfl rfl) rfl <| ?_
  refine hl_v (ov_move rfl) rfl <| ?_
  refine hl_call (σ := EditT c l) Try.call37 rfl rfl (fun w1 H1 => Own.callx0 H1 fun D' hold hin H2 => REdit_spec D' w1 c _ _ _ _ l (by omega) (HCf.hold hold) (hold _ h1)) ?_
  intro r2
  try rw [List.nil_append]
  refine hl_v (ov_move rfl) rfl <| hl_v (ov_extract rfl rfl) rfl <| hl_v (ov_extract rfl rfl) rfl <| hl_new (on_alloc) rfl rfl rfl fun b8 =>  ?_
  refine hl_u0 (on_storeW (vs := cfgA r2.1.2.1 r2.1.1) rfl rfl rfl (by simp) (by simp [Value.oneCell'])) rfl rfl ?_
  have hdet := r1.2.det r2.2
  obtain ⟨⟨qa, ca, ea⟩, hs1⟩ := r1
  obtain ⟨⟨qb, cb, eb⟩, hs2⟩ := r2
  have hdet : (ca, ea) = (cb, eb) := hdet
  simp only [Prod.mk.injEq] at hdet
  dsimp only at ok1 ⊢
  obtain ⟨rfl, rfl⟩ := hdet
  refine hl_v (ov_assign rfl) rfl <| hl_nil <| hx_then_normal <| hc_seq <| hc_region <| hl_v (by first | exact ov_loadW rfl (by simp; done) | exact ov_loadGB rfl rfl) rfl <| ?_
  refine hl_v (by first | exact ov_loadW rfl (by simp; done) | exact ov_loadGB rfl rfl) rfl <| ?_
  refine hl_call (σ := BIff (ca = ca)) Try.call19 rfl rfl (fun w1 H1 => Own.callx0 H1 fun D' hold hin H2 => keepC_spec D' w1 ca ca _ _ _ _ _ _ (ConfOld.rows (q := qa) ok1 hin) (ConfOld.rows (q := qb) ok1 hin)) ?_
  intro s1
  try rw [List.nil_append]
  have hs1 : s1.1 = true := s1.2.2 rfl
  refine hl_v (ov_move rfl) rfl <| ?_
  refine hl_partb (t := 38) rfl (fun a4 => ?_) (fun a4 => ?_)
  · refine hl_on rfl rfl <| hl_v (ov_move rfl) rfl <| hl_on rfl rfl <| hl_v (ov_move rfl) rfl <| hl_on rfl rfl <| hl_v (ov_eql rfl rfl) rfl <| hl_v (ov_pickT rfl rfl) rfl <| hl_v (ov_move rfl) rfl <| ?_
    refine hl_partT (t := 43) rfl (rfl) ?_
    refine hl_on rfl rfl <| hl_v (by first | exact ov_loadW rfl (by simp; done) | exact ov_loadGB rfl rfl) rfl <| ?_
    refine hl_on rfl rfl <| hl_v (by first | exact ov_loadW rfl (by simp; done) | exact ov_loadGB rfl rfl) rfl <| ?_
    refine hl_on rfl rfl <| hl_call (σ := BIff (c = c)) Try.call19 rfl rfl (fun w1 H1 => Own.callx0 H1 fun D' hold hin H2 => keepC_spec D' w1 c c _ _ _ _ _ _ (ConfOld.rows (q := q1) hokc hin) (HCf.hold hold)) ?_
    intro s2
    try rw [List.nil_append]
    have hs2' : s2.1 = true := s2.2.2 rfl
    refine hl_v (ov_pickT rfl rfl) rfl <| hl_v (ov_move rfl) rfl <| ?_
    refine hl_partb (t := 48) rfl (fun a5 => ?_) (fun a5 => ?_)
    · skip
      refine hl_on rfl rfl <| hl_c Try.call28 rfl rfl (fun w1 H1 => Own.calln H1 fun D' hold hin H2 => wakes5_spec D' w1) ?_
      refine hl_v (ov_pickT rfl rfl) rfl <| hl_v (ov_assign rfl) rfl <| hl_nil <| hx_then_normal <| hc_ret <| ?_
      exact results_1 (.inr rfl) rfl rfl fun w' H' => ⟨rfl, H'.ent (Ent.nil _)⟩
    rw [hs2'] at a5; cases a5
  rw [hs1] at a4; cases a4
end Go.Proofs.Ytpgpfcplchaleaa
