import Derived.Test.YtjlolpmmpafjeaaGreatZ08
set_option linter.unusedVariables false
set_option linter.unusedSimpArgs false
namespace Go.Proofs.YtjlolpmmpafjeaaGreat
open Slk
theorem portV_one (x : PortC) : ∀ v ∈ portV x, v.oneCell' = true := by simp [Value.oneCell']
theorem old_none {D : Nat → Prop} {w : World} {α : Type} {f : α → List Value} (hf : ∀ x, (f x).length = 3) {A : Option Addr} {l : List α} (h : OldS D w A (l.flatMap f)) (hA : A.isNone = true) : l = [] := by
  cases l with
  | nil => rfl
  | cons x r =>
    have h1 := h.isA (by intro h; have := congrArg List.length h; rw [List.flatMap_cons, List.length_append, hf] at this; simp at this)
    have : A = none := by simpa using hA
    rw [this] at h1; cases h1
theorem ClnP_spec (D : Nat → Prop) (w : World) (v : Value) (l : List PortC) (hl : l.length ≤ 100000) (HA : Old D w (Rep.rep l [v])) :
    Calls Tryz.prog 103 #[v] w fun e w' => ∃ q : Option Addr × Nat, e = .returned (.slice q.1 l.length q.2) ∧ Own D w w' [row q.1 83 3 l.length q.2 (l.flatMap portV)] := by
  obtain ⟨A, cap, rfl, hc1, hc2, HS, hok⟩ := HA.openF
  have HS : OldS D w A (l.flatMap portV) := HS
  refine hc_enter (vs := [.slice A l.length cap]) Tryz.func103 rfl _ Tryz.ntmps103 rfl (Own.start D w) ?_
  simp only [argSlots, Nat.zero_add]
  refine hc_seq <| hc_region <| hl_v (ov_assign rfl) rfl <| hl_nil <| hx_then_normal <| hc_seq <| ?_
  refine hc_seq <| hc_region <| hl_v (ov_move rfl) rfl <| hl_v (ov_eqlN rfl rfl) rfl <| hl_nil <| hx_then_normal <| ?_
  refine hc_cond_bool rfl (fun h => ?_) (fun h => ?_)
  · have hnil := old_none (f := portV) (fun _ => rfl) HS h
    subst hnil
    refine hc_seq <| hc_region <| hl_v (ov_assign rfl) rfl <| hl_nil <| hx_then_normal <| hc_ret <| ?_
    refine hx_then_ret <| ?_
    exact results_1 (.inr rfl) rfl rfl fun w' H' => ⟨(none, 0), rfl, H'.ent (Ent.nil_row _ _)⟩
  refine hc_skip <| hx_then_normal <| hc_seq <| hc_region <| hl_new (on_buildSliceN rfl rfl rfl) rfl rfl rfl fun b5 =>
    hl_v (ov_move rfl) rfl <| ?_
  refine HL.ent (Ent.blk_row (b := b5) 3 0 rfl (by decide)) ?_
  refine hl_new (on_appendR (A := some ⟨b5, 0, none⟩) (news := l.flatMap portV) rfl rfl (SrcIs.old HS) (flat_len (f := portV) (sz := 3) (fun _ => rfl) l) (flat_one portV_one l) (by decide) (by omega)) rfl rfl rfl (fun q1 => ?_)
  rw [List.nil_append, Nat.zero_add]
  refine hl_v (ov_assign rfl) rfl <| hl_nil <| hx_then_normal <| hc_ret <| ?_
  exact results_1 (.inr rfl) rfl rfl fun w' H' => ⟨q1, rfl, H'.ent (by first | assumption | exact Ent.refl _ | exact Ent.nil _ | exact Ent.row_any (Ent.refl _) | (repeat (first | exact Ent.refl _ | exact Ent.nil _ | refine Ent.pick ?_)))⟩
theorem ClnV_spec (D : Nat → Prop) (w : World) (v : Value) (l : List VlanC) (hl : l.length ≤ 100000) (HA : Old D w (Rep.rep l [v])) :
    Calls Tryz.prog 104 #[v] w fun e w' => ∃ q : Option Addr × Nat, e = .returned (.slice q.1 l.length q.2) ∧ Own D w w' [row q.1 147 3 l.length q.2 (l.flatMap vlanV)] := by
  obtain ⟨A, cap, rfl, hc1, hc2, HS, hok⟩ := HA.openF
  have HS : OldS D w A (l.flatMap vlanV) := HS
  refine hc_enter (vs := [.slice A l.length cap]) Tryz.func104 rfl _ Tryz.ntmps104 rfl (Own.start D w) ?_
  simp only [argSlots, Nat.zero_add]
  refine hc_seq <| hc_region <| hl_v (ov_assign rfl) rfl <| hl_nil <| hx_then_normal <| hc_seq <| ?_
  refine hc_seq <| hc_region <| hl_v (ov_move rfl) rfl <| hl_v (ov_eqlN rfl rfl) rfl <| hl_nil <| hx_then_normal <| ?_
  refine hc_cond_bool rfl (fun h => ?_) (fun h => ?_)
  · have hnil := old_none (f := vlanV) (fun _ => rfl) HS h
    subst hnil
    refine hc_seq <| hc_region <| hl_v (ov_assign rfl) rfl <| hl_nil <| hx_then_normal <| hc_ret <| ?_
    refine hx_then_ret <| ?_
    exact results_1 (.inr rfl) rfl rfl fun w' H' => ⟨(none, 0), rfl, H'.ent (Ent.nil_row _ _)⟩
  refine hc_skip <| hx_then_normal <| hc_seq <| hc_region <| hl_new (on_buildSliceN rfl rfl rfl) rfl rfl rfl fun b5 =>
    hl_v (ov_move rfl) rfl <| ?_
  refine HL.ent (Ent.blk_row (b := b5) 3 0 rfl (by decide)) ?_
  refine hl_new (on_appendR (A := some ⟨b5, 0, none⟩) (news := l.flatMap vlanV) rfl rfl (SrcIs.old HS) (flat_len (f := vlanV) (sz := 3) (fun _ => rfl) l) (flat_one vlanV_one l) (by decide) (by omega)) rfl rfl rfl (fun q1 => ?_)
  rw [List.nil_append, Nat.zero_add]
  refine hl_v (ov_assign rfl) rfl <| hl_nil <| hx_then_normal <| hc_ret <| ?_
  exact results_1 (.inr rfl) rfl rfl fun w' H' => ⟨q1, rfl, H'.ent (by first | assumption | exact Ent.refl _ | exact Ent.nil _ | exact Ent.row_any (Ent.refl _) | (repeat (first | exact Ent.refl _ | exact Ent.nil _ | refine Ent.pick ?_)))⟩
theorem ClnS_spec (D : Nat → Prop) (w : World) (v : Value) (l : List StatC) (hl : l.length ≤ 100000) (HA : Old D w (Rep.rep l [v])) :
    Calls Tryz.prog 105 #[v] w fun e w' => ∃ q : Option Addr × Nat, e = .returned (.slice q.1 l.length q.2) ∧ Own D w w' [row q.1 149 3 l.length q.2 (l.flatMap statV)] := by
  obtain ⟨A, cap, rfl, hc1, hc2, HS, hok⟩ := HA.openF
  have HS : OldS D w A (l.flatMap statV) := HS
  refine hc_enter (vs := [.slice A l.length cap]) Tryz.func105 rfl _ Tryz.ntmps105 rfl (Own.start D w) ?_
  simp only [argSlots, Nat.zero_add]
  refine hc_seq <| hc_region <| hl_v (ov_assign rfl) rfl <| hl_nil <| hx_then_normal <| hc_seq <| ?_
  refine hc_seq <| hc_region <| hl_v (ov_move rfl) rfl <| hl_v (ov_eqlN rfl rfl) rfl <| hl_nil <| hx_then_normal <| ?_
  refine hc_cond_bool rfl (fun h => ?_) (fun h => ?_)
  · have hnil := old_none (f := statV) (fun _ => rfl) HS h
    subst hnil
    refine hc_seq <| hc_region <| hl_v (ov_assign rfl) rfl <| hl_nil <| hx_then_normal <| hc_ret <| ?_
    refine hx_then_ret <| ?_
    exact results_1 (.inr rfl) rfl rfl fun w' H' => ⟨(none, 0), rfl, H'.ent (Ent.nil_row _ _)⟩
  refine hc_skip <| hx_then_normal <| hc_seq <| hc_region <| hl_new (on_buildSliceN rfl rfl rfl) rfl rfl rfl fun b5 =>
    hl_v (ov_move rfl) rfl <| ?_
  refine HL.ent (Ent.blk_row (b := b5) 3 0 rfl (by decide)) ?_
  refine hl_new (on_appendR (A := some ⟨b5, 0, none⟩) (news := l.flatMap statV) rfl rfl (SrcIs.old HS) (flat_len (f := statV) (sz := 3) (fun _ => rfl) l) (flat_one statV_one l) (by decide) (by omega)) rfl rfl rfl (fun q1 => ?_)
  rw [List.nil_append, Nat.zero_add]
  refine hl_v (ov_assign rfl) rfl <| hl_nil <| hx_then_normal <| hc_ret <| ?_
  exact results_1 (.inr rfl) rfl rfl fun w' H' => ⟨q1, rfl, H'.ent (by first | assumption | exact Ent.refl _ | exact Ent.nil _ | exact Ent.row_any (Ent.refl _) | (repeat (first | exact Ent.refl _ | exact Ent.nil _ | refine Ent.pick ?_)))⟩
theorem Copy_spec (D : Nat → Prop) (w : World) (c : ConfC) (vp vv vs : Value) (HC0 : ConfOld D w c vp vv vs) :
    Calls Tryz.prog 65 #[.agg (cfgV c vp vv vs).toArray] w fun e w' => ∃ q : Three, e = .returned (.agg (cfgA c q).toArray) ∧ Own D w w' (cfgR c q) := by
  have h1p : ∃ A n cap, vp = .slice A n cap := by obtain ⟨A, cap, rfl, _⟩ := HC0.p.openF; exact ⟨_, _, _, rfl⟩
  have h1v : ∃ A n cap, vv = .slice A n cap := by obtain ⟨A, cap, rfl, _⟩ := HC0.v.openF; exact ⟨_, _, _, rfl⟩
  have h1s : ∃ A n cap, vs = .slice A n cap := by obtain ⟨A, cap, rfl, _⟩ := HC0.s.openF; exact ⟨_, _, _, rfl⟩
  refine hc_enter (vs := [.agg (cfgV c vp vv vs).toArray]) Tryz.func65 rfl _ Tryz.ntmps65 rfl (Own.start D w) ?_
  simp only [argSlots, Nat.zero_add]
  refine hc_seq <| hc_region <| hl_new (on_boxN rfl rfl) rfl rfl rfl fun b1 =>  ?_
  refine hl_new (on_alloc) rfl rfl rfl fun b2 => 
    hl_nil <| hx_then_normal <| hc_seq <| ?_
  refine hc_cutK0 (σ := Three) [1, 2] rfl  (fun q => [blk b1 49 (cfgA c q), blk b2 49 [.int .i64 0, .int .i64 0, .int .i64 0, .slice none 0 0, .slice none 0 0, .slice none 0 0]] ++ cfgR c q) (fun K1 hK1 => ?_) (fun q => ?_)
  · refine hc_any [] mixed 15 rfl ?_
    refine ha_v 0 rfl (ov_fieldA rfl) rfl <| ?_
    refine ha_v 3 rfl (ov_fieldA rfl) rfl <| ?_
    refine ha_v 6 rfl (ov_fieldA rfl) rfl <| ?_
    refine ha_three 1 4 7 (by kernel_rfl) ?_ ?_ ?_
    · skip
      refine ho_v rfl (ov_load rfl (CellIs.blk rfl)) rfl <| ?_
      refine ha_three 2 4 7 (by kernel_rfl) ?_ ?_ ?_
      · skip
        refine ho_kx (σ := Option Addr × Nat) rfl Tryz.call103 rfl (fun w1 H1 => Own.callx0 H1 fun D' hold hin H2 => ClnP_spec D' w1 vp c.2.2.2.1 (by have := HC0.lp; omega) (hold _ HC0.p)) ?_
        intro q1
        try rw [List.nil_append]
        refine ha_two 4 7 (by kernel_rfl) ?_ ?_
        · skip
          refine ho_v rfl (ov_load rfl (CellIs.blk rfl)) rfl <| ?_
          refine ha_two 5 7 (by kernel_rfl) ?_ ?_
          · skip
            refine ho_kx (σ := Option Addr × Nat) rfl Tryz.call104 rfl (fun w1 H1 => Own.callx0 H1 fun D' hold hin H2 => ClnV_spec D' w1 vv c.2.2.2.2.1 (by have := HC0.lv; omega) (hold _ HC0.v)) ?_
            intro q2
            try rw [List.nil_append]
            refine ha_one 7 (by kernel_rfl) <| ?_
            refine ho_v rfl (ov_load rfl (CellIs.blk rfl)) rfl <| ?_
            refine ha_v 9 rfl (ov_fieldA rfl) rfl <| ?_
            refine ha_one 8 (by kernel_rfl) <| ?_
            refine ho_kx (σ := Option Addr × Nat) rfl Tryz.call105 rfl (fun w1 H1 => Own.callx0 H1 fun D' hold hin H2 => ClnS_spec D' w1 vs c.2.2.2.2.2 (by have := HC0.ls; omega) (hold _ HC0.s)) ?_
            intro q3
            try rw [List.nil_append]
            refine ha_one 10 (by kernel_rfl) <| ?_
            refine ho_w0 rfl (on_storeE (cfgV c (.slice q1.1 c.2.2.2.1.length q1.2) vv vs) rfl rfl (by simp) rfl rfl) rfl ?_
            refine ha_v 11 rfl (ov_fieldA rfl) rfl <| ?_
            refine ha_one 12 (by kernel_rfl) <| ?_
            refine ho_w0 rfl (on_storeE (cfgV c (.slice q1.1 c.2.2.2.1.length q1.2) (.slice q2.1 c.2.2.2.2.1.length q2.2) vs) rfl rfl (by simp) rfl rfl) rfl ?_
            refine ha_v 13 rfl (ov_fieldA rfl) rfl <| ?_
            refine ha_one 14 (by kernel_rfl) <| ?_
            refine ho_w0 rfl (on_storeE (cfgA c (q1, q2, q3)) rfl rfl (by simp) rfl rfl) rfl ?_
            refine ha_done (by kernel_rfl) <| ?_
            refine hx_cut hK1 ((q1, q2, q3)) (by repeat (first | exact Slots.sub_nil _ | refine Slots.sub_cons rfl ?_)) (by first | assumption | exact Ent.refl _ | exact Ent.nil _ | (repeat (first | exact Ent.refl _ | exact Ent.nil _ | refine Ent.pick ?_)))
          skip
          refine ho_v rfl (ov_load rfl (CellIs.blk rfl)) rfl <| ?_
          refine ha_v 9 rfl (ov_fieldA rfl) rfl <| ?_
          refine ha_one 5 (by kernel_rfl) <| ?_
          refine ho_kx (σ := Option Addr × Nat) rfl Tryz.call104 rfl (fun w1 H1 => Own.callx0 H1 fun D' hold hin H2 => ClnV_spec D' w1 vv c.2.2.2.2.1 (by have := HC0.lv; omega) (hold _ HC0.v)) ?_
          intro q2
          try rw [List.nil_append]
          refine ha_one 8 (by kernel_rfl) <| ?_
          refine ho_kx (σ := Option Addr × Nat) rfl Tryz.call105 rfl (fun w1 H1 => Own.callx0 H1 fun D' hold hin H2 => ClnS_spec D' w1 vs c.2.2.2.2.2 (by have := HC0.ls; omega) (hold _ HC0.s)) ?_
          intro q3
          try rw [List.nil_append]
          refine ha_one 10 (by kernel_rfl) <| ?_
          refine ho_w0 rfl (on_storeE (cfgV c (.slice q1.1 c.2.2.2.1.length q1.2) vv vs) rfl rfl (by simp) rfl rfl) rfl ?_
          refine ha_v 11 rfl (ov_fieldA rfl) rfl <| ?_
          refine ha_one 12 (by kernel_rfl) <| ?_
          refine ho_w0 rfl (on_storeE (cfgV c (.slice q1.1 c.2.2.2.1.length q1.2) (.slice q2.1 c.2.2.2.2.1.length q2.2) vs) rfl rfl (by simp) rfl rfl) rfl ?_
          refine ha_v 13 rfl (ov_fieldA rfl) rfl <| ?_
          refine ha_one 14 (by kernel_rfl) <| ?_
          refine ho_w0 rfl (on_storeE (cfgA c (q1, q2, q3)) rfl rfl (by simp) rfl rfl) rfl ?_
          refine ha_done (by kernel_rfl) <| ?_
          refine hx_cut hK1 ((q1, q2, q3)) (by repeat (first | exact Slots.sub_nil _ | refine Slots.sub_cons rfl ?_)) (by first | assumption | exact Ent.refl _ | exact Ent.nil _ | (repeat (first | exact Ent.refl _ | exact Ent.nil _ | refine Ent.pick ?_)))
        skip
        refine ho_v rfl (ov_load rfl (CellIs.blk rfl)) rfl <| ?_
        refine ha_one 4 (by kernel_rfl) <| ?_
        refine ho_v rfl (ov_load rfl (CellIs.blk rfl)) rfl <| ?_
        refine ha_v 9 rfl (ov_fieldA rfl) rfl <| ?_
        refine ha_one 5 (by kernel_rfl) <| ?_
        refine ho_kx (σ := Option Addr × Nat) rfl Tryz.call104 rfl (fun w1 H1 => Own.callx0 H1 fun D' hold hin H2 => ClnV_spec D' w1 vv c.2.2.2.2.1 (by have := HC0.lv; omega) (hold _ HC0.v)) ?_
        intro q2
        try rw [List.nil_append]
        refine ha_one 8 (by kernel_rfl) <| ?_
        refine ho_kx (σ := Option Addr × Nat) rfl Tryz.call105 rfl (fun w1 H1 => Own.callx0 H1 fun D' hold hin H2 => ClnS_spec D' w1 vs c.2.2.2.2.2 (by have := HC0.ls; omega) (hold _ HC0.s)) ?_
        intro q3
        try rw [List.nil_append]
        refine ha_one 10 (by kernel_rfl) <| ?_
        refine ho_w0 rfl (on_storeE (cfgV c (.slice q1.1 c.2.2.2.1.length q1.2) vv vs) rfl rfl (by simp) rfl rfl) rfl ?_
        refine ha_v 11 rfl (ov_fieldA rfl) rfl <| ?_
        refine ha_one 12 (by kernel_rfl) <| ?_
        refine ho_w0 rfl (on_storeE (cfgV c (.slice q1.1 c.2.2.2.1.length q1.2) (.slice q2.1 c.2.2.2.2.1.length q2.2) vs) rfl rfl (by simp) rfl rfl) rfl ?_
        refine ha_v 13 rfl (ov_fieldA rfl) rfl <| ?_
        refine ha_one 14 (by kernel_rfl) <| ?_
        refine ho_w0 rfl (on_storeE (cfgA c (q1, q2, q3)) rfl rfl (by simp) rfl rfl) rfl ?_
        refine ha_done (by kernel_rfl) <| ?_
        refine hx_cut hK1 ((q1, q2, q3)) (by repeat (first | exact Slots.sub_nil _ | refine Slots.sub_cons rfl ?_)) (by first | assumption | exact Ent.refl _ | exact Ent.nil _ | (repeat (first | exact Ent.refl _ | exact Ent.nil _ | refine Ent.pick ?_)))
      · skip
        refine ho_v rfl (ov_load rfl (CellIs.blk rfl)) rfl <| ?_
        refine ha_two 2 7 (by kernel_rfl) ?_ ?_
        · skip
          refine ho_kx (σ := Option Addr × Nat) rfl Tryz.call103 rfl (fun w1 H1 => Own.callx0 H1 fun D' hold hin H2 => ClnP_spec D' w1 vp c.2.2.2.1 (by have := HC0.lp; omega) (hold _ HC0.p)) ?_
          intro q1
          try rw [List.nil_append]
          refine ha_two 5 7 (by kernel_rfl) ?_ ?_
          · skip
            refine ho_kx (σ := Option Addr × Nat) rfl Tryz.call104 rfl (fun w1 H1 => Own.callx0 H1 fun D' hold hin H2 => ClnV_spec D' w1 vv c.2.2.2.2.1 (by have := HC0.lv; omega) (hold _ HC0.v)) ?_
            intro q2
            try rw [List.nil_append]
            refine ha_one 7 (by kernel_rfl) <| ?_
            refine ho_v rfl (ov_load rfl (CellIs.blk rfl)) rfl <| ?_
            refine ha_v 9 rfl (ov_fieldA rfl) rfl <| ?_
            refine ha_one 8 (by kernel_rfl) <| ?_
            refine ho_kx (σ := Option Addr × Nat) rfl Tryz.call105 rfl (fun w1 H1 => Own.callx0 H1 fun D' hold hin H2 => ClnS_spec D' w1 vs c.2.2.2.2.2 (by have := HC0.ls; omega) (hold _ HC0.s)) ?_
            intro q3
            try rw [List.nil_append]
            refine ha_one 10 (by kernel_rfl) <| ?_
            refine ho_w0 rfl (on_storeE (cfgV c (.slice q1.1 c.2.2.2.1.length q1.2) vv vs) rfl rfl (by simp) rfl rfl) rfl ?_
            refine ha_v 11 rfl (ov_fieldA rfl) rfl <| ?_
            refine ha_one 12 (by kernel_rfl) <| ?_
            refine ho_w0 rfl (on_storeE (cfgV c (.slice q1.1 c.2.2.2.1.length q1.2) (.slice q2.1 c.2.2.2.2.1.length q2.2) vs) rfl rfl (by simp) rfl rfl) rfl ?_
            refine ha_v 13 rfl (ov_fieldA rfl) rfl <| ?_
            refine ha_one 14 (by kernel_rfl) <| ?_
            refine ho_w0 rfl (on_storeE (cfgA c (q1, q2, q3)) rfl rfl (by simp) rfl rfl) rfl ?_
            refine ha_done (by kernel_rfl) <| ?_
            refine hx_cut hK1 ((q1, q2, q3)) (by repeat (first | exact Slots.sub_nil _ | refine Slots.sub_cons rfl ?_)) (by first | assumption | exact Ent.refl _ | exact Ent.nil _ | (repeat (first | exact Ent.refl _ | exact Ent.nil _ | refine Ent.pick ?_)))
          skip
          refine ho_v rfl (ov_load rfl (CellIs.blk rfl)) rfl <| ?_
          refine ha_v 9 rfl (ov_fieldA rfl) rfl <| ?_
          refine ha_one 5 (by kernel_rfl) <| ?_
          refine ho_kx (σ := Option Addr × Nat) rfl Tryz.call104 rfl (fun w1 H1 => Own.callx0 H1 fun D' hold hin H2 => ClnV_spec D' w1 vv c.2.2.2.2.1 (by have := HC0.lv; omega) (hold _ HC0.v)) ?_
          intro q2
          try rw [List.nil_append]
          refine ha_one 8 (by kernel_rfl) <| ?_
          refine ho_kx (σ := Option Addr × Nat) rfl Tryz.call105 rfl (fun w1 H1 => Own.callx0 H1 fun D' hold hin H2 => ClnS_spec D' w1 vs c.2.2.2.2.2 (by have := HC0.ls; omega) (hold _ HC0.s)) ?_
          intro q3
          try rw [List.nil_append]
          refine ha_one 10 (by kernel_rfl) <| ?_
          refine ho_w0 rfl (on_storeE (cfgV c (.slice q1.1 c.2.2.2.1.length q1.2) vv vs) rfl rfl (by simp) rfl rfl) rfl ?_
          refine ha_v 11 rfl (ov_fieldA rfl) rfl <| ?_
          refine ha_one 12 (by kernel_rfl) <| ?_
          refine ho_w0 rfl (on_storeE (cfgV c (.slice q1.1 c.2.2.2.1.length q1.2) (.slice q2.1 c.2.2.2.2.1.length q2.2) vs) rfl rfl (by simp) rfl rfl) rfl ?_
          refine ha_v 13 rfl (ov_fieldA rfl) rfl <| ?_
          refine ha_one 14 (by kernel_rfl) <| ?_
          refine ho_w0 rfl (on_storeE (cfgA c (q1, q2, q3)) rfl rfl (by simp) rfl rfl) rfl ?_
          refine ha_done (by kernel_rfl) <| ?_
          refine hx_cut hK1 ((q1, q2, q3)) (by repeat (first | exact Slots.sub_nil _ | refine Slots.sub_cons rfl ?_)) (by first | assumption | exact Ent.refl _ | exact Ent.nil _ | (repeat (first | exact Ent.refl _ | exact Ent.nil _ | refine Ent.pick ?_)))
        skip
        refine ho_v rfl (ov_load rfl (CellIs.blk rfl)) rfl <| ?_
        refine ha_one 2 (by kernel_rfl) <| ?_
        refine ho_kx (σ := Option Addr × Nat) rfl Tryz.call103 rfl (fun w1 H1 => Own.callx0 H1 fun D' hold hin H2 => ClnP_spec D' w1 vp c.2.2.2.1 (by have := HC0.lp; omega) (hold _ HC0.p)) ?_
        intro q1
        try rw [List.nil_append]
        refine ha_v 9 rfl (ov_fieldA rfl) rfl <| ?_
        refine ha_one 5 (by kernel_rfl) <| ?_
        refine ho_kx (σ := Option Addr × Nat) rfl Tryz.call104 rfl (fun w1 H1 => Own.callx0 H1 fun D' hold hin H2 => ClnV_spec D' w1 vv c.2.2.2.2.1 (by have := HC0.lv; omega) (hold _ HC0.v)) ?_
        intro q2
        try rw [List.nil_append]
        refine ha_one 8 (by kernel_rfl) <| ?_
        refine ho_kx (σ := Option Addr × Nat) rfl Tryz.call105 rfl (fun w1 H1 => Own.callx0 H1 fun D' hold hin H2 => ClnS_spec D' w1 vs c.2.2.2.2.2 (by have := HC0.ls; omega) (hold _ HC0.s)) ?_
        intro q3
        try rw [List.nil_append]
        refine ha_one 10 (by kernel_rfl) <| ?_
        refine ho_w0 rfl (on_storeE (cfgV c (.slice q1.1 c.2.2.2.1.length q1.2) vv vs) rfl rfl (by simp) rfl rfl) rfl ?_
        refine ha_v 11 rfl (ov_fieldA rfl) rfl <| ?_
        refine ha_one 12 (by kernel_rfl) <| ?_
        refine ho_w0 rfl (on_storeE (cfgV c (.slice q1.1 c.2.2.2.1.length q1.2) (.slice q2.1 c.2.2.2.2.1.length q2.2) vs) rfl rfl (by simp) rfl rfl) rfl ?_
        refine ha_v 13 rfl (ov_fieldA rfl) rfl <| ?_
        refine ha_one 14 (by kernel_rfl) <| ?_
        refine ho_w0 rfl (on_storeE (cfgA c (q1, q2, q3)) rfl rfl (by simp) rfl rfl) rfl ?_
        refine ha_done (by kernel_rfl) <| ?_
        refine hx_cut hK1 ((q1, q2, q3)) (by repeat (first | exact Slots.sub_nil _ | refine Slots.sub_cons rfl ?_)) (by first | assumption | exact Ent.refl _ | exact Ent.nil _ | (repeat (first | exact Ent.refl _ | exact Ent.nil _ | refine Ent.pick ?_)))
      skip
      refine ho_v rfl (ov_load rfl (CellIs.blk rfl)) rfl <| ?_
      refine ha_two 2 4 (by kernel_rfl) ?_ ?_
      · skip
        refine ho_kx (σ := Option Addr × Nat) rfl Tryz.call103 rfl (fun w1 H1 => Own.callx0 H1 fun D' hold hin H2 => ClnP_spec D' w1 vp c.2.2.2.1 (by have := HC0.lp; omega) (hold _ HC0.p)) ?_
        intro q1
        try rw [List.nil_append]
        refine ha_one 4 (by kernel_rfl) <| ?_
        refine ho_v rfl (ov_load rfl (CellIs.blk rfl)) rfl <| ?_
        refine ha_v 9 rfl (ov_fieldA rfl) rfl <| ?_
        refine ha_one 5 (by kernel_rfl) <| ?_
        refine ho_kx (σ := Option Addr × Nat) rfl Tryz.call104 rfl (fun w1 H1 => Own.callx0 H1 fun D' hold hin H2 => ClnV_spec D' w1 vv c.2.2.2.2.1 (by have := HC0.lv; omega) (hold _ HC0.v)) ?_
        intro q2
        try rw [List.nil_append]
        refine ha_one 8 (by kernel_rfl) <| ?_
        refine ho_kx (σ := Option Addr × Nat) rfl Tryz.call105 rfl (fun w1 H1 => Own.callx0 H1 fun D' hold hin H2 => ClnS_spec D' w1 vs c.2.2.2.2.2 (by have := HC0.ls; omega) (hold _ HC0.s)) ?_
        intro q3
        try rw [List.nil_append]
        refine ha_one 10 (by kernel_rfl) <| ?_
        refine ho_w0 rfl (on_storeE (cfgV c (.slice q1.1 c.2.2.2.1.length q1.2) vv vs) rfl rfl (by simp) rfl rfl) rfl ?_
        refine ha_v 11 rfl (ov_fieldA rfl) rfl <| ?_
        refine ha_one 12 (by kernel_rfl) <| ?_
        refine ho_w0 rfl (on_storeE (cfgV c (.slice q1.1 c.2.2.2.1.length q1.2) (.slice q2.1 c.2.2.2.2.1.length q2.2) vs) rfl rfl (by simp) rfl rfl) rfl ?_
        refine ha_v 13 rfl (ov_fieldA rfl) rfl <| ?_
        refine ha_one 14 (by kernel_rfl) <| ?_
        refine ho_w0 rfl (on_storeE (cfgA c (q1, q2, q3)) rfl rfl (by simp) rfl rfl) rfl ?_
        refine ha_done (by kernel_rfl) <| ?_
        refine hx_cut hK1 ((q1, q2, q3)) (by repeat (first | exact Slots.sub_nil _ | refine Slots.sub_cons rfl ?_)) (by first | assumption | exact Ent.refl _ | exact Ent.nil _ | (repeat (first | exact Ent.refl _ | exact Ent.nil _ | refine Ent.pick ?_)))
      skip
      refine ho_v rfl (ov_load rfl (CellIs.blk rfl)) rfl <| ?_
      refine ha_one 2 (by kernel_rfl) <| ?_
      refine ho_kx (σ := Option Addr × Nat) rfl Tryz.call103 rfl (fun w1 H1 => Own.callx0 H1 fun D' hold hin H2 => ClnP_spec D' w1 vp c.2.2.2.1 (by have := HC0.lp; omega) (hold _ HC0.p)) ?_
      intro q1
      try rw [List.nil_append]
      refine ha_v 9 rfl (ov_fieldA rfl) rfl <| ?_
      refine ha_one 5 (by kernel_rfl) <| ?_
      refine ho_kx (σ := Option Addr × Nat) rfl Tryz.call104 rfl (fun w1 H1 => Own.callx0 H1 fun D' hold hin H2 => ClnV_spec D' w1 vv c.2.2.2.2.1 (by have := HC0.lv; omega) (hold _ HC0.v)) ?_
      intro q2
      try rw [List.nil_append]
      refine ha_one 8 (by kernel_rfl) <| ?_
      refine ho_kx (σ := Option Addr × Nat) rfl Tryz.call105 rfl (fun w1 H1 => Own.callx0 H1 fun D' hold hin H2 => ClnS_spec D' w1 vs c.2.2.2.2.2 (by have := HC0.ls; omega) (hold _ HC0.s)) ?_
      intro q3
      try rw [List.nil_append]
      refine ha_one 10 (by kernel_rfl) <| ?_
      refine ho_w0 rfl (on_storeE (cfgV c (.slice q1.1 c.2.2.2.1.length q1.2) vv vs) rfl rfl (by simp) rfl rfl) rfl ?_
      refine ha_v 11 rfl (ov_fieldA rfl) rfl <| ?_
      refine ha_one 12 (by kernel_rfl) <| ?_
      refine ho_w0 rfl (on_storeE (cfgV c (.slice q1.1 c.2.2.2.1.length q1.2) (.slice q2.1 c.2.2.2.2.1.length q2.2) vs) rfl rfl (by simp) rfl rfl) rfl ?_
      refine ha_v 13 rfl (ov_fieldA rfl) rfl <| ?_
      refine ha_one 14 (by kernel_rfl) <| ?_
      refine ho_w0 rfl (on_storeE (cfgA c (q1, q2, q3)) rfl rfl (by simp) rfl rfl) rfl ?_
      refine ha_done (by kernel_rfl) <| ?_
      refine hx_cut hK1 ((q1, q2, q3)) (by repeat (first | exact Slots.sub_nil _ | refine Slots.sub_cons rfl ?_)) (by first | assumption | exact Ent.refl _ | exact Ent.nil _ | (repeat (first | exact Ent.refl _ | exact Ent.nil _ | refine Ent.pick ?_)))
    · skip
      refine ho_v rfl (ov_load rfl (CellIs.blk rfl)) rfl <| ?_
      refine ha_two 1 7 (by kernel_rfl) ?_ ?_
      · skip
        refine ho_v rfl (ov_load rfl (CellIs.blk rfl)) rfl <| ?_
        refine ha_two 2 7 (by kernel_rfl) ?_ ?_
        · skip
          refine ho_kx (σ := Option Addr × Nat) rfl Tryz.call103 rfl (fun w1 H1 => Own.callx0 H1 fun D' hold hin H2 => ClnP_spec D' w1 vp c.2.2.2.1 (by have := HC0.lp; omega) (hold _ HC0.p)) ?_
          intro q1
          try rw [List.nil_append]
          refine ha_two 5 7 (by kernel_rfl) ?_ ?_
          · skip
            refine ho_kx (σ := Option Addr × Nat) rfl Tryz.call104 rfl (fun w1 H1 => Own.callx0 H1 fun D' hold hin H2 => ClnV_spec D' w1 vv c.2.2.2.2.1 (by have := HC0.lv; omega) (hold _ HC0.v)) ?_
            intro q2
            try rw [List.nil_append]
            refine ha_one 7 (by kernel_rfl) <| ?_
            refine ho_v rfl (ov_load rfl (CellIs.blk rfl)) rfl <| ?_
            refine ha_v 9 rfl (ov_fieldA rfl) rfl <| ?_
            refine ha_one 8 (by kernel_rfl) <| ?_
            refine ho_kx (σ := Option Addr × Nat) rfl Tryz.call105 rfl (fun w1 H1 => Own.callx0 H1 fun D' hold hin H2 => ClnS_spec D' w1 vs c.2.2.2.2.2 (by have := HC0.ls; omega) (hold _ HC0.s)) ?_
            intro q3
            try rw [List.nil_append]
            refine ha_one 10 (by kernel_rfl) <| ?_
            refine ho_w0 rfl (on_storeE (cfgV c (.slice q1.1 c.2.2.2.1.length q1.2) vv vs) rfl rfl (by simp) rfl rfl) rfl ?_
            refine ha_v 11 rfl (ov_fieldA rfl) rfl <| ?_
            refine ha_one 12 (by kernel_rfl) <| ?_
            refine ho_w0 rfl (on_storeE (cfgV c (.slice q1.1 c.2.2.2.1.length q1.2) (.slice q2.1 c.2.2.2.2.1.length q2.2) vs) rfl rfl (by simp) rfl rfl) rfl ?_
            refine ha_v 13 rfl (ov_fieldA rfl) rfl <| ?_
            refine ha_one 14 (by kernel_rfl) <| ?_
            refine ho_w0 rfl (on_storeE (cfgA c (q1, q2, q3)) rfl rfl (by simp) rfl rfl) rfl ?_
            refine ha_done (by kernel_rfl) <| ?_
            refine hx_cut hK1 ((q1, q2, q3)) (by repeat (first | exact Slots.sub_nil _ | refine Slots.sub_cons rfl ?_)) (by first | assumption | exact Ent.refl _ | exact Ent.nil _ | (repeat (first | exact Ent.refl _ | exact Ent.nil _ | refine Ent.pick ?_)))
          skip
          refine ho_v rfl (ov_load rfl (CellIs.blk rfl)) rfl <| ?_
          refine ha_v 9 rfl (ov_fieldA rfl) rfl <| ?_
          refine ha_one 5 (by kernel_rfl) <| ?_
          refine ho_kx (σ := Option Addr × Nat) rfl Tryz.call104 rfl (fun w1 H1 => Own.callx0 H1 fun D' hold hin H2 => ClnV_spec D' w1 vv c.2.2.2.2.1 (by have := HC0.lv; omega) (hold _ HC0.v)) ?_
          intro q2
          try rw [List.nil_append]
          refine ha_one 8 (by kernel_rfl) <| ?_
          refine ho_kx (σ := Option Addr × Nat) rfl Tryz.call105 rfl (fun w1 H1 => Own.callx0 H1 fun D' hold hin H2 => ClnS_spec D' w1 vs c.2.2.2.2.2 (by have := HC0.ls; omega) (hold _ HC0.s)) ?_
          intro q3
          try rw [List.nil_append]
          refine ha_one 10 (by kernel_rfl) <| ?_
          refine ho_w0 rfl (on_storeE (cfgV c (.slice q1.1 c.2.2.2.1.length q1.2) vv vs) rfl rfl (by simp) rfl rfl) rfl ?_
          refine ha_v 11 rfl (ov_fieldA rfl) rfl <| ?_
          refine ha_one 12 (by kernel_rfl) <| ?_
          refine ho_w0 rfl (on_storeE (cfgV c (.slice q1.1 c.2.2.2.1.length q1.2) (.slice q2.1 c.2.2.2.2.1.length q2.2) vs) rfl rfl (by simp) rfl rfl) rfl ?_
          refine ha_v 13 rfl (ov_fieldA rfl) rfl <| ?_
          refine ha_one 14 (by kernel_rfl) <| ?_
          refine ho_w0 rfl (on_storeE (cfgA c (q1, q2, q3)) rfl rfl (by simp) rfl rfl) rfl ?_
          refine ha_done (by kernel_rfl) <| ?_
          refine hx_cut hK1 ((q1, q2, q3)) (by repeat (first | exact Slots.sub_nil _ | refine Slots.sub_cons rfl ?_)) (by first | assumption | exact Ent.refl _ | exact Ent.nil _ | (repeat (first | exact Ent.refl _ | exact Ent.nil _ | refine Ent.pick ?_)))
        skip
        refine ho_v rfl (ov_load rfl (CellIs.blk rfl)) rfl <| ?_
        refine ha_one 2 (by kernel_rfl) <| ?_
        refine ho_kx (σ := Option Addr × Nat) rfl Tryz.call103 rfl (fun w1 H1 => Own.callx0 H1 fun D' hold hin H2 => ClnP_spec D' w1 vp c.2.2.2.1 (by have := HC0.lp; omega) (hold _ HC0.p)) ?_
        intro q1
        try rw [List.nil_append]
        refine ha_v 9 rfl (ov_fieldA rfl) rfl <| ?_
        refine ha_one 5 (by kernel_rfl) <| ?_
        refine ho_kx (σ := Option Addr × Nat) rfl Tryz.call104 rfl (fun w1 H1 => Own.callx0 H1 fun D' hold hin H2 => ClnV_spec D' w1 vv c.2.2.2.2.1 (by have := HC0.lv; omega) (hold _ HC0.v)) ?_
        intro q2
        try rw [List.nil_append]
        refine ha_one 8 (by kernel_rfl) <| ?_
        refine ho_kx (σ := Option Addr × Nat) rfl Tryz.call105 rfl (fun w1 H1 => Own.callx0 H1 fun D' hold hin H2 => ClnS_spec D' w1 vs c.2.2.2.2.2 (by have := HC0.ls; omega) (hold _ HC0.s)) ?_
        intro q3
        try rw [List.nil_append]
        refine ha_one 10 (by kernel_rfl) <| ?_
        refine ho_w0 rfl (on_storeE (cfgV c (.slice q1.1 c.2.2.2.1.length q1.2) vv vs) rfl rfl (by simp) rfl rfl) rfl ?_
        refine ha_v 11 rfl (ov_fieldA rfl) rfl <| ?_
        refine ha_one 12 (by kernel_rfl) <| ?_
        refine ho_w0 rfl (on_storeE (cfgV c (.slice q1.1 c.2.2.2.1.length q1.2) (.slice q2.1 c.2.2.2.2.1.length q2.2) vs) rfl rfl (by simp) rfl rfl) rfl ?_
        refine ha_v 13 rfl (ov_fieldA rfl) rfl <| ?_
        refine ha_one 14 (by kernel_rfl) <| ?_
        refine ho_w0 rfl (on_storeE (cfgA c (q1, q2, q3)) rfl rfl (by simp) rfl rfl) rfl ?_
        refine ha_done (by kernel_rfl) <| ?_
        refine hx_cut hK1 ((q1, q2, q3)) (by repeat (first | exact Slots.sub_nil _ | refine Slots.sub_cons rfl ?_)) (by first | assumption | exact Ent.refl _ | exact Ent.nil _ | (repeat (first | exact Ent.refl _ | exact Ent.nil _ | refine Ent.pick ?_)))
      skip
      refine ho_v rfl (ov_load rfl (CellIs.blk rfl)) rfl <| ?_
      refine ha_one 1 (by kernel_rfl) <| ?_
      refine ho_v rfl (ov_load rfl (CellIs.blk rfl)) rfl <| ?_
      refine ha_one 2 (by kernel_rfl) <| ?_
      refine ho_kx (σ := Option Addr × Nat) rfl Tryz.call103 rfl (fun w1 H1 => Own.callx0 H1 fun D' hold hin H2 => ClnP_spec D' w1 vp c.2.2.2.1 (by have := HC0.lp; omega) (hold _ HC0.p)) ?_
      intro q1
      try rw [List.nil_append]
      refine ha_v 9 rfl (ov_fieldA rfl) rfl <| ?_
      refine ha_one 5 (by kernel_rfl) <| ?_
      refine ho_kx (σ := Option Addr × Nat) rfl Tryz.call104 rfl (fun w1 H1 => Own.callx0 H1 fun D' hold hin H2 => ClnV_spec D' w1 vv c.2.2.2.2.1 (by have := HC0.lv; omega) (hold _ HC0.v)) ?_
      intro q2
      try rw [List.nil_append]
      refine ha_one 8 (by kernel_rfl) <| ?_
      refine ho_kx (σ := Option Addr × Nat) rfl Tryz.call105 rfl (fun w1 H1 => Own.callx0 H1 fun D' hold hin H2 => ClnS_spec D' w1 vs c.2.2.2.2.2 (by have := HC0.ls; omega) (hold _ HC0.s)) ?_
      intro q3
      try rw [List.nil_append]
      refine ha_one 10 (by kernel_rfl) <| ?_
      refine ho_w0 rfl (on_storeE (cfgV c (.slice q1.1 c.2.2.2.1.length q1.2) vv vs) rfl rfl (by simp) rfl rfl) rfl ?_
      refine ha_v 11 rfl (ov_fieldA rfl) rfl <| ?_
      refine ha_one 12 (by kernel_rfl) <| ?_
      refine ho_w0 rfl (on_storeE (cfgV c (.slice q1.1 c.2.2.2.1.length q1.2) (.slice q2.1 c.2.2.2.2.1.length q2.2) vs) rfl rfl (by simp) rfl rfl) rfl ?_
      refine ha_v 13 rfl (ov_fieldA rfl) rfl <| ?_
      refine ha_one 14 (by kernel_rfl) <| ?_
      refine ho_w0 rfl (on_storeE (cfgA c (q1, q2, q3)) rfl rfl (by simp) rfl rfl) rfl ?_
      refine ha_done (by kernel_rfl) <| ?_
      refine hx_cut hK1 ((q1, q2, q3)) (by repeat (first | exact Slots.sub_nil _ | refine Slots.sub_cons rfl ?_)) (by first | assumption | exact Ent.refl _ | exact Ent.nil _ | (repeat (first | exact Ent.refl _ | exact Ent.nil _ | refine Ent.pick ?_)))
    skip
    refine ho_v rfl (ov_load rfl (CellIs.blk rfl)) rfl <| ?_
    refine ha_two 1 4 (by kernel_rfl) ?_ ?_
    · skip
      refine ho_v rfl (ov_load rfl (CellIs.blk rfl)) rfl <| ?_
      refine ha_two 2 4 (by kernel_rfl) ?_ ?_
      · skip
        refine ho_kx (σ := Option Addr × Nat) rfl Tryz.call103 rfl (fun w1 H1 => Own.callx0 H1 fun D' hold hin H2 => ClnP_spec D' w1 vp c.2.2.2.1 (by have := HC0.lp; omega) (hold _ HC0.p)) ?_
        intro q1
        try rw [List.nil_append]
        refine ha_one 4 (by kernel_rfl) <| ?_
        refine ho_v rfl (ov_load rfl (CellIs.blk rfl)) rfl <| ?_
        refine ha_v 9 rfl (ov_fieldA rfl) rfl <| ?_
        refine ha_one 5 (by kernel_rfl) <| ?_
        refine ho_kx (σ := Option Addr × Nat) rfl Tryz.call104 rfl (fun w1 H1 => Own.callx0 H1 fun D' hold hin H2 => ClnV_spec D' w1 vv c.2.2.2.2.1 (by have := HC0.lv; omega) (hold _ HC0.v)) ?_
        intro q2
        try rw [List.nil_append]
        refine ha_one 8 (by kernel_rfl) <| ?_
        refine ho_kx (σ := Option Addr × Nat) rfl Tryz.call105 rfl (fun w1 H1 => Own.callx0 H1 fun D' hold hin H2 => ClnS_spec D' w1 vs c.2.2.2.2.2 (by have := HC0.ls; omega) (hold _ HC0.s)) ?_
        intro q3
        try rw [List.nil_append]
        refine ha_one 10 (by kernel_rfl) <| ?_
        refine ho_w0 rfl (on_storeE (cfgV c (.slice q1.1 c.2.2.2.1.length q1.2) vv vs) rfl rfl (by simp) rfl rfl) rfl ?_
        refine ha_v 11 rfl (ov_fieldA rfl) rfl <| ?_
        refine ha_one 12 (by kernel_rfl) <| ?_
        refine ho_w0 rfl (on_storeE (cfgV c (.slice q1.1 c.2.2.2.1.length q1.2) (.slice q2.1 c.2.2.2.2.1.length q2.2) vs) rfl rfl (by simp) rfl rfl) rfl ?_
        refine ha_v 13 rfl (ov_fieldA rfl) rfl <| ?_
        refine ha_one 14 (by kernel_rfl) <| ?_
        refine ho_w0 rfl (on_storeE (cfgA c (q1, q2, q3)) rfl rfl (by simp) rfl rfl) rfl ?_
        refine ha_done (by kernel_rfl) <| ?_
        refine hx_cut hK1 ((q1, q2, q3)) (by repeat (first | exact Slots.sub_nil _ | refine Slots.sub_cons rfl ?_)) (by first | assumption | exact Ent.refl _ | exact Ent.nil _ | (repeat (first | exact Ent.refl _ | exact Ent.nil _ | refine Ent.pick ?_)))
      skip
      refine ho_v rfl (ov_load rfl (CellIs.blk rfl)) rfl <| ?_
      refine ha_one 2 (by kernel_rfl) <| ?_
      refine ho_kx (σ := Option Addr × Nat) rfl Tryz.call103 rfl (fun w1 H1 => Own.callx0 H1 fun D' hold hin H2 => ClnP_spec D' w1 vp c.2.2.2.1 (by have := HC0.lp; omega) (hold _ HC0.p)) ?_
      intro q1
      try rw [List.nil_append]
      refine ha_v 9 rfl (ov_fieldA rfl) rfl <| ?_
      refine ha_one 5 (by kernel_rfl) <| ?_
      refine ho_kx (σ := Option Addr × Nat) rfl Tryz.call104 rfl (fun w1 H1 => Own.callx0 H1 fun D' hold hin H2 => ClnV_spec D' w1 vv c.2.2.2.2.1 (by have := HC0.lv; omega) (hold _ HC0.v)) ?_
      intro q2
      try rw [List.nil_append]
      refine ha_one 8 (by kernel_rfl) <| ?_
      refine ho_kx (σ := Option Addr × Nat) rfl Tryz.call105 rfl (fun w1 H1 => Own.callx0 H1 fun D' hold hin H2 => ClnS_spec D' w1 vs c.2.2.2.2.2 (by have := HC0.ls; omega) (hold _ HC0.s)) ?_
      intro q3
      try rw [List.nil_append]
      refine ha_one 10 (by kernel_rfl) <| ?_
      refine ho_w0 rfl (on_storeE (cfgV c (.slice q1.1 c.2.2.2.1.length q1.2) vv vs) rfl rfl (by simp) rfl rfl) rfl ?_
      refine ha_v 11 rfl (ov_fieldA rfl) rfl <| ?_
      refine ha_one 12 (by kernel_rfl) <| ?_
      refine ho_w0 rfl (on_storeE (cfgV c (.slice q1.1 c.2.2.2.1.length q1.2) (.slice q2.1 c.2.2.2.2.1.length q2.2) vs) rfl rfl (by simp) rfl rfl) rfl ?_
      refine ha_v 13 rfl (ov_fieldA rfl) rfl <| ?_
      refine ha_one 14 (by kernel_rfl) <| ?_
      refine ho_w0 rfl (on_storeE (cfgA c (q1, q2, q3)) rfl rfl (by simp) rfl rfl) rfl ?_
      refine ha_done (by kernel_rfl) <| ?_
      refine hx_cut hK1 ((q1, q2, q3)) (by repeat (first | exact Slots.sub_nil _ | refine Slots.sub_cons rfl ?_)) (by first | assumption | exact Ent.refl _ | exact Ent.nil _ | (repeat (first | exact Ent.refl _ | exact Ent.nil _ | refine Ent.pick ?_)))
    skip
    refine ho_v rfl (ov_load rfl (CellIs.blk rfl)) rfl <| ?_
    refine ha_one 1 (by kernel_rfl) <| ?_
    refine ho_v rfl (ov_load rfl (CellIs.blk rfl)) rfl <| ?_
    refine ha_one 2 (by kernel_rfl) <| ?_
    refine ho_kx (σ := Option Addr × Nat) rfl Tryz.call103 rfl (fun w1 H1 => Own.callx0 H1 fun D' hold hin H2 => ClnP_spec D' w1 vp c.2.2.2.1 (by have := HC0.lp; omega) (hold _ HC0.p)) ?_
    intro q1
    try rw [List.nil_append]
    refine ha_v 9 rfl (ov_fieldA rfl) rfl <| ?_
    refine ha_one 5 (by kernel_rfl) <| ?_
    refine ho_kx (σ := Option Addr × Nat) rfl Tryz.call104 rfl (fun w1 H1 => Own.callx0 H1 fun D' hold hin H2 => ClnV_spec D' w1 vv c.2.2.2.2.1 (by have := HC0.lv; omega) (hold _ HC0.v)) ?_
    intro q2
    try rw [List.nil_append]
    refine ha_one 8 (by kernel_rfl) <| ?_
    refine ho_kx (σ := Option Addr × Nat) rfl Tryz.call105 rfl (fun w1 H1 => Own.callx0 H1 fun D' hold hin H2 => ClnS_spec D' w1 vs c.2.2.2.2.2 (by have := HC0.ls; omega) (hold _ HC0.s)) ?_
    intro q3
    try rw [List.nil_append]
    refine ha_one 10 (by kernel_rfl) <| ?_
    refine ho_w0 rfl (on_storeE (cfgV c (.slice q1.1 c.2.2.2.1.length q1.2) vv vs) rfl rfl (by simp) rfl rfl) rfl ?_
    refine ha_v 11 rfl (ov_fieldA rfl) rfl <| ?_
    refine ha_one 12 (by kernel_rfl) <| ?_
    refine ho_w0 rfl (on_storeE (cfgV c (.slice q1.1 c.2.2.2.1.length q1.2) (.slice q2.1 c.2.2.2.2.1.length q2.2) vs) rfl rfl (by simp) rfl rfl) rfl ?_
    refine ha_v 13 rfl (ov_fieldA rfl) rfl <| ?_
    refine ha_one 14 (by kernel_rfl) <| ?_
    refine ho_w0 rfl (on_storeE (cfgA c (q1, q2, q3)) rfl rfl (by simp) rfl rfl) rfl ?_
    refine ha_done (by kernel_rfl) <| ?_
    refine hx_cut hK1 ((q1, q2, q3)) (by repeat (first | exact Slots.sub_nil _ | refine Slots.sub_cons rfl ?_)) (by first | assumption | exact Ent.refl _ | exact Ent.nil _ | (repeat (first | exact Ent.refl _ | exact Ent.nil _ | refine Ent.pick ?_)))
  refine hx_then_normal <| hc_seq <| hc_region <| hl_v (by first | exact ov_loadW rfl (by simp; done) | exact ov_loadGB rfl rfl) rfl <| ?_
  refine hl_u0 (on_storeGN rfl rfl rfl rfl rfl rfl) rfl rfl <| hl_nil <| hx_then_normal <| hc_ret <| ?_
  exact results_c (.inr rfl) rfl rfl (by simp) fun w' H' => ⟨q, rfl, H'.ent (by first | assumption | exact Ent.refl _ | exact Ent.nil _ | exact Ent.row_any (Ent.refl _) | (repeat (first | exact Ent.refl _ | exact Ent.nil _ | refine Ent.pick ?_)))⟩
end Go.Proofs.YtjlolpmmpafjeaaGreat
