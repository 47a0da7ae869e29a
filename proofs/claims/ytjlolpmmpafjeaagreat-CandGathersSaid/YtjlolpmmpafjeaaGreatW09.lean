import Derived.Test.YtjlolpmmpafjeaaGreatW08
set_option linter.unusedVariables false
set_option linter.unusedSimpArgs false
namespace Go.Proofs.YtjlolpmmpafjeaaGreat
open Slk
theorem portV_one (x : PortC) : ∀ v ∈ portV x, v.oneCell' = true := by simp [Value.oneCell']
theorem old_none {D : Nat → Prop} {w : World} {α : Type} {f : α → List Value} (hf : ∀ x, (f x).length = 3) {A : Option Addr} {l : List α} (h : OldS D w A (l.flatMap f)) (hA : A.isNone = true) : l = [] := by
  cases l with
  | nil => rfl
  | cons x r =>
    have h1 := h.isA (by intro h; have := congrArg List.length h; rw [List.flatMap_cons, List.length_append, hf] at this; simp at this)
    have : A = none := by simpa using hA
    rw [this] at h1; cases h1
theorem ClnP_spec (D : Nat → Prop) (w : World) (v : Value) (l : List PortC) (hl : l.length ≤ 100000) (HA : Old D w (Rep.rep l [v])) :
    Calls Tryz.prog 103 #[v] w fun e w' => ∃ q : Option Addr × Nat, e = .returned (.slice q.1 l.length q.2) ∧ Own D w w' [row q.1 83 3 l.length q.2 (l.flatMap portV)] := by
  obtain ⟨A, cap, rfl, hc1, hc2, HS, hok⟩ := HA.openF
  have HS : OldS D w A (l.flatMap portV) := HS
  refine hc_enter (vs := [.slice A l.length cap]) Tryz.func103 rfl _ Tryz.ntmps103 rfl (Own.start D w) ?_
  simp only [argSlots, Nat.zero_add]
  refine zg <| hl_v (ov_assign rfl) rfl <| zn <| hc_seq <| ?_
  refine zg <| hl_v (ov_move rfl) rfl <| hl_v (ov_eqlN rfl rfl) rfl <| zn <| ?_
  refine hc_cond_bool rfl (fun h => ?_) (fun h => ?_)
  · have hnil := old_none (f := portV) (fun _ => rfl) HS h
    subst hnil
    refine zg <| hl_v (ov_assign rfl) rfl <| zn <| hc_ret <| ?_
    refine hx_then_ret <| ?_
    exact results_1 (.inr rfl) rfl rfl fun w' H' => ⟨(none, 0), rfl, H'.ent (Ent.nil_row _ _)⟩
  refine zk <| zg <| hl_new (on_buildSliceN rfl rfl rfl) rfl rfl rfl fun b5 =>
    hl_v (ov_move rfl) rfl <| ?_
  refine HL.ent (Ent.blk_row (b := b5) 3 0 rfl (by decide)) ?_
  refine hl_new (on_appendR (A := some ⟨b5, 0, none⟩) (news := l.flatMap portV) rfl rfl (SrcIs.old HS) (flat_len (f := portV) (sz := 3) (fun _ => rfl) l) (flat_one portV_one l) (by decide) (by omega)) rfl rfl rfl (fun q1 => ?_)
  rw [List.nil_append, Nat.zero_add]
  refine hl_v (ov_assign rfl) rfl <| zn <| hc_ret <| ?_
  exact results_1 (.inr rfl) rfl rfl fun w' H' => ⟨q1, rfl, H'.ent za4⟩
theorem ClnV_spec (D : Nat → Prop) (w : World) (v : Value) (l : List VlanC) (hl : l.length ≤ 100000) (HA : Old D w (Rep.rep l [v])) :
    Calls Tryz.prog 104 #[v] w fun e w' => ∃ q : Option Addr × Nat, e = .returned (.slice q.1 l.length q.2) ∧ Own D w w' [row q.1 147 3 l.length q.2 (l.flatMap vlanV)] := by
  obtain ⟨A, cap, rfl, hc1, hc2, HS, hok⟩ := HA.openF
  have HS : OldS D w A (l.flatMap vlanV) := HS
  refine hc_enter (vs := [.slice A l.length cap]) Tryz.func104 rfl _ Tryz.ntmps104 rfl (Own.start D w) ?_
  simp only [argSlots, Nat.zero_add]
  refine zg <| hl_v (ov_assign rfl) rfl <| zn <| hc_seq <| ?_
  refine zg <| hl_v (ov_move rfl) rfl <| hl_v (ov_eqlN rfl rfl) rfl <| zn <| ?_
  refine hc_cond_bool rfl (fun h => ?_) (fun h => ?_)
  · have hnil := old_none (f := vlanV) (fun _ => rfl) HS h
    subst hnil
    refine zg <| hl_v (ov_assign rfl) rfl <| zn <| hc_ret <| ?_
    refine hx_then_ret <| ?_
    exact results_1 (.inr rfl) rfl rfl fun w' H' => ⟨(none, 0), rfl, H'.ent (Ent.nil_row _ _)⟩
  refine zk <| zg <| hl_new (on_buildSliceN rfl rfl rfl) rfl rfl rfl fun b5 =>
    hl_v (ov_move rfl) rfl <| ?_
  refine HL.ent (Ent.blk_row (b := b5) 3 0 rfl (by decide)) ?_
  refine hl_new (on_appendR (A := some ⟨b5, 0, none⟩) (news := l.flatMap vlanV) rfl rfl (SrcIs.old HS) (flat_len (f := vlanV) (sz := 3) (fun _ => rfl) l) (flat_one vlanV_one l) (by decide) (by omega)) rfl rfl rfl (fun q1 => ?_)
  rw [List.nil_append, Nat.zero_add]
  refine hl_v (ov_assign rfl) rfl <| zn <| hc_ret <| ?_
  exact results_1 (.inr rfl) rfl rfl fun w' H' => ⟨q1, rfl, H'.ent za4⟩
theorem ClnS_spec (D : Nat → Prop) (w : World) (v : Value) (l : List StatC) (hl : l.length ≤ 100000) (HA : Old D w (Rep.rep l [v])) :
    Calls Tryz.prog 105 #[v] w fun e w' => ∃ q : Option Addr × Nat, e = .returned (.slice q.1 l.length q.2) ∧ Own D w w' [row q.1 149 3 l.length q.2 (l.flatMap statV)] := by
  obtain ⟨A, cap, rfl, hc1, hc2, HS, hok⟩ := HA.openF
  have HS : OldS D w A (l.flatMap statV) := HS
  refine hc_enter (vs := [.slice A l.length cap]) Tryz.func105 rfl _ Tryz.ntmps105 rfl (Own.start D w) ?_
  simp only [argSlots, Nat.zero_add]
  refine zg <| hl_v (ov_assign rfl) rfl <| zn <| hc_seq <| ?_
  refine zg <| hl_v (ov_move rfl) rfl <| hl_v (ov_eqlN rfl rfl) rfl <| zn <| ?_
  refine hc_cond_bool rfl (fun h => ?_) (fun h => ?_)
  · have hnil := old_none (f := statV) (fun _ => rfl) HS h
    subst hnil
    refine zg <| hl_v (ov_assign rfl) rfl <| zn <| hc_ret <| ?_
    refine hx_then_ret <| ?_
    exact results_1 (.inr rfl) rfl rfl fun w' H' => ⟨(none, 0), rfl, H'.ent (Ent.nil_row _ _)⟩
  refine zk <| zg <| hl_new (on_buildSliceN rfl rfl rfl) rfl rfl rfl fun b5 =>
    hl_v (ov_move rfl) rfl <| ?_
  refine HL.ent (Ent.blk_row (b := b5) 3 0 rfl (by decide)) ?_
  refine hl_new (on_appendR (A := some ⟨b5, 0, none⟩) (news := l.flatMap statV) rfl rfl (SrcIs.old HS) (flat_len (f := statV) (sz := 3) (fun _ => rfl) l) (flat_one statV_one l) (by decide) (by omega)) rfl rfl rfl (fun q1 => ?_)
  rw [List.nil_append, Nat.zero_add]
  refine hl_v (ov_assign rfl) rfl <| zn <| hc_ret <| ?_
  exact results_1 (.inr rfl) rfl rfl fun w' H' => ⟨q1, rfl, H'.ent za4⟩
theorem Copy_spec (D : Nat → Prop) (w : World) (c : ConfC) (vp vv vs : Value) (HC0 : ConfOld D w c vp vv vs) :
    Calls Tryz.prog 65 #[.agg (cfgV c vp vv vs).toArray] w fun e w' => ∃ q : Three, e = .returned (.agg (cfgA c q).toArray) ∧ Own D w w' (cfgR c q) := by
  have h1p : ∃ A n cap, vp = .slice A n cap := by obtain ⟨A, cap, rfl, _⟩ := HC0.p.openF; exact ⟨_, _, _, rfl⟩
  have h1v : ∃ A n cap, vv = .slice A n cap := by obtain ⟨A, cap, rfl, _⟩ := HC0.v.openF; exact ⟨_, _, _, rfl⟩
  have h1s : ∃ A n cap, vs = .slice A n cap := by obtain ⟨A, cap, rfl, _⟩ := HC0.s.openF; exact ⟨_, _, _, rfl⟩
  refine hc_enter (vs := [.agg (cfgV c vp vv vs).toArray]) Tryz.func65 rfl _ Tryz.ntmps65 rfl (Own.start D w) ?_
  simp only [argSlots, Nat.zero_add]
  refine zg <| hl_new (on_boxN rfl rfl) rfl rfl rfl fun b1 =>  ?_
  refine hl_new (on_alloc) rfl rfl rfl fun b2 => 
    zn <| hc_seq <| ?_
  refine hc_cutK0 (σ := Three) [1, 2] rfl  (fun q => [blk b1 49 (cfgA c q), blk b2 49 [.int .i64 0, .int .i64 0, .int .i64 0, .slice none 0 0, .slice none 0 0, .slice none 0 0]] ++ cfgR c q) (fun K1 hK1 => ?_) (fun q => ?_)
  · refine hc_any [] mixed 15 rfl ?_
    refine ha_v 0 rfl (ov_fieldA rfl) rfl <| ?_
    refine ha_v 3 rfl (ov_fieldA rfl) rfl <| ?_
    refine ha_v 6 rfl (ov_fieldA rfl) rfl <| ?_
    refine ha_three 1 4 7 (by kernel_rfl) ?_ ?_ ?_
    · skip
      refine ho_v rfl (ov_load rfl (CellIs.blk rfl)) rfl <| ?_
      refine ha_three 2 4 7 (by kernel_rfl) ?_ ?_ ?_
      · skip
        refine ho_kx (σ := Option Addr × Nat) rfl Tryz.call103 rfl (fun w1 H1 => Own.callx0 H1 fun D' hold hin H2 => ClnP_spec D' w1 vp c.2.2.2.1 za34 (hold _ HC0.p)) ?_
        intro q1
        try rw [List.nil_append]
        refine ha_two 4 7 (by kernel_rfl) ?_ ?_
        · skip
          refine ho_v rfl (ov_load rfl (CellIs.blk rfl)) rfl <| ?_
          refine ha_two 5 7 (by kernel_rfl) ?_ ?_
          · skip
            refine ho_kx (σ := Option Addr × Nat) rfl Tryz.call104 rfl (fun w1 H1 => Own.callx0 H1 fun D' hold hin H2 => ClnV_spec D' w1 vv c.2.2.2.2.1 za35 (hold _ HC0.v)) ?_
            intro q2
            try rw [List.nil_append]
            refine ha_one 7 (by kernel_rfl) <| ?_
            refine ho_v rfl (ov_load rfl (CellIs.blk rfl)) rfl <| ?_
            refine ha_v 9 rfl (ov_fieldA rfl) rfl <| ?_
            refine ha_one 8 (by kernel_rfl) <| ?_
            refine ho_kx (σ := Option Addr × Nat) rfl Tryz.call105 rfl (fun w1 H1 => Own.callx0 H1 fun D' hold hin H2 => ClnS_spec D' w1 vs c.2.2.2.2.2 za36 (hold _ HC0.s)) ?_
            intro q3
            try rw [List.nil_append]
            refine ha_one 10 (by kernel_rfl) <| ?_
            refine ho_w0 rfl (on_storeE (cfgV c (.slice q1.1 c.2.2.2.1.length q1.2) vv vs) rfl rfl (by simp) rfl rfl) rfl ?_
            refine ha_v 11 rfl (ov_fieldA rfl) rfl <| ?_
            refine ha_one 12 (by kernel_rfl) <| ?_
            refine ho_w0 rfl (on_storeE (cfgV c (.slice q1.1 c.2.2.2.1.length q1.2) (.slice q2.1 c.2.2.2.2.1.length q2.2) vs) rfl rfl (by simp) rfl rfl) rfl ?_
            refine ha_v 13 rfl (ov_fieldA rfl) rfl <| ?_
            refine ha_one 14 (by kernel_rfl) <| ?_
            refine ho_w0 rfl (on_storeE (cfgA c (q1, q2, q3)) rfl rfl (by simp) rfl rfl) rfl ?_
            refine ha_done (by kernel_rfl) <| ?_
            refine hx_cut hK1 ((q1, q2, q3)) za9 za6
          skip
          refine ho_v rfl (ov_load rfl (CellIs.blk rfl)) rfl <| ?_
          refine ha_v 9 rfl (ov_fieldA rfl) rfl <| ?_
          refine ha_one 5 (by kernel_rfl) <| ?_
          refine ho_kx (σ := Option Addr × Nat) rfl Tryz.call104 rfl (fun w1 H1 => Own.callx0 H1 fun D' hold hin H2 => ClnV_spec D' w1 vv c.2.2.2.2.1 za35 (hold _ HC0.v)) ?_
          intro q2
          try rw [List.nil_append]
          refine ha_one 8 (by kernel_rfl) <| ?_
          refine ho_kx (σ := Option Addr × Nat) rfl Tryz.call105 rfl (fun w1 H1 => Own.callx0 H1 fun D' hold hin H2 => ClnS_spec D' w1 vs c.2.2.2.2.2 za36 (hold _ HC0.s)) ?_
          intro q3
          try rw [List.nil_append]
          refine ha_one 10 (by kernel_rfl) <| ?_
          refine ho_w0 rfl (on_storeE (cfgV c (.slice q1.1 c.2.2.2.1.length q1.2) vv vs) rfl rfl (by simp) rfl rfl) rfl ?_
          refine ha_v 11 rfl (ov_fieldA rfl) rfl <| ?_
          refine ha_one 12 (by kernel_rfl) <| ?_
          refine ho_w0 rfl (on_storeE (cfgV c (.slice q1.1 c.2.2.2.1.length q1.2) (.slice q2.1 c.2.2.2.2.1.length q2.2) vs) rfl rfl (by simp) rfl rfl) rfl ?_
          refine ha_v 13 rfl (ov_fieldA rfl) rfl <| ?_
          refine ha_one 14 (by kernel_rfl) <| ?_
          refine ho_w0 rfl (on_storeE (cfgA c (q1, q2, q3)) rfl rfl (by simp) rfl rfl) rfl ?_
          refine ha_done (by kernel_rfl) <| ?_
          refine hx_cut hK1 ((q1, q2, q3)) za9 za6
        skip
        refine ho_v rfl (ov_load rfl (CellIs.blk rfl)) rfl <| ?_
        refine ha_one 4 (by kernel_rfl) <| ?_
        refine ho_v rfl (ov_load rfl (CellIs.blk rfl)) rfl <| ?_
        refine ha_v 9 rfl (ov_fieldA rfl) rfl <| ?_
        refine ha_one 5 (by kernel_rfl) <| ?_
        refine ho_kx (σ := Option Addr × Nat) rfl Tryz.call104 rfl (fun w1 H1 => Own.callx0 H1 fun D' hold hin H2 => ClnV_spec D' w1 vv c.2.2.2.2.1 za35 (hold _ HC0.v)) ?_
        intro q2
        try rw [List.nil_append]
        refine ha_one 8 (by kernel_rfl) <| ?_
        refine ho_kx (σ := Option Addr × Nat) rfl Tryz.call105 rfl (fun w1 H1 => Own.callx0 H1 fun D' hold hin H2 => ClnS_spec D' w1 vs c.2.2.2.2.2 za36 (hold _ HC0.s)) ?_
        intro q3
        try rw [List.nil_append]
        refine ha_one 10 (by kernel_rfl) <| ?_
        refine ho_w0 rfl (on_storeE (cfgV c (.slice q1.1 c.2.2.2.1.length q1.2) vv vs) rfl rfl (by simp) rfl rfl) rfl ?_
        refine ha_v 11 rfl (ov_fieldA rfl) rfl <| ?_
        refine ha_one 12 (by kernel_rfl) <| ?_
        refine ho_w0 rfl (on_storeE (cfgV c (.slice q1.1 c.2.2.2.1.length q1.2) (.slice q2.1 c.2.2.2.2.1.length q2.2) vs) rfl rfl (by simp) rfl rfl) rfl ?_
        refine ha_v 13 rfl (ov_fieldA rfl) rfl <| ?_
        refine ha_one 14 (by kernel_rfl) <| ?_
        refine ho_w0 rfl (on_storeE (cfgA c (q1, q2, q3)) rfl rfl (by simp) rfl rfl) rfl ?_
        refine ha_done (by kernel_rfl) <| ?_
        refine hx_cut hK1 ((q1, q2, q3)) za9 za6
      · skip
        refine ho_v rfl (ov_load rfl (CellIs.blk rfl)) rfl <| ?_
        refine ha_two 2 7 (by kernel_rfl) ?_ ?_
        · skip
          refine ho_kx (σ := Option Addr × Nat) rfl Tryz.call103 rfl (fun w1 H1 => Own.callx0 H1 fun D' hold hin H2 => ClnP_spec D' w1 vp c.2.2.2.1 za34 (hold _ HC0.p)) ?_
          intro q1
          try rw [List.nil_append]
          refine ha_two 5 7 (by kernel_rfl) ?_ ?_
          · skip
            refine ho_kx (σ := Option Addr × Nat) rfl Tryz.call104 rfl (fun w1 H1 => Own.callx0 H1 fun D' hold hin H2 => ClnV_spec D' w1 vv c.2.2.2.2.1 za35 (hold _ HC0.v)) ?_
            intro q2
            try rw [List.nil_append]
            refine ha_one 7 (by kernel_rfl) <| ?_
            refine ho_v rfl (ov_load rfl (CellIs.blk rfl)) rfl <| ?_
            refine ha_v 9 rfl (ov_fieldA rfl) rfl <| ?_
            refine ha_one 8 (by kernel_rfl) <| ?_
            refine ho_kx (σ := Option Addr × Nat) rfl Tryz.call105 rfl (fun w1 H1 => Own.callx0 H1 fun D' hold hin H2 => ClnS_spec D' w1 vs c.2.2.2.2.2 za36 (hold _ HC0.s)) ?_
            intro q3
            try rw [List.nil_append]
            refine ha_one 10 (by kernel_rfl) <| ?_
            refine ho_w0 rfl (on_storeE (cfgV c (.slice q1.1 c.2.2.2.1.length q1.2) vv vs) rfl rfl (by simp) rfl rfl) rfl ?_
            refine ha_v 11 rfl (ov_fieldA rfl) rfl <| ?_
            refine ha_one 12 (by kernel_rfl) <| ?_
            refine ho_w0 rfl (on_storeE (cfgV c (.slice q1.1 c.2.2.2.1.length q1.2) (.slice q2.1 c.2.2.2.2.1.length q2.2) vs) rfl rfl (by simp) rfl rfl) rfl ?_
            refine ha_v 13 rfl (ov_fieldA rfl) rfl <| ?_
            refine ha_one 14 (by kernel_rfl) <| ?_
            refine ho_w0 rfl (on_storeE (cfgA c (q1, q2, q3)) rfl rfl (by simp) rfl rfl) rfl ?_
            refine ha_done (by kernel_rfl) <| ?_
            refine hx_cut hK1 ((q1, q2, q3)) za9 za6
          skip
          refine ho_v rfl (ov_load rfl (CellIs.blk rfl)) rfl <| ?_
          refine ha_v 9 rfl (ov_fieldA rfl) rfl <| ?_
          refine ha_one 5 (by kernel_rfl) <| ?_
          refine ho_kx (σ := Option Addr × Nat) rfl Tryz.call104 rfl (fun w1 H1 => Own.callx0 H1 fun D' hold hin H2 => ClnV_spec D' w1 vv c.2.2.2.2.1 za35 (hold _ HC0.v)) ?_
          intro q2
          try rw [List.nil_append]
          refine ha_one 8 (by kernel_rfl) <| ?_
          refine ho_kx (σ := Option Addr × Nat) rfl Tryz.call105 rfl (fun w1 H1 => Own.callx0 H1 fun D' hold hin H2 => ClnS_spec D' w1 vs c.2.2.2.2.2 za36 (hold _ HC0.s)) ?_
          intro q3
          try rw [List.nil_append]
          refine ha_one 10 (by kernel_rfl) <| ?_
          refine ho_w0 rfl (on_storeE (cfgV c (.slice q1.1 c.2.2.2.1.length q1.2) vv vs) rfl rfl (by simp) rfl rfl) rfl ?_
          refine ha_v 11 rfl (ov_fieldA rfl) rfl <| ?_
          refine ha_one 12 (by kernel_rfl) <| ?_
          refine ho_w0 rfl (on_storeE (cfgV c (.slice q1.1 c.2.2.2.1.length q1.2) (.slice q2.1 c.2.2.2.2.1.length q2.2) vs) rfl rfl (by simp) rfl rfl) rfl ?_
          refine ha_v 13 rfl (ov_fieldA rfl) rfl <| ?_
          refine ha_one 14 (by kernel_rfl) <| ?_
          refine ho_w0 rfl (on_storeE (cfgA c (q1, q2, q3)) rfl rfl (by simp) rfl rfl) rfl ?_
          refine ha_done (by kernel_rfl) <| ?_
          refine hx_cut hK1 ((q1, q2, q3)) za9 za6
        skip
        refine ho_v rfl (ov_load rfl (CellIs.blk rfl)) rfl <| ?_
        refine ha_one 2 (by kernel_rfl) <| ?_
        refine ho_kx (σ := Option Addr × Nat) rfl Tryz.call103 rfl (fun w1 H1 => Own.callx0 H1 fun D' hold hin H2 => ClnP_spec D' w1 vp c.2.2.2.1 za34 (hold _ HC0.p)) ?_
        intro q1
        try rw [List.nil_append]
        refine ha_v 9 rfl (ov_fieldA rfl) rfl <| ?_
        refine ha_one 5 (by kernel_rfl) <| ?_
        refine ho_kx (σ := Option Addr × Nat) rfl Tryz.call104 rfl (fun w1 H1 => Own.callx0 H1 fun D' hold hin H2 => ClnV_spec D' w1 vv c.2.2.2.2.1 za35 (hold _ HC0.v)) ?_
        intro q2
        try rw [List.nil_append]
        refine ha_one 8 (by kernel_rfl) <| ?_
        refine ho_kx (σ := Option Addr × Nat) rfl Tryz.call105 rfl (fun w1 H1 => Own.callx0 H1 fun D' hold hin H2 => ClnS_spec D' w1 vs c.2.2.2.2.2 za36 (hold _ HC0.s)) ?_
        intro q3
        try rw [List.nil_append]
        refine ha_one 10 (by kernel_rfl) <| ?_
        refine ho_w0 rfl (on_storeE (cfgV c (.slice q1.1 c.2.2.2.1.length q1.2) vv vs) rfl rfl (by simp) rfl rfl) rfl ?_
        refine ha_v 11 rfl (ov_fieldA rfl) rfl <| ?_
        refine ha_one 12 (by kernel_rfl) <| ?_
        refine ho_w0 rfl (on_storeE (cfgV c (.slice q1.1 c.2.2.2.1.length q1.2) (.slice q2.1 c.2.2.2.2.1.length q2.2) vs) rfl rfl (by simp) rfl rfl) rfl ?_
        refine ha_v 13 rfl (ov_fieldA rfl) rfl <| ?_
        refine ha_one 14 (by kernel_rfl) <| ?_
        refine ho_w0 rfl (on_storeE (cfgA c (q1, q2, q3)) rfl rfl (by simp) rfl rfl) rfl ?_
        refine ha_done (by kernel_rfl) <| ?_
        refine hx_cut hK1 ((q1, q2, q3)) za9 za6
      skip
      refine ho_v rfl (ov_load rfl (CellIs.blk rfl)) rfl <| ?_
      refine ha_two 2 4 (by kernel_rfl) ?_ ?_
      · skip
        refine ho_kx (σ := Option Addr × Nat) rfl Tryz.call103 rfl (fun w1 H1 => Own.callx0 H1 fun D' hold hin H2 => ClnP_spec D' w1 vp c.2.2.2.1 za34 (hold _ HC0.p)) ?_
        intro q1
        try rw [List.nil_append]
        refine ha_one 4 (by kernel_rfl) <| ?_
        refine ho_v rfl (ov_load rfl (CellIs.blk rfl)) rfl <| ?_
        refine ha_v 9 rfl (ov_fieldA rfl) rfl <| ?_
        refine ha_one 5 (by kernel_rfl) <| ?_
        refine ho_kx (σ := Option Addr × Nat) rfl Tryz.call104 rfl (fun w1 H1 => Own.callx0 H1 fun D' hold hin H2 => ClnV_spec D' w1 vv c.2.2.2.2.1 za35 (hold _ HC0.v)) ?_
        intro q2
        try rw [List.nil_append]
        refine ha_one 8 (by kernel_rfl) <| ?_
        refine ho_kx (σ := Option Addr × Nat) rfl Tryz.call105 rfl (fun w1 H1 => Own.callx0 H1 fun D' hold hin H2 => ClnS_spec D' w1 vs c.2.2.2.2.2 za36 (hold _ HC0.s)) ?_
        intro q3
        try rw [List.nil_append]
        refine ha_one 10 (by kernel_rfl) <| ?_
        refine ho_w0 rfl (on_storeE (cfgV c (.slice q1.1 c.2.2.2.1.length q1.2) vv vs) rfl rfl (by simp) rfl rfl) rfl ?_
        refine ha_v 11 rfl (ov_fieldA rfl) rfl <| ?_
        refine ha_one 12 (by kernel_rfl) <| ?_
        refine ho_w0 rfl (on_storeE (cfgV c (.slice q1.1 c.2.2.2.1.length q1.2) (.slice q2.1 c.2.2.2.2.1.length q2.2) vs) rfl rfl (by simp) rfl rfl) rfl ?_
        refine ha_v 13 rfl (ov_fieldA rfl) rfl <| ?_
        refine ha_one 14 (by kernel_rfl) <| ?_
        refine ho_w0 rfl (on_storeE (cfgA c (q1, q2, q3)) rfl rfl (by simp) rfl rfl) rfl ?_
        refine ha_done (by kernel_rfl) <| ?_
        refine hx_cut hK1 ((q1, q2, q3)) za9 za6
      skip
      refine ho_v rfl (ov_load rfl (CellIs.blk rfl)) rfl <| ?_
      refine ha_one 2 (by kernel_rfl) <| ?_
      refine ho_kx (σ := Option Addr × Nat) rfl Tryz.call103 rfl (fun w1 H1 => Own.callx0 H1 fun D' hold hin H2 => ClnP_spec D' w1 vp c.2.2.2.1 za34 (hold _ HC0.p)) ?_
      intro q1
      try rw [List.nil_append]
      refine ha_v 9 rfl (ov_fieldA rfl) rfl <| ?_
      refine ha_one 5 (by kernel_rfl) <| ?_
      refine ho_kx (σ := Option Addr × Nat) rfl Tryz.call104 rfl (fun w1 H1 => Own.callx0 H1 fun D' hold hin H2 => ClnV_spec D' w1 vv c.2.2.2.2.1 za35 (hold _ HC0.v)) ?_
      intro q2
      try rw [List.nil_append]
      refine ha_one 8 (by kernel_rfl) <| ?_
      refine ho_kx (σ := Option Addr × Nat) rfl Tryz.call105 rfl (fun w1 H1 => Own.callx0 H1 fun D' hold hin H2 => ClnS_spec D' w1 vs c.2.2.2.2.2 za36 (hold _ HC0.s)) ?_
      intro q3
      try rw [List.nil_append]
      refine ha_one 10 (by kernel_rfl) <| ?_
      refine ho_w0 rfl (on_storeE (cfgV c (.slice q1.1 c.2.2.2.1.length q1.2) vv vs) rfl rfl (by simp) rfl rfl) rfl ?_
      refine ha_v 11 rfl (ov_fieldA rfl) rfl <| ?_
      refine ha_one 12 (by kernel_rfl) <| ?_
      refine ho_w0 rfl (on_storeE (cfgV c (.slice q1.1 c.2.2.2.1.length q1.2) (.slice q2.1 c.2.2.2.2.1.length q2.2) vs) rfl rfl (by simp) rfl rfl) rfl ?_
      refine ha_v 13 rfl (ov_fieldA rfl) rfl <| ?_
      refine ha_one 14 (by kernel_rfl) <| ?_
      refine ho_w0 rfl (on_storeE (cfgA c (q1, q2, q3)) rfl rfl (by simp) rfl rfl) rfl ?_
      refine ha_done (by kernel_rfl) <| ?_
      refine hx_cut hK1 ((q1, q2, q3)) za9 za6
    · skip
      refine ho_v rfl (ov_load rfl (CellIs.blk rfl)) rfl <| ?_
      refine ha_two 1 7 (by kernel_rfl) ?_ ?_
      · skip
        refine ho_v rfl (ov_load rfl (CellIs.blk rfl)) rfl <| ?_
        refine ha_two 2 7 (by kernel_rfl) ?_ ?_
        · skip
          refine ho_kx (σ := Option Addr × Nat) rfl Tryz.call103 rfl (fun w1 H1 => Own.callx0 H1 fun D' hold hin H2 => ClnP_spec D' w1 vp c.2.2.2.1 za34 (hold _ HC0.p)) ?_
          intro q1
          try rw [List.nil_append]
          refine ha_two 5 7 (by kernel_rfl) ?_ ?_
          · skip
            refine ho_kx (σ := Option Addr × Nat) rfl Tryz.call104 rfl (fun w1 H1 => Own.callx0 H1 fun D' hold hin H2 => ClnV_spec D' w1 vv c.2.2.2.2.1 za35 (hold _ HC0.v)) ?_
            intro q2
            try rw [List.nil_append]
            refine ha_one 7 (by kernel_rfl) <| ?_
            refine ho_v rfl (ov_load rfl (CellIs.blk rfl)) rfl <| ?_
            refine ha_v 9 rfl (ov_fieldA rfl) rfl <| ?_
            refine ha_one 8 (by kernel_rfl) <| ?_
            refine ho_kx (σ := Option Addr × Nat) rfl Tryz.call105 rfl (fun w1 H1 => Own.callx0 H1 fun D' hold hin H2 => ClnS_spec D' w1 vs c.2.2.2.2.2 za36 (hold _ HC0.s)) ?_
            intro q3
            try rw [List.nil_append]
            refine ha_one 10 (by kernel_rfl) <| ?_
            refine ho_w0 rfl (on_storeE (cfgV c (.slice q1.1 c.2.2.2.1.length q1.2) vv vs) rfl rfl (by simp) rfl rfl) rfl ?_
            refine ha_v 11 rfl (ov_fieldA rfl) rfl <| ?_
            refine ha_one 12 (by kernel_rfl) <| ?_
            refine ho_w0 rfl (on_storeE (cfgV c (.slice q1.1 c.2.2.2.1.length q1.2) (.slice q2.1 c.2.2.2.2.1.length q2.2) vs) rfl rfl (by simp) rfl rfl) rfl ?_
            refine ha_v 13 rfl (ov_fieldA rfl) rfl <| ?_
            refine ha_one 14 (by kernel_rfl) <| ?_
            refine ho_w0 rfl (on_storeE (cfgA c (q1, q2, q3)) rfl rfl (by simp) rfl rfl) rfl ?_
            refine ha_done (by kernel_rfl) <| ?_
            refine hx_cut hK1 ((q1, q2, q3)) za9 za6
          skip
          refine ho_v rfl (ov_load rfl (CellIs.blk rfl)) rfl <| ?_
          refine ha_v 9 rfl (ov_fieldA rfl) rfl <| ?_
          refine ha_one 5 (by kernel_rfl) <| ?_
          refine ho_kx (σ := Option Addr × Nat) rfl Tryz.call104 rfl (fun w1 H1 => Own.callx0 H1 fun D' hold hin H2 => ClnV_spec D' w1 vv c.2.2.2.2.1 za35 (hold _ HC0.v)) ?_
          intro q2
          try rw [List.nil_append]
          refine ha_one 8 (by kernel_rfl) <| ?_
          refine ho_kx (σ := Option Addr × Nat) rfl Tryz.call105 rfl (fun w1 H1 => Own.callx0 H1 fun D' hold hin H2 => ClnS_spec D' w1 vs c.2.2.2.2.2 za36 (hold _ HC0.s)) ?_
          intro q3
          try rw [List.nil_append]
          refine ha_one 10 (by kernel_rfl) <| ?_
          refine ho_w0 rfl (on_storeE (cfgV c (.slice q1.1 c.2.2.2.1.length q1.2) vv vs) rfl rfl (by simp) rfl rfl) rfl ?_
          refine ha_v 11 rfl (ov_fieldA rfl) rfl <| ?_
          refine ha_one 12 (by kernel_rfl) <| ?_
          refine ho_w0 rfl (on_storeE (cfgV c (.slice q1.1 c.2.2.2.1.length q1.2) (.slice q2.1 c.2.2.2.2.1.length q2.2) vs) rfl rfl (by simp) rfl rfl) rfl ?_
          refine ha_v 13 rfl (ov_fieldA rfl) rfl <| ?_
          refine ha_one 14 (by kernel_rfl) <| ?_
          refine ho_w0 rfl (on_storeE (cfgA c (q1, q2, q3)) rfl rfl (by simp) rfl rfl) rfl ?_
          refine ha_done (by kernel_rfl) <| ?_
          refine hx_cut hK1 ((q1, q2, q3)) za9 za6
        skip
        refine ho_v rfl (ov_load rfl (CellIs.blk rfl)) rfl <| ?_
        refine ha_one 2 (by kernel_rfl) <| ?_
        refine ho_kx (σ := Option Addr × Nat) rfl Tryz.call103 rfl (fun w1 H1 => Own.callx0 H1 fun D' hold hin H2 => ClnP_spec D' w1 vp c.2.2.2.1 za34 (hold _ HC0.p)) ?_
        intro q1
        try rw [List.nil_append]
        refine ha_v 9 rfl (ov_fieldA rfl) rfl <| ?_
        refine ha_one 5 (by kernel_rfl) <| ?_
        refine ho_kx (σ := Option Addr × Nat) rfl Tryz.call104 rfl (fun w1 H1 => Own.callx0 H1 fun D' hold hin H2 => ClnV_spec D' w1 vv c.2.2.2.2.1 za35 (hold _ HC0.v)) ?_
        intro q2
        try rw [List.nil_append]
        refine ha_one 8 (by kernel_rfl) <| ?_
        refine ho_kx (σ := Option Addr × Nat) rfl Tryz.call105 rfl (fun w1 H1 => Own.callx0 H1 fun D' hold hin H2 => ClnS_spec D' w1 vs c.2.2.2.2.2 za36 (hold _ HC0.s)) ?_
        intro q3
        try rw [List.nil_append]
        refine ha_one 10 (by kernel_rfl) <| ?_
        refine ho_w0 rfl (on_storeE (cfgV c (.slice q1.1 c.2.2.2.1.length q1.2) vv vs) rfl rfl (by simp) rfl rfl) rfl ?_
        refine ha_v 11 rfl (ov_fieldA rfl) rfl <| ?_
        refine ha_one 12 (by kernel_rfl) <| ?_
        refine ho_w0 rfl (on_storeE (cfgV c (.slice q1.1 c.2.2.2.1.length q1.2) (.slice q2.1 c.2.2.2.2.1.length q2.2) vs) rfl rfl (by simp) rfl rfl) rfl ?_
        refine ha_v 13 rfl (ov_fieldA rfl) rfl <| ?_
        refine ha_one 14 (by kernel_rfl) <| ?_
        refine ho_w0 rfl (on_storeE (cfgA c (q1, q2, q3)) rfl rfl (by simp) rfl rfl) rfl ?_
        refine ha_done (by kernel_rfl) <| ?_
        refine hx_cut hK1 ((q1, q2, q3)) za9 za6
      skip
      refine ho_v rfl (ov_load rfl (CellIs.blk rfl)) rfl <| ?_
      refine ha_one 1 (by kernel_rfl) <| ?_
      refine ho_v rfl (ov_load rfl (CellIs.blk rfl)) rfl <| ?_
      refine ha_one 2 (by kernel_rfl) <| ?_
      refine ho_kx (σ := Option Addr × Nat) rfl Tryz.call103 rfl (fun w1 H1 => Own.callx0 H1 fun D' hold hin H2 => ClnP_spec D' w1 vp c.2.2.2.1 za34 (hold _ HC0.p)) ?_
      intro q1
      try rw [List.nil_append]
      refine ha_v 9 rfl (ov_fieldA rfl) rfl <| ?_
      refine ha_one 5 (by kernel_rfl) <| ?_
      refine ho_kx (σ := Option Addr × Nat) rfl Tryz.call104 rfl (fun w1 H1 => Own.callx0 H1 fun D' hold hin H2 => ClnV_spec D' w1 vv c.2.2.2.2.1 za35 (hold _ HC0.v)) ?_
      intro q2
      try rw [List.nil_append]
      refine ha_one 8 (by kernel_rfl) <| ?_
      refine ho_kx (σ := Option Addr × Nat) rfl Tryz.call105 rfl (fun w1 H1 => Own.callx0 H1 fun D' hold hin H2 => ClnS_spec D' w1 vs c.2.2.2.2.2 za36 (hold _ HC0.s)) ?_
      intro q3
      try rw [List.nil_append]
      refine ha_one 10 (by kernel_rfl) <| ?_
      refine ho_w0 rfl (on_storeE (cfgV c (.slice q1.1 c.2.2.2.1.length q1.2) vv vs) rfl rfl (by simp) rfl rfl) rfl ?_
      refine ha_v 11 rfl (ov_fieldA rfl) rfl <| ?_
      refine ha_one 12 (by kernel_rfl) <| ?_
      refine ho_w0 rfl (on_storeE (cfgV c (.slice q1.1 c.2.2.2.1.length q1.2) (.slice q2.1 c.2.2.2.2.1.length q2.2) vs) rfl rfl (by simp) rfl rfl) rfl ?_
      refine ha_v 13 rfl (ov_fieldA rfl) rfl <| ?_
      refine ha_one 14 (by kernel_rfl) <| ?_
      refine ho_w0 rfl (on_storeE (cfgA c (q1, q2, q3)) rfl rfl (by simp) rfl rfl) rfl ?_
      refine ha_done (by kernel_rfl) <| ?_
      refine hx_cut hK1 ((q1, q2, q3)) za9 za6
    skip
    refine ho_v rfl (ov_load rfl (CellIs.blk rfl)) rfl <| ?_
    refine ha_two 1 4 (by kernel_rfl) ?_ ?_
    · skip
      refine ho_v rfl (ov_load rfl (CellIs.blk rfl)) rfl <| ?_
      refine ha_two 2 4 (by kernel_rfl) ?_ ?_
      · skip
        refine ho_kx (σ := Option Addr × Nat) rfl Tryz.call103 rfl (fun w1 H1 => Own.callx0 H1 fun D' hold hin H2 => ClnP_spec D' w1 vp c.2.2.2.1 za34 (hold _ HC0.p)) ?_
        intro q1
        try rw [List.nil_append]
        refine ha_one 4 (by kernel_rfl) <| ?_
        refine ho_v rfl (ov_load rfl (CellIs.blk rfl)) rfl <| ?_
        refine ha_v 9 rfl (ov_fieldA rfl) rfl <| ?_
        refine ha_one 5 (by kernel_rfl) <| ?_
        refine ho_kx (σ := Option Addr × Nat) rfl Tryz.call104 rfl (fun w1 H1 => Own.callx0 H1 fun D' hold hin H2 => ClnV_spec D' w1 vv c.2.2.2.2.1 za35 (hold _ HC0.v)) ?_
        intro q2
        try rw [List.nil_append]
        refine ha_one 8 (by kernel_rfl) <| ?_
        refine ho_kx (σ := Option Addr × Nat) rfl Tryz.call105 rfl (fun w1 H1 => Own.callx0 H1 fun D' hold hin H2 => ClnS_spec D' w1 vs c.2.2.2.2.2 za36 (hold _ HC0.s)) ?_
        intro q3
        try rw [List.nil_append]
        refine ha_one 10 (by kernel_rfl) <| ?_
        refine ho_w0 rfl (on_storeE (cfgV c (.slice q1.1 c.2.2.2.1.length q1.2) vv vs) rfl rfl (by simp) rfl rfl) rfl ?_
        refine ha_v 11 rfl (ov_fieldA rfl) rfl <| ?_
        refine ha_one 12 (by kernel_rfl) <| ?_
        refine ho_w0 rfl (on_storeE (cfgV c (.slice q1.1 c.2.2.2.1.length q1.2) (.slice q2.1 c.2.2.2.2.1.length q2.2) vs) rfl rfl (by simp) rfl rfl) rfl ?_
        refine ha_v 13 rfl (ov_fieldA rfl) rfl <| ?_
        refine ha_one 14 (by kernel_rfl) <| ?_
        refine ho_w0 rfl (on_storeE (cfgA c (q1, q2, q3)) rfl rfl (by simp) rfl rfl) rfl ?_
        refine ha_done (by kernel_rfl) <| ?_
        refine hx_cut hK1 ((q1, q2, q3)) za9 za6
      skip
      refine ho_v rfl (ov_load rfl (CellIs.blk rfl)) rfl <| ?_
      refine ha_one 2 (by kernel_rfl) <| ?_
      refine ho_kx (σ := Option Addr × Nat) rfl Tryz.call103 rfl (fun w1 H1 => Own.callx0 H1 fun D' hold hin H2 => ClnP_spec D' w1 vp c.2.2.2.1 za34 (hold _ HC0.p)) ?_
      intro q1
      try rw [List.nil_append]
      refine ha_v 9 rfl (ov_fieldA rfl) rfl <| ?_
      refine ha_one 5 (by kernel_rfl) <| ?_
      refine ho_kx (σ := Option Addr × Nat) rfl Tryz.call104 rfl (fun w1 H1 => Own.callx0 H1 fun D' hold hin H2 => ClnV_spec D' w1 vv c.2.2.2.2.1 za35 (hold _ HC0.v)) ?_
      intro q2
      try rw [List.nil_append]
      refine ha_one 8 (by kernel_rfl) <| ?_
      refine ho_kx (σ := Option Addr × Nat) rfl Tryz.call105 rfl (fun w1 H1 => Own.callx0 H1 fun D' hold hin H2 => ClnS_spec D' w1 vs c.2.2.2.2.2 za36 (hold _ HC0.s)) ?_
      intro q3
      try rw [List.nil_append]
      refine ha_one 10 (by kernel_rfl) <| ?_
      refine ho_w0 rfl (on_storeE (cfgV c (.slice q1.1 c.2.2.2.1.length q1.2) vv vs) rfl rfl (by simp) rfl rfl) rfl ?_
      refine ha_v 11 rfl (ov_fieldA rfl) rfl <| ?_
      refine ha_one 12 (by kernel_rfl) <| ?_
      refine ho_w0 rfl (on_storeE (cfgV c (.slice q1.1 c.2.2.2.1.length q1.2) (.slice q2.1 c.2.2.2.2.1.length q2.2) vs) rfl rfl (by simp) rfl rfl) rfl ?_
      refine ha_v 13 rfl (ov_fieldA rfl) rfl <| ?_
      refine ha_one 14 (by kernel_rfl) <| ?_
      refine ho_w0 rfl (on_storeE (cfgA c (q1, q2, q3)) rfl rfl (by simp) rfl rfl) rfl ?_
      refine ha_done (by kernel_rfl) <| ?_
      refine hx_cut hK1 ((q1, q2, q3)) za9 za6
    skip
    refine ho_v rfl (ov_load rfl (CellIs.blk rfl)) rfl <| ?_
    refine ha_one 1 (by kernel_rfl) <| ?_
    refine ho_v rfl (ov_load rfl (CellIs.blk rfl)) rfl <| ?_
    refine ha_one 2 (by kernel_rfl) <| ?_
    refine ho_kx (σ := Option Addr × Nat) rfl Tryz.call103 rfl (fun w1 H1 => Own.callx0 H1 fun D' hold hin H2 => ClnP_spec D' w1 vp c.2.2.2.1 za34 (hold _ HC0.p)) ?_
    intro q1
    try rw [List.nil_append]
    refine ha_v 9 rfl (ov_fieldA rfl) rfl <| ?_
    refine ha_one 5 (by kernel_rfl) <| ?_
    refine ho_kx (σ := Option Addr × Nat) rfl Tryz.call104 rfl (fun w1 H1 => Own.callx0 H1 fun D' hold hin H2 => ClnV_spec D' w1 vv c.2.2.2.2.1 za35 (hold _ HC0.v)) ?_
    intro q2
    try rw [List.nil_append]
    refine ha_one 8 (by kernel_rfl) <| ?_
    refine ho_kx (σ := Option Addr × Nat) rfl Tryz.call105 rfl (fun w1 H1 => Own.callx0 H1 fun D' hold hin H2 => ClnS_spec D' w1 vs c.2.2.2.2.2 za36 (hold _ HC0.s)) ?_
    intro q3
    try rw [List.nil_append]
    refine ha_one 10 (by kernel_rfl) <| ?_
    refine ho_w0 rfl (on_storeE (cfgV c (.slice q1.1 c.2.2.2.1.length q1.2) vv vs) rfl rfl (by simp) rfl rfl) rfl ?_
    refine ha_v 11 rfl (ov_fieldA rfl) rfl <| ?_
    refine ha_one 12 (by kernel_rfl) <| ?_
    refine ho_w0 rfl (on_storeE (cfgV c (.slice q1.1 c.2.2.2.1.length q1.2) (.slice q2.1 c.2.2.2.2.1.length q2.2) vs) rfl rfl (by simp) rfl rfl) rfl ?_
    refine ha_v 13 rfl (ov_fieldA rfl) rfl <| ?_
    refine ha_one 14 (by kernel_rfl) <| ?_
    refine ho_w0 rfl (on_storeE (cfgA c (q1, q2, q3)) rfl rfl (by simp) rfl rfl) rfl ?_
    refine ha_done (by kernel_rfl) <| ?_
    refine hx_cut hK1 ((q1, q2, q3)) za9 za6
  refine hx_then_normal <| zg <| hl_v za10 rfl <| ?_
  refine hl_u0 (on_storeGN rfl rfl rfl rfl rfl rfl) rfl rfl <| zn <| hc_ret <| ?_
  exact results_c (.inr rfl) rfl rfl (by simp) fun w' H' => ⟨q, rfl, H'.ent za4⟩
end Go.Proofs.YtjlolpmmpafjeaaGreat
set_option linter.unusedVariables false
set_option linter.unusedSimpArgs false
namespace Go.Proofs.YtjlolpmmpafjeaaGreat
open Slk
abbrev EditT (c : ConfC) (l : List EditC) := { r : Three × ConfC × Int // EditR c l r.2 }
theorem ConfOld.okC {D : Nat → Prop} {w : World} {c : ConfC} {vp vv vs : Value} (h : ConfOld D w c vp vv vs) : OkC c := by
  obtain ⟨_, _, _, _, _, _, op⟩ := h.p.openF
  obtain ⟨_, _, _, _, _, _, ov⟩ := h.v.openF
  obtain ⟨_, _, _, _, _, _, os⟩ := h.s.openF
  exact ⟨h.i1, h.i2, h.i3, op, ov, os, h.lp, h.lv, h.ls⟩
theorem Mid.okC {c : ConfC} {k : Nat} (h : Mid c k) (hk : k ≤ 900) : OkC c := ⟨h.i1, h.i2, h.i3, h.p, h.v, h.s, by have := h.lp; omega, by have := h.lv; omega, by have := h.ls; omega⟩
theorem Edit_spec (D : Nat → Prop) (w : World) (c : ConfC) (vp vv vs v1 : Value) (l : List EditC) (hll : l.length ≤ 1000000) (HC0 : ConfOld D w c vp vv vs) (HE : Old D w (Rep.rep l [v1])) :
    Calls Tryz.prog 56 #[.agg (cfgV c vp vv vs).toArray, v1] w fun e w' => ∃ r : EditT c l, e = .returned (.tuple #[.agg (cfgA r.1.2.1 r.1.1).toArray, .int .i64 r.1.2.2]) ∧ Own D w w' (cfgR r.1.2.1 r.1.1) := by
  obtain ⟨Ae, ce, rfl, hce1, hce2, HSe, heok⟩ := HE.openF
  have HSe : OldS D w Ae (l.flatMap editV) := HSe
  have hokc := HC0.okC
  have h1p : ∃ A n cap, vp = .slice A n cap := by obtain ⟨A, cap, rfl, _⟩ := HC0.p.openF; exact ⟨_, _, _, rfl⟩
  have h1v : ∃ A n cap, vv = .slice A n cap := by obtain ⟨A, cap, rfl, _⟩ := HC0.v.openF; exact ⟨_, _, _, rfl⟩
  have h1s : ∃ A n cap, vs = .slice A n cap := by obtain ⟨A, cap, rfl, _⟩ := HC0.s.openF; exact ⟨_, _, _, rfl⟩
  obtain ⟨Ap', np', cp', hvp⟩ := h1p
  obtain ⟨Av', nv', cv', hvv⟩ := h1v
  obtain ⟨As', ns', cs', hvs⟩ := h1s
  refine hc_enter (vs := [.agg (cfgV c vp vv vs).toArray, .slice Ae l.length ce]) Tryz.func56 rfl _ Tryz.ntmps56 rfl (Own.start D w) ?_
  simp only [argSlots, Nat.zero_add]
  refine zg <| hl_new (on_boxN rfl rfl) rfl rfl rfl fun b2 =>  ?_
  refine hl_new (on_alloc) rfl rfl rfl fun b4 => 
    hl_v (ov_assign rfl) rfl <| zn <| hc_seq <| hc_block <| ?_
  refine zg <| hl_v za10 rfl <| ?_
  refine hl_call (σ := BIff (goodP c)) Tryz.call77 rfl rfl (fun w1 H1 => Own.callx0 H1 fun D' hold hin H2 => Good_spec D' w1 c vp vv vs (HC0.hold hold)) ?_
  intro r1
  try rw [List.nil_append]
  refine hl_v za16 rfl <| ?_
  refine hl_v (ov_assign rfl) rfl <| zn <| ?_
  refine hc_cond_bool rfl (fun a1 => ?_) (fun a1 => ?_)
  · have hno : ¬ goodP c := fun h => by have := r1.2.2 h; rw [this] at a1; cases a1
    have hR : EditR c l (zeroC, 14) := .inl ⟨hno, rfl⟩
    refine zg <| hl_v (ov_buildSN rfl rfl) rfl <| ?_
    refine hl_u0 (on_storeGN rfl rfl rfl rfl rfl rfl) rfl rfl <| hl_v (ov_assign rfl) rfl <| zn <| hc_ret <| hx_block_ret <| ?_
    refine hx_then_ret <| ?_
    exact results_ct (.inr rfl) rfl rfl (by simp) rfl fun w' H' => ⟨⟨(q0, zeroC, 14), hR⟩, rfl, H'.ent (Ent.trans (Ent.cfgR0 _) Ent.append_l)⟩
  have hg : goodP c := r1.2.1 (by simpa using a1)
  have hm0 : Mid c 0 := hg.mid hokc.i1 hokc.i2 hokc.i3 hokc.p hokc.v hokc.s
  refine zg <| hl_v (ov_move rfl) rfl <| hl_v za15 rfl <| ?_
  refine hl_v (ov_gtr rfl rfl) rfl <| hl_v (ov_assign rfl) rfl <| zn <| ?_
  refine hc_cond rfl (fun a2 => ?_) (fun a2 => ?_)
  · have hR : EditR c l (zeroC, 3) := .inr (.inl ⟨hg, by omega, rfl⟩)
    refine zg <| hl_v (ov_buildSN rfl rfl) rfl <| ?_
    refine hl_u0 (on_storeGN rfl rfl rfl rfl rfl rfl) rfl rfl <| hl_v (ov_assign rfl) rfl <| zn <| hc_ret <| hx_block_ret <| ?_
    refine hx_then_ret <| ?_
    exact results_ct (.inr rfl) rfl rfl (by simp) rfl fun w' H' => ⟨⟨(q0, zeroC, 3), hR⟩, rfl, H'.ent (Ent.trans (Ent.cfgR0 _) Ent.append_l)⟩
  have hl32 : l.length ≤ 32 := by omega
  refine hc_skip <| hx_block_normal <| hx_then_normal <| zg <| hl_v za10 rfl <| ?_
  refine hl_call (σ := Three) Tryz.call65 rfl rfl (fun w1 H1 => Own.callx0 H1 fun D' hold hin H2 => Copy_spec D' w1 c vp vv vs (HC0.hold hold)) ?_
  intro q
  try rw [List.nil_append]
  refine hl_u0 (on_storeW (vs := cfgA c q) rfl rfl rfl (by simp) za33) rfl rfl ?_
  refine zn <| hc_seq <| zg <| hl_v (ov_move rfl) rfl <| ?_
  refine hl_v za15 rfl <| ?_
  refine hl_v (ov_move rfl) rfl <| zn <| hc_block <| ?_
  refine hc_loopK1 (σ := Nat × ConfC) [2, 4, 21, 22] rfl 23 (fun s => .int .i64 (s.1 : Int)) (fun s => [cfgO b2 s.2, blk b4 49 [.int .i64 0, .int .i64 0, .int .i64 0, .slice none 0 0, .slice none 0 0, .slice none 0 0]]) (fun s => (s.1 ≤ l.length ∧ Mid s.2 s.1) ∧ foldC c (l.take s.1) = (s.2, 0)) (fun s => l.length - s.1) ((0, c)) (⟨⟨Nat.zero_le _, hm0⟩, rfl⟩) rfl (Ent.trans (b := cfgQ b2 c q ++ [blk b4 49 [.int .i64 0, .int .i64 0, .int .i64 0, .slice none 0 0, .slice none 0 0, .slice none 0 0]]) za4 (cfgO_mk q)) ?_
  rintro ⟨i, ci⟩ hj_ K1 hK1
  dsimp only at hj_ ⊢
  obtain ⟨⟨hi, hm⟩, hf⟩ := hj_
  refine zg <| hl_v (ov_lss rfl rfl) rfl <| zn <| hc_seq <| ?_
  refine hc_cond rfl (fun h => ?_) (fun h => ?_)
  · have hlt : i < l.length := by omega
    obtain ⟨hA, _⟩ := OldS.cells_flat (D := D) (w0 := w) (f := editV) (sz := 7) (fun _ => rfl) (by decide) HSe hlt []
    have hc := fun l' => (OldS.cells_flat (D := D) (w0 := w) (f := editV) (sz := 7) (fun _ => rfl) (by decide) HSe hlt l').2
    have hox := heok l[i] (List.getElem_mem hlt)
    have hmx := hm.one hox
    have hsn := foldC_snoc hlt hf
    have hst : (oneC ci l[i]).2 ≠ 0 → foldC c l = oneC ci l[i] := foldC_stop hlt hf
    generalize l[i] = x at *
    refine zk <| hc_seq <| hc_block <| zg <| ?_
    refine hl_v (ov_idxS rfl (by assumption) rfl _ rfl (by omega)) rfl <| ?_
    refine hl_v (ov_loadG (cs := editV x) rfl rfl (hc _)) rfl ?_
    refine hl_new (on_alloc) rfl rfl rfl fun b7 =>  ?_
    refine hl_u0 (on_storeW (vs := editV x) rfl rfl (by simp) (by simp) za31) rfl rfl ?_
    refine zn <| zg <| hl_v za10 rfl <| ?_
    refine hl_c Tryz.call92 rfl rfl (fun w1 H1 => Own.callp (cfgO b2 ci) H1 fun D' hold hin H2 => one_spec D' w1 b2 ci x i (by omega) hm hox H2) ?_
    refine hl_v (ov_assign rfl) rfl <| zn <| zg <| hl_v (ov_move rfl) rfl <| ?_
    refine hl_v (ov_neq rfl rfl) rfl <| zn <| ?_
    refine hc_cond rfl (fun h2 => ?_) (fun h2 => ?_)
    · have hfc := hst h2
      have hR : EditR c l (zeroC, (oneC ci x).2) := .inr (.inr (.inl ⟨hg, hl32, by rw [hfc]; exact h2, by rw [hfc]⟩))
      refine zg <| hl_v (ov_buildSN rfl rfl) rfl <| ?_
      refine hl_v (ov_move rfl) rfl <| hl_u0 (on_storeGN rfl rfl rfl rfl rfl rfl) rfl rfl <| hl_v (ov_assign rfl) rfl <| zn <| hc_ret <| ?_
      refine hx_block_ret <| hx_then_ret <| hx_then_ret <| hx_block_ret <| hx_then_ret <| ?_
      exact results_ct (.inr rfl) rfl rfl (by simp) rfl fun w' H' => ⟨⟨(q0, zeroC, (oneC ci x).2), hR⟩, rfl, H'.ent (Ent.trans (Ent.cfgR0 _) Ent.append_l)⟩
    have h0 : (oneC ci x).2 = 0 := Classical.not_not.1 h2
    have hfn : foldC c (l.take (i + 1)) = ((oneC ci x).1, 0) := by rw [hsn]; exact Prod.ext rfl h0
    refine hc_skip <| hx_block_normal <| hx_then_normal <| hc_region <| hl_v (ov_add rfl rfl za18) rfl <| ?_
    refine hl_v (ov_move rfl) rfl <| hl_nil <| ?_
    refine hx_next hK1 ((i + 1, (oneC ci x).1)) (⟨⟨hlt, hmx⟩, hfn⟩) (by show l.length - (i + 1) < l.length - i; omega) za9 za6
  have hie : i = l.length := by omega
  subst hie
  rw [List.take_length] at hf
  have hok2 := hm.okC (by omega)
  refine HC.exs ?_
  intro q2
  refine HC.ent (l' := cfgQ b2 ci q2 ++ [blk b4 49 [.int .i64 0, .int .i64 0, .int .i64 0, .slice none 0 0, .slice none 0 0, .slice none 0 0]]) (fun _ h => h) ?_
  refine hc_exit <| hx_then_exit <| hx_then_exit <| hx_block_out <| hx_then_normal <| hc_seq <| ?_
  refine zg <| hl_v za10 rfl <| ?_
  refine hl_call (σ := BIff (goodP ci)) Tryz.call77 rfl rfl (fun w1 H1 => Own.callx0 H1 fun D' hold hin H2 => Good_spec D' w1 ci _ _ _ (ConfOld.rows (q := q2) hok2 hin)) ?_
  intro r2
  try rw [List.nil_append]
  refine hl_v za16 rfl <| ?_
  refine zn <| ?_
  refine hc_cond_bool rfl (fun a3 => ?_) (fun a3 => ?_)
  · have hno : ¬ goodP ci := fun h => by have := r2.2.2 h; rw [this] at a3; cases a3
    have hR : EditR c l (zeroC, 14) := .inr (.inr (.inr (.inl ⟨hg, hl32, by rw [hf], by rw [hf]; exact hno, rfl⟩)))
    refine zg <| hl_v (ov_buildSN rfl rfl) rfl <| ?_
    refine hl_u0 (on_storeGN rfl rfl rfl rfl rfl rfl) rfl rfl <| hl_v (ov_assign rfl) rfl <| zn <| hc_ret <| hx_then_ret <| ?_
    exact results_ct (.inr rfl) rfl rfl (by simp) rfl fun w' H' => ⟨⟨(q0, zeroC, 14), hR⟩, rfl, H'.ent (Ent.trans (Ent.cfgR0 _) Ent.append_l)⟩
  have hyes : goodP ci := r2.2.1 (by simpa using a3)
  have hR : EditR c l (ci, 0) := .inr (.inr (.inr (.inr ⟨hg, hl32, by rw [hf], by rw [hf]; exact hyes, by rw [hf]⟩)))
  refine zk <| zg <| hl_v za10 rfl <| ?_
  refine hl_u0 (on_storeGN rfl rfl rfl rfl rfl rfl) rfl rfl <| hl_v (ov_assign rfl) rfl <| zn <| hc_ret <| ?_
  exact results_ct (.inr rfl) rfl rfl (by simp) rfl fun w' H' => ⟨⟨(q2, ci, 0), hR⟩, rfl, H'.ent za4⟩
end Go.Proofs.YtjlolpmmpafjeaaGreat
