import Derived.Test.YtpgpfcplchaleaaCon5
set_option linter.unusedVariables false
set_option linter.unusedSimpArgs false
namespace Go.Proofs.Ytpgpfcplchaleaa
open Slk
theorem Good1_spec (D : Nat → Prop) (w : World) (b : Nat) (c : ConfC) (x : StatC) (vp vv vs : Value) (HB : Old D w (rdA (some ⟨b, 0, none⟩) (cfgV c vp vv vs))) (H : ConfOld D w c vp vv vs) (hr : risP cV c.2.2.2.2.1) :
    Calls Try.prog 59 #[.agg (statV x).toArray, .pointer (some ⟨b, 0, none⟩)] w fun e w' => ∃ r : BIff (¬ statOk c.2.2.2.1.length c.2.2.2.2.1 x), e = .returned (.bool r.1) ∧ Own D w w' [] := by
  have hcb : ∀ l, CellsAre D w l b 0 (cfgV c vp vv vs) := fun l => (SrcIs.old (l := l) (OldS.of_old HB)).cells (by simp)
  refine hc_enter (vs := [.agg (statV x).toArray, .pointer (some ⟨b, 0, none⟩)]) Try.func59 rfl _ Try.ntmps59 rfl (Own.start D w) ?_
  simp only [argSlots, Nat.zero_add]
  refine hc_seq <|
    hc_region <|
    hl_new (on_boxN rfl rfl) rfl rfl rfl fun b2 =>  ?_
  refine hl_val (ov_assign rfl) rfl rfl rfl <|
    hl_nil <|
    hx_then_normal <|
    hc_seq <|
    hc_region <| ?_
  refine hl_val (ov_loadG (cs := cfgV c vp vv vs) rfl rfl (hcb _)) rfl rfl rfl ?_
  refine hl_val (by first | exact ov_loadW rfl (by simp; done) | exact ov_loadGB rfl rfl) rfl rfl rfl <| ?_
  refine hl_call (σ := BIff (statOk c.2.2.2.1.length c.2.2.2.2.1 x)) Try.call60 rfl rfl (fun w1 H1 => Own.callx0 H1 fun D' hold hin H2 => static_spec D' w1 c x vp vv vs (H.hold hold) hr) ?_
  intro r
  try rw [List.nil_append]
  refine hl_val (by first | exact ov_notd rfl | exact ov_not rfl) rfl rfl rfl <| ?_
  refine hl_val (ov_assign rfl) rfl rfl rfl <|
    hl_nil <|
    hx_then_normal <|
    hc_ret <| ?_
  exact results_1 (.inr rfl) rfl rfl fun w' H' => ⟨⟨!r.1, by have := r.2; cases h : r.1 <;> simp_all⟩, rfl, H'.ent (Ent.nil _)⟩
def badAt (c : ConfC) (i : Nat) : Prop := ∃ h : i < c.2.2.2.2.2.length, ¬ statOk c.2.2.2.1.length c.2.2.2.2.1 c.2.2.2.2.2[i]
theorem IdxS_spec (D : Nat → Prop) (w : World) (b : Nat) (c : ConfC) (vp vv vs : Value) (HB : Old D w (rdA (some ⟨b, 0, none⟩) (cfgV c vp vv vs))) (H : ConfOld D w c vp vv vs) (hr : risP cV c.2.2.2.2.1) :
    Calls Try.prog 81 #[vs, .func (.func 59) #[] #[.pointer (some ⟨b, 0, none⟩)]] w fun e w' => ∃ r : { r : Int // 0 ≤ r ↔ ∃ i, badAt c i }, e = .returned (.int .i64 r.1) ∧ Own D w w' [] := by
  have H0 := H
  have hls := H.ls
  obtain ⟨As, caps, hvs, hs1, hs2, HSs, hsok⟩ := H.s.openF
  have HSs : OldS D w As (c.2.2.2.2.2.flatMap statV) := HSs
  obtain ⟨l, hll⟩ : ∃ l, c.2.2.2.2.2 = l := ⟨_, rfl⟩
  have hbd : ∀ i, badAt c i ↔ ∃ h : i < l.length, ¬ statOk c.2.2.2.1.length c.2.2.2.2.1 l[i] := fun i => by subst hll; exact Iff.rfl
  rw [hll] at HSs hvs hls hs1
  subst hvs
  refine hc_enter (vs := [.slice As l.length caps, .func (.func 59) #[] #[.pointer (some ⟨b, 0, none⟩)]]) Try.func81 rfl _ Try.ntmps81 rfl (Own.start D w) ?_
  simp only [argSlots, Nat.zero_add]
  refine hc_seq <|
    hc_region <|
    hl_val (ov_assign rfl) rfl rfl rfl <|
    hl_nil <|
    hx_then_normal <|
    hc_seq <| ?_
  refine hc_seq <|
    hc_region <|
    hl_val (ov_move rfl) rfl rfl rfl <|
    hl_val (by first | exact ov_len rfl | exact ov_lenS rfl) rfl rfl rfl <| ?_
  refine hl_val (ov_move rfl) rfl rfl rfl <|
    hl_nil <|
    hx_then_normal <|
    hc_block <| ?_
  refine hc_loops1 (σ := Nat) [0, 1, 7] rfl 8 (fun i => .int .i64 (i : Int)) (fun i => i ≤ l.length ∧ ∀ j, j < i → ¬ badAt c j) (fun i => l.length - i) (0) (⟨Nat.zero_le _, fun j h => absurd h (Nat.not_lt_zero _)⟩) rfl ?_
  rintro i ⟨hi, hall⟩ K1 hK1
  refine hc_seq <|
    hc_region <|
    hl_val (ov_lss rfl rfl) rfl rfl rfl <|
    hl_nil <|
    hx_then_normal <|
    hc_seq <| ?_
  refine hc_cond rfl (fun h => ?_) (fun h => ?_)
  · have hlt : i < l.length := by omega
    obtain ⟨hA, hc⟩ := OldS.cells_flat (D := D) (w0 := w) (f := statV) (sz := 3) (fun _ => rfl) (by decide) HSs hlt []
    have hbi : badAt c i ↔ ¬ statOk c.2.2.2.1.length c.2.2.2.2.1 l[i] := (hbd i).trans ⟨fun ⟨_, h⟩ => h, fun h => ⟨hlt, h⟩⟩
    generalize l[i] = x at *
    refine hc_skip <|
      hx_then_normal <|
      hc_seq <|
      hc_block <|
      hc_seq <|
      hc_region <| ?_
    refine hl_val (ov_move rfl) rfl rfl rfl <|
      hl_val (ov_assign rfl) rfl rfl rfl <|
      hl_nil <|
      hx_then_normal <|
      hc_seq <|
      hc_region <| ?_
    refine hl_val (ov_move rfl) rfl rfl rfl <|
      hl_val (ov_move rfl) rfl rfl rfl <|
      hl_val (ov_move rfl) rfl rfl rfl <|
      hl_val (ov_idxS rfl (by assumption) rfl _ rfl (by omega)) rfl rfl rfl <| ?_
    refine hl_val (ov_loadG (cs := statV x) rfl rfl hc) rfl rfl rfl ?_
    refine hl_callv (σ := BIff (¬ statOk c.2.2.2.1.length c.2.2.2.2.1 x)) rfl (fun _ _ => Try.call59 _ _) rfl rfl (fun w1 H1 => Own.callx0 H1 fun D' hold hin H2 => Good1_spec D' w1 b c x vp vv _ (hold _ HB) (H0.hold hold) hr) ?_
    intro r
    try rw [List.nil_append]
    refine hl_nil <|
      hx_then_normal <| ?_
    refine hc_cond_bool rfl (fun hb => ?_) (fun hb => ?_)
    · have hbad := hbi.2 (r.2.1 hb)
      refine hc_seq <|
        hc_region <|
        hl_val (ov_move rfl) rfl rfl rfl <|
        hl_val (ov_assign rfl) rfl rfl rfl <|
        hl_nil <|
        hx_then_normal <| ?_
      refine hc_ret <|
        hx_block_ret <|
        hx_then_ret <|
        hx_then_ret <|
        hx_block_ret <|
        hx_then_ret <| ?_
      exact results_1 (.inr rfl) rfl rfl fun w' H' => ⟨⟨i, ⟨fun _ => ⟨i, hbad⟩, fun _ => by omega⟩⟩, rfl, H'⟩
    · have hok : ¬ badAt c i := fun h => by have := r.2.2 (hbi.1 h); rw [this] at hb; cases hb
      have hn : ∀ j, j < i + 1 → ¬ badAt c j := fun j hj => by
        rcases Nat.lt_or_ge j i with h3 | h3
        · exact hall j h3
        · obtain rfl : j = i := by omega
          exact hok
      refine hc_skip <|
        hx_block_normal <|
        hx_then_normal <|
        hc_region <|
        hl_val (ov_add rfl rfl (by first | exact wrap_i64 (by omega) | rfl)) rfl rfl rfl <| ?_
      refine hl_val (ov_move rfl) rfl rfl rfl <|
        hl_nil <| ?_
      refine hx_next hK1 (i + 1) (⟨hlt, hn⟩) (by omega) (by repeat (first | exact Slots.sub_nil _ | refine Slots.sub_cons rfl ?_)) (by first | assumption | exact Ent.refl _ | exact Ent.nil _ | (repeat (first | exact Ent.refl _ | exact Ent.nil _ | refine Ent.pick ?_)))
  · refine hc_exit <|
      hx_then_exit <|
      hx_then_exit <|
      hx_block_out <|
      hx_then_normal <|
      hc_seq <| ?_
    refine hc_region <|
      hl_val (ov_assign rfl) rfl rfl rfl <|
      hl_nil <|
      hx_then_normal <|
      hc_ret <| ?_
    exact results_1 (.inr rfl) rfl rfl fun w' H' => ⟨⟨-1, ⟨fun h => by omega, fun ⟨j, hj⟩ => absurd hj (hall j (by obtain ⟨hj2, _⟩ := (hbd j).1 hj; omega))⟩⟩, rfl, H'⟩
theorem HasS_spec (D : Nat → Prop) (w : World) (b : Nat) (c : ConfC) (vp vv vs : Value) (HB : Old D w (rdA (some ⟨b, 0, none⟩) (cfgV c vp vv vs))) (H : ConfOld D w c vp vv vs) (hr : risP cV c.2.2.2.2.1) :
    Calls Try.prog 58 #[vs, .func (.func 59) #[] #[.pointer (some ⟨b, 0, none⟩)]] w fun e w' => ∃ r : BIff (∃ i, badAt c i), e = .returned (.bool r.1) ∧ Own D w w' [] := by
  refine hc_enter (vs := [vs, .func (.func 59) #[] #[.pointer (some ⟨b, 0, none⟩)]]) Try.func58 rfl _ Try.ntmps58 rfl (Own.start D w) ?_
  simp only [argSlots, Nat.zero_add]
  refine hc_seq <|
    hc_region <|
    hl_val (ov_assign rfl) rfl rfl rfl <|
    hl_nil <|
    hx_then_normal <|
    hc_seq <| ?_
  refine hc_region <|
    hl_val (ov_move rfl) rfl rfl rfl <|
    hl_val (ov_move rfl) rfl rfl rfl <| ?_
  refine hl_call (σ := { r : Int // 0 ≤ r ↔ ∃ i, badAt c i }) Try.call81 rfl rfl (fun w1 H1 => Own.callx0 H1 fun D' hold hin H2 => IdxS_spec D' w1 b c vp vv vs (hold _ HB) (H.hold hold) hr) ?_
  intro r
  try rw [List.nil_append]
  refine hl_val (ov_geq rfl rfl) rfl rfl rfl <|
    hl_val (ov_assign rfl) rfl rfl rfl <|
    hl_nil <|
    hx_then_normal <|
    hc_ret <| ?_
  exact results_1 (.inr rfl) rfl rfl fun w' H' => ⟨⟨decide (0 ≤ r.1), by rw [decide_eq_true_iff]; exact r.2⟩, rfl, H'⟩
/-- A configuration that may be. -/
def goodP (c : ConfC) : Prop := timesP c ∧ vlansP c ∧ portsP c ∧ c.2.2.2.2.2.length ≤ 16 ∧ risP byPl c.2.2.2.2.2 ∧ ∀ i (h : i < c.2.2.2.2.2.length), statOk c.2.2.2.1.length c.2.2.2.2.1 c.2.2.2.2.2[i]
theorem Good_spec (D : Nat → Prop) (w : World) (c : ConfC) (vp vv vs : Value) (H : ConfOld D w c vp vv vs) :
    Calls Try.prog 32 #[.agg (cfgV c vp vv vs).toArray] w fun e w' => ∃ b : BIff (goodP c), e = .returned (.bool b.1) ∧ Own D w w' [] := by
  have hls := H.ls
  obtain ⟨As, caps, hvs, hs1, hs2, HSs, hsok⟩ := H.s.openF
  refine hc_enter (vs := [.agg (cfgV c vp vv vs).toArray]) Try.func32 rfl _ Try.ntmps32 rfl (Own.start D w) ?_
  simp only [argSlots, Nat.zero_add]
  refine hc_seq <|
    hc_region <|
    hl_new (on_boxN rfl rfl) rfl rfl rfl fun b1 =>  ?_
  refine hl_val (ov_assign rfl) rfl rfl rfl <|
    hl_nil <|
    hx_then_normal <|
    hc_seq <|
    hc_seq <|
    hc_region <| ?_
  refine hl_val (by first | exact ov_loadW rfl (by simp; done) | exact ov_loadGB rfl rfl) rfl rfl rfl <| ?_
  refine hl_call (σ := BIff (timesP c)) Try.call53 rfl rfl (fun w1 H1 => Own.callx0 H1 fun D' hold hin H2 => times_spec D' w1 c vp vv vs (H.hold hold)) ?_
  intro r1
  try rw [List.nil_append]
  refine hl_val (by first | exact ov_notd rfl | exact ov_not rfl) rfl rfl rfl <| ?_
  refine hl_val (ov_move rfl) rfl rfl rfl <| ?_
  refine hl_partb (t := 6) rfl (fun a1 => ?_) (fun a1 => ?_)
  · have hno : ¬ goodP c := fun h => by have := r1.2.2 h.1; rw [this] at a1; cases a1
    refine hl_off rfl rfl rfl rfl rfl rfl <|
      hl_off rfl rfl rfl rfl rfl rfl <|
      hl_off rfl rfl rfl rfl rfl rfl <|
      hl_val (ov_pickT rfl rfl) rfl rfl rfl <|
      hl_val (ov_move rfl) rfl rfl rfl <|
      hl_off rfl rfl rfl rfl rfl rfl <| ?_
    refine hl_off rfl rfl rfl rfl rfl rfl <|
      hl_off rfl rfl rfl rfl rfl rfl <|
      hl_val (ov_pickT rfl rfl) rfl rfl rfl <|
      hl_val (ov_move rfl) rfl rfl rfl <|
      hl_off rfl rfl rfl rfl rfl rfl <|
      hl_off rfl rfl rfl rfl rfl rfl <| ?_
    refine hl_off rfl rfl rfl rfl rfl rfl <|
      hl_off rfl rfl rfl rfl rfl rfl <|
      hl_val (ov_pickT rfl rfl) rfl rfl rfl <|
      hl_val (ov_move rfl) rfl rfl rfl <|
      hl_off rfl rfl rfl rfl rfl rfl <|
      hl_off rfl rfl rfl rfl rfl rfl <| ?_
    refine hl_off rfl rfl rfl rfl rfl rfl <|
      hl_off rfl rfl rfl rfl rfl rfl <|
      hl_val (ov_pickT rfl rfl) rfl rfl rfl <|
      hl_nil <|
      hx_then_normal <|
      hc_cond_true rfl <| ?_
    refine hc_seq <|
      hc_region <|
      hl_val (ov_assign rfl) rfl rfl rfl <|
      hl_nil <|
      hx_then_normal <|
      hc_ret <| ?_
    refine hx_then_ret <| ?_
    exact results_1 (.inr rfl) rfl rfl fun w' H' => ⟨bF hno, rfl, H'.ent (Ent.nil _)⟩
  · have g1 : timesP c := r1.2.1 (by simpa using a1)
    refine hl_on rfl rfl <| hl_val (by first | exact ov_loadW rfl (by simp; done) | exact ov_loadGB rfl rfl) rfl rfl rfl <| ?_
    refine hl_on rfl rfl <| hl_call (σ := BIff (vlansP c)) Try.call54 rfl rfl (fun w1 H1 => Own.callx0 H1 fun D' hold hin H2 => vlans_spec D' w1 c vp vv vs (H.hold hold)) ?_
    intro r2
    try rw [List.nil_append]
    refine hl_on rfl rfl <| hl_val (by first | exact ov_notd rfl | exact ov_not rfl) rfl rfl rfl <| ?_
    refine hl_val (ov_pickF rfl rfl) rfl rfl rfl <|
      hl_val (ov_move rfl) rfl rfl rfl <| ?_
    refine hl_partb (t := 11) rfl (fun a2 => ?_) (fun a2 => ?_)
    · have hno : ¬ goodP c := fun h => by have := r2.2.2 h.2.1; rw [this] at a2; cases a2
      refine hl_off rfl rfl rfl rfl rfl rfl <|
        hl_off rfl rfl rfl rfl rfl rfl <|
        hl_off rfl rfl rfl rfl rfl rfl <|
        hl_val (ov_pickT rfl rfl) rfl rfl rfl <|
        hl_val (ov_move rfl) rfl rfl rfl <|
        hl_off rfl rfl rfl rfl rfl rfl <| ?_
      refine hl_off rfl rfl rfl rfl rfl rfl <|
        hl_off rfl rfl rfl rfl rfl rfl <|
        hl_off rfl rfl rfl rfl rfl rfl <|
        hl_val (ov_pickT rfl rfl) rfl rfl rfl <|
        hl_val (ov_move rfl) rfl rfl rfl <|
        hl_off rfl rfl rfl rfl rfl rfl <| ?_
      refine hl_off rfl rfl rfl rfl rfl rfl <|
        hl_off rfl rfl rfl rfl rfl rfl <|
        hl_off rfl rfl rfl rfl rfl rfl <|
        hl_val (ov_pickT rfl rfl) rfl rfl rfl <|
        hl_nil <|
        hx_then_normal <| ?_
      refine hc_cond_true rfl <|
        hc_seq <|
        hc_region <|
        hl_val (ov_assign rfl) rfl rfl rfl <|
        hl_nil <|
        hx_then_normal <| ?_
      refine hc_ret <|
        hx_then_ret <| ?_
      exact results_1 (.inr rfl) rfl rfl fun w' H' => ⟨bF hno, rfl, H'.ent (Ent.nil _)⟩
    · have g2 : vlansP c := r2.2.1 (by simpa using a2)
      have hr := g2.2.2.2
      refine hl_on rfl rfl <| hl_val (by first | exact ov_loadW rfl (by simp; done) | exact ov_loadGB rfl rfl) rfl rfl rfl <| ?_
      refine hl_on rfl rfl <| hl_call (σ := BIff (portsP c)) Try.call55 rfl rfl (fun w1 H1 => Own.callx0 H1 fun D' hold hin H2 => ports_spec D' w1 c vp vv vs (H.hold hold) hr) ?_
      intro r3
      try rw [List.nil_append]
      refine hl_on rfl rfl <| hl_val (by first | exact ov_notd rfl | exact ov_not rfl) rfl rfl rfl <| ?_
      refine hl_val (ov_pickF rfl rfl) rfl rfl rfl <|
        hl_val (ov_move rfl) rfl rfl rfl <| ?_
      refine hl_partb (t := 16) rfl (fun a3 => ?_) (fun a3 => ?_)
      · have hno : ¬ goodP c := fun h => by have := r3.2.2 h.2.2.1; rw [this] at a3; cases a3
        refine hl_off rfl rfl rfl rfl rfl rfl <|
          hl_off rfl rfl rfl rfl rfl rfl <|
          hl_off rfl rfl rfl rfl rfl rfl <|
          hl_off rfl rfl rfl rfl rfl rfl <|
          hl_val (ov_pickT rfl rfl) rfl rfl rfl <|
          hl_val (ov_move rfl) rfl rfl rfl <| ?_
        refine hl_off rfl rfl rfl rfl rfl rfl <|
          hl_off rfl rfl rfl rfl rfl rfl <|
          hl_off rfl rfl rfl rfl rfl rfl <|
          hl_off rfl rfl rfl rfl rfl rfl <|
          hl_val (ov_pickT rfl rfl) rfl rfl rfl <|
          hl_nil <| ?_
        refine hx_then_normal <|
          hc_cond_true rfl <|
          hc_seq <|
          hc_region <|
          hl_val (ov_assign rfl) rfl rfl rfl <|
          hl_nil <| ?_
        refine hx_then_normal <|
          hc_ret <|
          hx_then_ret <| ?_
        exact results_1 (.inr rfl) rfl rfl fun w' H' => ⟨bF hno, rfl, H'.ent (Ent.nil _)⟩
      · have g3 : portsP c := r3.2.1 (by simpa using a3)
        subst hvs
        refine hl_on rfl rfl <| hl_val (ov_fieldA rfl) rfl rfl rfl <|
          hl_on rfl rfl <| hl_val (ov_load rfl (CellIs.blk rfl)) rfl rfl rfl <|
          hl_on rfl rfl <| hl_val (by first | exact ov_len rfl | exact ov_lenS rfl) rfl rfl rfl <| ?_
        refine hl_on rfl rfl <| hl_val (ov_gtr rfl rfl) rfl rfl rfl <|
          hl_val (ov_pickF rfl rfl) rfl rfl rfl <|
          hl_val (ov_move rfl) rfl rfl rfl <| ?_
        refine hl_part (t := 22) rfl (fun a4 => ?_) (fun a4 => ?_)
        · have hno : ¬ goodP c := fun h => by have := h.2.2.2.1; omega
          refine hl_off rfl rfl rfl rfl rfl rfl <|
            hl_off rfl rfl rfl rfl rfl rfl <|
            hl_off rfl rfl rfl rfl rfl rfl <|
            hl_off rfl rfl rfl rfl rfl rfl <|
            hl_val (ov_pickT rfl rfl) rfl rfl rfl <|
            hl_nil <| ?_
          refine hx_then_normal <|
            hc_cond_true rfl <|
            hc_seq <|
            hc_region <|
            hl_val (ov_assign rfl) rfl rfl rfl <|
            hl_nil <| ?_
          refine hx_then_normal <|
            hc_ret <|
            hx_then_ret <| ?_
          exact results_1 (.inr rfl) rfl rfl fun w' H' => ⟨bF hno, rfl, H'.ent (Ent.nil _)⟩
        · refine hl_on rfl rfl <| hl_val (ov_fieldA rfl) rfl rfl rfl <|
            hl_on rfl rfl <| hl_val (ov_load rfl (CellIs.blk rfl)) rfl rfl rfl <| ?_
          refine hl_on rfl rfl <| hl_call (σ := BIff (risP byPl c.2.2.2.2.2)) Try.call56 rfl rfl (fun w1 H1 => Own.callx0 H1 fun D' hold hin H2 => risS_spec D' w1 _ c.2.2.2.2.2 (by omega) (hold _ H.s)) ?_
          intro r5
          try rw [List.nil_append]
          refine hl_on rfl rfl <| hl_val (by first | exact ov_notd rfl | exact ov_not rfl) rfl rfl rfl <| ?_
          refine hl_val (ov_pickF rfl rfl) rfl rfl rfl <|
            hl_nil <|
            hx_then_normal <| ?_
          refine hc_cond_bool rfl (fun a5 => ?_) (fun a5 => ?_)
          · have hno : ¬ goodP c := fun h => by have := r5.2.2 h.2.2.2.2.1; rw [this] at a5; cases a5
            refine hc_seq <|
              hc_region <|
              hl_val (ov_assign rfl) rfl rfl rfl <|
              hl_nil <|
              hx_then_normal <|
              hc_ret <| ?_
            refine hx_then_ret <| ?_
            exact results_1 (.inr rfl) rfl rfl fun w' H' => ⟨bF hno, rfl, H'.ent (Ent.nil _)⟩
          · have g5 : risP byPl c.2.2.2.2.2 := r5.2.1 (by simpa using a5)
            refine hc_skip <|
              hx_then_normal <|
              hc_seq <|
              hc_region <|
              hl_val (ov_fieldA rfl) rfl rfl rfl <|
              hl_val (ov_load rfl (CellIs.blk rfl)) rfl rfl rfl <| ?_
            refine hl_val (ov_func rfl rfl) rfl rfl rfl <| ?_
            refine hl_call (σ := BIff (∃ i, badAt c i)) Try.call58 rfl rfl (fun w1 H1 => Own.callx0 H1 fun D' hold hin H2 => HasS_spec D' w1 b1 c vp vv _ (hin _ fun h hs ho => stars_rdB (b := b1) hs) (H.hold hold) hr) ?_
            intro r6
            try rw [List.nil_append]
            refine hl_val (by first | exact ov_notd rfl | exact ov_not rfl) rfl rfl rfl <| ?_
            refine hl_val (ov_assign rfl) rfl rfl rfl <|
              hl_nil <|
              hx_then_normal <|
              hc_ret <| ?_
            exact results_1 (.inr rfl) rfl rfl fun w' H' => ⟨⟨!r6.1, by rw [Bool.not_eq_true', ← Bool.not_eq_true, r6.2]; exact ⟨fun h => ⟨g1, g2, g3, by omega, g5, fun i hi => Classical.byContradiction fun hx => h ⟨i, hi, hx⟩⟩, fun h ⟨i, hi, hx⟩ => hx (h.2.2.2.2.2 i hi)⟩⟩, rfl, H'.ent (Ent.nil _)⟩
end Go.Proofs.Ytpgpfcplchaleaa
