import Derived.Test.YtpgpfcplchaleaaCfG
import Derived.Test.YtpgpfcplchaleaaCodM
set_option linter.unusedVariables false
set_option linter.unusedSimpArgs false
namespace Go.Proofs.Ytpgpfcplchaleaa
open Slk
theorem FirstT.det {n : Int} (f g : FirstT n) : f.1.2.1 = g.1.2.1 ∧ f.1.2.2 = g.1.2.2 := by
  rcases f.2 with ⟨h1, h2⟩ | ⟨h1, h2, h3⟩ <;> rcases g.2 with ⟨k1, k2⟩ | ⟨k1, k2, k3⟩
  · exact ⟨congrArg Prod.fst (h2.trans k2.symm), congrArg Prod.snd (h2.trans k2.symm)⟩
  · exact absurd ⟨k1, k2⟩ h1
  · exact absurd ⟨h1, h2⟩ k1
  exact ⟨congrArg Prod.fst (h3.trans k3.symm), congrArg Prod.snd (h3.trans k3.symm)⟩
theorem FirstT.ok {n : Int} (f : FirstT n) : OkC f.1.2.1 := by
  rcases f.2 with ⟨h1, h2⟩ | ⟨h1, h2, h3⟩
  · rw [show f.1.2.1 = zeroC from congrArg Prod.fst h2]; exact zeroC_ok
  rw [show f.1.2.1 = firstC n.toNat from congrArg Prod.fst h3]; exact firstC_ok _ (by omega)
theorem ConfigMay_walk (W : World) (c0 d0 : List Value) (v2 : Value) (c d : ConfC) (n : Int) (h0 : Old none' W (Rep.rep c c0)) (h1 : Old none' W (Rep.rep d d0)) (h2 : Old none' W (Rep.rep n [v2])) :
    Calls Try.prog 8 #[.agg c0.toArray, .agg d0.toArray, v2] W fun e w' => e = .returned (.bool true) ∧ Own none' W w' [] := by
  obtain ⟨Ap, cp, Av, cv, As, cx, rfl, HCo⟩ := conf_open h0
  obtain ⟨Bp, dp, Bv, dv, Bs, dx, rfl, HDo⟩ := conf_open h1
  obtain ⟨hh, _, e2, hn⟩ := h2
  obtain rfl : v2 = .int .i64 n := by simpa using e2
  refine hc_enter (vs := [.agg (cfgV c (.slice Ap c.2.2.2.1.length cp) (.slice Av c.2.2.2.2.1.length cv) (.slice As c.2.2.2.2.2.length cx)).toArray, .agg (cfgV d (.slice Bp d.2.2.2.1.length dp) (.slice Bv d.2.2.2.2.1.length dv) (.slice Bs d.2.2.2.2.2.length dx)).toArray, .int .i64 n]) Try.func8 rfl _ Try.ntmps8 rfl (Own.start none' W) ?_
  simp only [argSlots, Nat.zero_add]
  refine hc_seq <| hc_region <| hl_new (on_boxN rfl rfl) rfl rfl rfl fun b3 =>  ?_
  refine hl_new (on_boxN rfl rfl) rfl rfl rfl fun b4 =>  ?_
  refine hl_v (ov_assign rfl) rfl <| hl_nil <| hx_then_normal <| hc_seq <| hc_seq <| hc_region <| ?_
  refine hl_v (by first | exact ov_loadW rfl (by simp; done) | exact ov_loadGB rfl rfl) rfl <| ?_
  refine hl_call (σ := BIff (c.2.2.2.1.length ≤ 20 ∧ c.2.2.2.2.1.length ≤ 40 ∧ c.2.2.2.2.2.length ≤ 40)) Try.call15 rfl rfl (fun w1 H1 => Own.callx0 H1 fun D' hold hin H2 => Fair_spec D' w1 c.1 c.2.1 c.2.2.1 Ap Av As c.2.2.2.1.length cp c.2.2.2.2.1.length cv c.2.2.2.2.2.length cx) ?_
  intro f
  try rw [List.nil_append]
  refine hl_v (by first | exact ov_notd rfl | exact ov_not rfl) rfl <| ?_
  refine hl_v (ov_move rfl) rfl <| ?_
  refine hl_partb (t := 15) rfl (fun a1 => ?_) (fun a1 => ?_)
  · refine hl_off rfl rfl rfl rfl rfl rfl <| hl_off rfl rfl rfl rfl rfl rfl <| hl_off rfl rfl rfl rfl rfl rfl <| hl_v (ov_pickT rfl rfl) rfl <| hl_nil <| hx_then_normal <| ?_
    refine hc_cond_true rfl <| hc_seq <| hc_region <| ?_
    refine hl_c Try.call28 rfl rfl (fun w1 H1 => Own.calln H1 fun D' hold hin H2 => wakes5_spec D' w1) ?_
    refine hl_v (ov_assign rfl) rfl <| hl_nil <| hx_then_normal <| hc_ret <| hx_then_ret <| ?_
    exact results_1 (.inr rfl) rfl rfl fun w' H' => ⟨rfl, H'.ent (Ent.nil _)⟩
  have hf := f.2.1 (by simpa using a1)
  have HCf := HCo (by omega) (by omega) (by omega)
  refine hl_on rfl rfl <| hl_v (by first | exact ov_loadW rfl (by simp; done) | exact ov_loadGB rfl rfl) rfl <| ?_
  refine hl_on rfl rfl <| hl_call (σ := BIff (d.2.2.2.1.length ≤ 20 ∧ d.2.2.2.2.1.length ≤ 40 ∧ d.2.2.2.2.2.length ≤ 40)) Try.call15 rfl rfl (fun w1 H1 => Own.callx0 H1 fun D' hold hin H2 => Fair_spec D' w1 d.1 d.2.1 d.2.2.1 Bp Bv Bs d.2.2.2.1.length dp d.2.2.2.2.1.length dv d.2.2.2.2.2.length dx) ?_
  intro g
  try rw [List.nil_append]
  refine hl_on rfl rfl <| hl_v (by first | exact ov_notd rfl | exact ov_not rfl) rfl <| ?_
  refine hl_v (ov_pickF rfl rfl) rfl <| hl_nil <| hx_then_normal <| ?_
  refine hc_cond_bool rfl (fun a2 => ?_) (fun a2 => ?_)
  · refine hc_seq <| hc_region <| ?_
    refine hl_c Try.call28 rfl rfl (fun w1 H1 => Own.calln H1 fun D' hold hin H2 => wakes5_spec D' w1) ?_
    refine hl_v (ov_assign rfl) rfl <| hl_nil <| hx_then_normal <| hc_ret <| hx_then_ret <| ?_
    exact results_1 (.inr rfl) rfl rfl fun w' H' => ⟨rfl, H'.ent (Ent.nil _)⟩
  have hg := g.2.1 (by simpa using a2)
  have HDf := HDo (by omega) (by omega) (by omega)
  refine hc_skip <| hx_then_normal <| hc_seq <| hc_region <| hl_v (ov_move rfl) rfl <| ?_
  refine hl_call (σ := FirstT n) Try.call29 rfl rfl (fun w1 H1 => Own.callx0 H1 fun D' hold hin H2 => First_res D' w1 n) ?_
  intro f1
  try rw [List.nil_append]
  refine hl_v (ov_move rfl) rfl <| hl_v (ov_extract rfl rfl) rfl <| hl_v (ov_extract rfl rfl) rfl <| hl_new (on_alloc) rfl rfl rfl fun b7 =>  ?_
  refine hl_u0 (on_storeW (vs := cfgA f1.1.2.1 f1.1.1) rfl rfl rfl (by simp) (by simp [Value.oneCell'])) rfl rfl ?_
  refine hl_v (ov_assign rfl) rfl <| hl_nil <| hx_then_normal <| hc_seq <| hc_region <| hl_v (ov_move rfl) rfl <| ?_
  refine hl_call (σ := FirstT n) Try.call30 rfl rfl (fun w1 H1 => Own.callx0 H1 fun D' hold hin H2 => RFirst_res D' w1 n hn) ?_
  intro f2
  try rw [List.nil_append]
  refine hl_v (ov_move rfl) rfl <| hl_v (ov_extract rfl rfl) rfl <| hl_v (ov_extract rfl rfl) rfl <| hl_new (on_alloc) rfl rfl rfl fun b9 =>  ?_
  refine hl_u0 (on_storeW (vs := cfgA f2.1.2.1 f2.1.1) rfl rfl rfl (by simp) (by simp [Value.oneCell'])) rfl rfl ?_
  have hdet := f1.det f2
  have hok1 := f1.ok
  obtain ⟨⟨q1, c1, e1⟩, hs1⟩ := f1
  obtain ⟨⟨q2, c2, e2⟩, hs2⟩ := f2
  dsimp only at hdet hok1 ⊢
  obtain ⟨rfl, rfl⟩ := hdet
  have hokc := HCf.okC
  refine hl_v (ov_assign rfl) rfl <| hl_nil <| hx_then_normal <| hc_seq <| hc_region <| hl_v (by first | exact ov_loadW rfl (by simp; done) | exact ov_loadGB rfl rfl) rfl <| ?_
  refine hl_call (σ := Three) Try.call31 rfl rfl (fun w1 H1 => Own.callx0 H1 fun D' hold hin H2 => Copy_spec D' w1 c _ _ _ (HCf.hold hold)) ?_
  intro q3
  try rw [List.nil_append]
  refine hl_new (on_alloc) rfl rfl rfl fun b11 =>  ?_
  refine hl_u0 (on_storeW (vs := cfgA c q3) rfl rfl rfl (by simp) (by simp [Value.oneCell'])) rfl rfl ?_
  refine hl_nil <| hx_then_normal <| hc_seq <| ?_
  refine hc_any [blk b3 26 (cfgV c (.slice Ap c.2.2.2.1.length cp) (.slice Av c.2.2.2.2.1.length cv) (.slice As c.2.2.2.2.2.length cx)), blk b4 26 (cfgV d (.slice Bp d.2.2.2.1.length dp) (.slice Bv d.2.2.2.2.1.length dv) (.slice Bs d.2.2.2.2.2.length dx)), blk b7 26 (cfgA c1 q1), blk b9 26 (cfgA c1 q2), blk b11 26 (cfgA c q3)] mixed 33 rfl ?_
  refine ha_v 0 rfl (by first | exact ov_loadW rfl (by simp; done) | exact ov_loadGB rfl rfl) rfl <| ?_
  refine ha_v 2 rfl (by first | exact ov_loadW rfl (by simp; done) | exact ov_loadGB rfl rfl) rfl <| ?_
  refine ha_one 1 (by kernel_rfl) <| ?_
  refine ho_kx (σ := BIff (goodP c)) rfl Try.call32 rfl (fun w1 H1 => Own.callx0 H1 fun D' hold hin H2 => Good_spec D' w1 c _ _ _ (HCf.hold hold)) ?_
  intro g1
  try rw [List.nil_append]
  refine ha_one 3 (by kernel_rfl) <| ?_
  refine ho_kx (σ := BIff (goodP c)) rfl Try.call33 rfl (fun w1 H1 => Own.callx0 H1 fun D' hold hin H2 => RGood_spec D' w1 c _ _ _ (HCf.hold hold)) ?_
  intro g2
  try rw [List.nil_append]
  have hgg : g1.1 = g2.1 := by rw [Bool.eq_iff_iff, g1.2, g2.2]
  refine ha_v 4 rfl (ov_eqlB rfl rfl) rfl <| ?_
  refine ha_v 5 rfl (ov_move rfl) rfl <| ?_
  refine ha_partT (t := 38) rfl (hgg) ?_
  refine ha_v 6 rfl (by first | exact ov_loadW rfl (by simp; done) | exact ov_loadGB rfl rfl) rfl <| ?_
  refine ha_v 7 rfl (by first | exact ov_loadW rfl (by simp; done) | exact ov_loadGB rfl rfl) rfl <| ?_
  refine ha_v 9 rfl (by first | exact ov_loadW rfl (by simp; done) | exact ov_loadGB rfl rfl) rfl <| ?_
  refine ha_v 10 rfl (by first | exact ov_loadW rfl (by simp; done) | exact ov_loadGB rfl rfl) rfl <| ?_
  refine ha_one 8 (by kernel_rfl) <| ?_
  refine ho_kx (σ := BIff (c = d)) rfl Try.call34 rfl (fun w1 H1 => Own.callx0 H1 fun D' hold hin H2 => Same_spec D' w1 c d _ _ _ _ _ _ (HCf.hold hold) (HDf.hold hold)) ?_
  intro s1
  try rw [List.nil_append]
  refine ha_one 11 (by kernel_rfl) <| ?_
  refine ho_kx (σ := BIff (c = d)) rfl Try.call19 rfl (fun w1 H1 => Own.callx0 H1 fun D' hold hin H2 => keepC_spec D' w1 c d _ _ _ _ _ _ (HCf.hold hold) (HDf.hold hold)) ?_
  intro s2
  try rw [List.nil_append]
  have hss : s1.1 = s2.1 := by rw [Bool.eq_iff_iff, s1.2, s2.2]
  refine ha_v 12 rfl (ov_eqlB rfl rfl) rfl <| ?_
  refine ha_v 13 rfl (ov_pickT rfl rfl) rfl <| ?_
  refine ha_v 14 rfl (ov_move rfl) rfl <| ?_
  refine ha_partT (t := 47) rfl (hss) ?_
  refine ha_v 15 rfl (by first | exact ov_loadW rfl (by simp; done) | exact ov_loadGB rfl rfl) rfl <| ?_
  refine ha_v 16 rfl (by first | exact ov_loadW rfl (by simp; done) | exact ov_loadGB rfl rfl) rfl <| ?_
  refine ha_one 17 (by kernel_rfl) <| ?_
  refine ho_kx (σ := BIff (c1 = c1)) rfl Try.call19 rfl (fun w1 H1 => Own.callx0 H1 fun D' hold hin H2 => keepC_spec D' w1 c1 c1 _ _ _ _ _ _ (ConfOld.rows (q := q1) hok1 hin) (ConfOld.rows (q := q2) hok1 hin)) ?_
  intro s3
  try rw [List.nil_append]
  refine ha_v 18 rfl (ov_pickT rfl rfl) rfl <| ?_
  refine ha_v 19 rfl (ov_move rfl) rfl <| ?_
  refine ha_partb (t := 52) rfl (fun y3 => ?_) (fun y3 => ?_)
  · refine ha_v 20 rfl (ov_move rfl) rfl <| ?_
    refine ha_v 21 rfl (ov_move rfl) rfl <| ?_
    refine ha_v 22 rfl (ov_eql rfl rfl) rfl <| ?_
    refine ha_v 23 rfl (ov_pickT rfl rfl) rfl <| ?_
    refine ha_v 24 rfl (ov_move rfl) rfl <| ?_
    refine ha_partT (t := 57) rfl (rfl) ?_
    refine ha_v 25 rfl (by first | exact ov_loadW rfl (by simp; done) | exact ov_loadGB rfl rfl) rfl <| ?_
    refine ha_v 26 rfl (by first | exact ov_loadW rfl (by simp; done) | exact ov_loadGB rfl rfl) rfl <| ?_
    refine ha_one 27 (by kernel_rfl) <| ?_
    refine ho_kx (σ := BIff (c = c)) rfl Try.call19 rfl (fun w1 H1 => Own.callx0 H1 fun D' hold hin H2 => keepC_spec D' w1 c c _ _ _ _ _ _ (ConfOld.rows (q := q3) hokc hin) (HCf.hold hold)) ?_
    intro s4
    try rw [List.nil_append]
    refine ha_v 28 rfl (ov_pickT rfl rfl) rfl <| ?_
    refine ha_v 29 rfl (ov_move rfl) rfl <| ?_
    refine ha_partb (t := 62) rfl (fun y4 => ?_) (fun y4 => ?_)
    · refine ha_one 30 (by kernel_rfl) <| ?_
      refine ho_k rfl Try.call28 rfl (fun w1 H1 => Own.calln H1 fun D' hold hin H2 => wakes5_spec D' w1) ?_
      refine ha_v 31 rfl (ov_pickT rfl rfl) rfl <| ?_
      refine ha_v 32 rfl (ov_assign rfl) rfl <| ?_
      refine ha_done (by kernel_rfl) <| hx_then_normal <| hc_ret <| ?_
      exact results_1 (.inr rfl) rfl rfl fun w' H' => ⟨rfl, H'.ent (Ent.nil _)⟩
    exact absurd (s4.2.2 rfl) (by rw [y4]; decide)
  exact absurd (s3.2.2 rfl) (by rw [y3]; decide)
end Go.Proofs.Ytpgpfcplchaleaa
