import Derived.Test.YtpgpfcplchaleaaCodO
import Derived.Test.YtpgpfcplchaleaaCod7
set_option linter.unusedVariables false
set_option linter.unusedSimpArgs false
namespace Go.Proofs.Ytpgpfcplchaleaa
open Slk
/-! ### The two readers agree -/
theorem parse_bytes {xs : List UInt8} {v : Value} (h : parseP ⟨xs, v, false⟩) : xs = cfgB (rdC true ⟨xs, v, false⟩).1 := by
  have := rdC_back ⟨xs, v, false⟩ h.1.1
  rw [h.1.2, List.append_nil] at this
  exact this.symm
theorem parse_of {xs : List UInt8} {c : ConfC} (v : Value) (hc : goodP c) (h : xs = cfgB c) : parseP ⟨xs, v, false⟩ ∧ (rdC true ⟨xs, v, false⟩).1 = c := by
  obtain ⟨a, b, d⟩ := rdC_read true c [] ⟨xs, v, false⟩ hc.wok (by rw [List.append_nil]; exact h) rfl
  exact ⟨⟨⟨d, b⟩, by rw [a]; exact hc⟩, a⟩
theorem refC_of {xs : List UInt8} {c : ConfC} (v : Value) (hc : goodP c) (h : xs = cfgB c) : refC xs ⟨xs, v, false⟩ ∧ (rdC false ⟨xs, v, false⟩).1 = c := by
  obtain ⟨a, b, d⟩ := rdC_read false c [] ⟨xs, v, false⟩ hc.wok (by rw [List.append_nil]; exact h) rfl
  exact ⟨⟨d, by rw [a]; exact hc, by rw [a]; exact h.symm⟩, a⟩
theorem parse_det {xs : List UInt8} {v v' : Value} (s : ParseT (parseP ⟨xs, v, false⟩) (rdC true ⟨xs, v, false⟩).1) (t : ParseT (refC xs ⟨xs, v', false⟩) (rdC false ⟨xs, v', false⟩).1) : s.1.2.1 = t.1.2.1 ∧ s.1.2.2 = t.1.2.2 := by
  obtain ⟨s, hs⟩ := s
  obtain ⟨t, ht⟩ := t
  rcases hs with ⟨h1, h2, h3⟩ | ⟨h1, h2, h3⟩ <;> rcases ht with ⟨k1, k2, k3⟩ | ⟨k1, k2, k3⟩
  · exact ⟨h2.trans k2.symm, h3.trans k3.symm⟩
  · exact absurd (parse_of v k1.2.1 k1.2.2.symm).1 h1
  · exact absurd (refC_of v' h1.2 (parse_bytes h1)).1 k1
  exact ⟨h2.trans ((refC_of v' h1.2 (parse_bytes h1)).2.symm.trans k2.symm), h3.trans k3.symm⟩
theorem parseT_ok {p : Prop} {c : ConfC} (s : ParseT p c) (hc : OkC c) : OkC s.1.2.1 := by
  obtain ⟨s, hs⟩ := s
  rcases hs with ⟨h1, h2, h3⟩ | ⟨h1, h2, h3⟩
  · show OkC s.2.1
    rw [h2]; exact zeroC_ok
  show OkC s.2.1
  rw [h2]; exact hc
theorem CodecConfigs_walk (W : World) (c0 : List Value) (v1 : Value) (c : ConfC) (b : List UInt8) (h0 : Old none' W (Rep.rep c c0)) (h1 : Old none' W (Rep.rep b [v1])) :
    Calls Try.prog 6 #[.agg c0.toArray, v1] W fun e w' => e = .returned (.bool true) ∧ Own none' W w' [] := by
  obtain ⟨Ap, cp, Av, cv, As, cx, rfl, HCo⟩ := conf_open h0
  have h1' := h1
  obtain ⟨Ab, cb, rfl, hb1, hb2, HSb⟩ := h1.openB
  refine hc_enter (vs := [.agg (cfgV c (.slice Ap c.2.2.2.1.length cp) (.slice Av c.2.2.2.2.1.length cv) (.slice As c.2.2.2.2.2.length cx)).toArray, .slice Ab b.length cb]) Try.func6 rfl _ Try.ntmps6 rfl (Own.start none' W) ?_
  simp only [argSlots, Nat.zero_add]
  refine hc_seq <| hc_region <| hl_new (on_boxN rfl rfl) rfl rfl rfl fun b2 =>  ?_
  refine hl_v (ov_assign rfl) rfl <| hl_nil <| hx_then_normal <| hc_seq <| hc_seq <| hc_region <| ?_
  refine hl_v (by first | exact ov_loadW rfl (by simp; done) | exact ov_loadGB rfl rfl) rfl <| ?_
  refine hl_call (σ := BIff (c.2.2.2.1.length ≤ 20 ∧ c.2.2.2.2.1.length ≤ 40 ∧ c.2.2.2.2.2.length ≤ 40)) Try.call15 rfl rfl (fun w1 H1 => Own.callx0 H1 fun D' hold hin H2 => Fair_spec D' w1 c.1 c.2.1 c.2.2.1 Ap Av As c.2.2.2.1.length cp c.2.2.2.2.1.length cv c.2.2.2.2.2.length cx) ?_
  intro f
  try rw [List.nil_append]
  refine hl_v (by first | exact ov_notd rfl | exact ov_not rfl) rfl <| ?_
  refine hl_v (ov_move rfl) rfl <| ?_
  refine hl_partb (t := 16) rfl (fun a1 => ?_) (fun a1 => ?_)
  · refine hl_off rfl rfl rfl rfl rfl rfl <| hl_off rfl rfl rfl rfl rfl rfl <| hl_off rfl rfl rfl rfl rfl rfl <| hl_v (ov_pickT rfl rfl) rfl <| hl_nil <| hx_then_normal <| ?_
    refine hc_cond_true rfl <| hc_seq <| hc_region <| ?_
    refine hl_c Try.call16 rfl rfl (fun w1 H1 => Own.calln H1 fun D' hold hin H2 => wakes_spec D' w1) ?_
    refine hl_v (ov_assign rfl) rfl <| hl_nil <| hx_then_normal <| hc_ret <| hx_then_ret <| ?_
    exact results_1 (.inr rfl) rfl rfl fun w' H' => ⟨rfl, H'.ent (Ent.nil _)⟩
  have hf := f.2.1 (by simpa using a1)
  have HC := HCo (by omega) (by omega) (by omega)
  refine hl_on rfl rfl <| hl_v (ov_move rfl) rfl <| hl_on rfl rfl <| hl_v (by first | exact ov_len rfl | exact ov_lenS rfl) rfl <| ?_
  refine hl_on rfl rfl <| hl_v (ov_gtr rfl rfl) rfl <| hl_v (ov_pickF rfl rfl) rfl <| hl_nil <| hx_then_normal <| ?_
  refine hc_cond rfl (fun a2 => ?_) (fun a2 => ?_)
  · refine hc_seq <| hc_region <| ?_
    refine hl_c Try.call16 rfl rfl (fun w1 H1 => Own.calln H1 fun D' hold hin H2 => wakes_spec D' w1) ?_
    refine hl_v (ov_assign rfl) rfl <| hl_nil <| hx_then_normal <| hc_ret <| hx_then_ret <| ?_
    exact results_1 (.inr rfl) rfl rfl fun w' H' => ⟨rfl, H'.ent (Ent.nil _)⟩
  refine hc_skip <| hx_then_normal <| hc_seq <| hc_region <| hl_v (by first | exact ov_loadW rfl (by simp; done) | exact ov_loadGB rfl rfl) rfl <| ?_
  refine hl_call (σ := ResT (goodP c) (cfgB c) (fun e => e = 14)) Try.call17 rfl rfl (fun w1 H1 => Own.callx0 H1 fun D' hold hin H2 => Config_res D' w1 c _ _ _ (HC.hold hold)) ?_
  intro s1
  try rw [List.nil_append]
  refine hl_v (ov_move rfl) rfl <| hl_v (ov_extract rfl rfl) rfl <| hl_v (ov_extract rfl rfl) rfl <| hl_v (ov_assign rfl) rfl <| hl_v (ov_assign rfl) rfl <| hl_nil <| ?_
  refine hx_then_normal <| hc_seq <| hc_region <| hl_v (by first | exact ov_loadW rfl (by simp; done) | exact ov_loadGB rfl rfl) rfl <| ?_
  refine hl_call (σ := ResT (goodP c) (cfgB c) (fun e => e = 14)) Try.call25 rfl rfl (fun w1 H1 => Own.callx0 H1 fun D' hold hin H2 => RConfig_res D' w1 c _ _ _ (HC.hold hold)) ?_
  intro s2
  try rw [List.nil_append]
  have hdet := resT_det s1 s2
  obtain ⟨⟨⟨A1, k1⟩, b1, e1⟩, hs1⟩ := s1
  obtain ⟨⟨⟨A2, k2⟩, b2', e2⟩, hs2⟩ := s2
  dsimp only at hdet ⊢
  obtain ⟨rfl, rfl⟩ := hdet
  refine hl_v (ov_move rfl) rfl <| hl_v (ov_extract rfl rfl) rfl <| hl_v (ov_extract rfl rfl) rfl <| hl_v (ov_assign rfl) rfl <| hl_v (ov_assign rfl) rfl <| hl_nil <| ?_
  refine hx_then_normal <| hc_seq <| hc_region <| hl_new (on_buildSliceN rfl rfl rfl) rfl rfl rfl fun b33 =>  ?_
  refine HL.ent (Ent.blk_row (b := b33) 1 0 rfl (by decide)) ?_
  refine hl_v (ov_move rfl) rfl <| ?_
  refine hl_new (on_appendR (A := some ⟨b33, 0, none⟩) (news := b.map u8v) rfl rfl (SrcIs.old HSb) (by simp) (u8_one b) (by decide) (by omega)) rfl rfl rfl (fun q2 => ?_)
  rw [List.nil_append, Nat.zero_add]
  refine hl_call (σ := ParseT (parseP ⟨b, .slice q2.1 b.length q2.2, false⟩) (rdC true ⟨b, .slice q2.1 b.length q2.2, false⟩).1) Try.call26 rfl rfl (fun w1 H1 => Own.callx0 H1 fun D' hold hin H2 => Parse_spec D' w1 _ b (hin _ fun h hs ho => rep_row (A := q2.1) hs b rfl (repL_bytes.2 rfl))) ?_
  intro s3
  try rw [List.nil_append]
  have hok3 := parseT_ok s3 (rdC_ok true _)
  refine hl_v (ov_move rfl) rfl <| hl_v (ov_extract rfl rfl) rfl <| hl_v (ov_extract rfl rfl) rfl <| hl_new (on_alloc) rfl rfl rfl fun b9 =>  ?_
  refine hl_u0 (on_storeW (vs := cfgA s3.1.2.1 s3.1.1) rfl rfl rfl (by simp) (by simp [Value.oneCell'])) rfl rfl ?_
  refine hl_v (ov_assign rfl) rfl <| hl_nil <| hx_then_normal <| hc_seq <| hc_region <| hl_v (ov_move rfl) rfl <| ?_
  refine hl_call (σ := ParseT (refC b ⟨b, .slice Ab b.length cb, false⟩) (rdC false ⟨b, .slice Ab b.length cb, false⟩).1) Try.call27 rfl rfl (fun w1 H1 => Own.callx0 H1 fun D' hold hin H2 => RParse_spec D' w1 _ b (hold _ h1')) ?_
  intro s4
  try rw [List.nil_append]
  have hdet := parse_det s3 s4
  obtain ⟨⟨q3, d3, e3⟩, hs3⟩ := s3
  obtain ⟨⟨q4, d4, e4⟩, hs4⟩ := s4
  dsimp only at hdet hok3 ⊢
  obtain ⟨rfl, rfl⟩ := hdet
  refine hl_v (ov_move rfl) rfl <| hl_v (ov_extract rfl rfl) rfl <| hl_v (ov_extract rfl rfl) rfl <| hl_new (on_alloc) rfl rfl rfl fun b11 =>  ?_
  refine hl_u0 (on_storeW (vs := cfgA d3 q4) rfl rfl rfl (by simp) (by simp [Value.oneCell'])) rfl rfl ?_
  refine hl_v (ov_assign rfl) rfl <| hl_nil <| hx_then_normal <| hc_seq <| hc_region <| hl_v (ov_move rfl) rfl <| ?_
  refine hl_v (ov_move rfl) rfl <| ?_
  refine hl_c Try.call18 rfl rfl (fun w1 H1 => Own.calln H1 fun D' hold hin H2 => Bytes_spec D' w1 _ _ b1 b1 (hin _ fun h hs ho => rep_row (A := A1) hs b1 rfl (repL_bytes.2 rfl)) (hin _ fun h hs ho => rep_row (A := A2) hs b1 rfl (repL_bytes.2 rfl))) ?_
  refine hl_v (ov_move rfl) rfl <| ?_
  refine hl_partT (t := 47) rfl (rfl) ?_
  refine hl_on rfl rfl <| hl_v (ov_move rfl) rfl <| hl_on rfl rfl <| hl_v (ov_move rfl) rfl <| hl_on rfl rfl <| hl_v (ov_eql rfl rfl) rfl <| hl_v (ov_pickT rfl rfl) rfl <| hl_v (ov_move rfl) rfl <| ?_
  refine hl_partT (t := 52) rfl (rfl) ?_
  refine hl_on rfl rfl <| hl_v (by first | exact ov_loadW rfl (by simp; done) | exact ov_loadGB rfl rfl) rfl <| ?_
  refine hl_on rfl rfl <| hl_v (by first | exact ov_loadW rfl (by simp; done) | exact ov_loadGB rfl rfl) rfl <| ?_
  refine hl_on rfl rfl <| hl_call (σ := BIff (d3 = d3)) Try.call19 rfl rfl (fun w1 H1 => Own.callx0 H1 fun D' hold hin H2 => keepC_spec D' w1 d3 d3 _ _ _ _ _ _ (ConfOld.rows (q := q3) hok3 hin) (ConfOld.rows (q := q4) hok3 hin)) ?_
  intro bk
  try rw [List.nil_append]
  refine hl_v (ov_pickT rfl rfl) rfl <| hl_v (ov_move rfl) rfl <| ?_
  refine hl_partb (t := 57) rfl (fun hb => ?_) (fun hb => ?_)
  · refine hl_on rfl rfl <| hl_v (ov_move rfl) rfl <| hl_on rfl rfl <| hl_v (ov_move rfl) rfl <| hl_on rfl rfl <| hl_v (ov_eql rfl rfl) rfl <| hl_v (ov_pickT rfl rfl) rfl <| hl_v (ov_move rfl) rfl <| ?_
    refine hl_partT (t := 62) rfl (rfl) ?_
    refine hl_on rfl rfl <| hl_c Try.call16 rfl rfl (fun w1 H1 => Own.calln H1 fun D' hold hin H2 => wakes_spec D' w1) ?_
    refine hl_v (ov_pickT rfl rfl) rfl <| hl_v (ov_assign rfl) rfl <| hl_nil <| hx_then_normal <| hc_ret <| ?_
    exact results_1 (.inr rfl) rfl rfl fun w' H' => ⟨rfl, H'.ent (Ent.nil _)⟩
  exact absurd (bk.2.2 rfl) (by rw [hb]; decide)
end Go.Proofs.Ytpgpfcplchaleaa
