import Derived.Test.YtpgpfcplchaleaaM5
set_option linter.unusedVariables false
set_option linter.unusedSimpArgs false
namespace Go.Proofs.Ytpgpfcplchaleaa
open Slk
theorem resT_det {p : Prop} {B : List UInt8} {c : Int} (s t : ResT p B (fun e => e = c)) : s.1.2.1 = t.1.2.1 ∧ s.1.2.2 = t.1.2.2 := by
  obtain ⟨s, hs⟩ := s
  obtain ⟨t, ht⟩ := t
  rcases hs with ⟨h1, h2, h3, h4⟩ | ⟨h1, h2, h3⟩ <;> rcases ht with ⟨k1, k2, k3, k4⟩ | ⟨k1, k2, k3⟩
  · exact ⟨h2.trans k2.symm, h4.trans k4.symm⟩
  · exact absurd k1 h1
  · exact absurd h1 k1
  exact ⟨h2.trans k2.symm, h3.trans k3.symm⟩
theorem listT_det {xs : List UInt8} {v v' : Value} (s : ListT ⟨xs, v, false⟩) (t : { r : (Option Addr × Nat) × List EditC × Int // (¬ refP xs ⟨xs, v', false⟩ ∧ r.2.1 = [] ∧ r.2.2 = 11) ∨ (refP xs ⟨xs, v', false⟩ ∧ r.2.1 = (rdAll ⟨xs, v', false⟩).1 ∧ r.2.2 = 0) }) : s.1.2.1 = t.1.2.1 ∧ s.1.2.2 = t.1.2.2 := by
  have hl := listP_refP xs v v'
  have hs' := listP_same xs v v'
  obtain ⟨s, hs⟩ := s
  obtain ⟨t, ht⟩ := t
  rcases hs with ⟨h1, h2, h3⟩ | ⟨h1, h2, h3⟩ <;> rcases ht with ⟨k1, k2, k3⟩ | ⟨k1, k2, k3⟩
  · exact ⟨h2.trans k2.symm, h3.trans k3.symm⟩
  · exact absurd (hl.2 k1) h1
  · exact absurd (hl.1 h1) k1
  exact ⟨h2.trans (hs'.trans k2.symm), h3.trans k3.symm⟩
theorem flat_one {α : Type} {f : α → List Value} (hf : ∀ x, ∀ v ∈ f x, v.oneCell' = true) (xs : List α) : ∀ v ∈ xs.flatMap f, v.oneCell' = true := fun v hv => by
  obtain ⟨x, _, h⟩ := List.mem_flatMap.1 hv
  exact hf x v h
theorem editV_one (x : EditC) : ∀ v ∈ editV x, v.oneCell' = true := by simp [Value.oneCell', u8v]
theorem listT_ok {xs : List UInt8} {v : Value} (s : ListT ⟨xs, v, false⟩) : ∀ x ∈ s.1.2.1, Flat.ok x := by
  obtain ⟨s, hs⟩ := s
  rcases hs with ⟨h1, h2, h3⟩ | ⟨h1, h2, h3⟩
  · intro x hx
    have hx : x ∈ s.2.1 := hx
    rw [h2] at hx; cases hx
  intro x hx
  have hx : x ∈ s.2.1 := hx
  rw [h2] at hx
  exact rdEs_ok _ _ x hx
theorem CodecEdits_walk (W : World) (v0 v1 : Value) (l : List EditC) (b : List UInt8) (h0 : Old none' W (Rep.rep l [v0])) (h1 : Old none' W (Rep.rep b [v1])) :
    Calls Try.prog 5 #[v0, v1] W fun e w' => e = .returned (.bool true) ∧ Own none' W w' [] := by
  have h0' := h0
  have h1' := h1
  obtain ⟨Al, cl, rfl, hl1, hl2, HSl, hok⟩ := h0.openF
  obtain ⟨Ab, cb, rfl, hb1, hb2, HSb⟩ := h1.openB
  have HSl : OldS none' W Al (l.flatMap editV) := HSl
  refine hc_enter (vs := [.slice Al l.length cl, .slice Ab b.length cb]) Try.func5 rfl _ Try.ntmps5 rfl (Own.start none' W) ?_
  simp only [argSlots, Nat.zero_add]
  refine hc_seq <| hc_region <| hl_v (ov_assign rfl) rfl <| hl_nil <| hx_then_normal <| hc_seq <| ?_
  refine hc_seq <| hc_region <| hl_v (ov_move rfl) rfl <| hl_v (by first | exact ov_len rfl | exact ov_lenS rfl) rfl <| ?_
  refine hl_v (ov_gtr rfl rfl) rfl <| hl_v (ov_move rfl) rfl <| ?_
  refine hl_part (t := 16) rfl (fun a1 => ?_) (fun a1 => ?_)
  · refine hl_off rfl rfl rfl rfl rfl rfl <| hl_off rfl rfl rfl rfl rfl rfl <| hl_off rfl rfl rfl rfl rfl rfl <| hl_v (ov_pickT rfl rfl) rfl <| hl_nil <| hx_then_normal <| ?_
    refine hc_cond_true rfl <| hc_seq <| hc_region <| ?_
    refine hl_c Try.call16 rfl rfl (fun w1 H1 => Own.calln H1 fun D' hold hin H2 => wakes_spec D' w1) ?_
    refine hl_v (ov_assign rfl) rfl <| hl_nil <| hx_then_normal <| hc_ret <| hx_then_ret <| ?_
    exact results_1 (.inr rfl) rfl rfl fun w' H' => ⟨rfl, H'.ent (Ent.nil _)⟩
  refine hl_on rfl rfl <| hl_v (ov_move rfl) rfl <| hl_on rfl rfl <| hl_v (by first | exact ov_len rfl | exact ov_lenS rfl) rfl <| ?_
  refine hl_on rfl rfl <| hl_v (ov_gtr rfl rfl) rfl <| hl_v (ov_pickF rfl rfl) rfl <| hl_nil <| hx_then_normal <| ?_
  refine hc_cond rfl (fun a2 => ?_) (fun a2 => ?_)
  · refine hc_seq <| hc_region <| ?_
    refine hl_c Try.call16 rfl rfl (fun w1 H1 => Own.calln H1 fun D' hold hin H2 => wakes_spec D' w1) ?_
    refine hl_v (ov_assign rfl) rfl <| hl_nil <| hx_then_normal <| hc_ret <| hx_then_ret <| ?_
    exact results_1 (.inr rfl) rfl rfl fun w' H' => ⟨rfl, H'.ent (Ent.nil _)⟩
  refine hc_skip <| hx_then_normal <| hc_seq <| hc_region <| hl_new (on_buildSliceN rfl rfl rfl) rfl rfl rfl fun b23 =>  ?_
  refine HL.ent (Ent.blk_row (b := b23) 7 0 rfl (by decide)) ?_
  refine hl_v (ov_move rfl) rfl <| ?_
  refine hl_new (on_appendR (A := some ⟨b23, 0, none⟩) (news := l.flatMap editV) rfl rfl (SrcIs.old HSl) (flat_len (f := editV) (sz := 7) (fun _ => rfl) l) (flat_one editV_one l) (by decide) (by omega)) rfl rfl rfl (fun q1 => ?_)
  rw [List.nil_append, Nat.zero_add]
  refine hl_call (σ := ResT (okEds l) (edsB l) (fun e => e = if 32 < l.length then 3 else 11)) Try.call20 rfl rfl (fun w1 H1 => Own.callx0 H1 fun D' hold hin H2 => Edits_res D' w1 _ l (by omega) (hin _ fun h hs ho => rep_row (A := q1.1) hs l rfl (repL_F.2 ⟨rfl, hok⟩))) ?_
  intro s1
  try rw [List.nil_append]
  refine hl_v (ov_move rfl) rfl <| hl_v (ov_extract rfl rfl) rfl <| hl_v (ov_extract rfl rfl) rfl <| hl_v (ov_assign rfl) rfl <| hl_v (ov_assign rfl) rfl <| hl_nil <| ?_
  refine hx_then_normal <| hc_seq <| hc_region <| hl_v (ov_move rfl) rfl <| ?_
  refine hl_call (σ := ResT (okEds l) (edsB l) (fun e => e = if 32 < l.length then 3 else 11)) Try.call22 rfl rfl (fun w1 H1 => Own.callx0 H1 fun D' hold hin H2 => REdits_spec D' w1 _ l (by omega) (hold _ h0')) ?_
  intro s2
  try rw [List.nil_append]
  have hdet := resT_det s1 s2
  obtain ⟨⟨⟨A1, k1⟩, b1, e1⟩, hs1⟩ := s1
  obtain ⟨⟨⟨A2, k2⟩, b2, e2⟩, hs2⟩ := s2
  dsimp only at hdet ⊢
  obtain ⟨rfl, rfl⟩ := hdet
  refine hl_v (ov_move rfl) rfl <| hl_v (ov_extract rfl rfl) rfl <| hl_v (ov_extract rfl rfl) rfl <| hl_v (ov_assign rfl) rfl <| hl_v (ov_assign rfl) rfl <| hl_nil <| ?_
  refine hx_then_normal <| hc_seq <| hc_region <| hl_new (on_buildSliceN rfl rfl rfl) rfl rfl rfl fun b35 =>  ?_
  refine HL.ent (Ent.blk_row (b := b35) 1 0 rfl (by decide)) ?_
  refine hl_v (ov_move rfl) rfl <| ?_
  refine hl_new (on_appendR (A := some ⟨b35, 0, none⟩) (news := b.map u8v) rfl rfl (SrcIs.old HSb) (by simp) (u8_one b) (by decide) (by omega)) rfl rfl rfl (fun q2 => ?_)
  rw [List.nil_append, Nat.zero_add]
  refine hl_call (σ := ListT ⟨b, .slice q2.1 b.length q2.2, false⟩) Try.call23 rfl rfl (fun w1 H1 => Own.callx0 H1 fun D' hold hin H2 => List_spec D' w1 _ b (hin _ fun h hs ho => rep_row (A := q2.1) hs b rfl (repL_bytes.2 rfl))) ?_
  intro s3
  try rw [List.nil_append]
  refine hl_v (ov_move rfl) rfl <| hl_v (ov_extract rfl rfl) rfl <| hl_v (ov_extract rfl rfl) rfl <| hl_v (ov_assign rfl) rfl <| hl_v (ov_assign rfl) rfl <| hl_nil <| ?_
  refine hx_then_normal <| hc_seq <| hc_region <| hl_v (ov_move rfl) rfl <| ?_
  refine hl_call (σ := { r : (Option Addr × Nat) × List EditC × Int // (¬ refP b ⟨b, .slice Ab b.length cb, false⟩ ∧ r.2.1 = [] ∧ r.2.2 = 11) ∨ (refP b ⟨b, .slice Ab b.length cb, false⟩ ∧ r.2.1 = (rdAll ⟨b, .slice Ab b.length cb, false⟩).1 ∧ r.2.2 = 0) }) Try.call24 rfl rfl (fun w1 H1 => Own.callx0 H1 fun D' hold hin H2 => RList_spec D' w1 _ b (hold _ h1')) ?_
  intro s4
  try rw [List.nil_append]
  have hdet := listT_det s3 s4
  have hok3 := listT_ok s3
  obtain ⟨⟨⟨A3, k3⟩, l3, e3⟩, hs3⟩ := s3
  obtain ⟨⟨⟨A4, k4⟩, l4, e4⟩, hs4⟩ := s4
  dsimp only at hdet hok3 ⊢
  obtain ⟨rfl, rfl⟩ := hdet
  refine hl_v (ov_move rfl) rfl <| hl_v (ov_extract rfl rfl) rfl <| hl_v (ov_extract rfl rfl) rfl <| hl_v (ov_assign rfl) rfl <| hl_v (ov_assign rfl) rfl <| hl_nil <| ?_
  refine hx_then_normal <| hc_seq <| hc_region <| hl_v (ov_move rfl) rfl <| hl_v (ov_move rfl) rfl <| ?_
  refine hl_c Try.call18 rfl rfl (fun w1 H1 => Own.calln H1 fun D' hold hin H2 => Bytes_spec D' w1 _ _ b1 b1 (hin _ fun h hs ho => rep_row (A := A1) hs b1 rfl (repL_bytes.2 rfl)) (hin _ fun h hs ho => rep_row (A := A2) hs b1 rfl (repL_bytes.2 rfl))) ?_
  refine hl_v (ov_move rfl) rfl <| ?_
  refine hl_partT (t := 49) rfl (rfl) ?_
  refine hl_on rfl rfl <| hl_v (ov_move rfl) rfl <| hl_on rfl rfl <| hl_v (ov_move rfl) rfl <| hl_on rfl rfl <| hl_v (ov_eql rfl rfl) rfl <| hl_v (ov_pickT rfl rfl) rfl <| hl_v (ov_move rfl) rfl <| ?_
  refine hl_partT (t := 54) rfl (rfl) ?_
  refine hl_on rfl rfl <| hl_v (ov_move rfl) rfl <| hl_on rfl rfl <| hl_v (ov_move rfl) rfl <| ?_
  refine hl_on rfl rfl <| hl_call (σ := BIff (l3 = l3)) Try.call21 rfl rfl (fun w1 H1 => Own.callx0 H1 fun D' hold hin H2 => keepE_spec D' w1 _ _ l3 l3 (hin _ fun h hs ho => rep_row (A := A3) hs l3 rfl (repL_F.2 ⟨rfl, hok3⟩)) (hin _ fun h hs ho => rep_row (A := A4) hs l3 rfl (repL_F.2 ⟨rfl, hok3⟩))) ?_
  intro bk
  try rw [List.nil_append]
  refine hl_v (ov_pickT rfl rfl) rfl <| hl_v (ov_move rfl) rfl <| ?_
  refine hl_partb (t := 59) rfl (fun hb => ?_) (fun hb => ?_)
  · refine hl_on rfl rfl <| hl_v (ov_move rfl) rfl <| hl_on rfl rfl <| hl_v (ov_move rfl) rfl <| hl_on rfl rfl <| hl_v (ov_eql rfl rfl) rfl <| hl_v (ov_pickT rfl rfl) rfl <| hl_v (ov_move rfl) rfl <| ?_
    refine hl_partT (t := 64) rfl (rfl) ?_
    refine hl_on rfl rfl <| hl_c Try.call16 rfl rfl (fun w1 H1 => Own.calln H1 fun D' hold hin H2 => wakes_spec D' w1) ?_
    refine hl_v (ov_pickT rfl rfl) rfl <| hl_v (ov_assign rfl) rfl <| hl_nil <| hx_then_normal <| hc_ret <| ?_
    exact results_1 (.inr rfl) rfl rfl fun w' H' => ⟨rfl, H'.ent (Ent.nil _)⟩
  exact absurd (bk.2.2 rfl) (by rw [hb]; decide)
end Go.Proofs.Ytpgpfcplchaleaa
