import Derived.Test.YtpgpfcplchaleaaCod5
set_option linter.unusedVariables false
set_option linter.unusedSimpArgs false
namespace Go.Proofs.Ytpgpfcplchaleaa
open Slk
instance : ReadsAs Try.prog 70 PortC := ReadsAs.structG 0 (by kernel_rfl) rfl (ReadsG.cons 0 (ReadsG.cons 1 (ReadsG.last 2 (by decide))))
instance : ReadsAs Try.prog 66 VlanC := ReadsAs.structG 0 (by kernel_rfl) rfl (ReadsG.cons 0 (ReadsG.cons 1 (ReadsG.last 2 (by decide))))
instance : ReadsAs Try.prog 72 StatC := ReadsAs.structG 0 (by kernel_rfl) rfl (ReadsG.cons 0 (ReadsG.cons 1 (ReadsG.last 2 (by decide))))
instance : ReadsAs Try.prog 64 EditC := ReadsAs.structG 0 (by kernel_rfl) rfl (ReadsG.cons 0 (ReadsG.cons 1 (ReadsG.cons 2 (ReadsG.cons 3 (ReadsG.cons 4 (ReadsG.cons 5 (ReadsG.last 6 (by decide))))))))
instance : ReadsAs Try.prog 26 ConfC := ReadsAs.structG 0 (by kernel_rfl) rfl (ReadsG.cons 0 (ReadsG.cons 1 (ReadsG.cons 2 (ReadsG.cons 3 (ReadsG.cons 4 (ReadsG.last 5 (by decide)))))))
theorem conf_open {D : Nat → Prop} {w0 : World} {c : ConfC} {cs : List Value} (k : Old D w0 (Rep.rep c cs)) : ∃ Ap cp Av cv As cx, cs = cfgV c (.slice Ap c.2.2.2.1.length cp) (.slice Av c.2.2.2.2.1.length cv) (.slice As c.2.2.2.2.2.length cx) ∧
    (c.2.2.2.1.length ≤ 1000 → c.2.2.2.2.1.length ≤ 1000 → c.2.2.2.2.2.length ≤ 1000 → ConfOld D w0 c (.slice Ap c.2.2.2.1.length cp) (.slice Av c.2.2.2.2.1.length cv) (.slice As c.2.2.2.2.2.length cx)) := by
  obtain ⟨h, hh, c1, d1, rfl, ⟨rfl, ia⟩, c2, d2, rfl, ⟨rfl, ib⟩, c3, d3, rfl, ⟨rfl, ic⟩, c4, d4, rfl, ⟨Ap, cp, rfl, hp⟩, c5, c6, rfl, ⟨Av, cv, rfl, hv⟩, ⟨As, cx, rfl, hs⟩⟩ := k
  exact ⟨Ap, cp, Av, cv, As, cx, rfl, fun l1 l2 l3 => ⟨ia, ib, ic, ⟨h, hh, Ap, cp, rfl, hp⟩, ⟨h, hh, Av, cv, rfl, hv⟩, ⟨h, hh, As, cx, rfl, hs⟩, l1, l2, l3⟩⟩
abbrev ResT (p : Prop) (B : List UInt8) (n : Int → Prop) := { s : (Option Addr × Nat) × List UInt8 × Int // (¬ p ∧ s.2.1 = [] ∧ s.2.2 ≠ 0 ∧ n s.2.2) ∨ (p ∧ s.2.1 = B ∧ s.2.2 = 0) }
theorem Config_res (D : Nat → Prop) (w : World) (c : ConfC) (vp vv vs : Value) (H : ConfOld D w c vp vv vs) :
    Calls Try.prog 17 #[.agg (cfgV c vp vv vs).toArray] w fun e w' => ∃ s : ResT (goodP c) (cfgB c) (fun e => e = 14), e = .returned (.tuple #[.slice s.1.1.1 s.1.2.1.length s.1.1.2, .int .i64 s.1.2.2]) ∧ Own D w w' [row s.1.1.1 5 1 s.1.2.1.length s.1.1.2 (s.1.2.1.map u8v)] :=
  (Config_spec D w c vp vv vs H).mono fun e w' hp => by
    rcases hp with ⟨h, he, H'⟩ | ⟨h, q, he, H'⟩
    · exact ⟨⟨((none, 0), [], 14), .inl ⟨h, rfl, by decide, rfl⟩⟩, he, H'.ent (Ent.nil_row _ _)⟩
    · exact ⟨⟨(q, cfgB c, 0), .inr ⟨h, rfl, rfl⟩⟩, he, H'⟩
abbrev okEds (l : List EditC) : Prop := l.length ≤ 32 ∧ ∀ i (h : i < l.length), goodE l[i]
theorem Edits_res (D : Nat → Prop) (w : World) (v : Value) (l : List EditC) (hl : l.length ≤ 1000000) (HA : Old D w (Rep.rep l [v])) :
    Calls Try.prog 20 #[v] w fun e w' => ∃ s : ResT (okEds l) (edsB l) (fun e => e = if 32 < l.length then 3 else 11), e = .returned (.tuple #[.slice s.1.1.1 s.1.2.1.length s.1.1.2, .int .i64 s.1.2.2]) ∧ Own D w w' [row s.1.1.1 5 1 s.1.2.1.length s.1.1.2 (s.1.2.1.map u8v)] :=
  (Edits_spec D w v l hl HA).mono fun e w' hp => by
    rcases hp with ⟨h, he, H'⟩ | ⟨h, ⟨i, hi, hb⟩, he, H'⟩ | ⟨h, h2, q, he, H'⟩
    · exact ⟨⟨((none, 0), [], 3), .inl ⟨fun k => by have := k.1; omega, rfl, by decide, by rw [if_pos h]⟩⟩, he, H'.ent (Ent.nil_row _ _)⟩
    · exact ⟨⟨((none, 0), [], 11), .inl ⟨fun k => hb (k.2 i hi), rfl, by decide, by rw [if_neg (by omega)]⟩⟩, he, H'.ent (Ent.nil_row _ _)⟩
    · exact ⟨⟨(q, edsB l, 0), .inr ⟨⟨h, h2⟩, rfl, rfl⟩⟩, he, H'⟩
theorem cfgB_len (c : ConfC) : (cfgB c).length = 7 + 7 * c.2.2.2.1.length + 4 * c.2.2.2.2.1.length + 9 * c.2.2.2.2.2.length := by
  simp only [cfgB, headB, List.length_append, beB_len, flat_len (f := portB) (sz := 7) portB_len, flat_len (f := vlanB) (sz := 4) vlanB_len, flat_len (f := statB) (sz := 9) statB_len]
  omega
theorem edsB_len (l : List EditC) : (edsB l).length = 1 + 16 * l.length := by
  simp only [edsB, List.length_append, beB_len, flat_len (f := edB) (sz := 16) edB_len]
  omega
theorem CodecSizes_walk (W : World) (c0 : List Value) (v1 : Value) (c : ConfC) (l : List EditC) (h0 : Old none' W (Rep.rep c c0)) (h1 : Old none' W (Rep.rep l [v1])) :
    Calls Try.prog 4 #[.agg c0.toArray, v1] W fun e w' => e = .returned (.bool true) ∧ Own none' W w' [] := by
  obtain ⟨Ap, cp, Av, cv, As, cx, rfl, HCo⟩ := conf_open h0
  obtain ⟨Al, cl, hv1, hl1, hl2, HSl, _⟩ := h1.openF
  subst hv1
  have hcl := cfgB_len c
  have hel := edsB_len l
  refine hc_enter (vs := [.agg (cfgV c (.slice Ap c.2.2.2.1.length cp) (.slice Av c.2.2.2.2.1.length cv) (.slice As c.2.2.2.2.2.length cx)).toArray, .slice Al l.length cl]) Try.func4 rfl _ Try.ntmps4 rfl (Own.start none' W) ?_
  simp only [argSlots, Nat.zero_add]
  refine hc_seq <| hc_region <| hl_new (on_boxN rfl rfl) rfl rfl rfl fun b2 =>  ?_
  refine hl_v (ov_assign rfl) rfl <| hl_nil <| hx_then_normal <| hc_seq <| hc_seq <| hc_region <| ?_
  refine hl_v (by first | exact ov_loadW rfl (by simp; done) | exact ov_loadGB rfl rfl) rfl <| ?_
  refine hl_call (σ := BIff (c.2.2.2.1.length ≤ 20 ∧ c.2.2.2.2.1.length ≤ 40 ∧ c.2.2.2.2.2.length ≤ 40)) Try.call15 rfl rfl (fun w1 H1 => Own.callx0 H1 fun D' hold hin H2 => Fair_spec D' w1 c.1 c.2.1 c.2.2.1 Ap Av As c.2.2.2.1.length cp c.2.2.2.2.1.length cv c.2.2.2.2.2.length cx) ?_
  intro f
  try rw [List.nil_append]
  refine hl_v (by first | exact ov_notd rfl | exact ov_not rfl) rfl <| ?_
  refine hl_v (ov_move rfl) rfl <| ?_
  refine hl_partb (t := 12) rfl (fun a1 => ?_) (fun a1 => ?_)
  · refine hl_off rfl rfl rfl rfl rfl rfl <| hl_off rfl rfl rfl rfl rfl rfl <| hl_off rfl rfl rfl rfl rfl rfl <| hl_v (ov_pickT rfl rfl) rfl <| hl_nil <| hx_then_normal <| ?_
    refine hc_cond_true rfl <| hc_seq <| hc_region <| ?_
    refine hl_c Try.call16 rfl rfl (fun w1 H1 => Own.calln H1 fun D' hold hin H2 => wakes_spec D' w1) ?_
    refine hl_v (ov_assign rfl) rfl <| hl_nil <| hx_then_normal <| hc_ret <| hx_then_ret <| ?_
    exact results_1 (.inr rfl) rfl rfl fun w' H' => ⟨rfl, H'.ent (Ent.nil _)⟩
  have hf := f.2.1 (by simpa using a1)
  have HC := HCo (by omega) (by omega) (by omega)
  refine hl_on rfl rfl <| hl_v (ov_move rfl) rfl <| hl_on rfl rfl <| hl_v (by first | exact ov_len rfl | exact ov_lenS rfl) rfl <| ?_
  refine hl_on rfl rfl <| hl_v (ov_gtr rfl rfl) rfl <| hl_v (ov_pickF rfl rfl) rfl <| hl_nil <| hx_then_normal <| ?_
  refine hc_cond rfl (fun a2 => ?_) (fun a2 => ?_)
  · refine hc_seq <| hc_region <| ?_
    refine hl_c Try.call16 rfl rfl (fun w1 H1 => Own.calln H1 fun D' hold hin H2 => wakes_spec D' w1) ?_
    refine hl_v (ov_assign rfl) rfl <| hl_nil <| hx_then_normal <| hc_ret <| hx_then_ret <| ?_
    exact results_1 (.inr rfl) rfl rfl fun w' H' => ⟨rfl, H'.ent (Ent.nil _)⟩
  refine hc_skip <| hx_then_normal <| hc_seq <| hc_seq <| hc_region <| hl_v (by first | exact ov_loadW rfl (by simp; done) | exact ov_loadGB rfl rfl) rfl <| ?_
  refine hl_call (σ := ResT (goodP c) (cfgB c) (fun e => e = 14)) Try.call17 rfl rfl (fun w1 H1 => Own.callx0 H1 fun D' hold hin H2 => Config_res D' w1 c _ _ _ (HC.hold hold)) ?_
  intro s
  try rw [List.nil_append]
  obtain ⟨⟨⟨A1, k1⟩, b1, e1⟩, hs1⟩ := s
  dsimp only at hs1 ⊢
  rcases hs1 with ⟨hno, rfl, hne, he⟩ | ⟨hg, rfl, rfl⟩
  · refine hl_v (ov_move rfl) rfl <| hl_v (ov_extract rfl rfl) rfl <| hl_v (ov_extract rfl rfl) rfl <| hl_v (ov_assign rfl) rfl <| hl_v (ov_assign rfl) rfl <| hl_nil <| ?_
    refine hx_then_normal <| hc_seq <| hc_region <| hl_v (ov_move rfl) rfl <| hl_v (ov_eql rfl rfl) rfl <| hl_v (ov_move rfl) rfl <| ?_
    refine hl_partF (t := 25) rfl (hne) ?_
    refine hl_off rfl rfl rfl rfl rfl rfl <| hl_off rfl rfl rfl rfl rfl rfl <| hl_off rfl rfl rfl rfl rfl rfl <| hl_off rfl rfl rfl rfl rfl rfl <| hl_off rfl rfl rfl rfl rfl rfl <| hl_off rfl rfl rfl rfl rfl rfl <| ?_
    refine hl_off rfl rfl rfl rfl rfl rfl <| hl_off rfl rfl rfl rfl rfl rfl <| hl_off rfl rfl rfl rfl rfl rfl <| hl_off rfl rfl rfl rfl rfl rfl <| hl_off rfl rfl rfl rfl rfl rfl <| hl_off rfl rfl rfl rfl rfl rfl <| ?_
    refine hl_off rfl rfl rfl rfl rfl rfl <| hl_off rfl rfl rfl rfl rfl rfl <| hl_off rfl rfl rfl rfl rfl rfl <| hl_off rfl rfl rfl rfl rfl rfl <| hl_off rfl rfl rfl rfl rfl rfl <| hl_off rfl rfl rfl rfl rfl rfl <| ?_
    refine hl_off rfl rfl rfl rfl rfl rfl <| hl_offU rfl rfl rfl rfl rfl <| hl_offU rfl rfl rfl rfl rfl <| hl_offU rfl rfl rfl rfl rfl <| hl_off rfl rfl rfl rfl rfl rfl <| hl_v (ov_pickF rfl rfl) rfl <| ?_
    refine hl_nil <| hx_then_normal <| hc_cond_false rfl <| hc_skip <| hx_then_normal <| hc_seq <| ?_
    refine hc_region <| hl_v (ov_move rfl) rfl <| ?_
    refine hl_call (σ := ResT (okEds l) (edsB l) (fun e => e = if 32 < l.length then 3 else 11)) Try.call20 rfl rfl (fun w1 H1 => Own.callx0 H1 fun D' hold hin H2 => Edits_res D' w1 _ l (by omega) (hold _ h1)) ?_
    intro s2
    try rw [List.nil_append]
    obtain ⟨⟨⟨A2, k2⟩, b2, e2⟩, hs2⟩ := s2
    dsimp only at hs2 ⊢
    rcases hs2 with ⟨hno2, rfl, hne2, he2⟩ | ⟨hg2, rfl, rfl⟩
    · refine hl_v (ov_move rfl) rfl <| hl_v (ov_extract rfl rfl) rfl <| hl_v (ov_extract rfl rfl) rfl <| hl_v (ov_assign rfl) rfl <| hl_v (ov_assign rfl) rfl <| hl_nil <| ?_
      refine hx_then_normal <| hc_seq <| hc_region <| hl_v (ov_move rfl) rfl <| hl_v (ov_neq rfl rfl) rfl <| hl_v (ov_move rfl) rfl <| ?_
      refine hl_partT (t := 57) rfl (hne2) ?_
      refine hl_off rfl rfl rfl rfl rfl rfl <| hl_off rfl rfl rfl rfl rfl rfl <| hl_off rfl rfl rfl rfl rfl rfl <| hl_off rfl rfl rfl rfl rfl rfl <| hl_off rfl rfl rfl rfl rfl rfl <| hl_off rfl rfl rfl rfl rfl rfl <| ?_
      refine hl_off rfl rfl rfl rfl rfl rfl <| hl_off rfl rfl rfl rfl rfl rfl <| hl_offU rfl rfl rfl rfl rfl <| hl_offU rfl rfl rfl rfl rfl <| hl_offU rfl rfl rfl rfl rfl <| hl_off rfl rfl rfl rfl rfl rfl <| ?_
      refine hl_v (ov_pickT rfl rfl) rfl <| hl_v (ov_move rfl) rfl <| ?_
      refine hl_on rfl rfl <| hl_c Try.call16 rfl rfl (fun w1 H1 => Own.calln H1 fun D' hold hin H2 => wakes_spec D' w1) ?_
      refine hl_v (ov_pickT rfl rfl) rfl <| hl_v (ov_assign rfl) rfl <| hl_nil <| hx_then_normal <| hc_ret <| ?_
      exact results_1 (.inr rfl) rfl rfl fun w' H' => ⟨rfl, H'.ent (Ent.nil _)⟩
    have hl32 := hg2.1
    refine hl_v (ov_move rfl) rfl <| hl_v (ov_extract rfl rfl) rfl <| hl_v (ov_extract rfl rfl) rfl <| hl_v (ov_assign rfl) rfl <| hl_v (ov_assign rfl) rfl <| hl_nil <| ?_
    refine hx_then_normal <| hc_seq <| hc_region <| hl_v (ov_move rfl) rfl <| hl_v (ov_neq rfl rfl) rfl <| hl_v (ov_move rfl) rfl <| ?_
    refine hl_partF (t := 57) rfl ((fun h => h rfl)) ?_
    refine hl_on rfl rfl <| hl_v (ov_move rfl) rfl <| hl_on rfl rfl <| hl_v (by first | exact ov_len rfl | exact ov_lenS rfl) rfl <| ?_
    refine hl_on rfl rfl <| hl_v (ov_move rfl) rfl <| hl_on rfl rfl <| hl_v (by first | exact ov_len rfl | exact ov_lenS rfl) rfl <| ?_
    refine hl_on rfl rfl <| hl_v (ov_mul rfl rfl (by first | exact wrap_i64 (by omega) | rfl)) rfl <| ?_
    refine hl_on rfl rfl <| hl_v (ov_add rfl rfl (by first | exact wrap_i64 (by omega) | rfl)) rfl <| ?_
    refine hl_on rfl rfl <| hl_v (ov_eql rfl rfl) rfl <| hl_on rfl rfl <| hl_v (ov_move rfl) rfl <| ?_
    refine hl_partT (t := 65) rfl ((by omega)) ?_
    refine hl_on rfl rfl <| hl_v (ov_move rfl) rfl <| hl_on rfl rfl <| hl_v (by first | exact ov_len rfl | exact ov_lenS rfl) rfl <| ?_
    refine hl_on rfl rfl <| hl_v (ov_leq rfl rfl) rfl <| hl_on rfl rfl <| hl_v (ov_pickT rfl rfl) rfl <| hl_v (ov_pickF rfl rfl) rfl <| hl_v (ov_move rfl) rfl <| ?_
    refine hl_partT (t := 71) rfl ((by omega)) ?_
    refine hl_on rfl rfl <| hl_c Try.call16 rfl rfl (fun w1 H1 => Own.calln H1 fun D' hold hin H2 => wakes_spec D' w1) ?_
    refine hl_v (ov_pickT rfl rfl) rfl <| hl_v (ov_assign rfl) rfl <| hl_nil <| hx_then_normal <| hc_ret <| ?_
    exact results_1 (.inr rfl) rfl rfl fun w' H' => ⟨rfl, H'.ent (Ent.nil _)⟩
  have hw := hg.wok
  have hw1 := hw.lp
  have hw2 := hw.lv
  have hw3 := hw.ls
  refine hl_v (ov_move rfl) rfl <| hl_v (ov_extract rfl rfl) rfl <| hl_v (ov_extract rfl rfl) rfl <| hl_v (ov_assign rfl) rfl <| hl_v (ov_assign rfl) rfl <| hl_nil <| ?_
  refine hx_then_normal <| hc_seq <| hc_region <| hl_v (ov_move rfl) rfl <| hl_v (ov_eql rfl rfl) rfl <| hl_v (ov_move rfl) rfl <| ?_
  refine hl_partT (t := 25) rfl (rfl) ?_
  refine hl_on rfl rfl <| hl_v (ov_move rfl) rfl <| hl_on rfl rfl <| hl_v (by first | exact ov_len rfl | exact ov_lenS rfl) rfl <| ?_
  refine hl_on rfl rfl <| hl_v (ov_fieldA rfl) rfl <| hl_on rfl rfl <| hl_v (ov_load rfl (CellIs.blk rfl)) rfl <| hl_on rfl rfl <| hl_v (by first | exact ov_len rfl | exact ov_lenS rfl) rfl <| ?_
  refine hl_on rfl rfl <| hl_v (ov_mul rfl rfl (by first | exact wrap_i64 (by omega) | rfl)) rfl <| ?_
  refine hl_on rfl rfl <| hl_v (ov_add rfl rfl (by first | exact wrap_i64 (by omega) | rfl)) rfl <| ?_
  refine hl_on rfl rfl <| hl_v (ov_fieldA rfl) rfl <| hl_on rfl rfl <| hl_v (ov_load rfl (CellIs.blk rfl)) rfl <| hl_on rfl rfl <| hl_v (by first | exact ov_len rfl | exact ov_lenS rfl) rfl <| ?_
  refine hl_on rfl rfl <| hl_v (ov_mul rfl rfl (by first | exact wrap_i64 (by omega) | rfl)) rfl <| ?_
  refine hl_on rfl rfl <| hl_v (ov_add rfl rfl (by first | exact wrap_i64 (by omega) | rfl)) rfl <| ?_
  refine hl_on rfl rfl <| hl_v (ov_fieldA rfl) rfl <| hl_on rfl rfl <| hl_v (ov_load rfl (CellIs.blk rfl)) rfl <| hl_on rfl rfl <| hl_v (by first | exact ov_len rfl | exact ov_lenS rfl) rfl <| ?_
  refine hl_on rfl rfl <| hl_v (ov_mul rfl rfl (by first | exact wrap_i64 (by omega) | rfl)) rfl <| ?_
  refine hl_on rfl rfl <| hl_v (ov_add rfl rfl (by first | exact wrap_i64 (by omega) | rfl)) rfl <| ?_
  refine hl_on rfl rfl <| hl_v (ov_neq rfl rfl) rfl <| hl_on rfl rfl <| hl_v (ov_move rfl) rfl <| ?_
  refine hl_partF (t := 44) rfl ((fun h => h (by omega))) ?_
  refine hl_on rfl rfl <| hl_v (ov_move rfl) rfl <| hl_on rfl rfl <| hl_v (by first | exact ov_len rfl | exact ov_lenS rfl) rfl <| ?_
  refine hl_on rfl rfl <| hl_v (ov_gtr rfl rfl) rfl <| hl_on rfl rfl <| hl_v (ov_pickF rfl rfl) rfl <| hl_v (ov_pickT rfl rfl) rfl <| hl_nil <| hx_then_normal <| ?_
  refine hc_cond_F rfl ((by omega)) ?_
  refine hc_skip <| hx_then_normal <| hc_seq <| hc_region <| hl_v (ov_move rfl) rfl <| ?_
  refine hl_call (σ := ResT (okEds l) (edsB l) (fun e => e = if 32 < l.length then 3 else 11)) Try.call20 rfl rfl (fun w1 H1 => Own.callx0 H1 fun D' hold hin H2 => Edits_res D' w1 _ l (by omega) (hold _ h1)) ?_
  intro s2
  try rw [List.nil_append]
  obtain ⟨⟨⟨A2, k2⟩, b2, e2⟩, hs2⟩ := s2
  dsimp only at hs2 ⊢
  rcases hs2 with ⟨hno2, rfl, hne2, he2⟩ | ⟨hg2, rfl, rfl⟩
  · refine hl_v (ov_move rfl) rfl <| hl_v (ov_extract rfl rfl) rfl <| hl_v (ov_extract rfl rfl) rfl <| hl_v (ov_assign rfl) rfl <| hl_v (ov_assign rfl) rfl <| hl_nil <| ?_
    refine hx_then_normal <| hc_seq <| hc_region <| hl_v (ov_move rfl) rfl <| hl_v (ov_neq rfl rfl) rfl <| hl_v (ov_move rfl) rfl <| ?_
    refine hl_partT (t := 57) rfl (hne2) ?_
    refine hl_off rfl rfl rfl rfl rfl rfl <| hl_off rfl rfl rfl rfl rfl rfl <| hl_off rfl rfl rfl rfl rfl rfl <| hl_off rfl rfl rfl rfl rfl rfl <| hl_off rfl rfl rfl rfl rfl rfl <| hl_off rfl rfl rfl rfl rfl rfl <| ?_
    refine hl_off rfl rfl rfl rfl rfl rfl <| hl_off rfl rfl rfl rfl rfl rfl <| hl_offU rfl rfl rfl rfl rfl <| hl_offU rfl rfl rfl rfl rfl <| hl_offU rfl rfl rfl rfl rfl <| hl_off rfl rfl rfl rfl rfl rfl <| ?_
    refine hl_v (ov_pickT rfl rfl) rfl <| hl_v (ov_move rfl) rfl <| ?_
    refine hl_on rfl rfl <| hl_c Try.call16 rfl rfl (fun w1 H1 => Own.calln H1 fun D' hold hin H2 => wakes_spec D' w1) ?_
    refine hl_v (ov_pickT rfl rfl) rfl <| hl_v (ov_assign rfl) rfl <| hl_nil <| hx_then_normal <| hc_ret <| ?_
    exact results_1 (.inr rfl) rfl rfl fun w' H' => ⟨rfl, H'.ent (Ent.nil _)⟩
  have hl32 := hg2.1
  refine hl_v (ov_move rfl) rfl <| hl_v (ov_extract rfl rfl) rfl <| hl_v (ov_extract rfl rfl) rfl <| hl_v (ov_assign rfl) rfl <| hl_v (ov_assign rfl) rfl <| hl_nil <| ?_
  refine hx_then_normal <| hc_seq <| hc_region <| hl_v (ov_move rfl) rfl <| hl_v (ov_neq rfl rfl) rfl <| hl_v (ov_move rfl) rfl <| ?_
  refine hl_partF (t := 57) rfl ((fun h => h rfl)) ?_
  refine hl_on rfl rfl <| hl_v (ov_move rfl) rfl <| hl_on rfl rfl <| hl_v (by first | exact ov_len rfl | exact ov_lenS rfl) rfl <| ?_
  refine hl_on rfl rfl <| hl_v (ov_move rfl) rfl <| hl_on rfl rfl <| hl_v (by first | exact ov_len rfl | exact ov_lenS rfl) rfl <| ?_
  refine hl_on rfl rfl <| hl_v (ov_mul rfl rfl (by first | exact wrap_i64 (by omega) | rfl)) rfl <| ?_
  refine hl_on rfl rfl <| hl_v (ov_add rfl rfl (by first | exact wrap_i64 (by omega) | rfl)) rfl <| ?_
  refine hl_on rfl rfl <| hl_v (ov_eql rfl rfl) rfl <| hl_on rfl rfl <| hl_v (ov_move rfl) rfl <| ?_
  refine hl_partT (t := 65) rfl ((by omega)) ?_
  refine hl_on rfl rfl <| hl_v (ov_move rfl) rfl <| hl_on rfl rfl <| hl_v (by first | exact ov_len rfl | exact ov_lenS rfl) rfl <| ?_
  refine hl_on rfl rfl <| hl_v (ov_leq rfl rfl) rfl <| hl_on rfl rfl <| hl_v (ov_pickT rfl rfl) rfl <| hl_v (ov_pickF rfl rfl) rfl <| hl_v (ov_move rfl) rfl <| ?_
  refine hl_partT (t := 71) rfl ((by omega)) ?_
  refine hl_on rfl rfl <| hl_c Try.call16 rfl rfl (fun w1 H1 => Own.calln H1 fun D' hold hin H2 => wakes_spec D' w1) ?_
  refine hl_v (ov_pickT rfl rfl) rfl <| hl_v (ov_assign rfl) rfl <| hl_nil <| hx_then_normal <| hc_ret <| ?_
  exact results_1 (.inr rfl) rfl rfl fun w' H' => ⟨rfl, H'.ent (Ent.nil _)⟩
end Go.Proofs.Ytpgpfcplchaleaa
