import Derived.Test.YtpgpfcplchaleaaCodR
set_option linter.unusedVariables false
set_option linter.unusedSimpArgs false
namespace Go.Proofs.Ytpgpfcplchaleaa
open Slk
/-! ### Bytes ahead of bytes -/
theorem cfgB_pre {c d : ConfC} {t u : List UInt8} (hc : goodP c) (hd : goodP d) (h : cfgB c ++ t = cfgB d ++ u) : t = u := by
  obtain ⟨_, b1, _⟩ := rdC_read true c t ⟨cfgB c ++ t, .slice none 0 0, false⟩ hc.wok rfl rfl
  obtain ⟨_, b2, _⟩ := rdC_read true d u ⟨cfgB c ++ t, .slice none 0 0, false⟩ hd.wok h rfl
  exact b1.symm.trans b2
theorem parse_short {c : ConfC} {n : Nat} {v : Value} (hc : goodP c) (hn : (cfgB c).length = n + 1) : ¬ parseP ⟨(cfgB c).take n, v, false⟩ := fun h => by
  have h1 := parse_bytes h
  have h2 := cfgB_pre (t := []) (u := (cfgB c).drop n) hc h.2 (by rw [← h1, List.take_append_drop, List.append_nil])
  have := congrArg List.length h2
  simp at this
  omega
theorem parse_long {c : ConfC} {x : UInt8} {v : Value} (hc : goodP c) : ¬ parseP ⟨cfgB c ++ [x], v, false⟩ := fun h => by
  have h1 := parse_bytes h
  have h2 := cfgB_pre (t := [x]) (u := []) hc h.2 (by rw [List.append_nil]; exact h1)
  cases h2
theorem rdE_read (x : EditC) (tail : List UInt8) (s : RS) (hx : goodE x) (h : s.rem = edB x ++ tail) (hb : s.bad = false) : (rdE s).1 = x ∧ (rdE s).2.rem = tail ∧ (rdE s).2.bad = false := by
  have p1 : (256 : Nat) ^ 1 = 256 := by decide
  have p2 : (256 : Nat) ^ 2 = 65536 := by decide
  have p4 : (256 : Nat) ^ 4 = 4294967296 := by decide
  obtain ⟨a1, a2, a3, a4, a5, a6, a7⟩ := x
  obtain ⟨g1, g2, g3, g4, g5, g6, g7, g8, g9⟩ := hx
  dsimp only at *
  unfold edB at h
  dsimp only at h
  simp only [List.append_assoc] at h
  obtain ⟨n1, r1, b1⟩ := get_read (by omega) h hb
  obtain ⟨n2, r2, b2⟩ := get_read (by omega) r1 b1
  obtain ⟨n3, r3, b3⟩ := get_read (by omega) r2 b2
  obtain ⟨n4, r4, b4⟩ := get_read (by omega) r3 b3
  obtain ⟨n5, r5, b5⟩ := get_read (show a5.toNat < 256 ^ 1 from a5.toNat_lt) r4 b4
  obtain ⟨n6, r6, b6⟩ := get_read (show a6.toNat < 256 ^ 1 from a6.toNat_lt) r5 b5
  obtain ⟨n7, r7, b7⟩ := get_read (show a7.toNat < 256 ^ 6 from g9) r6 b6
  refine ⟨?_, r7, b7⟩
  simp only [rdE]
  rw [n1, n2, n3, n4, n5, n6, n7, ofNat8_toNat, ofNat8_toNat, ofNat64_toNat, Int.toNat_of_nonneg (by omega), Int.toNat_of_nonneg g3, Int.toNat_of_nonneg g5, Int.toNat_of_nonneg g7]
theorem rdEs_L (i : Nat) (s : RS) : rdEs i s = rdL rdE i s := by
  induction i with
  | zero => rfl
  | succ i ih => simp only [rdEs, rdL, ih]
theorem list_of {l : List EditC} (v : Value) (h : okEds l) : listP ⟨edsB l, v, false⟩ ∧ (rdAll ⟨edsB l, v, false⟩).1 = l := by
  have p1 : (256 : Nat) ^ 1 = 256 := by decide
  obtain ⟨n1, r1, b1⟩ := get_read (s := ⟨edsB l, v, false⟩) (n := l.length) (k := 1) (tail := l.flatMap edB) (by have := h.1; omega) rfl rfl
  obtain ⟨a, b, c⟩ := rdL_read rdE_read l.length l [] _ rfl (fun x hx => by obtain ⟨i, hi, rfl⟩ := List.getElem_of_mem hx; exact h.2 i hi) (by rw [List.append_nil]; exact r1) b1
  have e : rdAll ⟨edsB l, v, false⟩ = rdL rdE l.length (getS ⟨edsB l, v, false⟩ 1) := by
    show rdEs (getN ⟨edsB l, v, false⟩ 1) (getS ⟨edsB l, v, false⟩ 1) = _
    rw [n1, rdEs_L]
  unfold listP
  rw [e]
  exact ⟨⟨⟨c, b⟩, by rw [a]; exact h⟩, a⟩
theorem list_bytes {xs : List UInt8} {v : Value} (h : listP ⟨xs, v, false⟩) : edsB (rdAll ⟨xs, v, false⟩).1 = xs := by
  have := rdAll_back ⟨xs, v, false⟩ h.1.1
  rw [h.1.2, List.append_nil] at this
  exact this
theorem CodecBack_walk (W : World) (c0 : List Value) (v1 v2 : Value) (c : ConfC) (l : List EditC) (b : List UInt8) (h0 : Old none' W (Rep.rep c c0)) (h1 : Old none' W (Rep.rep l [v1])) (h2 : Old none' W (Rep.rep b [v2])) :
    Calls Try.prog 7 #[.agg c0.toArray, v1, v2] W fun e w' => e = .returned (.bool true) ∧ Own none' W w' [] := by
  obtain ⟨Ap, cp, Av, cv, As, cx, rfl, HCo⟩ := conf_open h0
  have h1' := h1
  have h2' := h2
  obtain ⟨Al, cl, rfl, hl1, hl2, HSl, hok⟩ := h1.openF
  obtain ⟨Ab, cb, rfl, hb1, hb2, HSb⟩ := h2.openB
  have HSl : OldS none' W Al (l.flatMap editV) := HSl
  refine hc_enter (vs := [.agg (cfgV c (.slice Ap c.2.2.2.1.length cp) (.slice Av c.2.2.2.2.1.length cv) (.slice As c.2.2.2.2.2.length cx)).toArray, .slice Al l.length cl, .slice Ab b.length cb]) Try.func7 rfl _ Try.ntmps7 rfl (Own.start none' W) ?_
  simp only [argSlots, Nat.zero_add]
  refine hc_seq <| hc_region <| hl_new (on_boxN rfl rfl) rfl rfl rfl fun b3 =>  ?_
  refine hl_v (ov_assign rfl) rfl <| hl_nil <| hx_then_normal <| hc_seq <| hc_seq <| hc_region <| ?_
  refine hl_v (by first | exact ov_loadW rfl (by simp; done) | exact ov_loadGB rfl rfl) rfl <| ?_
  refine hl_call (σ := BIff (c.2.2.2.1.length ≤ 20 ∧ c.2.2.2.2.1.length ≤ 40 ∧ c.2.2.2.2.2.length ≤ 40)) Try.call15 rfl rfl (fun w1 H1 => Own.callx0 H1 fun D' hold hin H2 => Fair_spec D' w1 c.1 c.2.1 c.2.2.1 Ap Av As c.2.2.2.1.length cp c.2.2.2.2.1.length cv c.2.2.2.2.2.length cx) ?_
  intro f
  try rw [List.nil_append]
  refine hl_v (by first | exact ov_notd rfl | exact ov_not rfl) rfl <| ?_
  refine hl_v (ov_move rfl) rfl <| ?_
  refine hl_partb (t := 30) rfl (fun a1 => ?_) (fun a1 => ?_)
  · refine hl_off rfl rfl rfl rfl rfl rfl <| hl_off rfl rfl rfl rfl rfl rfl <| hl_off rfl rfl rfl rfl rfl rfl <| hl_v (ov_pickT rfl rfl) rfl <| hl_v (ov_move rfl) rfl <| hl_off rfl rfl rfl rfl rfl rfl <| ?_
    refine hl_off rfl rfl rfl rfl rfl rfl <| hl_off rfl rfl rfl rfl rfl rfl <| hl_v (ov_pickT rfl rfl) rfl <| hl_nil <| hx_then_normal <| hc_cond_true rfl <| ?_
    refine hc_seq <| hc_region <| ?_
    refine hl_c Try.call16 rfl rfl (fun w1 H1 => Own.calln H1 fun D' hold hin H2 => wakes_spec D' w1) ?_
    refine hl_v (ov_assign rfl) rfl <| hl_nil <| hx_then_normal <| hc_ret <| hx_then_ret <| ?_
    exact results_1 (.inr rfl) rfl rfl fun w' H' => ⟨rfl, H'.ent (Ent.nil _)⟩
  have hf := f.2.1 (by simpa using a1)
  have HCf := HCo (by omega) (by omega) (by omega)
  refine hl_on rfl rfl <| hl_v (ov_move rfl) rfl <| hl_on rfl rfl <| hl_v (by first | exact ov_len rfl | exact ov_lenS rfl) rfl <| ?_
  refine hl_on rfl rfl <| hl_v (ov_gtr rfl rfl) rfl <| hl_v (ov_pickF rfl rfl) rfl <| hl_v (ov_move rfl) rfl <| ?_
  refine hl_part (t := 35) rfl (fun a2 => ?_) (fun a2 => ?_)
  · refine hl_off rfl rfl rfl rfl rfl rfl <| hl_off rfl rfl rfl rfl rfl rfl <| hl_off rfl rfl rfl rfl rfl rfl <| hl_v (ov_pickT rfl rfl) rfl <| hl_nil <| hx_then_normal <| ?_
    refine hc_cond_true rfl <| hc_seq <| hc_region <| ?_
    refine hl_c Try.call16 rfl rfl (fun w1 H1 => Own.calln H1 fun D' hold hin H2 => wakes_spec D' w1) ?_
    refine hl_v (ov_assign rfl) rfl <| hl_nil <| hx_then_normal <| hc_ret <| hx_then_ret <| ?_
    exact results_1 (.inr rfl) rfl rfl fun w' H' => ⟨rfl, H'.ent (Ent.nil _)⟩
  refine hl_on rfl rfl <| hl_v (ov_move rfl) rfl <| hl_on rfl rfl <| hl_v (by first | exact ov_len rfl | exact ov_lenS rfl) rfl <| ?_
  refine hl_on rfl rfl <| hl_v (ov_gtr rfl rfl) rfl <| hl_v (ov_pickF rfl rfl) rfl <| hl_nil <| hx_then_normal <| ?_
  refine hc_cond rfl (fun a3 => ?_) (fun a3 => ?_)
  · refine hc_seq <| hc_region <| ?_
    refine hl_c Try.call16 rfl rfl (fun w1 H1 => Own.calln H1 fun D' hold hin H2 => wakes_spec D' w1) ?_
    refine hl_v (ov_assign rfl) rfl <| hl_nil <| hx_then_normal <| hc_ret <| hx_then_ret <| ?_
    exact results_1 (.inr rfl) rfl rfl fun w' H' => ⟨rfl, H'.ent (Ent.nil _)⟩
  refine hc_skip <| hx_then_normal <| hc_seq <| hc_seq <| hc_region <| hl_v (by first | exact ov_loadW rfl (by simp; done) | exact ov_loadGB rfl rfl) rfl <| ?_
  refine hl_call (σ := ResT (goodP c) (cfgB c) (fun e => e = 14)) Try.call17 rfl rfl (fun w1 H1 => Own.callx0 H1 fun D' hold hin H2 => Config_res D' w1 c _ _ _ (HCf.hold hold)) ?_
  intro s1
  try rw [List.nil_append]
  obtain ⟨⟨⟨A1, k1⟩, b1, e1⟩, hs1⟩ := s1
  dsimp only at hs1 ⊢
  refine hl_v (ov_move rfl) rfl <| hl_v (ov_extract rfl rfl) rfl <| hl_v (ov_extract rfl rfl) rfl <| hl_v (ov_assign rfl) rfl <| hl_v (ov_assign rfl) rfl <| hl_nil <| ?_
  refine hx_then_normal <| hc_seq <| hc_region <| hl_v (ov_move rfl) rfl <| hl_v (ov_eql rfl rfl) rfl <| hl_nil <| ?_
  refine hx_then_normal <| ?_
  refine hc_cutK0 (σ := Unit) [1, 2] rfl  (fun _u => []) (fun K1 hK1 => ?_) (fun _u => ?_)
  · rcases hs1 with ⟨hno, rfl, hne, he⟩ | ⟨hg, rfl, rfl⟩
    · refine hc_cond_F rfl (hne) ?_
      refine hc_skip <| ?_
      refine hx_cut hK1 (()) (by repeat (first | exact Slots.sub_nil _ | refine Slots.sub_cons rfl ?_)) (by first | assumption | exact Ent.refl _ | exact Ent.nil _ | (repeat (first | exact Ent.refl _ | exact Ent.nil _ | refine Ent.pick ?_)))
    have hlen := cfgB_len c
    obtain ⟨n, hn⟩ : ∃ n, (cfgB c).length = n + 1 := ⟨(cfgB c).length - 1, by omega⟩
    have hn8 : (cfgB c).length ≤ 271 := by have := hg.wok.lp; have := hg.wok.lv; have := hg.wok.ls; omega
    refine HC.fact (fun w H => Own.factR A1 H) ?_
    rintro ⟨_, hcap1, hcap2, hA1⟩
    refine hc_cond_T rfl (rfl) ?_
    refine hc_seq <| hc_region <| hl_v (ov_move rfl) rfl <| ?_
    refine hl_call (σ := ParseT (parseP ⟨cfgB c, .slice A1 (cfgB c).length k1, false⟩) (rdC true ⟨cfgB c, .slice A1 (cfgB c).length k1, false⟩).1) Try.call26 rfl rfl (fun w1 H1 => Own.callx0 H1 fun D' hold hin H2 => Parse_spec D' w1 _ (cfgB c) (hin _ fun h hs ho => rep_row (A := A1) hs (cfgB c) rfl (repL_bytes.2 rfl))) ?_
    intro s3
    try rw [List.nil_append]
    have hok3 := parseT_ok s3 (rdC_ok true _)
    have hd3 : s3.1.2.1 = c ∧ s3.1.2.2 = 0 := by
      obtain ⟨u1, u2⟩ := parse_of (.slice A1 (cfgB c).length k1) hg rfl
      rcases s3.2 with ⟨k1, _⟩ | ⟨_, k2, k3⟩
      · exact absurd u1 k1
      · exact ⟨k2.trans u2, k3⟩
    refine hl_v (ov_move rfl) rfl <| hl_v (ov_extract rfl rfl) rfl <| hl_v (ov_extract rfl rfl) rfl <| hl_new (on_alloc) rfl rfl rfl fun b9 =>  ?_
    refine hl_u0 (on_storeW (vs := cfgA s3.1.2.1 s3.1.1) rfl rfl rfl (by simp) (by simp [Value.oneCell'])) rfl rfl ?_
    obtain ⟨⟨q3, d3, e3⟩, hs3⟩ := s3
    dsimp only at hd3 hok3 ⊢
    obtain ⟨rfl, rfl⟩ := hd3
    refine hl_v (ov_assign rfl) rfl <| hl_nil <| hx_then_normal <| hc_seq <| hc_seq <| hc_region <| ?_
    refine hl_v (ov_move rfl) rfl <| hl_v (ov_neq rfl rfl) rfl <| hl_v (ov_move rfl) rfl <| ?_
    refine hl_partF (t := 55) rfl ((fun h => h rfl)) ?_
    refine hl_on rfl rfl <| hl_v (by first | exact ov_loadW rfl (by simp; done) | exact ov_loadGB rfl rfl) rfl <| ?_
    refine hl_on rfl rfl <| hl_v (by first | exact ov_loadW rfl (by simp; done) | exact ov_loadGB rfl rfl) rfl <| ?_
    refine hl_on rfl rfl <| hl_call (σ := BIff (d3 = d3)) Try.call19 rfl rfl (fun w1 H1 => Own.callx0 H1 fun D' hold hin H2 => keepC_spec D' w1 d3 d3 _ _ _ _ _ _ (ConfOld.rows (q := q3) hok3 hin) (HCf.hold hold)) ?_
    intro bk
    try rw [List.nil_append]
    refine hl_on rfl rfl <| hl_v (by first | exact ov_notd rfl | exact ov_not rfl) rfl <| ?_
    refine hl_v (ov_pickF rfl rfl) rfl <| hl_v (ov_move rfl) rfl <| ?_
    refine hl_partb (t := 61) rfl (fun hb => ?_) (fun hb => ?_)
    · exact absurd (bk.2.2 rfl) (by intro h; rw [h] at hb; cases hb)
    refine hl_on rfl rfl <| hl_v (ov_move rfl) rfl <| hl_on rfl rfl <| hl_v (by first | exact ov_len rfl | exact ov_lenS rfl) rfl <| ?_
    refine hl_on rfl rfl <| hl_v (ov_eql rfl rfl) rfl <| hl_v (ov_pickF rfl rfl) rfl <| hl_nil <| hx_then_normal <| ?_
    refine hc_cond_F rfl ((by omega)) ?_
    refine hc_skip <| hx_then_normal <| hc_seq <| hc_region <| hl_v (ov_move rfl) rfl <| hl_v (ov_move rfl) rfl <| ?_
    refine hl_v (by first | exact ov_len rfl | exact ov_lenS rfl) rfl <| ?_
    refine hl_v (ov_sub rfl rfl (by first | exact wrap_i64 (by omega) | rfl)) rfl <| ?_
    refine hl_v (ov_sliceR rfl 0 n (.inl ⟨rfl, rfl⟩) (.inr ⟨_, _, rfl, by simp only [hn]; show some (Value.int .i64 _) = _; congr 1; congr 1; omega⟩) (Nat.zero_le _) (by omega) (R := .slice A1 n k1) (by rw [cut_zero]; rfl)) rfl ?_
    refine hl_call (σ := ParseT (parseP ⟨(cfgB d3).take n, .slice A1 n k1, false⟩) (rdC true ⟨(cfgB d3).take n, .slice A1 n k1, false⟩).1) Try.call26 rfl rfl (fun w1 H1 => Own.callx0 H1 fun D' hold hin H2 => Parse_spec D' w1 _ ((cfgB d3).take n) (hin _ fun h hs ho => by have := rep_cut (rep_row (A := A1) hs (cfgB d3) rfl (repL_bytes.2 rfl)) 0 n (Nat.zero_le _) (by omega); rw [cut_zero] at this; exact this)) ?_
    intro s5
    try rw [List.nil_append]
    have hd5 : s5.1.2.2 = 11 := by
      rcases s5.2 with ⟨_, _, k3⟩ | ⟨k1, _, _⟩
      · exact k3
      · exact absurd k1 (parse_short hg hn)
    refine hl_v (ov_move rfl) rfl <| hl_v (ov_extract rfl rfl) rfl <| hl_v (ov_extract rfl rfl) rfl <| hl_new (on_alloc) rfl rfl rfl fun b11 =>  ?_
    refine hl_u0 (on_storeW (vs := cfgA s5.1.2.1 s5.1.1) rfl rfl rfl (by simp) (by simp [Value.oneCell'])) rfl rfl ?_
    obtain ⟨⟨q5, d5, e5⟩, hs5⟩ := s5
    dsimp only at hd5 ⊢
    subst hd5
    refine hl_v (ov_assign rfl) rfl <| hl_nil <| hx_then_normal <| hc_seq <| hc_region <| hl_new (on_buildSliceN rfl rfl rfl) rfl rfl rfl fun b76 =>  ?_
    refine HL.ent (Ent.blk_row (b := b76) 1 0 rfl (by decide)) ?_
    refine hl_v (ov_move rfl) rfl <| ?_
    refine hl_new (on_appendR (A := some ⟨b76, 0, none⟩) (news := (cfgB d3).map u8v) rfl rfl (SrcIs.rowR (A := A1) hA1) (by simp) (u8_one _) (by decide) (by omega)) rfl rfl rfl (fun q6 => ?_)
    rw [List.nil_append, Nat.zero_add]
    refine hl_new (on_buildSliceN rfl rfl rfl) rfl rfl rfl fun b79 =>  ?_
    refine hl_new (on_appendR (A := q6.1) (news := [.int .u8 0]) rfl rfl (SrcIs.blk (b := b79)) rfl (by simp [Value.oneCell']) (by decide) (by omega)) rfl rfl rfl (fun q7 => ?_)
    have hx7 : (cfgB d3).map u8v ++ [Value.int .u8 0] = (cfgB d3 ++ [0]).map u8v := by rw [List.map_append]; rfl
    have hl7 : (cfgB d3).length + 1 = (cfgB d3 ++ [0]).length := by rw [List.length_append]; rfl
    rw [hx7, hl7]
    refine hl_call (σ := ParseT (parseP ⟨cfgB d3 ++ [0], .slice q7.1 (cfgB d3 ++ [0]).length q7.2, false⟩) (rdC true ⟨cfgB d3 ++ [0], .slice q7.1 (cfgB d3 ++ [0]).length q7.2, false⟩).1) Try.call26 rfl rfl (fun w1 H1 => Own.callx0 H1 fun D' hold hin H2 => Parse_spec D' w1 _ (cfgB d3 ++ [0]) (hin _ fun h hs ho => rep_row (A := q7.1) hs (cfgB d3 ++ [0]) rfl (repL_bytes.2 rfl))) ?_
    intro s8
    try rw [List.nil_append]
    have hd8 : s8.1.2.2 = 11 := by
      rcases s8.2 with ⟨_, _, k3⟩ | ⟨k1, _, _⟩
      · exact k3
      · exact absurd k1 (parse_long hg)
    refine hl_v (ov_move rfl) rfl <| hl_v (ov_extract rfl rfl) rfl <| hl_v (ov_extract rfl rfl) rfl <| hl_new (on_alloc) rfl rfl rfl fun b13 =>  ?_
    refine hl_u0 (on_storeW (vs := cfgA s8.1.2.1 s8.1.1) rfl rfl rfl (by simp) (by simp [Value.oneCell'])) rfl rfl ?_
    obtain ⟨⟨q8, d8, e8⟩, hs8⟩ := s8
    dsimp only at hd8 ⊢
    subst hd8
    refine hl_v (ov_assign rfl) rfl <| hl_nil <| hx_then_normal <| hc_seq <| hc_region <| hl_v (ov_move rfl) rfl <| ?_
    refine hl_v (ov_neq rfl rfl) rfl <| hl_v (ov_move rfl) rfl <| ?_
    refine hl_partF (t := 86) rfl ((fun h => h rfl)) ?_
    refine hl_on rfl rfl <| hl_v (ov_move rfl) rfl <| hl_on rfl rfl <| hl_v (ov_neq rfl rfl) rfl <| hl_v (ov_pickF rfl rfl) rfl <| hl_nil <| hx_then_normal <| ?_
    refine hc_cond_F rfl ((fun h => h rfl)) ?_
    refine hc_skip <| ?_
    refine hx_cut hK1 (()) (by repeat (first | exact Slots.sub_nil _ | refine Slots.sub_cons rfl ?_)) (by first | assumption | exact Ent.refl _ | exact Ent.nil _ | (repeat (first | exact Ent.refl _ | exact Ent.nil _ | refine Ent.pick ?_)))
  refine hx_then_normal <| hc_seq <| hc_seq <| hc_region <| hl_v (ov_move rfl) rfl <| ?_
  refine hl_call (σ := ResT (okEds l) (edsB l) (fun e => e = if 32 < l.length then 3 else 11)) Try.call20 rfl rfl (fun w1 H1 => Own.callx0 H1 fun D' hold hin H2 => Edits_res D' w1 _ l (by omega) (hold _ h1')) ?_
  intro t1
  try rw [List.nil_append]
  obtain ⟨⟨⟨A1, k1⟩, b1, e2⟩, hs1⟩ := t1
  dsimp only at hs1 ⊢
  refine hl_v (ov_move rfl) rfl <| hl_v (ov_extract rfl rfl) rfl <| hl_v (ov_extract rfl rfl) rfl <| hl_v (ov_assign rfl) rfl <| hl_v (ov_assign rfl) rfl <| hl_nil <| ?_
  refine hx_then_normal <| hc_seq <| hc_region <| hl_v (ov_move rfl) rfl <| hl_v (ov_eql rfl rfl) rfl <| hl_nil <| ?_
  refine hx_then_normal <| ?_
  refine hc_cutK0 (σ := Unit) [2] rfl  (fun _u => []) (fun K2 hK2 => ?_) (fun _u => ?_)
  · rcases hs1 with ⟨hno, rfl, hne, he⟩ | ⟨hg, rfl, rfl⟩
    · refine hc_cond_F rfl (hne) ?_
      refine hc_skip <| ?_
      refine hx_cut hK2 (()) (by repeat (first | exact Slots.sub_nil _ | refine Slots.sub_cons rfl ?_)) (by first | assumption | exact Ent.refl _ | exact Ent.nil _ | (repeat (first | exact Ent.refl _ | exact Ent.nil _ | refine Ent.pick ?_)))
    have hlen := edsB_len l
    refine hc_cond_T rfl (rfl) ?_
    refine hc_seq <| hc_region <| hl_v (ov_move rfl) rfl <| ?_
    refine hl_call (σ := ListT ⟨edsB l, .slice A1 (edsB l).length k1, false⟩) Try.call23 rfl rfl (fun w1 H1 => Own.callx0 H1 fun D' hold hin H2 => List_spec D' w1 _ (edsB l) (hin _ fun h hs ho => rep_row (A := A1) hs (edsB l) rfl (repL_bytes.2 rfl))) ?_
    intro s3
    try rw [List.nil_append]
    have hok3 := listT_ok s3
    have hd3 : s3.1.2.1 = l ∧ s3.1.2.2 = 0 := by
      obtain ⟨u1, u2⟩ := list_of (.slice A1 (edsB l).length k1) hg
      rcases s3.2 with ⟨k1, _⟩ | ⟨_, k2, k3⟩
      · exact absurd u1 k1
      · exact ⟨k2.trans u2, k3⟩
    obtain ⟨⟨⟨A3, k3⟩, l3, e3⟩, hs3⟩ := s3
    dsimp only at hd3 hok3 ⊢
    obtain ⟨rfl, rfl⟩ := hd3
    refine hl_v (ov_move rfl) rfl <| hl_v (ov_extract rfl rfl) rfl <| hl_v (ov_extract rfl rfl) rfl <| hl_v (ov_assign rfl) rfl <| hl_v (ov_assign rfl) rfl <| hl_nil <| ?_
    refine hx_then_normal <| hc_seq <| hc_region <| hl_v (ov_move rfl) rfl <| hl_v (ov_neq rfl rfl) rfl <| hl_v (ov_move rfl) rfl <| ?_
    refine hl_partF (t := 104) rfl ((fun h => h rfl)) ?_
    refine hl_on rfl rfl <| hl_v (ov_move rfl) rfl <| hl_on rfl rfl <| hl_v (ov_move rfl) rfl <| ?_
    refine hl_on rfl rfl <| hl_call (σ := BIff (l3 = l3)) Try.call21 rfl rfl (fun w1 H1 => Own.callx0 H1 fun D' hold hin H2 => keepE_spec D' w1 _ _ l3 l3 (hin _ fun h hs ho => rep_row (A := A3) hs l3 rfl (repL_F.2 ⟨rfl, hok3⟩)) (hold _ h1')) ?_
    intro bk
    try rw [List.nil_append]
    refine hl_on rfl rfl <| hl_v (by first | exact ov_notd rfl | exact ov_not rfl) rfl <| ?_
    refine hl_v (ov_pickF rfl rfl) rfl <| hl_v (ov_move rfl) rfl <| ?_
    refine hl_partb (t := 110) rfl (fun hb => ?_) (fun hb => ?_)
    · exact absurd (bk.2.2 rfl) (by intro h; rw [h] at hb; cases hb)
    refine hl_on rfl rfl <| hl_v (ov_move rfl) rfl <| hl_on rfl rfl <| hl_v (by first | exact ov_len rfl | exact ov_lenS rfl) rfl <| ?_
    refine hl_on rfl rfl <| hl_v (ov_move rfl) rfl <| hl_on rfl rfl <| hl_v (by first | exact ov_len rfl | exact ov_lenS rfl) rfl <| ?_
    refine hl_on rfl rfl <| hl_v (ov_mul rfl rfl (by first | exact wrap_i64 (by omega) | rfl)) rfl <| ?_
    refine hl_on rfl rfl <| hl_v (ov_add rfl rfl (by first | exact wrap_i64 (by omega) | rfl)) rfl <| ?_
    refine hl_on rfl rfl <| hl_v (ov_neq rfl rfl) rfl <| hl_v (ov_pickF rfl rfl) rfl <| hl_nil <| hx_then_normal <| ?_
    refine hc_cond_F rfl ((by omega)) ?_
    refine hc_skip <| ?_
    refine hx_cut hK2 (()) (by repeat (first | exact Slots.sub_nil _ | refine Slots.sub_cons rfl ?_)) (by first | assumption | exact Ent.refl _ | exact Ent.nil _ | (repeat (first | exact Ent.refl _ | exact Ent.nil _ | refine Ent.pick ?_)))
  refine hx_then_normal <| hc_seq <| hc_seq <| hc_region <| hl_v (ov_move rfl) rfl <| ?_
  refine hl_call (σ := ParseT (parseP ⟨b, .slice Ab b.length cb, false⟩) (rdC true ⟨b, .slice Ab b.length cb, false⟩).1) Try.call26 rfl rfl (fun w1 H1 => Own.callx0 H1 fun D' hold hin H2 => Parse_spec D' w1 _ b (hold _ h2')) ?_
  intro s3
  try rw [List.nil_append]
  have hok3 := parseT_ok s3 (rdC_ok true _)
  have hd3 : s3.1.2.2 = 0 → goodP s3.1.2.1 ∧ cfgB s3.1.2.1 = b := fun h => by
    rcases s3.2 with ⟨_, _, k3⟩ | ⟨k1, k2, _⟩
    · rw [k3] at h; cases h
    · rw [k2]; exact ⟨k1.2, (parse_bytes k1).symm⟩
  refine hl_v (ov_move rfl) rfl <| hl_v (ov_extract rfl rfl) rfl <| hl_v (ov_extract rfl rfl) rfl <| hl_new (on_alloc) rfl rfl rfl fun b19 =>  ?_
  refine hl_u0 (on_storeW (vs := cfgA s3.1.2.1 s3.1.1) rfl rfl rfl (by simp) (by simp [Value.oneCell'])) rfl rfl ?_
  obtain ⟨⟨q3, d3, e3⟩, hs3⟩ := s3
  dsimp only at hd3 hok3 ⊢
  refine hl_v (ov_assign rfl) rfl <| hl_nil <| hx_then_normal <| hc_seq <| hc_region <| hl_v (ov_move rfl) rfl <| ?_
  refine hl_v (ov_eql rfl rfl) rfl <| hl_nil <| hx_then_normal <| ?_
  refine hc_cutK0 (σ := Unit) [2] rfl  (fun _u => []) (fun K3 hK3 => ?_) (fun _u => ?_)
  · refine hc_cond rfl (fun a5 => ?_) (fun a5 => ?_)
    · obtain ⟨g1, g2⟩ := hd3 a5
      refine hc_seq <| hc_region <| hl_v (by first | exact ov_loadW rfl (by simp; done) | exact ov_loadGB rfl rfl) rfl <| ?_
      refine hl_call (σ := ResT (goodP d3) (cfgB d3) (fun e => e = 14)) Try.call17 rfl rfl (fun w1 H1 => Own.callx0 H1 fun D' hold hin H2 => Config_res D' w1 d3 _ _ _ (ConfOld.rows (q := q3) hok3 hin)) ?_
      intro s4
      try rw [List.nil_append]
      obtain ⟨⟨⟨A4, k4⟩, b4, e4⟩, hs4⟩ := s4
      dsimp only at hs4 ⊢
      rcases hs4 with ⟨hno, _⟩ | ⟨_, rfl, rfl⟩
      · exact absurd g1 hno
      refine hl_v (ov_move rfl) rfl <| hl_v (ov_extract rfl rfl) rfl <| hl_v (ov_extract rfl rfl) rfl <| hl_v (ov_assign rfl) rfl <| hl_v (ov_assign rfl) rfl <| hl_nil <| ?_
      refine hx_then_normal <| hc_seq <| hc_region <| hl_v (ov_move rfl) rfl <| hl_v (ov_neq rfl rfl) rfl <| hl_v (ov_move rfl) rfl <| ?_
      refine hl_partF (t := 133) rfl ((fun h => h rfl)) ?_
      refine hl_on rfl rfl <| hl_v (ov_move rfl) rfl <| hl_on rfl rfl <| hl_v (ov_move rfl) rfl <| ?_
      refine hl_on rfl rfl <| hl_c Try.call18 rfl rfl (fun w1 H1 => Own.calln H1 fun D' hold hin H2 => Bytes_spec D' w1 _ _ (cfgB d3) b (hin _ fun h hs ho => rep_row (A := A4) hs (cfgB d3) rfl (repL_bytes.2 rfl)) (hold _ h2')) ?_
      refine hl_on rfl rfl <| hl_v (by first | exact ov_notd rfl | exact ov_not rfl) rfl <| ?_
      refine hl_v (ov_pickF rfl rfl) rfl <| hl_nil <| hx_then_normal <| ?_
      refine hc_cond_F rfl ((fun h => h g2)) ?_
      refine hc_skip <| ?_
      refine hx_cut hK3 (()) (by repeat (first | exact Slots.sub_nil _ | refine Slots.sub_cons rfl ?_)) (by first | assumption | exact Ent.refl _ | exact Ent.nil _ | (repeat (first | exact Ent.refl _ | exact Ent.nil _ | refine Ent.pick ?_)))
    refine hc_skip <| ?_
    refine hx_cut hK3 (()) (by repeat (first | exact Slots.sub_nil _ | refine Slots.sub_cons rfl ?_)) (by first | assumption | exact Ent.refl _ | exact Ent.nil _ | (repeat (first | exact Ent.refl _ | exact Ent.nil _ | refine Ent.pick ?_)))
  refine hx_then_normal <| hc_seq <| hc_seq <| hc_region <| hl_v (ov_move rfl) rfl <| ?_
  refine hl_call (σ := ListT ⟨b, .slice Ab b.length cb, false⟩) Try.call23 rfl rfl (fun w1 H1 => Own.callx0 H1 fun D' hold hin H2 => List_spec D' w1 _ b (hold _ h2')) ?_
  intro s5
  try rw [List.nil_append]
  have hok5 := listT_ok s5
  have hd5 : s5.1.2.2 = 0 → okEds s5.1.2.1 ∧ edsB s5.1.2.1 = b := fun h => by
    rcases s5.2 with ⟨_, _, k3⟩ | ⟨k1, k2, _⟩
    · rw [k3] at h; cases h
    · rw [k2]; exact ⟨k1.2, list_bytes k1⟩
  obtain ⟨⟨⟨A5, k5⟩, l5, e5⟩, hs5⟩ := s5
  dsimp only at hd5 hok5 ⊢
  refine hl_v (ov_move rfl) rfl <| hl_v (ov_extract rfl rfl) rfl <| hl_v (ov_extract rfl rfl) rfl <| hl_v (ov_assign rfl) rfl <| hl_v (ov_assign rfl) rfl <| hl_nil <| ?_
  refine hx_then_normal <| hc_seq <| hc_region <| hl_v (ov_move rfl) rfl <| hl_v (ov_eql rfl rfl) rfl <| hl_nil <| ?_
  refine hx_then_normal <| ?_
  refine hc_cutK0 (σ := Unit) [] rfl  (fun _u => []) (fun K4 hK4 => ?_) (fun _u => ?_)
  · refine hc_cond rfl (fun a5 => ?_) (fun a5 => ?_)
    · obtain ⟨g1, g2⟩ := hd5 a5
      refine hc_seq <| hc_region <| hl_v (ov_move rfl) rfl <| ?_
      refine hl_call (σ := ResT (okEds l5) (edsB l5) (fun e => e = if 32 < l5.length then 3 else 11)) Try.call20 rfl rfl (fun w1 H1 => Own.callx0 H1 fun D' hold hin H2 => Edits_res D' w1 _ l5 (by have := g1.1; omega) (hin _ fun h hs ho => rep_row (A := A5) hs l5 rfl (repL_F.2 ⟨rfl, hok5⟩))) ?_
      intro s4
      try rw [List.nil_append]
      obtain ⟨⟨⟨A4, k4⟩, b4, e4⟩, hs4⟩ := s4
      dsimp only at hs4 ⊢
      rcases hs4 with ⟨hno, _⟩ | ⟨_, rfl, rfl⟩
      · exact absurd g1 hno
      refine hl_v (ov_move rfl) rfl <| hl_v (ov_extract rfl rfl) rfl <| hl_v (ov_extract rfl rfl) rfl <| hl_v (ov_assign rfl) rfl <| hl_v (ov_assign rfl) rfl <| hl_nil <| ?_
      refine hx_then_normal <| hc_seq <| hc_region <| hl_v (ov_move rfl) rfl <| hl_v (ov_neq rfl rfl) rfl <| hl_v (ov_move rfl) rfl <| ?_
      refine hl_partF (t := 153) rfl ((fun h => h rfl)) ?_
      refine hl_on rfl rfl <| hl_v (ov_move rfl) rfl <| hl_on rfl rfl <| hl_v (ov_move rfl) rfl <| ?_
      refine hl_on rfl rfl <| hl_c Try.call18 rfl rfl (fun w1 H1 => Own.calln H1 fun D' hold hin H2 => Bytes_spec D' w1 _ _ (edsB l5) b (hin _ fun h hs ho => rep_row (A := A4) hs (edsB l5) rfl (repL_bytes.2 rfl)) (hold _ h2')) ?_
      refine hl_on rfl rfl <| hl_v (by first | exact ov_notd rfl | exact ov_not rfl) rfl <| ?_
      refine hl_v (ov_pickF rfl rfl) rfl <| hl_nil <| hx_then_normal <| ?_
      refine hc_cond_F rfl ((fun h => h g2)) ?_
      refine hc_skip <| ?_
      refine hx_cut hK4 (()) (by repeat (first | exact Slots.sub_nil _ | refine Slots.sub_cons rfl ?_)) (by first | assumption | exact Ent.refl _ | exact Ent.nil _ | (repeat (first | exact Ent.refl _ | exact Ent.nil _ | refine Ent.pick ?_)))
    refine hc_skip <| ?_
    refine hx_cut hK4 (()) (by repeat (first | exact Slots.sub_nil _ | refine Slots.sub_cons rfl ?_)) (by first | assumption | exact Ent.refl _ | exact Ent.nil _ | (repeat (first | exact Ent.refl _ | exact Ent.nil _ | refine Ent.pick ?_)))
  refine hx_then_normal <| hc_seq <| hc_region <| ?_
  refine hl_c Try.call16 rfl rfl (fun w1 H1 => Own.calln H1 fun D' hold hin H2 => wakes_spec D' w1) ?_
  refine hl_v (ov_assign rfl) rfl <| hl_nil <| hx_then_normal <| hc_ret <| ?_
  exact results_1 (.inr rfl) rfl rfl fun w' H' => ⟨rfl, H'.ent (Ent.nil _)⟩
end Go.Proofs.Ytpgpfcplchaleaa
