import Derived.Test.YtpgpfcplchaleaaCodM
set_option linter.unusedVariables false
set_option linter.unusedSimpArgs false
namespace Go.Proofs.Ytpgpfcplchaleaa
open Slk
theorem flag_spec (D : Nat → Prop) (w : World) (b : Bool) : Calls Try.prog 48 #[.bool b] w fun e w' => e = .returned (.int .u8 ((if b then 1 else 0 : Nat) : Int)) ∧ Own D w w' [] := by
  refine hc_enter (vs := [.bool b]) Try.func48 rfl _ Try.ntmps48 rfl (Own.start D w) ?_
  simp only [argSlots, Nat.zero_add]
  refine hc_seq <| hc_region <| hl_v (ov_assign rfl) rfl <| hl_nil <| hx_then_normal <| hc_seq <| ?_
  refine hc_seq <| hc_region <| hl_v (ov_move rfl) rfl <| hl_nil <| hx_then_normal <| ?_
  refine hc_cond_bool rfl (fun h => ?_) (fun h => ?_)
  · subst h
    refine hc_seq <| hc_region <| hl_v (ov_assign rfl) rfl <| hl_nil <| hx_then_normal <| hc_ret <| ?_
    refine hx_then_ret <| ?_
    exact results_1 (.inr rfl) rfl rfl fun w' H' => ⟨rfl, H'⟩
  subst h
  refine hc_skip <| hx_then_normal <| hc_seq <| hc_region <| hl_v (ov_assign rfl) rfl <| hl_nil <| ?_
  refine hx_then_normal <| hc_ret <| ?_
  exact results_1 (.inr rfl) rfl rfl fun w' H' => ⟨rfl, H'⟩
theorem resT_of {p : Prop} {B : List UInt8} {n : Int → Prop} (h : ¬ p) (e : Int) (he : e ≠ 0) (hn : n e) : ∃ s : ResT p B n, s.1 = ((none, 0), [], e) := ⟨⟨((none, 0), [], e), .inl ⟨h, rfl, he, hn⟩⟩, rfl⟩
theorem RConfig_res (D : Nat → Prop) (w : World) (c : ConfC) (vp vv vs : Value) (H : ConfOld D w c vp vv vs) :
    Calls Try.prog 25 #[.agg (cfgV c vp vv vs).toArray] w fun e w' => ∃ s : ResT (goodP c) (cfgB c) (fun e => e = 14), e = .returned (.tuple #[.slice s.1.1.1 s.1.2.1.length s.1.1.2, .int .i64 s.1.2.2]) ∧ Own D w w' [row s.1.1.1 5 1 s.1.2.1.length s.1.1.2 (s.1.2.1.map u8v)] := by
  have H0 := H
  obtain ⟨Ap, capp, rfl, _, _, HSp, _⟩ := H.p.openF
  have HSp : OldS D w Ap (c.2.2.2.1.flatMap portV) := HSp
  obtain ⟨Av, capv, rfl, _, _, HSv, _⟩ := H.v.openF
  have HSv : OldS D w Av (c.2.2.2.2.1.flatMap vlanV) := HSv
  obtain ⟨As, caps, rfl, _, _, HSs, _⟩ := H.s.openF
  have HSs : OldS D w As (c.2.2.2.2.2.flatMap statV) := HSs
  clear H
  have hcB : cfgB c = ((headB c ++ beB c.2.2.2.1.length 1) ++ c.2.2.2.1.flatMap portB) ++ (beB c.2.2.2.2.1.length 1 ++ c.2.2.2.2.1.flatMap vlanB) ++ (beB c.2.2.2.2.2.length 1 ++ c.2.2.2.2.2.flatMap statB) := by
    unfold cfgB; simp only [List.append_assoc]
  have hwok : goodP c → Wok c := goodP.wok
  obtain ⟨P, hP⟩ : ∃ l, c.2.2.2.1 = l := ⟨_, rfl⟩
  obtain ⟨V, hV⟩ : ∃ l, c.2.2.2.2.1 = l := ⟨_, rfl⟩
  obtain ⟨S, hS⟩ : ∃ l, c.2.2.2.2.2 = l := ⟨_, rfl⟩
  have hwP : goodP c → (0 ≤ c.1 ∧ c.1 ≤ 61440) ∧ (0 ≤ c.2.1 ∧ c.2.1 ≤ 40) ∧ (0 ≤ c.2.2.1 ∧ c.2.2.1 ≤ 30) ∧ P.length ≤ 8 ∧ V.length ≤ 16 ∧ S.length ≤ 16 ∧ (∀ i (h : i < P.length), 0 ≤ P[i].2.2 ∧ P[i].2.2 ≤ 4094) ∧ (∀ i (h : i < V.length), 0 ≤ V[i].1 ∧ V[i].1 ≤ 4094) ∧ (∀ i (h : i < S.length), (0 ≤ S[i].2.1 ∧ S[i].2.1 ≤ 4094) ∧ 0 ≤ S[i].2.2 ∧ S[i].2.2 < 8 ∧ S[i].1.toNat < 281474976710656) := fun h => by
    subst hP; subst hV; subst hS
    obtain ⟨a, b, d, lp, lv, ls, p, v, s⟩ := hwok h
    exact ⟨a, b, d, lp, lv, ls, p, v, s⟩
  rw [hP] at HSp hcB ⊢
  rw [hV] at HSv hcB ⊢
  rw [hS] at HSs hcB ⊢
  rw [hP, hV, hS] at H0
  refine hc_enter (vs := [.agg (cfgV c (.slice Ap P.length capp) (.slice Av V.length capv) (.slice As S.length caps)).toArray]) Try.func25 rfl _ Try.ntmps25 rfl (Own.start D w) ?_
  simp only [argSlots, Nat.zero_add]
  refine hc_seq <| hc_region <| hl_new (on_boxN rfl rfl) rfl rfl rfl fun b1 =>  ?_
  refine hl_v (ov_assign rfl) rfl <| hl_v (ov_assign rfl) rfl <| hl_nil <| hx_then_normal <| hc_seq <| hc_seq <| ?_
  refine hc_region <| hl_v (by first | exact ov_loadW rfl (by simp; done) | exact ov_loadGB rfl rfl) rfl <| ?_
  refine hl_call (σ := BIff (goodP c)) Try.call33 rfl rfl (fun w1 H1 => Own.callx0 H1 fun D' hold hin H2 => RGood_spec D' w1 c _ _ _ (H0.hold hold)) ?_
  intro g
  try rw [List.nil_append]
  refine hl_v (by first | exact ov_notd rfl | exact ov_not rfl) rfl <| ?_
  refine hl_nil <| hx_then_normal <| ?_
  refine hc_cond_bool rfl (fun a1 => ?_) (fun a1 => ?_)
  · have hno : ¬ goodP c := fun h => by have := g.2.2 h; rw [this] at a1; cases a1
    refine hc_seq <| hc_region <| hl_v (ov_assign rfl) rfl <| hl_v (ov_assign rfl) rfl <| hl_nil <| hx_then_normal <| ?_
    refine hc_ret <| hx_then_ret <| ?_
    exact results_2 (.inr rfl) rfl rfl rfl fun w' H' => ⟨⟨((none, 0), [], 14), .inl ⟨hno, rfl, by decide, rfl⟩⟩, rfl, H'.ent (Ent.trans (Ent.nil_row 5 1) (Ent.cons (Ent.nil _)))⟩
  have hyes : goodP c := g.2.1 (by simpa using a1)
  obtain ⟨oa, ob', od, olp, olv, ols, op', ov', os'⟩ := hwP hyes
  have hhd : (beB c.1.toNat 2).map u8v ++ [.int .u8 c.2.1, .int .u8 c.2.2.1, .int .u8 (P.length : Int)] = (headB c ++ beB P.length 1).map u8v := by
    have e : [Value.int .u8 c.2.1, .int .u8 c.2.2.1, .int .u8 (P.length : Int)] = [Value.int .u8 c.2.1] ++ ([.int .u8 c.2.2.1] ++ [.int .u8 (P.length : Int)]) := rfl
    rw [e, be1_int (by omega) (by omega), be1_int (by omega) (by omega), be1_cells _ (by omega), headB]
    simp only [List.map_append, List.append_assoc]
  have hhl : (headB c).length = 4 := by rw [headB]; simp [beB_len]
  refine hc_skip <| hx_then_normal <| hc_seq <| ?_
  refine hc_cutK1 (σ := Nat × List Value × Option Addr × Nat) [1] rfl 4 (fun q => .slice q.2.2.1 q.1 q.2.2.2) (fun q => [pureP (q.1 = 5 ∧ q.2.1 = (headB c ++ beB P.length 1).map u8v), row q.2.2.1 5 1 q.1 q.2.2.2 q.2.1, blk b1 26 (cfgV c (.slice Ap P.length capp) (.slice Av V.length capv) (.slice As S.length caps))]) (fun K1 hK1 => ?_) (fun q => ?_)
  · refine hc_any [blk b1 26 (cfgV c (.slice Ap P.length capp) (.slice Av V.length capv) (.slice As S.length caps))] mixed 17 rfl ?_
    refine ha_v 0 rfl (ov_fieldA rfl) rfl <| ?_
    refine ha_v 1 rfl (ov_load rfl (CellIs.blk rfl)) rfl <| ?_
    refine ha_v 4 rfl (ov_fieldA rfl) rfl <| ?_
    refine ha_v 5 rfl (ov_load rfl (CellIs.blk rfl)) rfl <| ?_
    refine ha_v 6 rfl (ov_conv rfl (by first | exact wrap_u8 (by omega) | rfl)) rfl <| ?_
    refine ha_v 7 rfl (ov_fieldA rfl) rfl <| ?_
    refine ha_v 8 rfl (ov_load rfl (CellIs.blk rfl)) rfl <| ?_
    refine ha_v 9 rfl (ov_conv rfl (by first | exact wrap_u8 (by omega) | rfl)) rfl <| ?_
    refine ha_v 10 rfl (ov_fieldA rfl) rfl <| ?_
    refine ha_v 11 rfl (ov_load rfl (CellIs.blk rfl)) rfl <| ?_
    refine ha_v 12 rfl (by first | exact ov_len rfl | exact ov_lenS rfl) rfl <| ?_
    refine ha_v 13 rfl (ov_conv rfl (by first | exact wrap_u8 (by omega) | rfl)) rfl <| ?_
    refine ha_v 2 rfl (ov_conv (m := ((c.1.toNat : Nat) : Int)) rfl (convN (by omega) (by omega))) rfl ?_
    refine ha_two 3 14 (by kernel_rfl) ?_ ?_
    · skip
      refine ho_kx (σ := { q : Option Addr × Nat // 0 < 2 → isA q.1 }) rfl Try.call44 rfl (fun w1 H1 => Own.callx0 H1 fun D' hold hin H2 => big_spec D' w1 c.1.toNat 2 (by omega) (by decide)) ?_
      intro q1
      try rw [List.nil_append]
      refine ha_one 14 (by kernel_rfl) <| ?_
      refine ho_n rfl (on_buildSliceN rfl rfl rfl) rfl (fun b28 => ?_)
      refine ha_one 15 (by kernel_rfl) <| ?_
      refine ho_n rfl (on_appendR (A := q1.1.1) (news := [.int .u8 c.2.1, .int .u8 c.2.2.1, .int .u8 (P.length : Int)]) rfl rfl (SrcIs.blk (b := b28)) rfl (by simp [Value.oneCell']) (by decide) (by decide)) rfl (fun q2 => ?_)
      refine ha_v 16 rfl (ov_assign rfl) rfl <| ?_
      refine ha_done (by kernel_rfl) <| ?_
      exact hx_cut hK1 ((2 + 3, (beB c.1.toNat 2).map u8v ++ [.int .u8 c.2.1, .int .u8 c.2.2.1, .int .u8 (P.length : Int)], q2)) (by repeat (first | exact Slots.sub_nil _ | refine Slots.sub_cons rfl ?_)) (Ent.trans (by first | assumption | exact Ent.refl _ | exact Ent.nil _ | exact Ent.row_any (Ent.refl _) | (repeat (first | exact Ent.refl _ | exact Ent.nil _ | refine Ent.pick ?_))) (Ent.trans (b := [pureP (2 + 3 = 5 ∧ (beB c.1.toNat 2).map u8v ++ [.int .u8 c.2.1, .int .u8 c.2.2.1, .int .u8 (P.length : Int)] = (headB c ++ beB P.length 1).map u8v), row q2.1 5 1 (2 + 3) q2.2 ((beB c.1.toNat 2).map u8v ++ [.int .u8 c.2.1, .int .u8 c.2.2.1, .int .u8 (P.length : Int)]), blk b1 26 (cfgV c (.slice Ap P.length capp) (.slice Av V.length capv) (.slice As S.length caps))]) (fun h hs => stars_pure.2 ⟨⟨rfl, hhd⟩, hs⟩) (Ent.refl _)))
    skip
    refine ho_n rfl (on_buildSliceN rfl rfl rfl) rfl (fun b28 => ?_)
    refine ha_one 3 (by kernel_rfl) <| ?_
    refine ho_kx (σ := { q : Option Addr × Nat // 0 < 2 → isA q.1 }) rfl Try.call44 rfl (fun w1 H1 => Own.callx0 H1 fun D' hold hin H2 => big_spec D' w1 c.1.toNat 2 (by omega) (by decide)) ?_
    intro q1
    try rw [List.nil_append]
    refine ha_one 15 (by kernel_rfl) <| ?_
    refine ho_n rfl (on_appendR (A := q1.1.1) (news := [.int .u8 c.2.1, .int .u8 c.2.2.1, .int .u8 (P.length : Int)]) rfl rfl (SrcIs.blk (b := b28)) rfl (by simp [Value.oneCell']) (by decide) (by decide)) rfl (fun q2 => ?_)
    refine ha_v 16 rfl (ov_assign rfl) rfl <| ?_
    refine ha_done (by kernel_rfl) <| ?_
    exact hx_cut hK1 ((2 + 3, (beB c.1.toNat 2).map u8v ++ [.int .u8 c.2.1, .int .u8 c.2.2.1, .int .u8 (P.length : Int)], q2)) (by repeat (first | exact Slots.sub_nil _ | refine Slots.sub_cons rfl ?_)) (Ent.trans (by first | assumption | exact Ent.refl _ | exact Ent.nil _ | exact Ent.row_any (Ent.refl _) | (repeat (first | exact Ent.refl _ | exact Ent.nil _ | refine Ent.pick ?_))) (Ent.trans (b := [pureP (2 + 3 = 5 ∧ (beB c.1.toNat 2).map u8v ++ [.int .u8 c.2.1, .int .u8 c.2.2.1, .int .u8 (P.length : Int)] = (headB c ++ beB P.length 1).map u8v), row q2.1 5 1 (2 + 3) q2.2 ((beB c.1.toNat 2).map u8v ++ [.int .u8 c.2.1, .int .u8 c.2.2.1, .int .u8 (P.length : Int)]), blk b1 26 (cfgV c (.slice Ap P.length capp) (.slice Av V.length capv) (.slice As S.length caps))]) (fun h hs => stars_pure.2 ⟨⟨rfl, hhd⟩, hs⟩) (Ent.refl _)))
  obtain ⟨m0, cs0, A0, c0⟩ := q
  refine HX.pure ?_
  rintro ⟨hm0, hcs0⟩
  dsimp only at hm0 hcs0 ⊢
  obtain ⟨P1, hP1⟩ : ∃ B, B = headB c ++ beB P.length 1 := ⟨_, rfl⟩
  rw [← hP1] at hcs0 hcB
  refine hx_then_normal <| hc_seq <| hc_seq <| hc_region <| hl_v (ov_assign rfl) rfl <| hl_nil <| ?_
  refine hx_then_normal <| hc_block <| ?_
  refine hc_loopK2 (σ := Nat × Nat × List Value × Option Addr × Nat) [1] rfl 5 (fun s => .int .i64 (s.1 : Int)) 4 (fun s => .slice s.2.2.2.1 s.2.1 s.2.2.2.2) (fun s => [row s.2.2.2.1 5 1 s.2.1 s.2.2.2.2 s.2.2.1, blk b1 26 (cfgV c (.slice Ap P.length capp) (.slice Av V.length capv) (.slice As S.length caps))]) (fun s => s.1 ≤ P.length ∧ s.2.1 = 5 + 7 * s.1 ∧ s.2.2.1 = (P1 ++ (P.take s.1).flatMap portB).map u8v) (fun s => P.length - s.1) ((0, m0, cs0, A0, c0)) (⟨Nat.zero_le _, hm0, by rw [hcs0]; simp⟩) rfl rfl (by first | assumption | exact Ent.refl _ | exact Ent.nil _ | (repeat (first | exact Ent.refl _ | exact Ent.nil _ | refine Ent.pick ?_))) ?_
  rintro ⟨i, m, cs, A, d⟩ hj_ K2 hK2
  dsimp only at hj_ ⊢
  obtain ⟨hi, hm, hcs⟩ := hj_
  refine hc_seq <| hc_seq <| hc_region <| hl_v (ov_move rfl) rfl <| hl_v (ov_fieldA rfl) rfl <| hl_v (ov_load rfl (CellIs.blk rfl)) rfl <| ?_
  refine hl_v (by first | exact ov_len rfl | exact ov_lenS rfl) rfl <| ?_
  refine hl_v (ov_lss rfl rfl) rfl <| hl_nil <| hx_then_normal <| ?_
  refine hc_cond rfl (fun h => ?_) (fun h => ?_)
  · have hlt : i < P.length := by omega
    obtain ⟨hA, _⟩ := OldS.cells_flat (D := D) (w0 := w) (f := portV) (sz := 3) (fun _ => rfl) (by decide) HSp hlt []
    have hc := fun l' => (OldS.cells_flat (D := D) (w0 := w) (f := portV) (sz := 3) (fun _ => rfl) (by decide) HSp hlt l').2
    have hx := op' i hlt
    have hsn := snocB portB P1 P i hlt
    generalize P[i] = x at *
    have hco := x.2.1.toNat_lt
    obtain ⟨fl, hfl⟩ : ∃ n : Nat, n = (if x.1 = true then 1 else 0) := ⟨_, rfl⟩
    have hfl1 : fl ≤ 1 := by rw [hfl]; split <;> decide
    have hfin : ((cs ++ [.int .u8 (fl : Int)]) ++ (beB x.2.1.toNat 4).map u8v) ++ (beB x.2.2.toNat 2).map u8v = (P1 ++ (P.take (i + 1)).flatMap portB).map u8v := by
      rw [be1_cells fl (by omega), hcs, ← hsn, portB, ← hfl]
      simp only [List.map_append, List.append_assoc]
    have hm' : m + 1 + 4 + 2 = 5 + 7 * (i + 1) := by omega
    have hme : P.length - (i + 1) < P.length - i := by omega
    refine hc_skip <| hx_then_normal <| hc_seq <| hc_block <| hc_seq <| hc_region <| ?_
    refine hl_v (ov_fieldA rfl) rfl <| hl_v (ov_load rfl (CellIs.blk rfl)) rfl <| hl_v (ov_move rfl) rfl <| hl_v (ov_idxS rfl (by assumption) rfl _ rfl (by omega)) rfl <| ?_
    refine hl_v (ov_loadG (cs := portV x) rfl rfl (hc _)) rfl ?_
    refine hl_new (on_alloc) rfl rfl rfl fun b6 =>  ?_
    refine hl_u0 (on_storeW (vs := portV x) rfl rfl (by simp) (by simp) (by simp [Value.oneCell', u8v])) rfl rfl ?_
    refine hl_nil <| hx_then_normal <| ?_
    refine hc_any [blk b6 70 (portV x)] mixed 17 rfl ?_
    refine ha_v 0 rfl (ov_move rfl) rfl <| ?_
    refine ha_v 1 rfl (ov_fieldA rfl) rfl <| ?_
    refine ha_v 2 rfl (ov_load rfl (CellIs.blk rfl)) rfl <| ?_
    refine ha_v 6 rfl (ov_fieldA rfl) rfl <| ?_
    refine ha_v 7 rfl (ov_load rfl (CellIs.blk rfl)) rfl <| ?_
    refine ha_v 8 rfl (ov_conv rfl (by first | exact wrap_u64 (by omega) | rfl)) rfl <| ?_
    refine ha_v 11 rfl (ov_fieldA rfl) rfl <| ?_
    refine ha_v 12 rfl (ov_load rfl (CellIs.blk rfl)) rfl <| ?_
    refine ha_v 13 rfl (ov_conv (m := ((x.2.2.toNat : Nat) : Int)) rfl (convN (by omega) (by omega))) rfl ?_
    refine ha_one 3 (by kernel_rfl) <| ?_
    refine ho_k rfl Try.call48 rfl (fun w1 H1 => Own.calln H1 fun D' hold hin H2 => flag_spec D' w1 x.1) ?_
    rw [← hfl]
    refine ha_one 4 (by kernel_rfl) <| ho_n rfl (on_buildSliceN rfl rfl rfl) rfl fun b46 =>  ?_
    refine ha_one 5 (by kernel_rfl) <| ?_
    refine ho_n rfl (on_appendR (A := A) (news := [.int .u8 (fl : Int)]) rfl rfl (SrcIs.blk (b := b46)) rfl (by simp [Value.oneCell']) (by decide) (by omega)) rfl (fun q2 => ?_)
    refine ha_one 9 (by kernel_rfl) <| ?_
    refine ho_kx (σ := { q : Option Addr × Nat // 0 < 4 → isA q.1 }) rfl Try.call44 rfl (fun w1 H1 => Own.callx0 H1 fun D' hold hin H2 => big_spec D' w1 x.2.1.toNat 4 (by omega) (by decide)) ?_
    intro q3
    try rw [List.nil_append]
    refine ha_one 10 (by kernel_rfl) <| ?_
    refine ho_n rfl (on_appendR (A := q2.1) (news := (beB x.2.1.toNat 4).map u8v) rfl rfl (SrcIs.rowR (A := q3.1.1) (fun _ => q3.2 (by decide))) (by rw [List.length_map, beB_len]) (u8_one _) (by decide) (by omega)) rfl (fun q4 => ?_)
    refine ha_one 14 (by kernel_rfl) <| ?_
    refine ho_kx (σ := { q : Option Addr × Nat // 0 < 2 → isA q.1 }) rfl Try.call44 rfl (fun w1 H1 => Own.callx0 H1 fun D' hold hin H2 => big_spec D' w1 x.2.2.toNat 2 (by omega) (by decide)) ?_
    intro q5
    try rw [List.nil_append]
    refine ha_one 15 (by kernel_rfl) <| ?_
    refine ho_n rfl (on_appendR (A := q4.1) (news := (beB x.2.2.toNat 2).map u8v) rfl rfl (SrcIs.rowR (A := q5.1.1) (fun _ => q5.2 (by decide))) (by rw [List.length_map, beB_len]) (u8_one _) (by decide) (by omega)) rfl (fun q6 => ?_)
    refine ha_v 16 rfl (ov_assign rfl) rfl <| ?_
    refine ha_done (by kernel_rfl) <| hx_block_normal <| hx_then_normal <| hc_region <| hl_v (ov_move rfl) rfl <| hl_v (ov_add rfl rfl (by first | exact wrap_i64 (by omega) | rfl)) rfl <| ?_
    refine hl_v (ov_assign rfl) rfl <| hl_nil <| ?_
    refine hx_next hK2 ((i + 1, m + 1 + 4 + 2, ((cs ++ [.int .u8 (fl : Int)]) ++ (beB x.2.1.toNat 4).map u8v) ++ (beB x.2.2.toNat 2).map u8v, q6)) (⟨hlt, hm', hfin⟩) (hme) (by repeat (first | exact Slots.sub_nil _ | refine Slots.sub_cons rfl ?_)) (by first | assumption | exact Ent.refl _ | exact Ent.nil _ | (repeat (first | exact Ent.refl _ | exact Ent.nil _ | refine Ent.pick ?_)))
  have hie : i = P.length := by omega
  subst hie
  rw [List.take_length] at hcs
  obtain ⟨P2, hP2⟩ : ∃ B, B = P1 ++ P.flatMap portB := ⟨_, rfl⟩
  rw [← hP2] at hcs hcB
  refine hc_exit <| hx_then_exit <| hx_then_exit <| hx_block_out <| hx_then_normal <| hc_seq <| ?_
  refine hc_region <| hl_v (ov_move rfl) rfl <| hl_v (ov_fieldA rfl) rfl <| hl_v (ov_load rfl (CellIs.blk rfl)) rfl <| hl_v (by first | exact ov_len rfl | exact ov_lenS rfl) rfl <| ?_
  refine hl_v (ov_conv rfl (by first | exact wrap_u8 (by omega) | rfl)) rfl <| ?_
  refine hl_new (on_buildSliceN rfl rfl rfl) rfl rfl rfl fun b63 =>  ?_
  refine hl_new (on_appendR (A := A) (news := [.int .u8 (V.length : Int)]) rfl rfl (SrcIs.blk (b := b63)) rfl (by simp [Value.oneCell']) (by decide) (by omega)) rfl rfl rfl (fun q2 => ?_)
  have hcs2 : cs ++ [.int .u8 (V.length : Int)] = (P2 ++ beB V.length 1).map u8v := by rw [hcs, be1_cells _ (by omega), List.map_append]
  rw [hcs2]
  obtain ⟨P3, hP3⟩ : ∃ B, B = P2 ++ beB V.length 1 := ⟨_, rfl⟩
  rw [← hP3]
  rw [← List.append_assoc P2, ← hP3] at hcB
  obtain ⟨m2, hm2⟩ : ∃ k, k = m + 1 := ⟨_, rfl⟩
  rw [← hm2]
  refine hl_v (ov_assign rfl) rfl <| hl_nil <| hx_then_normal <| hc_seq <| hc_seq <| hc_region <| ?_
  refine hl_v (ov_assign rfl) rfl <| hl_nil <| hx_then_normal <| hc_block <| ?_
  refine hc_loopK2 (σ := Nat × Nat × List Value × Option Addr × Nat) [1] rfl 7 (fun s => .int .i64 (s.1 : Int)) 4 (fun s => .slice s.2.2.2.1 s.2.1 s.2.2.2.2) (fun s => [row s.2.2.2.1 5 1 s.2.1 s.2.2.2.2 s.2.2.1, blk b1 26 (cfgV c (.slice Ap P.length capp) (.slice Av V.length capv) (.slice As S.length caps))]) (fun s => s.1 ≤ V.length ∧ s.2.1 = m2 + 4 * s.1 ∧ s.2.2.1 = (P3 ++ (V.take s.1).flatMap vlanB).map u8v) (fun s => V.length - s.1) ((0, m2, P3.map u8v, q2.1, q2.2)) (⟨Nat.zero_le _, rfl, by simp⟩) rfl rfl (by first | assumption | exact Ent.refl _ | exact Ent.nil _ | (repeat (first | exact Ent.refl _ | exact Ent.nil _ | refine Ent.pick ?_))) ?_
  rintro ⟨i, m, cs, A, d⟩ hj_ K3 hK3
  dsimp only at hj_ ⊢
  obtain ⟨hi, hm, hcs⟩ := hj_
  refine hc_seq <| hc_seq <| hc_region <| hl_v (ov_move rfl) rfl <| hl_v (ov_fieldA rfl) rfl <| hl_v (ov_load rfl (CellIs.blk rfl)) rfl <| ?_
  refine hl_v (by first | exact ov_len rfl | exact ov_lenS rfl) rfl <| ?_
  refine hl_v (ov_lss rfl rfl) rfl <| hl_nil <| hx_then_normal <| ?_
  refine hc_cond rfl (fun h2 => ?_) (fun h2 => ?_)
  · have hlt : i < V.length := by omega
    obtain ⟨hA, _⟩ := OldS.cells_flat (D := D) (w0 := w) (f := vlanV) (sz := 3) (fun _ => rfl) (by decide) HSv hlt []
    have hc := fun l' => (OldS.cells_flat (D := D) (w0 := w) (f := vlanV) (sz := 3) (fun _ => rfl) (by decide) HSv hlt l').2
    have hx := ov' i hlt
    have hsn := snocB vlanB P3 V i hlt
    generalize V[i] = x at *
    have hfin : (cs ++ (beB x.1.toNat 2).map u8v) ++ [u8v x.2.1, u8v x.2.2] = (P3 ++ (V.take (i + 1)).flatMap vlanB).map u8v := by
      have e : [u8v x.2.1, u8v x.2.2] = (beB x.2.1.toNat 1).map u8v ++ (beB x.2.2.toNat 1).map u8v := by rw [← be1_u8, ← be1_u8]; rfl
      rw [e, hcs, ← hsn, vlanB]
      simp only [List.map_append, List.append_assoc]
    have hm' : m + 2 + 2 = m2 + 4 * (i + 1) := by omega
    have hme : V.length - (i + 1) < V.length - i := by omega
    refine hc_skip <| hx_then_normal <| hc_seq <| hc_block <| hc_seq <| hc_region <| ?_
    refine hl_v (ov_fieldA rfl) rfl <| hl_v (ov_load rfl (CellIs.blk rfl)) rfl <| hl_v (ov_move rfl) rfl <| hl_v (ov_idxS rfl (by assumption) rfl _ rfl (by omega)) rfl <| ?_
    refine hl_v (ov_loadG (cs := vlanV x) rfl rfl (hc _)) rfl ?_
    refine hl_new (on_alloc) rfl rfl rfl fun b8 =>  ?_
    refine hl_u0 (on_storeW (vs := vlanV x) rfl rfl (by simp) (by simp) (by simp [Value.oneCell', u8v])) rfl rfl ?_
    refine hl_nil <| hx_then_normal <| ?_
    refine hc_any [blk b8 66 (vlanV x)] mixed 13 rfl ?_
    refine ha_v 0 rfl (ov_move rfl) rfl <| ?_
    refine ha_v 1 rfl (ov_fieldA rfl) rfl <| ?_
    refine ha_v 2 rfl (ov_load rfl (CellIs.blk rfl)) rfl <| ?_
    refine ha_v 6 rfl (ov_fieldA rfl) rfl <| ?_
    refine ha_v 7 rfl (ov_load rfl (CellIs.blk rfl)) rfl <| ?_
    refine ha_v 8 rfl (ov_fieldA rfl) rfl <| ?_
    refine ha_v 9 rfl (ov_load rfl (CellIs.blk rfl)) rfl <| ?_
    refine ha_v 3 rfl (ov_conv (m := ((x.1.toNat : Nat) : Int)) rfl (convN (by omega) (by omega))) rfl ?_
    refine ha_two 4 10 (by kernel_rfl) ?_ ?_
    · skip
      refine ho_kx (σ := { q : Option Addr × Nat // 0 < 2 → isA q.1 }) rfl Try.call44 rfl (fun w1 H1 => Own.callx0 H1 fun D' hold hin H2 => big_spec D' w1 x.1.toNat 2 (by omega) (by decide)) ?_
      intro q3
      try rw [List.nil_append]
      refine ha_two 5 10 (by kernel_rfl) ?_ ?_
      · skip
        refine ho_n rfl (on_appendR (A := A) (news := (beB x.1.toNat 2).map u8v) rfl rfl (SrcIs.rowR (A := q3.1.1) (fun _ => q3.2 (by decide))) (by rw [List.length_map, beB_len]) (u8_one _) (by decide) (by omega)) rfl (fun q4 => ?_)
        refine ha_one 10 (by kernel_rfl) <| ?_
        refine ho_n rfl (on_buildSliceN rfl rfl rfl) rfl (fun b87 => ?_)
        refine ha_one 11 (by kernel_rfl) <| ?_
        refine ho_n rfl (on_appendR (A := q4.1) (news := [u8v x.2.1, u8v x.2.2]) rfl rfl (SrcIs.blk (b := b87)) rfl (by simp [Value.oneCell', u8v]) (by decide) (by omega)) rfl (fun q5 => ?_)
        refine ha_v 12 rfl (ov_assign rfl) rfl <| ?_
        refine ha_done (by kernel_rfl) <| hx_block_normal <| hx_then_normal <| hc_region <| hl_v (ov_move rfl) rfl <| hl_v (ov_add rfl rfl (by first | exact wrap_i64 (by omega) | rfl)) rfl <| ?_
        refine hl_v (ov_assign rfl) rfl <| hl_nil <| ?_
        refine hx_next hK3 ((i + 1, m + 2 + 2, (cs ++ (beB x.1.toNat 2).map u8v) ++ [u8v x.2.1, u8v x.2.2], q5)) (⟨hlt, hm', hfin⟩) (hme) (by repeat (first | exact Slots.sub_nil _ | refine Slots.sub_cons rfl ?_)) (by first | assumption | exact Ent.refl _ | exact Ent.nil _ | (repeat (first | exact Ent.refl _ | exact Ent.nil _ | refine Ent.pick ?_)))
      skip
      refine ho_n rfl (on_buildSliceN rfl rfl rfl) rfl (fun b87 => ?_)
      refine ha_one 5 (by kernel_rfl) <| ?_
      refine ho_n rfl (on_appendR (A := A) (news := (beB x.1.toNat 2).map u8v) rfl rfl (SrcIs.rowR (A := q3.1.1) (fun _ => q3.2 (by decide))) (by rw [List.length_map, beB_len]) (u8_one _) (by decide) (by omega)) rfl (fun q4 => ?_)
      refine ha_one 11 (by kernel_rfl) <| ?_
      refine ho_n rfl (on_appendR (A := q4.1) (news := [u8v x.2.1, u8v x.2.2]) rfl rfl (SrcIs.blk (b := b87)) rfl (by simp [Value.oneCell', u8v]) (by decide) (by omega)) rfl (fun q5 => ?_)
      refine ha_v 12 rfl (ov_assign rfl) rfl <| ?_
      refine ha_done (by kernel_rfl) <| hx_block_normal <| hx_then_normal <| hc_region <| hl_v (ov_move rfl) rfl <| hl_v (ov_add rfl rfl (by first | exact wrap_i64 (by omega) | rfl)) rfl <| ?_
      refine hl_v (ov_assign rfl) rfl <| hl_nil <| ?_
      refine hx_next hK3 ((i + 1, m + 2 + 2, (cs ++ (beB x.1.toNat 2).map u8v) ++ [u8v x.2.1, u8v x.2.2], q5)) (⟨hlt, hm', hfin⟩) (hme) (by repeat (first | exact Slots.sub_nil _ | refine Slots.sub_cons rfl ?_)) (by first | assumption | exact Ent.refl _ | exact Ent.nil _ | (repeat (first | exact Ent.refl _ | exact Ent.nil _ | refine Ent.pick ?_)))
    skip
    refine ho_n rfl (on_buildSliceN rfl rfl rfl) rfl (fun b87 => ?_)
    refine ha_one 4 (by kernel_rfl) <| ?_
    refine ho_kx (σ := { q : Option Addr × Nat // 0 < 2 → isA q.1 }) rfl Try.call44 rfl (fun w1 H1 => Own.callx0 H1 fun D' hold hin H2 => big_spec D' w1 x.1.toNat 2 (by omega) (by decide)) ?_
    intro q3
    try rw [List.nil_append]
    refine ha_one 5 (by kernel_rfl) <| ?_
    refine ho_n rfl (on_appendR (A := A) (news := (beB x.1.toNat 2).map u8v) rfl rfl (SrcIs.rowR (A := q3.1.1) (fun _ => q3.2 (by decide))) (by rw [List.length_map, beB_len]) (u8_one _) (by decide) (by omega)) rfl (fun q4 => ?_)
    refine ha_one 11 (by kernel_rfl) <| ?_
    refine ho_n rfl (on_appendR (A := q4.1) (news := [u8v x.2.1, u8v x.2.2]) rfl rfl (SrcIs.blk (b := b87)) rfl (by simp [Value.oneCell', u8v]) (by decide) (by omega)) rfl (fun q5 => ?_)
    refine ha_v 12 rfl (ov_assign rfl) rfl <| ?_
    refine ha_done (by kernel_rfl) <| hx_block_normal <| hx_then_normal <| hc_region <| hl_v (ov_move rfl) rfl <| hl_v (ov_add rfl rfl (by first | exact wrap_i64 (by omega) | rfl)) rfl <| ?_
    refine hl_v (ov_assign rfl) rfl <| hl_nil <| ?_
    refine hx_next hK3 ((i + 1, m + 2 + 2, (cs ++ (beB x.1.toNat 2).map u8v) ++ [u8v x.2.1, u8v x.2.2], q5)) (⟨hlt, hm', hfin⟩) (hme) (by repeat (first | exact Slots.sub_nil _ | refine Slots.sub_cons rfl ?_)) (by first | assumption | exact Ent.refl _ | exact Ent.nil _ | (repeat (first | exact Ent.refl _ | exact Ent.nil _ | refine Ent.pick ?_)))
  have hie : i = V.length := by omega
  subst hie
  rw [List.take_length] at hcs
  obtain ⟨P4, hP4⟩ : ∃ B, B = P3 ++ V.flatMap vlanB := ⟨_, rfl⟩
  rw [← hP4] at hcs hcB
  refine hc_exit <| hx_then_exit <| hx_then_exit <| hx_block_out <| hx_then_normal <| hc_seq <| ?_
  refine hc_region <| hl_v (ov_move rfl) rfl <| hl_v (ov_fieldA rfl) rfl <| hl_v (ov_load rfl (CellIs.blk rfl)) rfl <| hl_v (by first | exact ov_len rfl | exact ov_lenS rfl) rfl <| ?_
  refine hl_v (ov_conv rfl (by first | exact wrap_u8 (by omega) | rfl)) rfl <| ?_
  refine hl_new (on_buildSliceN rfl rfl rfl) rfl rfl rfl fun b94 =>  ?_
  refine hl_new (on_appendR (A := A) (news := [.int .u8 (S.length : Int)]) rfl rfl (SrcIs.blk (b := b94)) rfl (by simp [Value.oneCell']) (by decide) (by omega)) rfl rfl rfl (fun q3 => ?_)
  have hcs3 : cs ++ [.int .u8 (S.length : Int)] = (P4 ++ beB S.length 1).map u8v := by rw [hcs, be1_cells _ (by omega), List.map_append]
  rw [hcs3]
  obtain ⟨P5, hP5⟩ : ∃ B, B = P4 ++ beB S.length 1 := ⟨_, rfl⟩
  rw [← hP5]
  rw [← List.append_assoc P4, ← hP5] at hcB
  obtain ⟨m3, hm3⟩ : ∃ k, k = m + 1 := ⟨_, rfl⟩
  rw [← hm3]
  refine hl_v (ov_assign rfl) rfl <| hl_nil <| hx_then_normal <| hc_seq <| hc_seq <| hc_region <| ?_
  refine hl_v (ov_assign rfl) rfl <| hl_nil <| hx_then_normal <| hc_block <| ?_
  refine hc_loopK2 (σ := Nat × Nat × List Value × Option Addr × Nat) [1] rfl 9 (fun s => .int .i64 (s.1 : Int)) 4 (fun s => .slice s.2.2.2.1 s.2.1 s.2.2.2.2) (fun s => [row s.2.2.2.1 5 1 s.2.1 s.2.2.2.2 s.2.2.1, blk b1 26 (cfgV c (.slice Ap P.length capp) (.slice Av V.length capv) (.slice As S.length caps))]) (fun s => s.1 ≤ S.length ∧ s.2.1 = m3 + 9 * s.1 ∧ s.2.2.1 = (P5 ++ (S.take s.1).flatMap statB).map u8v) (fun s => S.length - s.1) ((0, m3, P5.map u8v, q3.1, q3.2)) (⟨Nat.zero_le _, rfl, by simp⟩) rfl rfl (by first | assumption | exact Ent.refl _ | exact Ent.nil _ | (repeat (first | exact Ent.refl _ | exact Ent.nil _ | refine Ent.pick ?_))) ?_
  rintro ⟨i, m, cs, A, d⟩ hj_ K4 hK4
  dsimp only at hj_ ⊢
  obtain ⟨hi, hm, hcs⟩ := hj_
  refine hc_seq <| hc_seq <| hc_region <| hl_v (ov_move rfl) rfl <| hl_v (ov_fieldA rfl) rfl <| hl_v (ov_load rfl (CellIs.blk rfl)) rfl <| ?_
  refine hl_v (by first | exact ov_len rfl | exact ov_lenS rfl) rfl <| ?_
  refine hl_v (ov_lss rfl rfl) rfl <| hl_nil <| hx_then_normal <| ?_
  refine hc_cond rfl (fun h3 => ?_) (fun h3 => ?_)
  · have hlt : i < S.length := by omega
    obtain ⟨hA, _⟩ := OldS.cells_flat (D := D) (w0 := w) (f := statV) (sz := 3) (fun _ => rfl) (by decide) HSs hlt []
    have hc := fun l' => (OldS.cells_flat (D := D) (w0 := w) (f := statV) (sz := 3) (fun _ => rfl) (by decide) HSs hlt l').2
    have hx := os' i hlt
    have hsn := snocB statB P5 S i hlt
    generalize S[i] = x at *
    have hfin : ((cs ++ (beB x.1.toNat 6).map u8v) ++ (beB x.2.1.toNat 2).map u8v) ++ [.int .u8 x.2.2] = (P5 ++ (S.take (i + 1)).flatMap statB).map u8v := by
      rw [be1_int (by omega) (by omega), hcs, ← hsn, statB]
      simp only [List.map_append, List.append_assoc]
    have hm' : m + 6 + 2 + 1 = m3 + 9 * (i + 1) := by omega
    have hme : S.length - (i + 1) < S.length - i := by omega
    refine hc_skip <| hx_then_normal <| hc_seq <| hc_block <| hc_seq <| hc_region <| ?_
    refine hl_v (ov_fieldA rfl) rfl <| hl_v (ov_load rfl (CellIs.blk rfl)) rfl <| hl_v (ov_move rfl) rfl <| hl_v (ov_idxS rfl (by assumption) rfl _ rfl (by omega)) rfl <| ?_
    refine hl_v (ov_loadG (cs := statV x) rfl rfl (hc _)) rfl ?_
    refine hl_new (on_alloc) rfl rfl rfl fun b10 =>  ?_
    refine hl_u0 (on_storeW (vs := statV x) rfl rfl (by simp) (by simp) (by simp [Value.oneCell'])) rfl rfl ?_
    refine hl_nil <| hx_then_normal <| ?_
    refine hc_any [blk b10 72 (statV x)] mixed 16 rfl ?_
    refine ha_v 0 rfl (ov_move rfl) rfl <| ?_
    refine ha_v 1 rfl (ov_fieldA rfl) rfl <| ?_
    refine ha_v 2 rfl (ov_load rfl (CellIs.blk rfl)) rfl <| ?_
    refine ha_v 5 rfl (ov_fieldA rfl) rfl <| ?_
    refine ha_v 6 rfl (ov_load rfl (CellIs.blk rfl)) rfl <| ?_
    refine ha_v 10 rfl (ov_fieldA rfl) rfl <| ?_
    refine ha_v 11 rfl (ov_load rfl (CellIs.blk rfl)) rfl <| ?_
    refine ha_v 12 rfl (ov_conv rfl (by first | exact wrap_u8 (by omega) | rfl)) rfl <| ?_
    refine ha_v 7 rfl (ov_conv (m := ((x.2.1.toNat : Nat) : Int)) rfl (convN (by omega) (by omega))) rfl ?_
    refine ha_two 3 13 (by kernel_rfl) ?_ ?_
    · skip
      refine ho_kx (σ := { q : Option Addr × Nat // 0 < 6 → isA q.1 }) rfl Try.call44 rfl (fun w1 H1 => Own.callx0 H1 fun D' hold hin H2 => big_spec D' w1 x.1.toNat 6 (by omega) (by decide)) ?_
      intro q3
      try rw [List.nil_append]
      refine ha_two 4 13 (by kernel_rfl) ?_ ?_
      · skip
        refine ho_n rfl (on_appendR (A := A) (news := (beB x.1.toNat 6).map u8v) rfl rfl (SrcIs.rowR (A := q3.1.1) (fun _ => q3.2 (by decide))) (by rw [List.length_map, beB_len]) (u8_one _) (by decide) (by omega)) rfl (fun q4 => ?_)
        refine ha_two 8 13 (by kernel_rfl) ?_ ?_
        · skip
          refine ho_kx (σ := { q : Option Addr × Nat // 0 < 2 → isA q.1 }) rfl Try.call44 rfl (fun w1 H1 => Own.callx0 H1 fun D' hold hin H2 => big_spec D' w1 x.2.1.toNat 2 (by omega) (by decide)) ?_
          intro q5
          try rw [List.nil_append]
          refine ha_two 9 13 (by kernel_rfl) ?_ ?_
          · skip
            refine ho_n rfl (on_appendR (A := q4.1) (news := (beB x.2.1.toNat 2).map u8v) rfl rfl (SrcIs.rowR (A := q5.1.1) (fun _ => q5.2 (by decide))) (by rw [List.length_map, beB_len]) (u8_one _) (by decide) (by omega)) rfl (fun q6 => ?_)
            refine ha_one 13 (by kernel_rfl) <| ?_
            refine ho_n rfl (on_buildSliceN rfl rfl rfl) rfl (fun b121 => ?_)
            refine ha_one 14 (by kernel_rfl) <| ?_
            refine ho_n rfl (on_appendR (A := q6.1) (news := [.int .u8 x.2.2]) rfl rfl (SrcIs.blk (b := b121)) rfl (by simp [Value.oneCell']) (by decide) (by omega)) rfl (fun q7 => ?_)
            refine ha_v 15 rfl (ov_assign rfl) rfl <| ?_
            refine ha_done (by kernel_rfl) <| hx_block_normal <| hx_then_normal <| hc_region <| hl_v (ov_move rfl) rfl <| hl_v (ov_add rfl rfl (by first | exact wrap_i64 (by omega) | rfl)) rfl <| ?_
            refine hl_v (ov_assign rfl) rfl <| hl_nil <| ?_
            refine hx_next hK4 ((i + 1, m + 6 + 2 + 1, ((cs ++ (beB x.1.toNat 6).map u8v) ++ (beB x.2.1.toNat 2).map u8v) ++ [.int .u8 x.2.2], q7)) (⟨hlt, hm', hfin⟩) (hme) (by repeat (first | exact Slots.sub_nil _ | refine Slots.sub_cons rfl ?_)) (by first | assumption | exact Ent.refl _ | exact Ent.nil _ | (repeat (first | exact Ent.refl _ | exact Ent.nil _ | refine Ent.pick ?_)))
          skip
          refine ho_n rfl (on_buildSliceN rfl rfl rfl) rfl (fun b121 => ?_)
          refine ha_one 9 (by kernel_rfl) <| ?_
          refine ho_n rfl (on_appendR (A := q4.1) (news := (beB x.2.1.toNat 2).map u8v) rfl rfl (SrcIs.rowR (A := q5.1.1) (fun _ => q5.2 (by decide))) (by rw [List.length_map, beB_len]) (u8_one _) (by decide) (by omega)) rfl (fun q6 => ?_)
          refine ha_one 14 (by kernel_rfl) <| ?_
          refine ho_n rfl (on_appendR (A := q6.1) (news := [.int .u8 x.2.2]) rfl rfl (SrcIs.blk (b := b121)) rfl (by simp [Value.oneCell']) (by decide) (by omega)) rfl (fun q7 => ?_)
          refine ha_v 15 rfl (ov_assign rfl) rfl <| ?_
          refine ha_done (by kernel_rfl) <| hx_block_normal <| hx_then_normal <| hc_region <| hl_v (ov_move rfl) rfl <| hl_v (ov_add rfl rfl (by first | exact wrap_i64 (by omega) | rfl)) rfl <| ?_
          refine hl_v (ov_assign rfl) rfl <| hl_nil <| ?_
          refine hx_next hK4 ((i + 1, m + 6 + 2 + 1, ((cs ++ (beB x.1.toNat 6).map u8v) ++ (beB x.2.1.toNat 2).map u8v) ++ [.int .u8 x.2.2], q7)) (⟨hlt, hm', hfin⟩) (hme) (by repeat (first | exact Slots.sub_nil _ | refine Slots.sub_cons rfl ?_)) (by first | assumption | exact Ent.refl _ | exact Ent.nil _ | (repeat (first | exact Ent.refl _ | exact Ent.nil _ | refine Ent.pick ?_)))
        skip
        refine ho_n rfl (on_buildSliceN rfl rfl rfl) rfl (fun b121 => ?_)
        refine ha_one 8 (by kernel_rfl) <| ?_
        refine ho_kx (σ := { q : Option Addr × Nat // 0 < 2 → isA q.1 }) rfl Try.call44 rfl (fun w1 H1 => Own.callx0 H1 fun D' hold hin H2 => big_spec D' w1 x.2.1.toNat 2 (by omega) (by decide)) ?_
        intro q5
        try rw [List.nil_append]
        refine ha_one 9 (by kernel_rfl) <| ?_
        refine ho_n rfl (on_appendR (A := q4.1) (news := (beB x.2.1.toNat 2).map u8v) rfl rfl (SrcIs.rowR (A := q5.1.1) (fun _ => q5.2 (by decide))) (by rw [List.length_map, beB_len]) (u8_one _) (by decide) (by omega)) rfl (fun q6 => ?_)
        refine ha_one 14 (by kernel_rfl) <| ?_
        refine ho_n rfl (on_appendR (A := q6.1) (news := [.int .u8 x.2.2]) rfl rfl (SrcIs.blk (b := b121)) rfl (by simp [Value.oneCell']) (by decide) (by omega)) rfl (fun q7 => ?_)
        refine ha_v 15 rfl (ov_assign rfl) rfl <| ?_
        refine ha_done (by kernel_rfl) <| hx_block_normal <| hx_then_normal <| hc_region <| hl_v (ov_move rfl) rfl <| hl_v (ov_add rfl rfl (by first | exact wrap_i64 (by omega) | rfl)) rfl <| ?_
        refine hl_v (ov_assign rfl) rfl <| hl_nil <| ?_
        refine hx_next hK4 ((i + 1, m + 6 + 2 + 1, ((cs ++ (beB x.1.toNat 6).map u8v) ++ (beB x.2.1.toNat 2).map u8v) ++ [.int .u8 x.2.2], q7)) (⟨hlt, hm', hfin⟩) (hme) (by repeat (first | exact Slots.sub_nil _ | refine Slots.sub_cons rfl ?_)) (by first | assumption | exact Ent.refl _ | exact Ent.nil _ | (repeat (first | exact Ent.refl _ | exact Ent.nil _ | refine Ent.pick ?_)))
      skip
      refine ho_n rfl (on_buildSliceN rfl rfl rfl) rfl (fun b121 => ?_)
      refine ha_one 4 (by kernel_rfl) <| ?_
      refine ho_n rfl (on_appendR (A := A) (news := (beB x.1.toNat 6).map u8v) rfl rfl (SrcIs.rowR (A := q3.1.1) (fun _ => q3.2 (by decide))) (by rw [List.length_map, beB_len]) (u8_one _) (by decide) (by omega)) rfl (fun q4 => ?_)
      refine ha_one 8 (by kernel_rfl) <| ?_
      refine ho_kx (σ := { q : Option Addr × Nat // 0 < 2 → isA q.1 }) rfl Try.call44 rfl (fun w1 H1 => Own.callx0 H1 fun D' hold hin H2 => big_spec D' w1 x.2.1.toNat 2 (by omega) (by decide)) ?_
      intro q5
      try rw [List.nil_append]
      refine ha_one 9 (by kernel_rfl) <| ?_
      refine ho_n rfl (on_appendR (A := q4.1) (news := (beB x.2.1.toNat 2).map u8v) rfl rfl (SrcIs.rowR (A := q5.1.1) (fun _ => q5.2 (by decide))) (by rw [List.length_map, beB_len]) (u8_one _) (by decide) (by omega)) rfl (fun q6 => ?_)
      refine ha_one 14 (by kernel_rfl) <| ?_
      refine ho_n rfl (on_appendR (A := q6.1) (news := [.int .u8 x.2.2]) rfl rfl (SrcIs.blk (b := b121)) rfl (by simp [Value.oneCell']) (by decide) (by omega)) rfl (fun q7 => ?_)
      refine ha_v 15 rfl (ov_assign rfl) rfl <| ?_
      refine ha_done (by kernel_rfl) <| hx_block_normal <| hx_then_normal <| hc_region <| hl_v (ov_move rfl) rfl <| hl_v (ov_add rfl rfl (by first | exact wrap_i64 (by omega) | rfl)) rfl <| ?_
      refine hl_v (ov_assign rfl) rfl <| hl_nil <| ?_
      refine hx_next hK4 ((i + 1, m + 6 + 2 + 1, ((cs ++ (beB x.1.toNat 6).map u8v) ++ (beB x.2.1.toNat 2).map u8v) ++ [.int .u8 x.2.2], q7)) (⟨hlt, hm', hfin⟩) (hme) (by repeat (first | exact Slots.sub_nil _ | refine Slots.sub_cons rfl ?_)) (by first | assumption | exact Ent.refl _ | exact Ent.nil _ | (repeat (first | exact Ent.refl _ | exact Ent.nil _ | refine Ent.pick ?_)))
    skip
    refine ho_n rfl (on_buildSliceN rfl rfl rfl) rfl (fun b121 => ?_)
    refine ha_one 3 (by kernel_rfl) <| ?_
    refine ho_kx (σ := { q : Option Addr × Nat // 0 < 6 → isA q.1 }) rfl Try.call44 rfl (fun w1 H1 => Own.callx0 H1 fun D' hold hin H2 => big_spec D' w1 x.1.toNat 6 (by omega) (by decide)) ?_
    intro q3
    try rw [List.nil_append]
    refine ha_one 4 (by kernel_rfl) <| ?_
    refine ho_n rfl (on_appendR (A := A) (news := (beB x.1.toNat 6).map u8v) rfl rfl (SrcIs.rowR (A := q3.1.1) (fun _ => q3.2 (by decide))) (by rw [List.length_map, beB_len]) (u8_one _) (by decide) (by omega)) rfl (fun q4 => ?_)
    refine ha_one 8 (by kernel_rfl) <| ?_
    refine ho_kx (σ := { q : Option Addr × Nat // 0 < 2 → isA q.1 }) rfl Try.call44 rfl (fun w1 H1 => Own.callx0 H1 fun D' hold hin H2 => big_spec D' w1 x.2.1.toNat 2 (by omega) (by decide)) ?_
    intro q5
    try rw [List.nil_append]
    refine ha_one 9 (by kernel_rfl) <| ?_
    refine ho_n rfl (on_appendR (A := q4.1) (news := (beB x.2.1.toNat 2).map u8v) rfl rfl (SrcIs.rowR (A := q5.1.1) (fun _ => q5.2 (by decide))) (by rw [List.length_map, beB_len]) (u8_one _) (by decide) (by omega)) rfl (fun q6 => ?_)
    refine ha_one 14 (by kernel_rfl) <| ?_
    refine ho_n rfl (on_appendR (A := q6.1) (news := [.int .u8 x.2.2]) rfl rfl (SrcIs.blk (b := b121)) rfl (by simp [Value.oneCell']) (by decide) (by omega)) rfl (fun q7 => ?_)
    refine ha_v 15 rfl (ov_assign rfl) rfl <| ?_
    refine ha_done (by kernel_rfl) <| hx_block_normal <| hx_then_normal <| hc_region <| hl_v (ov_move rfl) rfl <| hl_v (ov_add rfl rfl (by first | exact wrap_i64 (by omega) | rfl)) rfl <| ?_
    refine hl_v (ov_assign rfl) rfl <| hl_nil <| ?_
    refine hx_next hK4 ((i + 1, m + 6 + 2 + 1, ((cs ++ (beB x.1.toNat 6).map u8v) ++ (beB x.2.1.toNat 2).map u8v) ++ [.int .u8 x.2.2], q7)) (⟨hlt, hm', hfin⟩) (hme) (by repeat (first | exact Slots.sub_nil _ | refine Slots.sub_cons rfl ?_)) (by first | assumption | exact Ent.refl _ | exact Ent.nil _ | (repeat (first | exact Ent.refl _ | exact Ent.nil _ | refine Ent.pick ?_)))
  have hie : i = S.length := by omega
  subst hie
  rw [List.take_length] at hcs
  obtain ⟨P6, hP6⟩ : ∃ B, B = P5 ++ S.flatMap statB := ⟨_, rfl⟩
  rw [← hP6] at hcs hcB
  have hm6 : m = (cfgB c).length := by
    rw [hcB, hP6, hP5, hP4, hP3, hP2, hP1]
    simp only [List.length_append, beB_len, hhl, flat_len (f := portB) (sz := 7) portB_len, flat_len (f := vlanB) (sz := 4) vlanB_len, flat_len (f := statB) (sz := 9) statB_len]
    omega
  rw [← hcB] at hcs
  subst hcs; subst hm6
  refine hc_exit <| hx_then_exit <| hx_then_exit <| hx_block_out <| hx_then_normal <| hc_seq <| ?_
  refine hc_region <| hl_v (ov_move rfl) rfl <| hl_v (ov_assign rfl) rfl <| hl_v (ov_assign rfl) rfl <| hl_nil <| hx_then_normal <| ?_
  refine hc_ret <| ?_
  exact results_2 (.inr rfl) rfl rfl rfl fun w' H' => ⟨⟨((A, d), cfgB c, 0), .inr ⟨hyes, rfl, rfl⟩⟩, rfl, H'.ent (by first | assumption | exact Ent.refl _ | exact Ent.nil _ | exact Ent.row_any (Ent.refl _) | (repeat (first | exact Ent.refl _ | exact Ent.nil _ | refine Ent.pick ?_)))⟩
end Go.Proofs.Ytpgpfcplchaleaa
