import Derived.Test.YtpgpfcplchaleaaCod2
set_option linter.unusedVariables false
set_option linter.unusedSimpArgs false
namespace Go.Proofs.Ytpgpfcplchaleaa
open Slk
def portB (p : PortC) : List UInt8 := beB (if p.1 then 1 else 0) 1 ++ beB p.2.1.toNat 4 ++ beB p.2.2.toNat 2
def vlanB (v : VlanC) : List UInt8 := beB v.1.toNat 2 ++ beB v.2.1.toNat 1 ++ beB v.2.2.toNat 1
def statB (s : StatC) : List UInt8 := beB s.1.toNat 6 ++ beB s.2.1.toNat 2 ++ beB s.2.2.toNat 1
theorem portB_len (p : PortC) : (portB p).length = 7 := by simp [portB, beB_len]
theorem vlanB_len (p : VlanC) : (vlanB p).length = 4 := by simp [vlanB, beB_len]
theorem statB_len (p : StatC) : (statB p).length = 9 := by simp [statB, beB_len]
def headB (c : ConfC) : List UInt8 := beB c.1.toNat 2 ++ beB c.2.1.toNat 1 ++ beB c.2.2.1.toNat 1
def cfgB (c : ConfC) : List UInt8 := headB c ++ (beB c.2.2.2.1.length 1 ++ c.2.2.2.1.flatMap portB) ++ (beB c.2.2.2.2.1.length 1 ++ c.2.2.2.2.1.flatMap vlanB) ++ (beB c.2.2.2.2.2.length 1 ++ c.2.2.2.2.2.flatMap statB)
theorem snocB {α : Type} (f : α → List UInt8) (xs : List UInt8) (l : List α) (k : Nat) (h : k < l.length) : (xs ++ (l.take k).flatMap f) ++ f l[k] = xs ++ (l.take (k + 1)).flatMap f := by
  rw [List.take_succ_eq_append_getElem h, List.flatMap_append, List.flatMap_singleton, List.append_assoc]
/-- What the writer asks of a configuration. -/
structure Wok (c : ConfC) : Prop where
  a : 0 ≤ c.1 ∧ c.1 ≤ 61440
  b : 0 ≤ c.2.1 ∧ c.2.1 ≤ 40
  d : 0 ≤ c.2.2.1 ∧ c.2.2.1 ≤ 30
  lp : c.2.2.2.1.length ≤ 8
  lv : c.2.2.2.2.1.length ≤ 16
  ls : c.2.2.2.2.2.length ≤ 16
  p : ∀ i (h : i < c.2.2.2.1.length), 0 ≤ c.2.2.2.1[i].2.2 ∧ c.2.2.2.1[i].2.2 ≤ 4094
  v : ∀ i (h : i < c.2.2.2.2.1.length), 0 ≤ c.2.2.2.2.1[i].1 ∧ c.2.2.2.2.1[i].1 ≤ 4094
  s : ∀ i (h : i < c.2.2.2.2.2.length), (0 ≤ c.2.2.2.2.2[i].2.1 ∧ c.2.2.2.2.2[i].2.1 ≤ 4094) ∧ 0 ≤ c.2.2.2.2.2[i].2.2 ∧ c.2.2.2.2.2[i].2.2 < 8 ∧ c.2.2.2.2.2[i].1.toNat < 281474976710656
theorem goodP.wok {c : ConfC} (h : goodP c) : Wok c := by
  obtain ⟨⟨t1, t2, _, t4, t5, t6, t7, _⟩, ⟨v1, v2, v3, v4⟩, ⟨p1, p2, p3⟩, s1, s2, s3⟩ := h
  refine ⟨⟨t1, t2⟩, ⟨by omega, t5⟩, ⟨by omega, t7⟩, p2, v2, s1, fun i hi => ?_, fun i hi => ?_, fun i hi => ?_⟩
  · obtain ⟨⟨j, hj, e⟩, _⟩ := p3 i hi
    have := v3 j hj
    rw [← e]; exact ⟨by have := this.1; omega, this.2.1⟩
  · have := v3 i hi
    exact ⟨by have := this.1; omega, this.2.1⟩
  · obtain ⟨m1, m2, m3, q1, q2, j, hj, e, _⟩ := s3 i hi
    have := v3 j hj
    refine ⟨by rw [← e]; exact ⟨by have := this.1; omega, this.2.1⟩, q1, by omega, ?_⟩
    rw [Nat.div_eq_zero_iff_lt (Nat.pow_pos (by decide))] at m2
    exact m2
theorem wconfig_spec (D : Nat → Prop) (w : World) (g : Nat) (c : ConfC) (vp vv vs : Value) (hok : Wok c) (HC0 : ConfOld D w c vp vv vs) (H : Own D w w [wrt g []]) :
    Calls Try.prog 39 #[.pointer (some ⟨g, 0, none⟩), .agg (cfgV c vp vv vs).toArray] w fun e w' => e = .returned (.tuple #[]) ∧ Own D w w' [wrt g (cfgB c)] := by
  obtain ⟨oa, ob', od, olp, olv, ols, op', ov', os'⟩ := hok
  obtain ⟨Ap, capp, hvp, _, _, HSp, _⟩ := HC0.p.openF
  obtain ⟨Av, capv, hvv, _, _, HSv, _⟩ := HC0.v.openF
  obtain ⟨As, caps, hvs, _, _, HSs, _⟩ := HC0.s.openF
  have HSp : OldS D w Ap (c.2.2.2.1.flatMap portV) := HSp
  have HSv : OldS D w Av (c.2.2.2.2.1.flatMap vlanV) := HSv
  have HSs : OldS D w As (c.2.2.2.2.2.flatMap statV) := HSs
  subst hvp; subst hvv; subst hvs
  have hcB : cfgB c = headB c ++ (beB c.2.2.2.1.length 1 ++ c.2.2.2.1.flatMap portB) ++ (beB c.2.2.2.2.1.length 1 ++ c.2.2.2.2.1.flatMap vlanB) ++ (beB c.2.2.2.2.2.length 1 ++ c.2.2.2.2.2.flatMap statB) := rfl
  have hhd : headB c = beB c.1.toNat 2 ++ beB c.2.1.toNat 1 ++ beB c.2.2.1.toNat 1 := rfl
  rw [hcB]
  generalize c.2.2.2.1 = lp at *
  generalize c.2.2.2.2.1 = lv at *
  generalize c.2.2.2.2.2 = ls at *
  refine hc_enter (vs := [.pointer (some ⟨g, 0, none⟩), .agg #[.int .i64 c.1, .int .i64 c.2.1, .int .i64 c.2.2.1, .slice Ap lp.length capp, .slice Av lv.length capv, .slice As ls.length caps]]) Try.func39 rfl _ Try.ntmps39 rfl H ?_
  simp only [argSlots, Nat.zero_add]
  refine hc_seq <|
    hc_region <|
    hl_new (on_boxN rfl rfl) rfl rfl rfl fun b3 =>  ?_
  refine hl_nil <|
    hx_then_normal <|
    hc_seq <| ?_
  refine hc_tail 6 mixed (by kernel_rfl) ?_
  refine ht_val (ov_move rfl) rfl rfl rfl <|
    ht_val (ov_nil rfl) rfl rfl rfl <|
    ht_val (ov_fieldA rfl) rfl rfl rfl <|
    ht_val (ov_fieldA rfl) rfl rfl rfl <|
    ht_val (ov_load rfl (CellIs.blk rfl)) rfl rfl rfl <| ?_
  refine ht_val (ov_conv (m := ((c.1.toNat : Nat) : Int)) rfl (convN (by omega) (by omega))) rfl rfl rfl ?_
  refine ht_nil <| ?_
  refine hl_c Try.call70 rfl rfl (fun w1 H1 => Own.callp (wrt g ([])) H1 fun D' hold hin H2 => put_spec D' w1 g (c.1.toNat) 2 ([]) (by omega) (by decide) (by simp) H2) ?_
  refine hl_nil <|
    hx_then_normal <|
    hc_seq <| ?_
  refine hc_tail 6 mixed (by kernel_rfl) ?_
  refine ht_val (ov_move rfl) rfl rfl rfl <|
    ht_val (ov_nil rfl) rfl rfl rfl <|
    ht_val (ov_fieldA rfl) rfl rfl rfl <|
    ht_val (ov_fieldA rfl) rfl rfl rfl <|
    ht_val (ov_load rfl (CellIs.blk rfl)) rfl rfl rfl <| ?_
  refine ht_val (ov_conv (m := ((c.2.1.toNat : Nat) : Int)) rfl (convN (by omega) (by omega))) rfl rfl rfl ?_
  refine ht_nil <| ?_
  refine hl_c Try.call70 rfl rfl (fun w1 H1 => Own.callp (wrt g (([] ++ beB (c.1.toNat) 2))) H1 fun D' hold hin H2 => put_spec D' w1 g (c.2.1.toNat) 1 (([] ++ beB (c.1.toNat) 2)) (by omega) (by decide) (by simp only [List.length_append, beB_len, List.length_nil]; omega) H2) ?_
  refine hl_nil <|
    hx_then_normal <|
    hc_seq <| ?_
  refine hc_tail 6 mixed (by kernel_rfl) ?_
  refine ht_val (ov_move rfl) rfl rfl rfl <|
    ht_val (ov_nil rfl) rfl rfl rfl <|
    ht_val (ov_fieldA rfl) rfl rfl rfl <|
    ht_val (ov_fieldA rfl) rfl rfl rfl <|
    ht_val (ov_load rfl (CellIs.blk rfl)) rfl rfl rfl <| ?_
  refine ht_val (ov_conv (m := ((c.2.2.1.toNat : Nat) : Int)) rfl (convN (by omega) (by omega))) rfl rfl rfl ?_
  refine ht_nil <| ?_
  refine hl_c Try.call70 rfl rfl (fun w1 H1 => Own.callp (wrt g ((([] ++ beB (c.1.toNat) 2) ++ beB (c.2.1.toNat) 1))) H1 fun D' hold hin H2 => put_spec D' w1 g (c.2.2.1.toNat) 1 ((([] ++ beB (c.1.toNat) 2) ++ beB (c.2.1.toNat) 1)) (by omega) (by decide) (by simp only [List.length_append, beB_len, List.length_nil]; omega) H2) ?_
  refine hl_nil <|
    hx_then_normal <|
    hc_seq <| ?_
  rw [List.nil_append, ← hhd]
  have hhl : (headB c).length = 4 := by rw [hhd]; simp [beB_len]
  refine hc_tail 7 mixed (by kernel_rfl) ?_
  refine ht_val (ov_move rfl) rfl rfl rfl <|
    ht_val (ov_nil rfl) rfl rfl rfl <|
    ht_val (ov_fieldA rfl) rfl rfl rfl <|
    ht_val (ov_fieldA rfl) rfl rfl rfl <|
    ht_val (ov_load rfl (CellIs.blk rfl)) rfl rfl rfl <|
    ht_val (by first | exact ov_len rfl | exact ov_lenS rfl) rfl rfl rfl <| ?_
  refine ht_val (ov_conv rfl (by first | exact wrap_u64 (by omega) | rfl)) rfl rfl rfl <| ?_
  refine ht_nil <| ?_
  refine hl_c Try.call70 rfl rfl (fun w1 H1 => Own.callp (wrt g (headB c)) H1 fun D' hold hin H2 => put_spec D' w1 g (lp.length) 1 (headB c) (by omega) (by decide) (by omega) H2) ?_
  refine hl_nil <|
    hx_then_normal <|
    hc_seq <|
    hc_seq <|
    hc_region <|
    hl_val (ov_fieldA rfl) rfl rfl rfl <| ?_
  refine hl_val (ov_load rfl (CellIs.blk rfl)) rfl rfl rfl <|
    hl_val (by first | exact ov_len rfl | exact ov_lenS rfl) rfl rfl rfl <| ?_
  refine hl_val (ov_move rfl) rfl rfl rfl <|
    hl_nil <|
    hx_then_normal <|
    hc_block <| ?_
  obtain ⟨P1, hP1⟩ : ∃ B, B = headB c ++ beB lp.length 1 := ⟨_, rfl⟩
  rw [← hP1]
  have hP1l : P1.length = 5 := by rw [hP1, List.length_append, beB_len, hhl]
  refine hc_loopK1 (σ := Nat) [0, 3, 41, 42] rfl 43 (fun i => .int .i64 (i : Int)) (fun i => [wrt g (P1 ++ (lp.take i).flatMap portB), blk b3 26 [.int .i64 c.1, .int .i64 c.2.1, .int .i64 c.2.2.1, .slice Ap lp.length capp, .slice Av lv.length capv, .slice As ls.length caps]]) (fun i => i ≤ lp.length) (fun i => lp.length - i) (0) (Nat.zero_le _) rfl (by rw [List.take_zero, List.flatMap_nil, List.append_nil]; exact Ent.refl _) ?_
  rintro i hj K1 hK1
  refine hc_seq <|
    hc_region <|
    hl_val (ov_lss rfl rfl) rfl rfl rfl <|
    hl_nil <|
    hx_then_normal <|
    hc_seq <| ?_
  refine hc_cond rfl (fun h => ?_) (fun h => ?_)
  · have hlt : i < lp.length := by omega
    obtain ⟨hA, _⟩ := OldS.cells_flat (D := D) (w0 := w) (f := portV) (sz := 3) (fun _ => rfl) (by decide) HSp hlt []
    have hc := fun l' => (OldS.cells_flat (D := D) (w0 := w) (f := portV) (sz := 3) (fun _ => rfl) (by decide) HSp hlt l').2
    have hx := op' i hlt
    have hsn := snocB portB P1 lp i hlt
    obtain ⟨B0, hB0⟩ : ∃ B, B = P1 ++ (lp.take i).flatMap portB := ⟨_, rfl⟩
    have hB0l : B0.length ≤ 600 := by rw [hB0, List.length_append, flat_len (f := portB) (sz := 7) portB_len, List.length_take]; omega
    rw [← hB0] at hsn ⊢
    generalize lp[i] = x at *
    have hsn' : ((B0 ++ beB (if x.1 then 1 else 0) 1) ++ beB x.2.1.toNat 4) ++ beB x.2.2.toNat 2 = P1 ++ (lp.take (i + 1)).flatMap portB := by rw [← hsn]; simp only [portB, List.append_assoc]
    refine hc_skip <|
      hx_then_normal <|
      hc_seq <|
      hc_block <|
      hc_seq <|
      hc_region <| ?_
    refine hl_val (ov_idxS rfl (by assumption) rfl _ rfl (by omega)) rfl rfl rfl <| ?_
    refine hl_val (ov_loadG (cs := portV x) rfl rfl (hc _)) rfl rfl rfl ?_
    refine hl_new (on_alloc) rfl rfl rfl fun b5 =>  ?_
    refine hl_u0 (on_storeW (vs := portV x) rfl rfl (by simp) (by simp) (by simp [Value.oneCell', u8v])) rfl rfl ?_
    refine hl_nil <|
      hx_then_normal <|
      hc_seq <|
      hc_region <|
      hl_val (ov_assign rfl) rfl rfl rfl <|
      hl_nil <| ?_
    refine hx_then_normal <|
      hc_seq <|
      hc_seq <|
      hc_region <|
      hl_val (ov_fieldA rfl) rfl rfl rfl <|
      hl_val (ov_load rfl (CellIs.blk rfl)) rfl rfl rfl <| ?_
    refine hl_nil <|
      hx_then_normal <| ?_
    have hco := x.2.1.toNat_lt
    refine hc_cond_bool rfl (fun hb => ?_) (fun hb => ?_)
    · rw [if_pos hb] at hsn'
      refine hc_region <|
        hl_val (ov_assign rfl) rfl rfl rfl <|
        hl_nil <|
        hx_then_normal <|
        hc_seq <|
        hc_region <| ?_
      refine hl_val (ov_move rfl) rfl rfl rfl <|
        hl_val (ov_nil rfl) rfl rfl rfl <|
        hl_val (ov_fieldA rfl) rfl rfl rfl <|
        hl_val (ov_move rfl) rfl rfl rfl <| ?_
      refine hl_c Try.call70 rfl rfl (fun w1 H1 => Own.callp (wrt g B0) H1 fun D' hold hin H2 => put_spec D' w1 g 1 1 B0 (by decide) (by decide) (by omega) H2) ?_
      refine hl_nil <|
        hx_then_normal <|
        hc_seq <| ?_
      refine hc_tail 6 mixed (by kernel_rfl) ?_
      refine ht_val (ov_move rfl) rfl rfl rfl <|
        ht_val (ov_nil rfl) rfl rfl rfl <|
        ht_val (ov_fieldA rfl) rfl rfl rfl <|
        ht_val (ov_fieldA rfl) rfl rfl rfl <|
        ht_val (ov_load rfl (CellIs.blk rfl)) rfl rfl rfl <|
        ht_val (ov_conv rfl (by first | exact wrap_u64 (by omega) | rfl)) rfl rfl rfl <| ?_
      refine ht_nil <| ?_
      refine hl_c Try.call70 rfl rfl (fun w1 H1 => Own.callp (wrt g ((B0 ++ beB 1 1))) H1 fun D' hold hin H2 => put_spec D' w1 g (x.2.1.toNat) 4 ((B0 ++ beB 1 1)) (by omega) (by decide) (by simp only [List.length_append, beB_len, List.length_nil]; omega) H2) ?_
      refine hl_nil <|
        hx_then_normal <| ?_
      refine hc_tail 6 mixed (by kernel_rfl) ?_
      refine ht_val (ov_move rfl) rfl rfl rfl <|
        ht_val (ov_nil rfl) rfl rfl rfl <|
        ht_val (ov_fieldA rfl) rfl rfl rfl <|
        ht_val (ov_fieldA rfl) rfl rfl rfl <|
        ht_val (ov_load rfl (CellIs.blk rfl)) rfl rfl rfl <| ?_
      refine ht_val (ov_conv (m := ((x.2.2.toNat : Nat) : Int)) rfl (convN (by omega) (by omega))) rfl rfl rfl ?_
      refine ht_nil <| ?_
      refine hl_c Try.call70 rfl rfl (fun w1 H1 => Own.callp (wrt g (((B0 ++ beB 1 1) ++ beB (x.2.1.toNat) 4))) H1 fun D' hold hin H2 => put_spec D' w1 g (x.2.2.toNat) 2 (((B0 ++ beB 1 1) ++ beB (x.2.1.toNat) 4)) (by omega) (by decide) (by simp only [List.length_append, beB_len, List.length_nil]; omega) H2) ?_
      refine hl_nil <|
        hx_block_normal <|
        hx_then_normal <|
        hc_region <|
        hl_val (ov_add rfl rfl (by first | exact wrap_i64 (by omega) | rfl)) rfl rfl rfl <| ?_
      refine hl_val (ov_move rfl) rfl rfl rfl <|
        hl_nil <| ?_
      rw [hsn']
      refine hx_next hK1 (i + 1) (hlt) (by omega) (by repeat (first | exact Slots.sub_nil _ | refine Slots.sub_cons rfl ?_)) (by first | assumption | exact Ent.refl _ | exact Ent.nil _ | (repeat (first | exact Ent.refl _ | exact Ent.nil _ | refine Ent.pick ?_)))
    · rw [if_neg (by rw [hb]; decide)] at hsn'
      refine hc_skip <|
        hx_then_normal <|
        hc_seq <|
        hc_region <|
        hl_val (ov_move rfl) rfl rfl rfl <|
        hl_val (ov_nil rfl) rfl rfl rfl <| ?_
      refine hl_val (ov_fieldA rfl) rfl rfl rfl <|
        hl_val (ov_move rfl) rfl rfl rfl <| ?_
      refine hl_c Try.call70 rfl rfl (fun w1 H1 => Own.callp (wrt g B0) H1 fun D' hold hin H2 => put_spec D' w1 g 0 1 B0 (by decide) (by decide) (by omega) H2) ?_
      refine hl_nil <|
        hx_then_normal <|
        hc_seq <| ?_
      refine hc_tail 6 mixed (by kernel_rfl) ?_
      refine ht_val (ov_move rfl) rfl rfl rfl <|
        ht_val (ov_nil rfl) rfl rfl rfl <|
        ht_val (ov_fieldA rfl) rfl rfl rfl <|
        ht_val (ov_fieldA rfl) rfl rfl rfl <|
        ht_val (ov_load rfl (CellIs.blk rfl)) rfl rfl rfl <|
        ht_val (ov_conv rfl (by first | exact wrap_u64 (by omega) | rfl)) rfl rfl rfl <| ?_
      refine ht_nil <| ?_
      refine hl_c Try.call70 rfl rfl (fun w1 H1 => Own.callp (wrt g ((B0 ++ beB 0 1))) H1 fun D' hold hin H2 => put_spec D' w1 g (x.2.1.toNat) 4 ((B0 ++ beB 0 1)) (by omega) (by decide) (by simp only [List.length_append, beB_len, List.length_nil]; omega) H2) ?_
      refine hl_nil <|
        hx_then_normal <| ?_
      refine hc_tail 6 mixed (by kernel_rfl) ?_
      refine ht_val (ov_move rfl) rfl rfl rfl <|
        ht_val (ov_nil rfl) rfl rfl rfl <|
        ht_val (ov_fieldA rfl) rfl rfl rfl <|
        ht_val (ov_fieldA rfl) rfl rfl rfl <|
        ht_val (ov_load rfl (CellIs.blk rfl)) rfl rfl rfl <| ?_
      refine ht_val (ov_conv (m := ((x.2.2.toNat : Nat) : Int)) rfl (convN (by omega) (by omega))) rfl rfl rfl ?_
      refine ht_nil <| ?_
      refine hl_c Try.call70 rfl rfl (fun w1 H1 => Own.callp (wrt g (((B0 ++ beB 0 1) ++ beB (x.2.1.toNat) 4))) H1 fun D' hold hin H2 => put_spec D' w1 g (x.2.2.toNat) 2 (((B0 ++ beB 0 1) ++ beB (x.2.1.toNat) 4)) (by omega) (by decide) (by simp only [List.length_append, beB_len, List.length_nil]; omega) H2) ?_
      refine hl_nil <|
        hx_block_normal <|
        hx_then_normal <|
        hc_region <|
        hl_val (ov_add rfl rfl (by first | exact wrap_i64 (by omega) | rfl)) rfl rfl rfl <| ?_
      refine hl_val (ov_move rfl) rfl rfl rfl <|
        hl_nil <| ?_
      rw [hsn']
      refine hx_next hK1 (i + 1) (hlt) (by omega) (by repeat (first | exact Slots.sub_nil _ | refine Slots.sub_cons rfl ?_)) (by first | assumption | exact Ent.refl _ | exact Ent.nil _ | (repeat (first | exact Ent.refl _ | exact Ent.nil _ | refine Ent.pick ?_)))
  · have hie : i = lp.length := by omega
    subst hie
    rw [List.take_length]
    obtain ⟨Q1, hQ1⟩ : ∃ B, B = P1 ++ lp.flatMap portB := ⟨_, rfl⟩
    have hQ1l : Q1.length = P1.length + lp.length * 7 := by rw [hQ1, List.length_append, flat_len (f := portB) (sz := 7) portB_len]
    rw [← hQ1]
    refine hc_exit <|
      hx_then_exit <|
      hx_then_exit <|
      hx_block_out <|
      hx_then_normal <|
      hc_seq <| ?_
    refine hc_tail 7 mixed (by kernel_rfl) ?_
    refine ht_val (ov_move rfl) rfl rfl rfl <|
      ht_val (ov_nil rfl) rfl rfl rfl <|
      ht_val (ov_fieldA rfl) rfl rfl rfl <|
      ht_val (ov_fieldA rfl) rfl rfl rfl <|
      ht_val (ov_load rfl (CellIs.blk rfl)) rfl rfl rfl <|
      ht_val (by first | exact ov_len rfl | exact ov_lenS rfl) rfl rfl rfl <| ?_
    refine ht_val (ov_conv rfl (by first | exact wrap_u64 (by omega) | rfl)) rfl rfl rfl <| ?_
    refine ht_nil <| ?_
    refine hl_c Try.call70 rfl rfl (fun w1 H1 => Own.callp (wrt g (Q1)) H1 fun D' hold hin H2 => put_spec D' w1 g (lv.length) 1 (Q1) (by omega) (by decide) (by omega) H2) ?_
    refine hl_nil <|
      hx_then_normal <|
      hc_seq <|
      hc_seq <|
      hc_region <|
      hl_val (ov_fieldA rfl) rfl rfl rfl <| ?_
    refine hl_val (ov_load rfl (CellIs.blk rfl)) rfl rfl rfl <|
      hl_val (by first | exact ov_len rfl | exact ov_lenS rfl) rfl rfl rfl <| ?_
    refine hl_val (ov_move rfl) rfl rfl rfl <|
      hl_nil <|
      hx_then_normal <|
      hc_block <| ?_
    obtain ⟨P2, hP2⟩ : ∃ B, B = Q1 ++ beB lv.length 1 := ⟨_, rfl⟩
    rw [← hP2]
    have hP2l : P2.length ≤ 70 := by rw [hP2, List.length_append, beB_len]; omega
    refine hc_loopK1 (σ := Nat) [0, 3, 78, 79] rfl 80 (fun i => .int .i64 (i : Int)) (fun i => [wrt g (P2 ++ (lv.take i).flatMap vlanB), blk b3 26 [.int .i64 c.1, .int .i64 c.2.1, .int .i64 c.2.2.1, .slice Ap lp.length capp, .slice Av lv.length capv, .slice As ls.length caps]]) (fun i => i ≤ lv.length) (fun i => lv.length - i) (0) (Nat.zero_le _) rfl (by rw [List.take_zero, List.flatMap_nil, List.append_nil]; exact Ent.refl _) ?_
    rintro i hj K2 hK2
    refine hc_seq <|
      hc_region <|
      hl_val (ov_lss rfl rfl) rfl rfl rfl <|
      hl_nil <|
      hx_then_normal <|
      hc_seq <| ?_
    refine hc_cond rfl (fun h => ?_) (fun h => ?_)
    · have hlt : i < lv.length := by omega
      obtain ⟨hA, _⟩ := OldS.cells_flat (D := D) (w0 := w) (f := vlanV) (sz := 3) (fun _ => rfl) (by decide) HSv hlt []
      have hc := fun l' => (OldS.cells_flat (D := D) (w0 := w) (f := vlanV) (sz := 3) (fun _ => rfl) (by decide) HSv hlt l').2
      have hx := ov' i hlt
      have hsn := snocB vlanB P2 lv i hlt
      obtain ⟨B0, hB0⟩ : ∃ B, B = P2 ++ (lv.take i).flatMap vlanB := ⟨_, rfl⟩
      have hB0l : B0.length ≤ 600 := by rw [hB0, List.length_append, flat_len (f := vlanB) (sz := 4) vlanB_len, List.length_take]; omega
      rw [← hB0] at hsn ⊢
      generalize lv[i] = x at *
      have hsn' : ((B0 ++ beB x.1.toNat 2) ++ beB x.2.1.toNat 1) ++ beB x.2.2.toNat 1 = P2 ++ (lv.take (i + 1)).flatMap vlanB := by rw [← hsn]; simp only [vlanB, List.append_assoc]
      refine hc_skip <|
        hx_then_normal <|
        hc_seq <|
        hc_block <|
        hc_seq <|
        hc_region <| ?_
      refine hl_val (ov_idxS rfl (by assumption) rfl _ rfl (by omega)) rfl rfl rfl <| ?_
      refine hl_val (ov_loadG (cs := vlanV x) rfl rfl (hc _)) rfl rfl rfl ?_
      refine hl_new (on_alloc) rfl rfl rfl fun b8 =>  ?_
      refine hl_u0 (on_storeW (vs := vlanV x) rfl rfl (by simp) (by simp) (by simp [Value.oneCell', u8v])) rfl rfl ?_
      refine hl_nil <|
        hx_then_normal <|
        hc_seq <| ?_
      have hu1 := x.2.1.toNat_lt
      have hu2 := x.2.2.toNat_lt
      refine hc_tail 6 mixed (by kernel_rfl) ?_
      refine ht_val (ov_move rfl) rfl rfl rfl <|
        ht_val (ov_nil rfl) rfl rfl rfl <|
        ht_val (ov_fieldA rfl) rfl rfl rfl <|
        ht_val (ov_fieldA rfl) rfl rfl rfl <|
        ht_val (ov_load rfl (CellIs.blk rfl)) rfl rfl rfl <| ?_
      refine ht_val (ov_conv (m := ((x.1.toNat : Nat) : Int)) rfl (convN (by omega) (by omega))) rfl rfl rfl ?_
      refine ht_nil <| ?_
      refine hl_c Try.call70 rfl rfl (fun w1 H1 => Own.callp (wrt g (B0)) H1 fun D' hold hin H2 => put_spec D' w1 g (x.1.toNat) 2 (B0) (by omega) (by decide) (by omega) H2) ?_
      refine hl_nil <|
        hx_then_normal <|
        hc_seq <| ?_
      refine hc_tail 6 mixed (by kernel_rfl) ?_
      refine ht_val (ov_move rfl) rfl rfl rfl <|
        ht_val (ov_nil rfl) rfl rfl rfl <|
        ht_val (ov_fieldA rfl) rfl rfl rfl <|
        ht_val (ov_fieldA rfl) rfl rfl rfl <|
        ht_val (ov_load rfl (CellIs.blk rfl)) rfl rfl rfl <|
        ht_val (ov_conv rfl (by first | exact wrap_u64 (by omega) | rfl)) rfl rfl rfl <| ?_
      refine ht_nil <| ?_
      refine hl_c Try.call70 rfl rfl (fun w1 H1 => Own.callp (wrt g ((B0 ++ beB (x.1.toNat) 2))) H1 fun D' hold hin H2 => put_spec D' w1 g (x.2.1.toNat) 1 ((B0 ++ beB (x.1.toNat) 2)) (by omega) (by decide) (by simp only [List.length_append, beB_len, List.length_nil]; omega) H2) ?_
      refine hl_nil <|
        hx_then_normal <| ?_
      refine hc_tail 6 mixed (by kernel_rfl) ?_
      refine ht_val (ov_move rfl) rfl rfl rfl <|
        ht_val (ov_nil rfl) rfl rfl rfl <|
        ht_val (ov_fieldA rfl) rfl rfl rfl <|
        ht_val (ov_fieldA rfl) rfl rfl rfl <|
        ht_val (ov_load rfl (CellIs.blk rfl)) rfl rfl rfl <|
        ht_val (ov_conv rfl (by first | exact wrap_u64 (by omega) | rfl)) rfl rfl rfl <| ?_
      refine ht_nil <| ?_
      refine hl_c Try.call70 rfl rfl (fun w1 H1 => Own.callp (wrt g (((B0 ++ beB (x.1.toNat) 2) ++ beB (x.2.1.toNat) 1))) H1 fun D' hold hin H2 => put_spec D' w1 g (x.2.2.toNat) 1 (((B0 ++ beB (x.1.toNat) 2) ++ beB (x.2.1.toNat) 1)) (by omega) (by decide) (by simp only [List.length_append, beB_len, List.length_nil]; omega) H2) ?_
      refine hl_nil <|
        hx_block_normal <|
        hx_then_normal <|
        hc_region <|
        hl_val (ov_add rfl rfl (by first | exact wrap_i64 (by omega) | rfl)) rfl rfl rfl <| ?_
      refine hl_val (ov_move rfl) rfl rfl rfl <|
        hl_nil <| ?_
      rw [hsn']
      refine hx_next hK2 (i + 1) (hlt) (by omega) (by repeat (first | exact Slots.sub_nil _ | refine Slots.sub_cons rfl ?_)) (by first | assumption | exact Ent.refl _ | exact Ent.nil _ | (repeat (first | exact Ent.refl _ | exact Ent.nil _ | refine Ent.pick ?_)))
    · have hie : i = lv.length := by omega
      subst hie
      rw [List.take_length]
      obtain ⟨Q2, hQ2⟩ : ∃ B, B = P2 ++ lv.flatMap vlanB := ⟨_, rfl⟩
      have hQ2l : Q2.length = P2.length + lv.length * 4 := by rw [hQ2, List.length_append, flat_len (f := vlanB) (sz := 4) vlanB_len]
      rw [← hQ2]
      refine hc_exit <|
        hx_then_exit <|
        hx_then_exit <|
        hx_block_out <|
        hx_then_normal <|
        hc_seq <| ?_
      refine hc_tail 7 mixed (by kernel_rfl) ?_
      refine ht_val (ov_move rfl) rfl rfl rfl <|
        ht_val (ov_nil rfl) rfl rfl rfl <|
        ht_val (ov_fieldA rfl) rfl rfl rfl <|
        ht_val (ov_fieldA rfl) rfl rfl rfl <|
        ht_val (ov_load rfl (CellIs.blk rfl)) rfl rfl rfl <|
        ht_val (by first | exact ov_len rfl | exact ov_lenS rfl) rfl rfl rfl <| ?_
      refine ht_val (ov_conv rfl (by first | exact wrap_u64 (by omega) | rfl)) rfl rfl rfl <| ?_
      refine ht_nil <| ?_
      refine hl_c Try.call70 rfl rfl (fun w1 H1 => Own.callp (wrt g (Q2)) H1 fun D' hold hin H2 => put_spec D' w1 g (ls.length) 1 (Q2) (by omega) (by decide) (by omega) H2) ?_
      refine hl_nil <|
        hx_then_normal <|
        hc_seq <|
        hc_region <|
        hl_val (ov_fieldA rfl) rfl rfl rfl <|
        hl_val (ov_load rfl (CellIs.blk rfl)) rfl rfl rfl <| ?_
      refine hl_val (by first | exact ov_len rfl | exact ov_lenS rfl) rfl rfl rfl <| ?_
      refine hl_val (ov_move rfl) rfl rfl rfl <|
        hl_nil <|
        hx_then_normal <|
        hc_block <| ?_
      obtain ⟨P3, hP3⟩ : ∃ B, B = Q2 ++ beB ls.length 1 := ⟨_, rfl⟩
      rw [← hP3]
      have hP3l : P3.length ≤ 140 := by rw [hP3, List.length_append, beB_len]; omega
      refine hc_loopK1 (σ := Nat) [0, 115, 116] rfl 117 (fun i => .int .i64 (i : Int)) (fun i => [wrt g (P3 ++ (ls.take i).flatMap statB), blk b3 26 [.int .i64 c.1, .int .i64 c.2.1, .int .i64 c.2.2.1, .slice Ap lp.length capp, .slice Av lv.length capv, .slice As ls.length caps]]) (fun i => i ≤ ls.length) (fun i => ls.length - i) (0) (Nat.zero_le _) rfl (by rw [List.take_zero, List.flatMap_nil, List.append_nil]; exact Ent.refl _) ?_
      rintro i hj K3 hK3
      refine hc_seq <|
        hc_region <|
        hl_val (ov_lss rfl rfl) rfl rfl rfl <|
        hl_nil <|
        hx_then_normal <|
        hc_seq <| ?_
      refine hc_cond rfl (fun h => ?_) (fun h => ?_)
      · have hlt : i < ls.length := by omega
        obtain ⟨hA, _⟩ := OldS.cells_flat (D := D) (w0 := w) (f := statV) (sz := 3) (fun _ => rfl) (by decide) HSs hlt []
        have hc := fun l' => (OldS.cells_flat (D := D) (w0 := w) (f := statV) (sz := 3) (fun _ => rfl) (by decide) HSs hlt l').2
        have hx := os' i hlt
        have hsn := snocB statB P3 ls i hlt
        obtain ⟨B0, hB0⟩ : ∃ B, B = P3 ++ (ls.take i).flatMap statB := ⟨_, rfl⟩
        have hB0l : B0.length ≤ 600 := by rw [hB0, List.length_append, flat_len (f := statB) (sz := 9) statB_len, List.length_take]; omega
        rw [← hB0] at hsn ⊢
        generalize ls[i] = x at *
        have hsn' : ((B0 ++ beB x.1.toNat 6) ++ beB x.2.1.toNat 2) ++ beB x.2.2.toNat 1 = P3 ++ (ls.take (i + 1)).flatMap statB := by rw [← hsn]; simp only [statB, List.append_assoc]
        refine hc_skip <|
          hx_then_normal <|
          hc_seq <|
          hc_block <|
          hc_seq <|
          hc_region <| ?_
        refine hl_val (ov_idxS rfl (by assumption) rfl _ rfl (by omega)) rfl rfl rfl <| ?_
        refine hl_val (ov_loadG (cs := statV x) rfl rfl (hc _)) rfl rfl rfl ?_
        refine hl_new (on_alloc) rfl rfl rfl fun b10 =>  ?_
        refine hl_u0 (on_storeW (vs := statV x) rfl rfl (by simp) (by simp) (by simp [Value.oneCell'])) rfl rfl ?_
        refine hl_nil <|
          hx_then_normal <|
          hc_seq <| ?_
        obtain ⟨⟨x1, x2⟩, x3, x4, x5⟩ := hx
        refine hc_tail 5 mixed (by kernel_rfl) ?_
        refine ht_val (ov_move rfl) rfl rfl rfl <|
          ht_val (ov_nil rfl) rfl rfl rfl <|
          ht_val (ov_fieldA rfl) rfl rfl rfl <|
          ht_val (ov_fieldA rfl) rfl rfl rfl <|
          ht_val (ov_load rfl (CellIs.blk rfl)) rfl rfl rfl <|
          ht_nil <| ?_
        refine hl_c Try.call70 rfl rfl (fun w1 H1 => Own.callp (wrt g (B0)) H1 fun D' hold hin H2 => put_spec D' w1 g (x.1.toNat) 6 (B0) (by omega) (by decide) (by omega) H2) ?_
        refine hl_nil <|
          hx_then_normal <|
          hc_seq <| ?_
        refine hc_tail 6 mixed (by kernel_rfl) ?_
        refine ht_val (ov_move rfl) rfl rfl rfl <|
          ht_val (ov_nil rfl) rfl rfl rfl <|
          ht_val (ov_fieldA rfl) rfl rfl rfl <|
          ht_val (ov_fieldA rfl) rfl rfl rfl <|
          ht_val (ov_load rfl (CellIs.blk rfl)) rfl rfl rfl <| ?_
        refine ht_val (ov_conv (m := ((x.2.1.toNat : Nat) : Int)) rfl (convN (by omega) (by omega))) rfl rfl rfl ?_
        refine ht_nil <| ?_
        refine hl_c Try.call70 rfl rfl (fun w1 H1 => Own.callp (wrt g ((B0 ++ beB (x.1.toNat) 6))) H1 fun D' hold hin H2 => put_spec D' w1 g (x.2.1.toNat) 2 ((B0 ++ beB (x.1.toNat) 6)) (by omega) (by decide) (by simp only [List.length_append, beB_len, List.length_nil]; omega) H2) ?_
        refine hl_nil <|
          hx_then_normal <| ?_
        refine hc_tail 6 mixed (by kernel_rfl) ?_
        refine ht_val (ov_move rfl) rfl rfl rfl <|
          ht_val (ov_nil rfl) rfl rfl rfl <|
          ht_val (ov_fieldA rfl) rfl rfl rfl <|
          ht_val (ov_fieldA rfl) rfl rfl rfl <|
          ht_val (ov_load rfl (CellIs.blk rfl)) rfl rfl rfl <| ?_
        refine ht_val (ov_conv (m := ((x.2.2.toNat : Nat) : Int)) rfl (convN (by omega) (by omega))) rfl rfl rfl ?_
        refine ht_nil <| ?_
        refine hl_c Try.call70 rfl rfl (fun w1 H1 => Own.callp (wrt g (((B0 ++ beB (x.1.toNat) 6) ++ beB (x.2.1.toNat) 2))) H1 fun D' hold hin H2 => put_spec D' w1 g (x.2.2.toNat) 1 (((B0 ++ beB (x.1.toNat) 6) ++ beB (x.2.1.toNat) 2)) (by omega) (by decide) (by simp only [List.length_append, beB_len, List.length_nil]; omega) H2) ?_
        refine hl_nil <|
          hx_block_normal <|
          hx_then_normal <|
          hc_region <|
          hl_val (ov_add rfl rfl (by first | exact wrap_i64 (by omega) | rfl)) rfl rfl rfl <| ?_
        refine hl_val (ov_move rfl) rfl rfl rfl <|
          hl_nil <| ?_
        rw [hsn']
        refine hx_next hK3 (i + 1) (hlt) (by omega) (by repeat (first | exact Slots.sub_nil _ | refine Slots.sub_cons rfl ?_)) (by first | assumption | exact Ent.refl _ | exact Ent.nil _ | (repeat (first | exact Ent.refl _ | exact Ent.nil _ | refine Ent.pick ?_)))
      · have hie : i = ls.length := by omega
        subst hie
        rw [List.take_length]
        obtain ⟨Q3, hQ3⟩ : ∃ B, B = P3 ++ ls.flatMap statB := ⟨_, rfl⟩
        have hQ3l : Q3.length = P3.length + ls.length * 9 := by rw [hQ3, List.length_append, flat_len (f := statB) (sz := 9) statB_len]
        rw [← hQ3]
        refine hc_exit <|
          hx_then_exit <|
          hx_then_exit <|
          hx_block_out <| ?_
        have hall : Q3 = headB c ++ (beB lp.length 1 ++ lp.flatMap portB) ++ (beB lv.length 1 ++ lv.flatMap vlanB) ++ (beB ls.length 1 ++ ls.flatMap statB) := by rw [hQ3, hP3, hQ2, hP2, hQ1, hP1]; simp only [List.append_assoc]
        rw [← hall]
        exact results_0 (.inl rfl) rfl fun w' H' => ⟨rfl, H'.ent (Ent.cons (Ent.nil _))⟩
theorem Config_spec (D : Nat → Prop) (w : World) (c : ConfC) (vp vv vs : Value) (H : ConfOld D w c vp vv vs) :
    Calls Try.prog 17 #[.agg (cfgV c vp vv vs).toArray] w fun e w' => (¬ goodP c ∧ e = .returned (.tuple #[.slice none 0 0, .int .i64 14]) ∧ Own D w w' []) ∨
      (goodP c ∧ ∃ q : Option Addr × Nat, e = .returned (.tuple #[.slice q.1 (cfgB c).length q.2, .int .i64 0]) ∧ Own D w w' [row q.1 5 1 (cfgB c).length q.2 ((cfgB c).map u8v)]) := by
  refine hc_enter (vs := [.agg (cfgV c vp vv vs).toArray]) Try.func17 rfl _ Try.ntmps17 rfl (Own.start D w) ?_
  simp only [argSlots, Nat.zero_add]
  refine hc_seq <|
    hc_region <|
    hl_new (on_boxN rfl rfl) rfl rfl rfl fun b1 =>  ?_
  refine hl_val (ov_assign rfl) rfl rfl rfl <|
    hl_val (ov_assign rfl) rfl rfl rfl <|
    hl_nil <|
    hx_then_normal <|
    hc_seq <|
    hc_seq <| ?_
  refine hc_region <|
    hl_val (by first | exact ov_loadW rfl (by simp; done) | exact ov_loadGB rfl rfl) rfl rfl rfl <| ?_
  refine hl_call (σ := BIff (goodP c)) Try.call32 rfl rfl (fun w1 H1 => Own.callx0 H1 fun D' hold hin H2 => Good_spec D' w1 c vp vv vs (H.hold hold)) ?_
  intro r
  try rw [List.nil_append]
  refine hl_val (by first | exact ov_notd rfl | exact ov_not rfl) rfl rfl rfl <| ?_
  refine hl_nil <|
    hx_then_normal <| ?_
  refine hc_cond_bool rfl (fun hb => ?_) (fun hb => ?_)
  · have hno : ¬ goodP c := fun h => by have := r.2.2 h; rw [this] at hb; cases hb
    refine hc_seq <|
      hc_region <|
      hl_val (ov_assign rfl) rfl rfl rfl <|
      hl_val (ov_assign rfl) rfl rfl rfl <|
      hl_nil <|
      hx_then_normal <| ?_
    refine hc_ret <|
      hx_then_ret <| ?_
    exact results_2 (.inr rfl) rfl rfl rfl fun w' H' => .inl ⟨hno, rfl, H'.ent (Ent.nil _)⟩
  · have hg : goodP c := r.2.1 (by simpa using hb)
    refine hc_skip <|
      hx_then_normal <|
      hc_seq <|
      hc_region <|
      hl_val (ov_buildSN rfl rfl) rfl rfl rfl <| ?_
    refine hl_new (on_boxN rfl rfl) rfl rfl rfl fun b9 =>  ?_
    refine hl_val (ov_assign rfl) rfl rfl rfl <|
      hl_nil <|
      hx_then_normal <|
      hc_seq <|
      hc_region <| ?_
    refine HL.ent (wrt_new b9 _) ?_
    refine hl_val (ov_move rfl) rfl rfl rfl <|
      hl_val (by first | exact ov_loadW rfl (by simp; done) | exact ov_loadGB rfl rfl) rfl rfl rfl <| ?_
    refine hl_c Try.call39 rfl rfl (fun w1 H1 => Own.callp (wrt b9 []) H1 fun D' hold hin H2 => wconfig_spec D' w1 b9 c vp vv vs hg.wok (H.hold hold) H2) ?_
    refine hl_nil <|
      hx_then_normal <|
      hc_seq <|
      hc_region <| ?_
    refine HL.exs ?_
    rintro ⟨A, cc⟩
    dsimp only [List.cons_append, List.nil_append]
    refine hl_val (ov_move rfl) rfl rfl rfl <|
      hl_val (ov_nil rfl) rfl rfl rfl <|
      hl_val (ov_fieldA rfl) rfl rfl rfl <|
      hl_val (ov_fieldA rfl) rfl rfl rfl <|
      hl_val (ov_load rfl (CellIs.blk rfl)) rfl rfl rfl <|
      hl_val (ov_assign rfl) rfl rfl rfl <| ?_
    refine hl_val (ov_assign rfl) rfl rfl rfl <|
      hl_nil <|
      hx_then_normal <|
      hc_ret <| ?_
    exact results_2 (.inr rfl) rfl rfl rfl fun w' H' => .inr ⟨hg, (A, cc), rfl, H'.ent (by first | assumption | exact Ent.refl _ | exact Ent.nil _ | exact Ent.row_any (Ent.refl _) | (repeat (first | exact Ent.refl _ | exact Ent.nil _ | refine Ent.pick ?_)))⟩
end Go.Proofs.Ytpgpfcplchaleaa
