import Derived.Test.YtpgpfcplchaleaaCod7
set_option linter.unusedVariables false
set_option linter.unusedSimpArgs false
namespace Go.Proofs.Ytpgpfcplchaleaa
open Slk
instance : ReadsAs Try.prog 28 (Vector (List EditC) 2) := ReadsAs.arr (by kernel_rfl)
theorem two_open {D : Nat → Prop} {w0 : World} {x : Vector (List EditC) 2} {cs : List Value} (k : Old D w0 (Rep.rep x cs)) : ∃ (l m : List EditC) (A : Option Addr) (c : Nat) (B : Option Addr) (d : Nat), cs = [.slice A l.length c, .slice B m.length d] ∧ Old D w0 (Rep.rep l [.slice A l.length c]) ∧ Old D w0 (Rep.rep m [.slice B m.length d]) := by
  obtain ⟨h, hh, hr⟩ := k
  obtain ⟨a, b, hab⟩ := vec2 x
  have hr : repL x.toList cs h := hr
  rw [hab] at hr
  obtain ⟨u1, u2, rfl, ⟨A, c, rfl, r1⟩, u3, u4, rfl, ⟨B, d, rfl, r2⟩, r3⟩ := hr
  have r3 : u4 = [] := r3
  subst r3
  exact ⟨a, b, A, c, B, d, rfl, ⟨h, hh, A, c, rfl, r1⟩, ⟨h, hh, B, d, rfl, r2⟩⟩
theorem two_len (x : Vector (List EditC) 2) : x.toList.length = 2 := by simp
theorem CodecOwn_walk (W : World) (c0 d0 x0 : List Value) (c d : ConfC) (x : Vector (List EditC) 2) (h0 : Old none' W (Rep.rep c c0)) (h1 : Old none' W (Rep.rep d d0)) (h2 : Old none' W (Rep.rep x x0)) :
    Calls Try.prog 3 #[.agg c0.toArray, .agg d0.toArray, .agg x0.toArray] W fun e w' => e = .returned (.bool true) ∧ Own none' W w' [] := by
  obtain ⟨Ap, cp, Av, cv, As, cx, rfl, HCo⟩ := conf_open h0
  obtain ⟨Bp, dp, Bv, dv, Bs, dx, rfl, HDo⟩ := conf_open h1
  obtain ⟨l, m, Al, cl, Bm, cm, rfl, hl, hm⟩ := two_open h2
  refine hc_enter (vs := [.agg (cfgV c (.slice Ap c.2.2.2.1.length cp) (.slice Av c.2.2.2.2.1.length cv) (.slice As c.2.2.2.2.2.length cx)).toArray, .agg (cfgV d (.slice Bp d.2.2.2.1.length dp) (.slice Bv d.2.2.2.2.1.length dv) (.slice Bs d.2.2.2.2.2.length dx)).toArray, .agg #[.slice Al l.length cl, .slice Bm m.length cm]]) Try.func3 rfl _ Try.ntmps3 rfl (Own.start none' W) ?_
  simp only [argSlots, Nat.zero_add]
  refine hc_seq <|
    hc_region <|
    hl_new (on_boxN rfl rfl) rfl rfl rfl fun b3 =>  ?_
  refine hl_new (on_boxN rfl rfl) rfl rfl rfl fun b4 =>  ?_
  refine hl_new (on_boxN rfl rfl) rfl rfl rfl fun b5 =>  ?_
  refine hl_val (ov_assign rfl) rfl rfl rfl <|
    hl_nil <|
    hx_then_normal <|
    hc_seq <|
    hc_seq <|
    hc_region <| ?_
  refine hl_val (by first | exact ov_loadW rfl (by simp; done) | exact ov_loadGB rfl rfl) rfl rfl rfl <| ?_
  refine hl_call (σ := BIff (c.2.2.2.1.length ≤ 20 ∧ c.2.2.2.2.1.length ≤ 40 ∧ c.2.2.2.2.2.length ≤ 40)) Try.call15 rfl rfl (fun w1 H1 => Own.callx0 H1 fun D' hold hin H2 => Fair_spec D' w1 c.1 c.2.1 c.2.2.1 Ap Av As c.2.2.2.1.length cp c.2.2.2.2.1.length cv c.2.2.2.2.2.length cx) ?_
  intro f
  try rw [List.nil_append]
  refine hl_val (by first | exact ov_notd rfl | exact ov_not rfl) rfl rfl rfl <| ?_
  refine hl_val (ov_move rfl) rfl rfl rfl <| ?_
  refine hl_partb (t := 18) rfl (fun a1 => ?_) (fun a1 => ?_)
  · refine hl_off rfl rfl rfl rfl rfl rfl <|
      hl_off rfl rfl rfl rfl rfl rfl <|
      hl_off rfl rfl rfl rfl rfl rfl <|
      hl_val (ov_pickT rfl rfl) rfl rfl rfl <|
      hl_val (ov_move rfl) rfl rfl rfl <|
      hl_off rfl rfl rfl rfl rfl rfl <| ?_
    refine hl_off rfl rfl rfl rfl rfl rfl <|
      hl_off rfl rfl rfl rfl rfl rfl <|
      hl_off rfl rfl rfl rfl rfl rfl <|
      hl_val (ov_pickT rfl rfl) rfl rfl rfl <|
      hl_val (ov_move rfl) rfl rfl rfl <|
      hl_off rfl rfl rfl rfl rfl rfl <| ?_
    refine hl_off rfl rfl rfl rfl rfl rfl <|
      hl_off rfl rfl rfl rfl rfl rfl <|
      hl_off rfl rfl rfl rfl rfl rfl <|
      hl_val (ov_pickT rfl rfl) rfl rfl rfl <|
      hl_nil <|
      hx_then_normal <| ?_
    refine hc_cond_true rfl <|
      hc_seq <|
      hc_region <| ?_
    refine hl_c Try.call16 rfl rfl (fun w1 H1 => Own.calln H1 fun D' hold hin H2 => wakes_spec D' w1) ?_
    refine hl_val (ov_assign rfl) rfl rfl rfl <|
      hl_nil <|
      hx_then_normal <|
      hc_ret <|
      hx_then_ret <| ?_
    exact results_1 (.inr rfl) rfl rfl fun w' H' => ⟨rfl, H'.ent (Ent.nil _)⟩
  · have hf := f.2.1 (by simpa using a1)
    have HC := HCo (by omega) (by omega) (by omega)
    refine hl_on rfl rfl <| hl_val (by first | exact ov_loadW rfl (by simp; done) | exact ov_loadGB rfl rfl) rfl rfl rfl <| ?_
    refine hl_on rfl rfl <| hl_call (σ := BIff (d.2.2.2.1.length ≤ 20 ∧ d.2.2.2.2.1.length ≤ 40 ∧ d.2.2.2.2.2.length ≤ 40)) Try.call15 rfl rfl (fun w1 H1 => Own.callx0 H1 fun D' hold hin H2 => Fair_spec D' w1 d.1 d.2.1 d.2.2.1 Bp Bv Bs d.2.2.2.1.length dp d.2.2.2.2.1.length dv d.2.2.2.2.2.length dx) ?_
    intro g
    try rw [List.nil_append]
    refine hl_on rfl rfl <| hl_val (by first | exact ov_notd rfl | exact ov_not rfl) rfl rfl rfl <| ?_
    refine hl_val (ov_pickF rfl rfl) rfl rfl rfl <|
      hl_val (ov_move rfl) rfl rfl rfl <| ?_
    refine hl_partb (t := 23) rfl (fun a2 => ?_) (fun a2 => ?_)
    · refine hl_off rfl rfl rfl rfl rfl rfl <|
        hl_off rfl rfl rfl rfl rfl rfl <|
        hl_off rfl rfl rfl rfl rfl rfl <|
        hl_off rfl rfl rfl rfl rfl rfl <|
        hl_val (ov_pickT rfl rfl) rfl rfl rfl <|
        hl_val (ov_move rfl) rfl rfl rfl <| ?_
      refine hl_off rfl rfl rfl rfl rfl rfl <|
        hl_off rfl rfl rfl rfl rfl rfl <|
        hl_off rfl rfl rfl rfl rfl rfl <|
        hl_off rfl rfl rfl rfl rfl rfl <|
        hl_val (ov_pickT rfl rfl) rfl rfl rfl <|
        hl_nil <| ?_
      refine hx_then_normal <|
        hc_cond_true rfl <|
        hc_seq <|
        hc_region <| ?_
      refine hl_c Try.call16 rfl rfl (fun w1 H1 => Own.calln H1 fun D' hold hin H2 => wakes_spec D' w1) ?_
      refine hl_val (ov_assign rfl) rfl rfl rfl <|
        hl_nil <|
        hx_then_normal <|
        hc_ret <|
        hx_then_ret <| ?_
      exact results_1 (.inr rfl) rfl rfl fun w' H' => ⟨rfl, H'.ent (Ent.nil _)⟩
    · have hg := g.2.1 (by simpa using a2)
      have HD := HDo (by omega) (by omega) (by omega)
      refine hl_on rfl rfl <| hl_val (ov_idxPc rfl rfl rfl rfl rfl) rfl rfl rfl <|
        hl_on rfl rfl <| hl_val (ov_load rfl (CellIs.blk rfl)) rfl rfl rfl <|
        hl_on rfl rfl <| hl_val (by first | exact ov_len rfl | exact ov_lenS rfl) rfl rfl rfl <| ?_
      refine hl_on rfl rfl <| hl_val (ov_gtr rfl rfl) rfl rfl rfl <|
        hl_val (ov_pickF rfl rfl) rfl rfl rfl <|
        hl_val (ov_move rfl) rfl rfl rfl <| ?_
      refine hl_part (t := 29) rfl (fun a3 => ?_) (fun a3 => ?_)
      · refine hl_off rfl rfl rfl rfl rfl rfl <|
          hl_off rfl rfl rfl rfl rfl rfl <|
          hl_off rfl rfl rfl rfl rfl rfl <|
          hl_off rfl rfl rfl rfl rfl rfl <|
          hl_val (ov_pickT rfl rfl) rfl rfl rfl <|
          hl_nil <| ?_
        refine hx_then_normal <|
          hc_cond_true rfl <|
          hc_seq <|
          hc_region <| ?_
        refine hl_c Try.call16 rfl rfl (fun w1 H1 => Own.calln H1 fun D' hold hin H2 => wakes_spec D' w1) ?_
        refine hl_val (ov_assign rfl) rfl rfl rfl <|
          hl_nil <|
          hx_then_normal <|
          hc_ret <|
          hx_then_ret <| ?_
        exact results_1 (.inr rfl) rfl rfl fun w' H' => ⟨rfl, H'.ent (Ent.nil _)⟩
      · refine hl_on rfl rfl <| hl_val (ov_idxPc rfl rfl rfl rfl rfl) rfl rfl rfl <|
          hl_on rfl rfl <| hl_val (ov_load rfl (CellIs.blk rfl)) rfl rfl rfl <|
          hl_on rfl rfl <| hl_val (by first | exact ov_len rfl | exact ov_lenS rfl) rfl rfl rfl <| ?_
        refine hl_on rfl rfl <| hl_val (ov_gtr rfl rfl) rfl rfl rfl <|
          hl_val (ov_pickF rfl rfl) rfl rfl rfl <|
          hl_nil <|
          hx_then_normal <| ?_
        refine hc_cond rfl (fun a4 => ?_) (fun a4 => ?_)
        · refine hc_seq <|
            hc_region <| ?_
          refine hl_c Try.call16 rfl rfl (fun w1 H1 => Own.calln H1 fun D' hold hin H2 => wakes_spec D' w1) ?_
          refine hl_val (ov_assign rfl) rfl rfl rfl <|
            hl_nil <|
            hx_then_normal <|
            hc_ret <|
            hx_then_ret <| ?_
          exact results_1 (.inr rfl) rfl rfl fun w' H' => ⟨rfl, H'.ent (Ent.nil _)⟩
        · refine hc_skip <|
            hx_then_normal <|
            hc_seq <|
            hc_region <|
            hl_val (by first | exact ov_loadW rfl (by simp; done) | exact ov_loadGB rfl rfl) rfl rfl rfl <| ?_
          refine hl_call (σ := ResT (goodP c) (cfgB c) (fun e => e = 14)) Try.call17 rfl rfl (fun w1 H1 => Own.callx0 H1 fun D' hold hin H2 => Config_res D' w1 c _ _ _ (HC.hold hold)) ?_
          intro s1
          try rw [List.nil_append]
          obtain ⟨⟨⟨A1, k1⟩, b1', e1⟩, hs1⟩ := s1
          dsimp only at hs1 ⊢
          refine hl_val (ov_move rfl) rfl rfl rfl <|
            hl_val (ov_extract rfl rfl) rfl rfl rfl <|
            hl_val (ov_extract rfl rfl) rfl rfl rfl <|
            hl_val (ov_assign rfl) rfl rfl rfl <|
            hl_val (ov_assign rfl) rfl rfl rfl <|
            hl_nil <| ?_
          refine hx_then_normal <|
            hc_seq <|
            hc_region <|
            hl_val (by first | exact ov_loadW rfl (by simp; done) | exact ov_loadGB rfl rfl) rfl rfl rfl <| ?_
          refine hl_call (σ := ResT (goodP d) (cfgB d) (fun e => e = 14)) Try.call17 rfl rfl (fun w1 H1 => Own.callx0 H1 fun D' hold hin H2 => Config_res D' w1 d _ _ _ (HD.hold hold)) ?_
          intro s2
          try rw [List.nil_append]
          obtain ⟨⟨⟨A2, k2⟩, b2', e2⟩, hs2⟩ := s2
          dsimp only at hs2 ⊢
          rcases hs1 with ⟨hno1, rfl, hne1, he1⟩ | ⟨hg1, rfl, rfl⟩
          · refine hl_val (ov_move rfl) rfl rfl rfl <|
              hl_val (ov_extract rfl rfl) rfl rfl rfl <|
              hl_val (ov_extract rfl rfl) rfl rfl rfl <|
              hl_val (ov_assign rfl) rfl rfl rfl <|
              hl_val (ov_assign rfl) rfl rfl rfl <|
              hl_nil <| ?_
            refine hx_then_normal <|
              hc_seq <|
              hc_seq <| ?_
            refine hc_any [] mixed 15 rfl ?_
            refine ha_take 0 rfl (ov_move rfl) rfl rfl rfl (by kernel_rfl) (by kernel_rfl) (by kernel_rfl) (by first | assumption | exact Ent.refl _ | exact Ent.nil _ | (repeat (first | exact Ent.refl _ | exact Ent.nil _ | refine Ent.pick ?_))) <| ?_
            refine ha_take 1 rfl (ov_eql rfl rfl) rfl rfl rfl (by kernel_rfl) (by kernel_rfl) (by kernel_rfl) (by first | assumption | exact Ent.refl _ | exact Ent.nil _ | (repeat (first | exact Ent.refl _ | exact Ent.nil _ | refine Ent.pick ?_))) <| ?_
            refine ha_take 2 rfl (ov_move rfl) rfl rfl rfl (by kernel_rfl) (by kernel_rfl) (by kernel_rfl) (by first | assumption | exact Ent.refl _ | exact Ent.nil _ | (repeat (first | exact Ent.refl _ | exact Ent.nil _ | refine Ent.pick ?_))) <| ?_
            refine ha_partF (t := 48) rfl (hne1) ?_
            refine ha_off 3 rfl rfl rfl rfl (by kernel_rfl) (by kernel_rfl) (by kernel_rfl) (by first | assumption | exact Ent.refl _ | exact Ent.nil _ | (repeat (first | exact Ent.refl _ | exact Ent.nil _ | refine Ent.pick ?_))) <| ?_
            refine ha_off 4 rfl rfl rfl rfl (by kernel_rfl) (by kernel_rfl) (by kernel_rfl) (by first | assumption | exact Ent.refl _ | exact Ent.nil _ | (repeat (first | exact Ent.refl _ | exact Ent.nil _ | refine Ent.pick ?_))) <| ?_
            refine ha_take 5 rfl (ov_pickF rfl rfl) rfl rfl rfl (by kernel_rfl) (by kernel_rfl) (by kernel_rfl) (by first | assumption | exact Ent.refl _ | exact Ent.nil _ | (repeat (first | exact Ent.refl _ | exact Ent.nil _ | refine Ent.pick ?_))) <| ?_
            refine ha_take 6 rfl (ov_move rfl) rfl rfl rfl (by kernel_rfl) (by kernel_rfl) (by kernel_rfl) (by first | assumption | exact Ent.refl _ | exact Ent.nil _ | (repeat (first | exact Ent.refl _ | exact Ent.nil _ | refine Ent.pick ?_))) <| ?_
            refine ha_off 7 rfl rfl rfl rfl (by kernel_rfl) (by kernel_rfl) (by kernel_rfl) (by first | assumption | exact Ent.refl _ | exact Ent.nil _ | (repeat (first | exact Ent.refl _ | exact Ent.nil _ | refine Ent.pick ?_))) <| ?_
            refine ha_off 8 rfl rfl rfl rfl (by kernel_rfl) (by kernel_rfl) (by kernel_rfl) (by first | assumption | exact Ent.refl _ | exact Ent.nil _ | (repeat (first | exact Ent.refl _ | exact Ent.nil _ | refine Ent.pick ?_))) <| ?_
            refine ha_off 10 rfl rfl rfl rfl (by kernel_rfl) (by kernel_rfl) (by kernel_rfl) (by first | assumption | exact Ent.refl _ | exact Ent.nil _ | (repeat (first | exact Ent.refl _ | exact Ent.nil _ | refine Ent.pick ?_))) <| ?_
            refine ha_off 11 rfl rfl rfl rfl (by kernel_rfl) (by kernel_rfl) (by kernel_rfl) (by first | assumption | exact Ent.refl _ | exact Ent.nil _ | (repeat (first | exact Ent.refl _ | exact Ent.nil _ | refine Ent.pick ?_))) <| ?_
            refine ha_one 9 (by kernel_rfl) <|
              ho_off rfl rfl rfl rfl (by first | assumption | exact Ent.refl _ | exact Ent.nil _ | (repeat (first | exact Ent.refl _ | exact Ent.nil _ | refine Ent.pick ?_))) <| ?_
            refine ha_one 12 (by kernel_rfl) <|
              ho_off rfl rfl rfl rfl (by first | assumption | exact Ent.refl _ | exact Ent.nil _ | (repeat (first | exact Ent.refl _ | exact Ent.nil _ | refine Ent.pick ?_))) <| ?_
            refine ha_off 13 rfl rfl rfl rfl (by kernel_rfl) (by kernel_rfl) (by kernel_rfl) (by first | assumption | exact Ent.refl _ | exact Ent.nil _ | (repeat (first | exact Ent.refl _ | exact Ent.nil _ | refine Ent.pick ?_))) <| ?_
            refine ha_take 14 rfl (ov_pickF rfl rfl) rfl rfl rfl (by kernel_rfl) (by kernel_rfl) (by kernel_rfl) (by first | assumption | exact Ent.refl _ | exact Ent.nil _ | (repeat (first | exact Ent.refl _ | exact Ent.nil _ | refine Ent.pick ?_))) <| ?_
            refine ha_done (by kernel_rfl) <|
              hx_then_normal <|
              hc_cond_false rfl <|
              hc_skip <|
              hx_then_normal <|
              hc_seq <| ?_
            refine hc_region <|
              hl_val (ov_idxPc rfl rfl rfl rfl rfl) rfl rfl rfl <|
              hl_val (ov_load rfl (CellIs.blk rfl)) rfl rfl rfl <| ?_
            refine hl_call (σ := ResT (okEds l) (edsB l) (fun e => e = if 32 < l.length then 3 else 11)) Try.call20 rfl rfl (fun w1 H1 => Own.callx0 H1 fun D' hold hin H2 => Edits_res D' w1 _ l (by omega) (hold _ hl)) ?_
            intro s3
            try rw [List.nil_append]
            obtain ⟨⟨⟨A3, k3⟩, b3', e3⟩, hs3⟩ := s3
            dsimp only at hs3 ⊢
            refine hl_val (ov_move rfl) rfl rfl rfl <|
              hl_val (ov_extract rfl rfl) rfl rfl rfl <|
              hl_val (ov_extract rfl rfl) rfl rfl rfl <|
              hl_val (ov_assign rfl) rfl rfl rfl <|
              hl_val (ov_assign rfl) rfl rfl rfl <|
              hl_nil <| ?_
            refine hx_then_normal <|
              hc_seq <|
              hc_region <|
              hl_val (ov_idxPc rfl rfl rfl rfl rfl) rfl rfl rfl <|
              hl_val (ov_load rfl (CellIs.blk rfl)) rfl rfl rfl <| ?_
            refine hl_call (σ := ResT (okEds m) (edsB m) (fun e => e = if 32 < m.length then 3 else 11)) Try.call20 rfl rfl (fun w1 H1 => Own.callx0 H1 fun D' hold hin H2 => Edits_res D' w1 _ m (by omega) (hold _ hm)) ?_
            intro s4
            try rw [List.nil_append]
            obtain ⟨⟨⟨A4, k4⟩, b4', e4⟩, hs4⟩ := s4
            dsimp only at hs4 ⊢
            rcases hs3 with ⟨hno3, rfl, hne3, he3⟩ | ⟨hg3, rfl, rfl⟩
            · refine hl_val (ov_move rfl) rfl rfl rfl <|
                hl_val (ov_extract rfl rfl) rfl rfl rfl <|
                hl_val (ov_extract rfl rfl) rfl rfl rfl <|
                hl_val (ov_assign rfl) rfl rfl rfl <|
                hl_val (ov_assign rfl) rfl rfl rfl <|
                hl_nil <| ?_
              refine hx_then_normal <|
                hc_seq <| ?_
              refine hc_any [] mixed 21 rfl ?_
              refine ha_take 0 rfl (ov_move rfl) rfl rfl rfl (by kernel_rfl) (by kernel_rfl) (by kernel_rfl) (by first | assumption | exact Ent.refl _ | exact Ent.nil _ | (repeat (first | exact Ent.refl _ | exact Ent.nil _ | refine Ent.pick ?_))) <| ?_
              refine ha_take 1 rfl (ov_neq rfl rfl) rfl rfl rfl (by kernel_rfl) (by kernel_rfl) (by kernel_rfl) (by first | assumption | exact Ent.refl _ | exact Ent.nil _ | (repeat (first | exact Ent.refl _ | exact Ent.nil _ | refine Ent.pick ?_))) <| ?_
              refine ha_take 2 rfl (ov_move rfl) rfl rfl rfl (by kernel_rfl) (by kernel_rfl) (by kernel_rfl) (by first | assumption | exact Ent.refl _ | exact Ent.nil _ | (repeat (first | exact Ent.refl _ | exact Ent.nil _ | refine Ent.pick ?_))) <| ?_
              refine ha_partT (t := 75) rfl (hne3) ?_
              refine ha_off 3 rfl rfl rfl rfl (by kernel_rfl) (by kernel_rfl) (by kernel_rfl) (by first | assumption | exact Ent.refl _ | exact Ent.nil _ | (repeat (first | exact Ent.refl _ | exact Ent.nil _ | refine Ent.pick ?_))) <| ?_
              refine ha_off 4 rfl rfl rfl rfl (by kernel_rfl) (by kernel_rfl) (by kernel_rfl) (by first | assumption | exact Ent.refl _ | exact Ent.nil _ | (repeat (first | exact Ent.refl _ | exact Ent.nil _ | refine Ent.pick ?_))) <| ?_
              refine ha_take 5 rfl (ov_pickT rfl rfl) rfl rfl rfl (by kernel_rfl) (by kernel_rfl) (by kernel_rfl) (by first | assumption | exact Ent.refl _ | exact Ent.nil _ | (repeat (first | exact Ent.refl _ | exact Ent.nil _ | refine Ent.pick ?_))) <| ?_
              refine ha_take 6 rfl (ov_move rfl) rfl rfl rfl (by kernel_rfl) (by kernel_rfl) (by kernel_rfl) (by first | assumption | exact Ent.refl _ | exact Ent.nil _ | (repeat (first | exact Ent.refl _ | exact Ent.nil _ | refine Ent.pick ?_))) <| ?_
              refine ha_off 7 rfl rfl rfl rfl (by kernel_rfl) (by kernel_rfl) (by kernel_rfl) (by first | assumption | exact Ent.refl _ | exact Ent.nil _ | (repeat (first | exact Ent.refl _ | exact Ent.nil _ | refine Ent.pick ?_))) <| ?_
              refine ha_off 8 rfl rfl rfl rfl (by kernel_rfl) (by kernel_rfl) (by kernel_rfl) (by first | assumption | exact Ent.refl _ | exact Ent.nil _ | (repeat (first | exact Ent.refl _ | exact Ent.nil _ | refine Ent.pick ?_))) <| ?_
              refine ha_off 10 rfl rfl rfl rfl (by kernel_rfl) (by kernel_rfl) (by kernel_rfl) (by first | assumption | exact Ent.refl _ | exact Ent.nil _ | (repeat (first | exact Ent.refl _ | exact Ent.nil _ | refine Ent.pick ?_))) <| ?_
              refine ha_off 11 rfl rfl rfl rfl (by kernel_rfl) (by kernel_rfl) (by kernel_rfl) (by first | assumption | exact Ent.refl _ | exact Ent.nil _ | (repeat (first | exact Ent.refl _ | exact Ent.nil _ | refine Ent.pick ?_))) <| ?_
              refine ha_off 12 rfl rfl rfl rfl (by kernel_rfl) (by kernel_rfl) (by kernel_rfl) (by first | assumption | exact Ent.refl _ | exact Ent.nil _ | (repeat (first | exact Ent.refl _ | exact Ent.nil _ | refine Ent.pick ?_))) <| ?_
              refine ha_off 13 rfl rfl rfl rfl (by kernel_rfl) (by kernel_rfl) (by kernel_rfl) (by first | assumption | exact Ent.refl _ | exact Ent.nil _ | (repeat (first | exact Ent.refl _ | exact Ent.nil _ | refine Ent.pick ?_))) <| ?_
              refine ha_one 9 (by kernel_rfl) <|
                ho_off rfl rfl rfl rfl (by first | assumption | exact Ent.refl _ | exact Ent.nil _ | (repeat (first | exact Ent.refl _ | exact Ent.nil _ | refine Ent.pick ?_))) <| ?_
              refine ha_one 14 (by kernel_rfl) <|
                ho_off rfl rfl rfl rfl (by first | assumption | exact Ent.refl _ | exact Ent.nil _ | (repeat (first | exact Ent.refl _ | exact Ent.nil _ | refine Ent.pick ?_))) <| ?_
              refine ha_off 15 rfl rfl rfl rfl (by kernel_rfl) (by kernel_rfl) (by kernel_rfl) (by first | assumption | exact Ent.refl _ | exact Ent.nil _ | (repeat (first | exact Ent.refl _ | exact Ent.nil _ | refine Ent.pick ?_))) <| ?_
              refine ha_take 16 rfl (ov_pickT rfl rfl) rfl rfl rfl (by kernel_rfl) (by kernel_rfl) (by kernel_rfl) (by first | assumption | exact Ent.refl _ | exact Ent.nil _ | (repeat (first | exact Ent.refl _ | exact Ent.nil _ | refine Ent.pick ?_))) <| ?_
              refine ha_take 17 rfl (ov_move rfl) rfl rfl rfl (by kernel_rfl) (by kernel_rfl) (by kernel_rfl) (by first | assumption | exact Ent.refl _ | exact Ent.nil _ | (repeat (first | exact Ent.refl _ | exact Ent.nil _ | refine Ent.pick ?_))) <| ?_
              refine ha_one 18 (by kernel_rfl) <| ?_
              refine ho_c rfl Try.call16 rfl rfl rfl (fun w1 H1 => Own.calln H1 fun D' hold hin H2 => wakes_spec D' w1) (by first | assumption | exact Ent.refl _ | exact Ent.nil _ | (repeat (first | exact Ent.refl _ | exact Ent.nil _ | refine Ent.pick ?_))) ?_
              refine ha_take 19 rfl (ov_pickT rfl rfl) rfl rfl rfl (by kernel_rfl) (by kernel_rfl) (by kernel_rfl) (by first | assumption | exact Ent.refl _ | exact Ent.nil _ | (repeat (first | exact Ent.refl _ | exact Ent.nil _ | refine Ent.pick ?_))) <| ?_
              refine ha_take 20 rfl (ov_assign rfl) rfl rfl rfl (by kernel_rfl) (by kernel_rfl) (by kernel_rfl) (by first | assumption | exact Ent.refl _ | exact Ent.nil _ | (repeat (first | exact Ent.refl _ | exact Ent.nil _ | refine Ent.pick ?_))) <| ?_
              refine ha_done (by kernel_rfl) <|
                hx_then_normal <|
                hc_ret <| ?_
              exact results_1 (.inr rfl) rfl rfl fun w' H' => ⟨rfl, H'.ent (Ent.nil _)⟩
            · rcases hs4 with ⟨hno4, rfl, hne4, he4⟩ | ⟨hg4, rfl, rfl⟩
              · refine hl_val (ov_move rfl) rfl rfl rfl <|
                  hl_val (ov_extract rfl rfl) rfl rfl rfl <|
                  hl_val (ov_extract rfl rfl) rfl rfl rfl <|
                  hl_val (ov_assign rfl) rfl rfl rfl <|
                  hl_val (ov_assign rfl) rfl rfl rfl <|
                  hl_nil <| ?_
                refine hx_then_normal <|
                  hc_seq <| ?_
                refine hc_any [] mixed 21 rfl ?_
                refine ha_take 0 rfl (ov_move rfl) rfl rfl rfl (by kernel_rfl) (by kernel_rfl) (by kernel_rfl) (by first | assumption | exact Ent.refl _ | exact Ent.nil _ | (repeat (first | exact Ent.refl _ | exact Ent.nil _ | refine Ent.pick ?_))) <| ?_
                refine ha_take 1 rfl (ov_neq rfl rfl) rfl rfl rfl (by kernel_rfl) (by kernel_rfl) (by kernel_rfl) (by first | assumption | exact Ent.refl _ | exact Ent.nil _ | (repeat (first | exact Ent.refl _ | exact Ent.nil _ | refine Ent.pick ?_))) <| ?_
                refine ha_take 2 rfl (ov_move rfl) rfl rfl rfl (by kernel_rfl) (by kernel_rfl) (by kernel_rfl) (by first | assumption | exact Ent.refl _ | exact Ent.nil _ | (repeat (first | exact Ent.refl _ | exact Ent.nil _ | refine Ent.pick ?_))) <| ?_
                refine ha_partF (t := 75) rfl ((fun h => h rfl)) ?_
                refine ha_take 3 rfl (ov_move rfl) rfl rfl rfl (by kernel_rfl) (by kernel_rfl) (by kernel_rfl) (by first | assumption | exact Ent.refl _ | exact Ent.nil _ | (repeat (first | exact Ent.refl _ | exact Ent.nil _ | refine Ent.pick ?_))) <| ?_
                refine ha_take 4 rfl (ov_neq rfl rfl) rfl rfl rfl (by kernel_rfl) (by kernel_rfl) (by kernel_rfl) (by first | assumption | exact Ent.refl _ | exact Ent.nil _ | (repeat (first | exact Ent.refl _ | exact Ent.nil _ | refine Ent.pick ?_))) <| ?_
                refine ha_take 5 rfl (ov_pickF rfl rfl) rfl rfl rfl (by kernel_rfl) (by kernel_rfl) (by kernel_rfl) (by first | assumption | exact Ent.refl _ | exact Ent.nil _ | (repeat (first | exact Ent.refl _ | exact Ent.nil _ | refine Ent.pick ?_))) <| ?_
                refine ha_take 6 rfl (ov_move rfl) rfl rfl rfl (by kernel_rfl) (by kernel_rfl) (by kernel_rfl) (by first | assumption | exact Ent.refl _ | exact Ent.nil _ | (repeat (first | exact Ent.refl _ | exact Ent.nil _ | refine Ent.pick ?_))) <| ?_
                refine ha_partT (t := 79) rfl (hne4) ?_
                refine ha_off 7 rfl rfl rfl rfl (by kernel_rfl) (by kernel_rfl) (by kernel_rfl) (by first | assumption | exact Ent.refl _ | exact Ent.nil _ | (repeat (first | exact Ent.refl _ | exact Ent.nil _ | refine Ent.pick ?_))) <| ?_
                refine ha_off 8 rfl rfl rfl rfl (by kernel_rfl) (by kernel_rfl) (by kernel_rfl) (by first | assumption | exact Ent.refl _ | exact Ent.nil _ | (repeat (first | exact Ent.refl _ | exact Ent.nil _ | refine Ent.pick ?_))) <| ?_
                refine ha_off 10 rfl rfl rfl rfl (by kernel_rfl) (by kernel_rfl) (by kernel_rfl) (by first | assumption | exact Ent.refl _ | exact Ent.nil _ | (repeat (first | exact Ent.refl _ | exact Ent.nil _ | refine Ent.pick ?_))) <| ?_
                refine ha_off 11 rfl rfl rfl rfl (by kernel_rfl) (by kernel_rfl) (by kernel_rfl) (by first | assumption | exact Ent.refl _ | exact Ent.nil _ | (repeat (first | exact Ent.refl _ | exact Ent.nil _ | refine Ent.pick ?_))) <| ?_
                refine ha_off 12 rfl rfl rfl rfl (by kernel_rfl) (by kernel_rfl) (by kernel_rfl) (by first | assumption | exact Ent.refl _ | exact Ent.nil _ | (repeat (first | exact Ent.refl _ | exact Ent.nil _ | refine Ent.pick ?_))) <| ?_
                refine ha_off 13 rfl rfl rfl rfl (by kernel_rfl) (by kernel_rfl) (by kernel_rfl) (by first | assumption | exact Ent.refl _ | exact Ent.nil _ | (repeat (first | exact Ent.refl _ | exact Ent.nil _ | refine Ent.pick ?_))) <| ?_
                refine ha_one 9 (by kernel_rfl) <|
                  ho_off rfl rfl rfl rfl (by first | assumption | exact Ent.refl _ | exact Ent.nil _ | (repeat (first | exact Ent.refl _ | exact Ent.nil _ | refine Ent.pick ?_))) <| ?_
                refine ha_one 14 (by kernel_rfl) <|
                  ho_off rfl rfl rfl rfl (by first | assumption | exact Ent.refl _ | exact Ent.nil _ | (repeat (first | exact Ent.refl _ | exact Ent.nil _ | refine Ent.pick ?_))) <| ?_
                refine ha_off 15 rfl rfl rfl rfl (by kernel_rfl) (by kernel_rfl) (by kernel_rfl) (by first | assumption | exact Ent.refl _ | exact Ent.nil _ | (repeat (first | exact Ent.refl _ | exact Ent.nil _ | refine Ent.pick ?_))) <| ?_
                refine ha_take 16 rfl (ov_pickT rfl rfl) rfl rfl rfl (by kernel_rfl) (by kernel_rfl) (by kernel_rfl) (by first | assumption | exact Ent.refl _ | exact Ent.nil _ | (repeat (first | exact Ent.refl _ | exact Ent.nil _ | refine Ent.pick ?_))) <| ?_
                refine ha_take 17 rfl (ov_move rfl) rfl rfl rfl (by kernel_rfl) (by kernel_rfl) (by kernel_rfl) (by first | assumption | exact Ent.refl _ | exact Ent.nil _ | (repeat (first | exact Ent.refl _ | exact Ent.nil _ | refine Ent.pick ?_))) <| ?_
                refine ha_one 18 (by kernel_rfl) <| ?_
                refine ho_c rfl Try.call16 rfl rfl rfl (fun w1 H1 => Own.calln H1 fun D' hold hin H2 => wakes_spec D' w1) (by first | assumption | exact Ent.refl _ | exact Ent.nil _ | (repeat (first | exact Ent.refl _ | exact Ent.nil _ | refine Ent.pick ?_))) ?_
                refine ha_take 19 rfl (ov_pickT rfl rfl) rfl rfl rfl (by kernel_rfl) (by kernel_rfl) (by kernel_rfl) (by first | assumption | exact Ent.refl _ | exact Ent.nil _ | (repeat (first | exact Ent.refl _ | exact Ent.nil _ | refine Ent.pick ?_))) <| ?_
                refine ha_take 20 rfl (ov_assign rfl) rfl rfl rfl (by kernel_rfl) (by kernel_rfl) (by kernel_rfl) (by first | assumption | exact Ent.refl _ | exact Ent.nil _ | (repeat (first | exact Ent.refl _ | exact Ent.nil _ | refine Ent.pick ?_))) <| ?_
                refine ha_done (by kernel_rfl) <|
                  hx_then_normal <|
                  hc_ret <| ?_
                exact results_1 (.inr rfl) rfl rfl fun w' H' => ⟨rfl, H'.ent (Ent.nil _)⟩
              · refine hl_val (ov_move rfl) rfl rfl rfl <|
                  hl_val (ov_extract rfl rfl) rfl rfl rfl <|
                  hl_val (ov_extract rfl rfl) rfl rfl rfl <|
                  hl_val (ov_assign rfl) rfl rfl rfl <|
                  hl_val (ov_assign rfl) rfl rfl rfl <|
                  hl_nil <| ?_
                refine hx_then_normal <|
                  hc_seq <| ?_
                refine hc_any [blk b5 28 [.slice Al l.length cl, .slice Bm m.length cm]] mixed 21 rfl ?_
                refine ha_take 0 rfl (ov_move rfl) rfl rfl rfl (by kernel_rfl) (by kernel_rfl) (by kernel_rfl) (by first | assumption | exact Ent.refl _ | exact Ent.nil _ | (repeat (first | exact Ent.refl _ | exact Ent.nil _ | refine Ent.pick ?_))) <| ?_
                refine ha_take 1 rfl (ov_neq rfl rfl) rfl rfl rfl (by kernel_rfl) (by kernel_rfl) (by kernel_rfl) (by first | assumption | exact Ent.refl _ | exact Ent.nil _ | (repeat (first | exact Ent.refl _ | exact Ent.nil _ | refine Ent.pick ?_))) <| ?_
                refine ha_take 2 rfl (ov_move rfl) rfl rfl rfl (by kernel_rfl) (by kernel_rfl) (by kernel_rfl) (by first | assumption | exact Ent.refl _ | exact Ent.nil _ | (repeat (first | exact Ent.refl _ | exact Ent.nil _ | refine Ent.pick ?_))) <| ?_
                refine ha_partF (t := 75) rfl ((fun h => h rfl)) ?_
                refine ha_take 3 rfl (ov_move rfl) rfl rfl rfl (by kernel_rfl) (by kernel_rfl) (by kernel_rfl) (by first | assumption | exact Ent.refl _ | exact Ent.nil _ | (repeat (first | exact Ent.refl _ | exact Ent.nil _ | refine Ent.pick ?_))) <| ?_
                refine ha_take 4 rfl (ov_neq rfl rfl) rfl rfl rfl (by kernel_rfl) (by kernel_rfl) (by kernel_rfl) (by first | assumption | exact Ent.refl _ | exact Ent.nil _ | (repeat (first | exact Ent.refl _ | exact Ent.nil _ | refine Ent.pick ?_))) <| ?_
                refine ha_take 5 rfl (ov_pickF rfl rfl) rfl rfl rfl (by kernel_rfl) (by kernel_rfl) (by kernel_rfl) (by first | assumption | exact Ent.refl _ | exact Ent.nil _ | (repeat (first | exact Ent.refl _ | exact Ent.nil _ | refine Ent.pick ?_))) <| ?_
                refine ha_take 6 rfl (ov_move rfl) rfl rfl rfl (by kernel_rfl) (by kernel_rfl) (by kernel_rfl) (by first | assumption | exact Ent.refl _ | exact Ent.nil _ | (repeat (first | exact Ent.refl _ | exact Ent.nil _ | refine Ent.pick ?_))) <| ?_
                refine ha_partF (t := 79) rfl ((fun h => h rfl)) ?_
                refine ha_take 7 rfl (ov_move rfl) rfl rfl rfl (by kernel_rfl) (by kernel_rfl) (by kernel_rfl) (by first | assumption | exact Ent.refl _ | exact Ent.nil _ | (repeat (first | exact Ent.refl _ | exact Ent.nil _ | refine Ent.pick ?_))) <| ?_
                refine ha_take 8 rfl (ov_move rfl) rfl rfl rfl (by kernel_rfl) (by kernel_rfl) (by kernel_rfl) (by first | assumption | exact Ent.refl _ | exact Ent.nil _ | (repeat (first | exact Ent.refl _ | exact Ent.nil _ | refine Ent.pick ?_))) <| ?_
                refine ha_take 10 rfl (ov_idxPc rfl rfl rfl rfl rfl) rfl rfl rfl (by kernel_rfl) (by kernel_rfl) (by kernel_rfl) (by first | assumption | exact Ent.refl _ | exact Ent.nil _ | (repeat (first | exact Ent.refl _ | exact Ent.nil _ | refine Ent.pick ?_))) <| ?_
                refine ha_take 11 rfl (ov_load rfl (CellIs.blk rfl)) rfl rfl rfl (by kernel_rfl) (by kernel_rfl) (by kernel_rfl) (by first | assumption | exact Ent.refl _ | exact Ent.nil _ | (repeat (first | exact Ent.refl _ | exact Ent.nil _ | refine Ent.pick ?_))) <| ?_
                refine ha_take 12 rfl (ov_idxPc rfl rfl rfl rfl rfl) rfl rfl rfl (by kernel_rfl) (by kernel_rfl) (by kernel_rfl) (by first | assumption | exact Ent.refl _ | exact Ent.nil _ | (repeat (first | exact Ent.refl _ | exact Ent.nil _ | refine Ent.pick ?_))) <| ?_
                refine ha_take 13 rfl (ov_load rfl (CellIs.blk rfl)) rfl rfl rfl (by kernel_rfl) (by kernel_rfl) (by kernel_rfl) (by first | assumption | exact Ent.refl _ | exact Ent.nil _ | (repeat (first | exact Ent.refl _ | exact Ent.nil _ | refine Ent.pick ?_))) <| ?_
                refine ha_one 9 (by kernel_rfl) <| ?_
                refine ho_c rfl Try.call18 rfl rfl rfl (fun w1 H1 => Own.calln H1 fun D' hold hin H2 => Bytes_spec D' w1 _ _ (edsB l) (edsB m) (hin _ fun h hs ho => rep_row (A := A3) hs (edsB l) rfl (repL_bytes.2 rfl)) (hin _ fun h hs ho => rep_row (A := A4) hs (edsB m) rfl (repL_bytes.2 rfl))) (by first | assumption | exact Ent.refl _ | exact Ent.nil _ | (repeat (first | exact Ent.refl _ | exact Ent.nil _ | refine Ent.pick ?_))) ?_
                refine ha_one 14 (by kernel_rfl) <| ?_
                refine ho_call (σ := BIff (l = m)) rfl Try.call21 rfl rfl rfl (fun w1 H1 => Own.callx0 H1 fun D' hold hin H2 => keepE_spec D' w1 _ _ l m (hold _ hl) (hold _ hm)) (fun _ => (by first | assumption | exact Ent.refl _ | exact Ent.nil _ | (repeat (first | exact Ent.refl _ | exact Ent.nil _ | refine Ent.pick ?_)))) ?_
                intro bk
                try rw [List.nil_append]
                have hbk : decide (edsB l = edsB m) = bk.1 := by rw [Bool.eq_iff_iff, decide_eq_true_iff, edsB_inj hg3 hg4]; exact bk.2.symm
                refine ha_take 15 rfl (ov_eqlB rfl rfl) rfl rfl rfl (by kernel_rfl) (by kernel_rfl) (by kernel_rfl) (by first | assumption | exact Ent.refl _ | exact Ent.nil _ | (repeat (first | exact Ent.refl _ | exact Ent.nil _ | refine Ent.pick ?_))) <| ?_
                refine ha_take 16 rfl (ov_pickF rfl rfl) rfl rfl rfl (by kernel_rfl) (by kernel_rfl) (by kernel_rfl) (by first | assumption | exact Ent.refl _ | exact Ent.nil _ | (repeat (first | exact Ent.refl _ | exact Ent.nil _ | refine Ent.pick ?_))) <| ?_
                refine ha_take 17 rfl (ov_move rfl) rfl rfl rfl (by kernel_rfl) (by kernel_rfl) (by kernel_rfl) (by first | assumption | exact Ent.refl _ | exact Ent.nil _ | (repeat (first | exact Ent.refl _ | exact Ent.nil _ | refine Ent.pick ?_))) <| ?_
                refine ha_partT (t := 90) rfl (hbk) ?_
                refine ha_one 18 (by kernel_rfl) <| ?_
                refine ho_c rfl Try.call16 rfl rfl rfl (fun w1 H1 => Own.calln H1 fun D' hold hin H2 => wakes_spec D' w1) (by first | assumption | exact Ent.refl _ | exact Ent.nil _ | (repeat (first | exact Ent.refl _ | exact Ent.nil _ | refine Ent.pick ?_))) ?_
                refine ha_take 19 rfl (ov_pickT rfl rfl) rfl rfl rfl (by kernel_rfl) (by kernel_rfl) (by kernel_rfl) (by first | assumption | exact Ent.refl _ | exact Ent.nil _ | (repeat (first | exact Ent.refl _ | exact Ent.nil _ | refine Ent.pick ?_))) <| ?_
                refine ha_take 20 rfl (ov_assign rfl) rfl rfl rfl (by kernel_rfl) (by kernel_rfl) (by kernel_rfl) (by first | assumption | exact Ent.refl _ | exact Ent.nil _ | (repeat (first | exact Ent.refl _ | exact Ent.nil _ | refine Ent.pick ?_))) <| ?_
                refine ha_done (by kernel_rfl) <|
                  hx_then_normal <|
                  hc_ret <| ?_
                exact results_1 (.inr rfl) rfl rfl fun w' H' => ⟨rfl, H'.ent (Ent.nil _)⟩
          · rcases hs2 with ⟨hno2, rfl, hne2, he2⟩ | ⟨hg2, rfl, rfl⟩
            · refine hl_val (ov_move rfl) rfl rfl rfl <|
                hl_val (ov_extract rfl rfl) rfl rfl rfl <|
                hl_val (ov_extract rfl rfl) rfl rfl rfl <|
                hl_val (ov_assign rfl) rfl rfl rfl <|
                hl_val (ov_assign rfl) rfl rfl rfl <|
                hl_nil <| ?_
              refine hx_then_normal <|
                hc_seq <|
                hc_seq <| ?_
              refine hc_any [] mixed 15 rfl ?_
              refine ha_take 0 rfl (ov_move rfl) rfl rfl rfl (by kernel_rfl) (by kernel_rfl) (by kernel_rfl) (by first | assumption | exact Ent.refl _ | exact Ent.nil _ | (repeat (first | exact Ent.refl _ | exact Ent.nil _ | refine Ent.pick ?_))) <| ?_
              refine ha_take 1 rfl (ov_eql rfl rfl) rfl rfl rfl (by kernel_rfl) (by kernel_rfl) (by kernel_rfl) (by first | assumption | exact Ent.refl _ | exact Ent.nil _ | (repeat (first | exact Ent.refl _ | exact Ent.nil _ | refine Ent.pick ?_))) <| ?_
              refine ha_take 2 rfl (ov_move rfl) rfl rfl rfl (by kernel_rfl) (by kernel_rfl) (by kernel_rfl) (by first | assumption | exact Ent.refl _ | exact Ent.nil _ | (repeat (first | exact Ent.refl _ | exact Ent.nil _ | refine Ent.pick ?_))) <| ?_
              refine ha_partT (t := 48) rfl (rfl) ?_
              refine ha_take 3 rfl (ov_move rfl) rfl rfl rfl (by kernel_rfl) (by kernel_rfl) (by kernel_rfl) (by first | assumption | exact Ent.refl _ | exact Ent.nil _ | (repeat (first | exact Ent.refl _ | exact Ent.nil _ | refine Ent.pick ?_))) <| ?_
              refine ha_take 4 rfl (ov_eql rfl rfl) rfl rfl rfl (by kernel_rfl) (by kernel_rfl) (by kernel_rfl) (by first | assumption | exact Ent.refl _ | exact Ent.nil _ | (repeat (first | exact Ent.refl _ | exact Ent.nil _ | refine Ent.pick ?_))) <| ?_
              refine ha_take 5 rfl (ov_pickT rfl rfl) rfl rfl rfl (by kernel_rfl) (by kernel_rfl) (by kernel_rfl) (by first | assumption | exact Ent.refl _ | exact Ent.nil _ | (repeat (first | exact Ent.refl _ | exact Ent.nil _ | refine Ent.pick ?_))) <| ?_
              refine ha_take 6 rfl (ov_move rfl) rfl rfl rfl (by kernel_rfl) (by kernel_rfl) (by kernel_rfl) (by first | assumption | exact Ent.refl _ | exact Ent.nil _ | (repeat (first | exact Ent.refl _ | exact Ent.nil _ | refine Ent.pick ?_))) <| ?_
              refine ha_partF (t := 52) rfl (hne2) ?_
              refine ha_off 7 rfl rfl rfl rfl (by kernel_rfl) (by kernel_rfl) (by kernel_rfl) (by first | assumption | exact Ent.refl _ | exact Ent.nil _ | (repeat (first | exact Ent.refl _ | exact Ent.nil _ | refine Ent.pick ?_))) <| ?_
              refine ha_off 8 rfl rfl rfl rfl (by kernel_rfl) (by kernel_rfl) (by kernel_rfl) (by first | assumption | exact Ent.refl _ | exact Ent.nil _ | (repeat (first | exact Ent.refl _ | exact Ent.nil _ | refine Ent.pick ?_))) <| ?_
              refine ha_off 10 rfl rfl rfl rfl (by kernel_rfl) (by kernel_rfl) (by kernel_rfl) (by first | assumption | exact Ent.refl _ | exact Ent.nil _ | (repeat (first | exact Ent.refl _ | exact Ent.nil _ | refine Ent.pick ?_))) <| ?_
              refine ha_off 11 rfl rfl rfl rfl (by kernel_rfl) (by kernel_rfl) (by kernel_rfl) (by first | assumption | exact Ent.refl _ | exact Ent.nil _ | (repeat (first | exact Ent.refl _ | exact Ent.nil _ | refine Ent.pick ?_))) <| ?_
              refine ha_one 9 (by kernel_rfl) <|
                ho_off rfl rfl rfl rfl (by first | assumption | exact Ent.refl _ | exact Ent.nil _ | (repeat (first | exact Ent.refl _ | exact Ent.nil _ | refine Ent.pick ?_))) <| ?_
              refine ha_one 12 (by kernel_rfl) <|
                ho_off rfl rfl rfl rfl (by first | assumption | exact Ent.refl _ | exact Ent.nil _ | (repeat (first | exact Ent.refl _ | exact Ent.nil _ | refine Ent.pick ?_))) <| ?_
              refine ha_off 13 rfl rfl rfl rfl (by kernel_rfl) (by kernel_rfl) (by kernel_rfl) (by first | assumption | exact Ent.refl _ | exact Ent.nil _ | (repeat (first | exact Ent.refl _ | exact Ent.nil _ | refine Ent.pick ?_))) <| ?_
              refine ha_take 14 rfl (ov_pickF rfl rfl) rfl rfl rfl (by kernel_rfl) (by kernel_rfl) (by kernel_rfl) (by first | assumption | exact Ent.refl _ | exact Ent.nil _ | (repeat (first | exact Ent.refl _ | exact Ent.nil _ | refine Ent.pick ?_))) <| ?_
              refine ha_done (by kernel_rfl) <|
                hx_then_normal <|
                hc_cond_false rfl <|
                hc_skip <|
                hx_then_normal <|
                hc_seq <| ?_
              refine hc_region <|
                hl_val (ov_idxPc rfl rfl rfl rfl rfl) rfl rfl rfl <|
                hl_val (ov_load rfl (CellIs.blk rfl)) rfl rfl rfl <| ?_
              refine hl_call (σ := ResT (okEds l) (edsB l) (fun e => e = if 32 < l.length then 3 else 11)) Try.call20 rfl rfl (fun w1 H1 => Own.callx0 H1 fun D' hold hin H2 => Edits_res D' w1 _ l (by omega) (hold _ hl)) ?_
              intro s3
              try rw [List.nil_append]
              obtain ⟨⟨⟨A3, k3⟩, b3', e3⟩, hs3⟩ := s3
              dsimp only at hs3 ⊢
              refine hl_val (ov_move rfl) rfl rfl rfl <|
                hl_val (ov_extract rfl rfl) rfl rfl rfl <|
                hl_val (ov_extract rfl rfl) rfl rfl rfl <|
                hl_val (ov_assign rfl) rfl rfl rfl <|
                hl_val (ov_assign rfl) rfl rfl rfl <|
                hl_nil <| ?_
              refine hx_then_normal <|
                hc_seq <|
                hc_region <|
                hl_val (ov_idxPc rfl rfl rfl rfl rfl) rfl rfl rfl <|
                hl_val (ov_load rfl (CellIs.blk rfl)) rfl rfl rfl <| ?_
              refine hl_call (σ := ResT (okEds m) (edsB m) (fun e => e = if 32 < m.length then 3 else 11)) Try.call20 rfl rfl (fun w1 H1 => Own.callx0 H1 fun D' hold hin H2 => Edits_res D' w1 _ m (by omega) (hold _ hm)) ?_
              intro s4
              try rw [List.nil_append]
              obtain ⟨⟨⟨A4, k4⟩, b4', e4⟩, hs4⟩ := s4
              dsimp only at hs4 ⊢
              rcases hs3 with ⟨hno3, rfl, hne3, he3⟩ | ⟨hg3, rfl, rfl⟩
              · refine hl_val (ov_move rfl) rfl rfl rfl <|
                  hl_val (ov_extract rfl rfl) rfl rfl rfl <|
                  hl_val (ov_extract rfl rfl) rfl rfl rfl <|
                  hl_val (ov_assign rfl) rfl rfl rfl <|
                  hl_val (ov_assign rfl) rfl rfl rfl <|
                  hl_nil <| ?_
                refine hx_then_normal <|
                  hc_seq <| ?_
                refine hc_any [] mixed 21 rfl ?_
                refine ha_take 0 rfl (ov_move rfl) rfl rfl rfl (by kernel_rfl) (by kernel_rfl) (by kernel_rfl) (by first | assumption | exact Ent.refl _ | exact Ent.nil _ | (repeat (first | exact Ent.refl _ | exact Ent.nil _ | refine Ent.pick ?_))) <| ?_
                refine ha_take 1 rfl (ov_neq rfl rfl) rfl rfl rfl (by kernel_rfl) (by kernel_rfl) (by kernel_rfl) (by first | assumption | exact Ent.refl _ | exact Ent.nil _ | (repeat (first | exact Ent.refl _ | exact Ent.nil _ | refine Ent.pick ?_))) <| ?_
                refine ha_take 2 rfl (ov_move rfl) rfl rfl rfl (by kernel_rfl) (by kernel_rfl) (by kernel_rfl) (by first | assumption | exact Ent.refl _ | exact Ent.nil _ | (repeat (first | exact Ent.refl _ | exact Ent.nil _ | refine Ent.pick ?_))) <| ?_
                refine ha_partT (t := 75) rfl (hne3) ?_
                refine ha_off 3 rfl rfl rfl rfl (by kernel_rfl) (by kernel_rfl) (by kernel_rfl) (by first | assumption | exact Ent.refl _ | exact Ent.nil _ | (repeat (first | exact Ent.refl _ | exact Ent.nil _ | refine Ent.pick ?_))) <| ?_
                refine ha_off 4 rfl rfl rfl rfl (by kernel_rfl) (by kernel_rfl) (by kernel_rfl) (by first | assumption | exact Ent.refl _ | exact Ent.nil _ | (repeat (first | exact Ent.refl _ | exact Ent.nil _ | refine Ent.pick ?_))) <| ?_
                refine ha_take 5 rfl (ov_pickT rfl rfl) rfl rfl rfl (by kernel_rfl) (by kernel_rfl) (by kernel_rfl) (by first | assumption | exact Ent.refl _ | exact Ent.nil _ | (repeat (first | exact Ent.refl _ | exact Ent.nil _ | refine Ent.pick ?_))) <| ?_
                refine ha_take 6 rfl (ov_move rfl) rfl rfl rfl (by kernel_rfl) (by kernel_rfl) (by kernel_rfl) (by first | assumption | exact Ent.refl _ | exact Ent.nil _ | (repeat (first | exact Ent.refl _ | exact Ent.nil _ | refine Ent.pick ?_))) <| ?_
                refine ha_off 7 rfl rfl rfl rfl (by kernel_rfl) (by kernel_rfl) (by kernel_rfl) (by first | assumption | exact Ent.refl _ | exact Ent.nil _ | (repeat (first | exact Ent.refl _ | exact Ent.nil _ | refine Ent.pick ?_))) <| ?_
                refine ha_off 8 rfl rfl rfl rfl (by kernel_rfl) (by kernel_rfl) (by kernel_rfl) (by first | assumption | exact Ent.refl _ | exact Ent.nil _ | (repeat (first | exact Ent.refl _ | exact Ent.nil _ | refine Ent.pick ?_))) <| ?_
                refine ha_off 10 rfl rfl rfl rfl (by kernel_rfl) (by kernel_rfl) (by kernel_rfl) (by first | assumption | exact Ent.refl _ | exact Ent.nil _ | (repeat (first | exact Ent.refl _ | exact Ent.nil _ | refine Ent.pick ?_))) <| ?_
                refine ha_off 11 rfl rfl rfl rfl (by kernel_rfl) (by kernel_rfl) (by kernel_rfl) (by first | assumption | exact Ent.refl _ | exact Ent.nil _ | (repeat (first | exact Ent.refl _ | exact Ent.nil _ | refine Ent.pick ?_))) <| ?_
                refine ha_off 12 rfl rfl rfl rfl (by kernel_rfl) (by kernel_rfl) (by kernel_rfl) (by first | assumption | exact Ent.refl _ | exact Ent.nil _ | (repeat (first | exact Ent.refl _ | exact Ent.nil _ | refine Ent.pick ?_))) <| ?_
                refine ha_off 13 rfl rfl rfl rfl (by kernel_rfl) (by kernel_rfl) (by kernel_rfl) (by first | assumption | exact Ent.refl _ | exact Ent.nil _ | (repeat (first | exact Ent.refl _ | exact Ent.nil _ | refine Ent.pick ?_))) <| ?_
                refine ha_one 9 (by kernel_rfl) <|
                  ho_off rfl rfl rfl rfl (by first | assumption | exact Ent.refl _ | exact Ent.nil _ | (repeat (first | exact Ent.refl _ | exact Ent.nil _ | refine Ent.pick ?_))) <| ?_
                refine ha_one 14 (by kernel_rfl) <|
                  ho_off rfl rfl rfl rfl (by first | assumption | exact Ent.refl _ | exact Ent.nil _ | (repeat (first | exact Ent.refl _ | exact Ent.nil _ | refine Ent.pick ?_))) <| ?_
                refine ha_off 15 rfl rfl rfl rfl (by kernel_rfl) (by kernel_rfl) (by kernel_rfl) (by first | assumption | exact Ent.refl _ | exact Ent.nil _ | (repeat (first | exact Ent.refl _ | exact Ent.nil _ | refine Ent.pick ?_))) <| ?_
                refine ha_take 16 rfl (ov_pickT rfl rfl) rfl rfl rfl (by kernel_rfl) (by kernel_rfl) (by kernel_rfl) (by first | assumption | exact Ent.refl _ | exact Ent.nil _ | (repeat (first | exact Ent.refl _ | exact Ent.nil _ | refine Ent.pick ?_))) <| ?_
                refine ha_take 17 rfl (ov_move rfl) rfl rfl rfl (by kernel_rfl) (by kernel_rfl) (by kernel_rfl) (by first | assumption | exact Ent.refl _ | exact Ent.nil _ | (repeat (first | exact Ent.refl _ | exact Ent.nil _ | refine Ent.pick ?_))) <| ?_
                refine ha_one 18 (by kernel_rfl) <| ?_
                refine ho_c rfl Try.call16 rfl rfl rfl (fun w1 H1 => Own.calln H1 fun D' hold hin H2 => wakes_spec D' w1) (by first | assumption | exact Ent.refl _ | exact Ent.nil _ | (repeat (first | exact Ent.refl _ | exact Ent.nil _ | refine Ent.pick ?_))) ?_
                refine ha_take 19 rfl (ov_pickT rfl rfl) rfl rfl rfl (by kernel_rfl) (by kernel_rfl) (by kernel_rfl) (by first | assumption | exact Ent.refl _ | exact Ent.nil _ | (repeat (first | exact Ent.refl _ | exact Ent.nil _ | refine Ent.pick ?_))) <| ?_
                refine ha_take 20 rfl (ov_assign rfl) rfl rfl rfl (by kernel_rfl) (by kernel_rfl) (by kernel_rfl) (by first | assumption | exact Ent.refl _ | exact Ent.nil _ | (repeat (first | exact Ent.refl _ | exact Ent.nil _ | refine Ent.pick ?_))) <| ?_
                refine ha_done (by kernel_rfl) <|
                  hx_then_normal <|
                  hc_ret <| ?_
                exact results_1 (.inr rfl) rfl rfl fun w' H' => ⟨rfl, H'.ent (Ent.nil _)⟩
              · rcases hs4 with ⟨hno4, rfl, hne4, he4⟩ | ⟨hg4, rfl, rfl⟩
                · refine hl_val (ov_move rfl) rfl rfl rfl <|
                    hl_val (ov_extract rfl rfl) rfl rfl rfl <|
                    hl_val (ov_extract rfl rfl) rfl rfl rfl <|
                    hl_val (ov_assign rfl) rfl rfl rfl <|
                    hl_val (ov_assign rfl) rfl rfl rfl <|
                    hl_nil <| ?_
                  refine hx_then_normal <|
                    hc_seq <| ?_
                  refine hc_any [] mixed 21 rfl ?_
                  refine ha_take 0 rfl (ov_move rfl) rfl rfl rfl (by kernel_rfl) (by kernel_rfl) (by kernel_rfl) (by first | assumption | exact Ent.refl _ | exact Ent.nil _ | (repeat (first | exact Ent.refl _ | exact Ent.nil _ | refine Ent.pick ?_))) <| ?_
                  refine ha_take 1 rfl (ov_neq rfl rfl) rfl rfl rfl (by kernel_rfl) (by kernel_rfl) (by kernel_rfl) (by first | assumption | exact Ent.refl _ | exact Ent.nil _ | (repeat (first | exact Ent.refl _ | exact Ent.nil _ | refine Ent.pick ?_))) <| ?_
                  refine ha_take 2 rfl (ov_move rfl) rfl rfl rfl (by kernel_rfl) (by kernel_rfl) (by kernel_rfl) (by first | assumption | exact Ent.refl _ | exact Ent.nil _ | (repeat (first | exact Ent.refl _ | exact Ent.nil _ | refine Ent.pick ?_))) <| ?_
                  refine ha_partF (t := 75) rfl ((fun h => h rfl)) ?_
                  refine ha_take 3 rfl (ov_move rfl) rfl rfl rfl (by kernel_rfl) (by kernel_rfl) (by kernel_rfl) (by first | assumption | exact Ent.refl _ | exact Ent.nil _ | (repeat (first | exact Ent.refl _ | exact Ent.nil _ | refine Ent.pick ?_))) <| ?_
                  refine ha_take 4 rfl (ov_neq rfl rfl) rfl rfl rfl (by kernel_rfl) (by kernel_rfl) (by kernel_rfl) (by first | assumption | exact Ent.refl _ | exact Ent.nil _ | (repeat (first | exact Ent.refl _ | exact Ent.nil _ | refine Ent.pick ?_))) <| ?_
                  refine ha_take 5 rfl (ov_pickF rfl rfl) rfl rfl rfl (by kernel_rfl) (by kernel_rfl) (by kernel_rfl) (by first | assumption | exact Ent.refl _ | exact Ent.nil _ | (repeat (first | exact Ent.refl _ | exact Ent.nil _ | refine Ent.pick ?_))) <| ?_
                  refine ha_take 6 rfl (ov_move rfl) rfl rfl rfl (by kernel_rfl) (by kernel_rfl) (by kernel_rfl) (by first | assumption | exact Ent.refl _ | exact Ent.nil _ | (repeat (first | exact Ent.refl _ | exact Ent.nil _ | refine Ent.pick ?_))) <| ?_
                  refine ha_partT (t := 79) rfl (hne4) ?_
                  refine ha_off 7 rfl rfl rfl rfl (by kernel_rfl) (by kernel_rfl) (by kernel_rfl) (by first | assumption | exact Ent.refl _ | exact Ent.nil _ | (repeat (first | exact Ent.refl _ | exact Ent.nil _ | refine Ent.pick ?_))) <| ?_
                  refine ha_off 8 rfl rfl rfl rfl (by kernel_rfl) (by kernel_rfl) (by kernel_rfl) (by first | assumption | exact Ent.refl _ | exact Ent.nil _ | (repeat (first | exact Ent.refl _ | exact Ent.nil _ | refine Ent.pick ?_))) <| ?_
                  refine ha_off 10 rfl rfl rfl rfl (by kernel_rfl) (by kernel_rfl) (by kernel_rfl) (by first | assumption | exact Ent.refl _ | exact Ent.nil _ | (repeat (first | exact Ent.refl _ | exact Ent.nil _ | refine Ent.pick ?_))) <| ?_
                  refine ha_off 11 rfl rfl rfl rfl (by kernel_rfl) (by kernel_rfl) (by kernel_rfl) (by first | assumption | exact Ent.refl _ | exact Ent.nil _ | (repeat (first | exact Ent.refl _ | exact Ent.nil _ | refine Ent.pick ?_))) <| ?_
                  refine ha_off 12 rfl rfl rfl rfl (by kernel_rfl) (by kernel_rfl) (by kernel_rfl) (by first | assumption | exact Ent.refl _ | exact Ent.nil _ | (repeat (first | exact Ent.refl _ | exact Ent.nil _ | refine Ent.pick ?_))) <| ?_
                  refine ha_off 13 rfl rfl rfl rfl (by kernel_rfl) (by kernel_rfl) (by kernel_rfl) (by first | assumption | exact Ent.refl _ | exact Ent.nil _ | (repeat (first | exact Ent.refl _ | exact Ent.nil _ | refine Ent.pick ?_))) <| ?_
                  refine ha_one 9 (by kernel_rfl) <|
                    ho_off rfl rfl rfl rfl (by first | assumption | exact Ent.refl _ | exact Ent.nil _ | (repeat (first | exact Ent.refl _ | exact Ent.nil _ | refine Ent.pick ?_))) <| ?_
                  refine ha_one 14 (by kernel_rfl) <|
                    ho_off rfl rfl rfl rfl (by first | assumption | exact Ent.refl _ | exact Ent.nil _ | (repeat (first | exact Ent.refl _ | exact Ent.nil _ | refine Ent.pick ?_))) <| ?_
                  refine ha_off 15 rfl rfl rfl rfl (by kernel_rfl) (by kernel_rfl) (by kernel_rfl) (by first | assumption | exact Ent.refl _ | exact Ent.nil _ | (repeat (first | exact Ent.refl _ | exact Ent.nil _ | refine Ent.pick ?_))) <| ?_
                  refine ha_take 16 rfl (ov_pickT rfl rfl) rfl rfl rfl (by kernel_rfl) (by kernel_rfl) (by kernel_rfl) (by first | assumption | exact Ent.refl _ | exact Ent.nil _ | (repeat (first | exact Ent.refl _ | exact Ent.nil _ | refine Ent.pick ?_))) <| ?_
                  refine ha_take 17 rfl (ov_move rfl) rfl rfl rfl (by kernel_rfl) (by kernel_rfl) (by kernel_rfl) (by first | assumption | exact Ent.refl _ | exact Ent.nil _ | (repeat (first | exact Ent.refl _ | exact Ent.nil _ | refine Ent.pick ?_))) <| ?_
                  refine ha_one 18 (by kernel_rfl) <| ?_
                  refine ho_c rfl Try.call16 rfl rfl rfl (fun w1 H1 => Own.calln H1 fun D' hold hin H2 => wakes_spec D' w1) (by first | assumption | exact Ent.refl _ | exact Ent.nil _ | (repeat (first | exact Ent.refl _ | exact Ent.nil _ | refine Ent.pick ?_))) ?_
                  refine ha_take 19 rfl (ov_pickT rfl rfl) rfl rfl rfl (by kernel_rfl) (by kernel_rfl) (by kernel_rfl) (by first | assumption | exact Ent.refl _ | exact Ent.nil _ | (repeat (first | exact Ent.refl _ | exact Ent.nil _ | refine Ent.pick ?_))) <| ?_
                  refine ha_take 20 rfl (ov_assign rfl) rfl rfl rfl (by kernel_rfl) (by kernel_rfl) (by kernel_rfl) (by first | assumption | exact Ent.refl _ | exact Ent.nil _ | (repeat (first | exact Ent.refl _ | exact Ent.nil _ | refine Ent.pick ?_))) <| ?_
                  refine ha_done (by kernel_rfl) <|
                    hx_then_normal <|
                    hc_ret <| ?_
                  exact results_1 (.inr rfl) rfl rfl fun w' H' => ⟨rfl, H'.ent (Ent.nil _)⟩
                · refine hl_val (ov_move rfl) rfl rfl rfl <|
                    hl_val (ov_extract rfl rfl) rfl rfl rfl <|
                    hl_val (ov_extract rfl rfl) rfl rfl rfl <|
                    hl_val (ov_assign rfl) rfl rfl rfl <|
                    hl_val (ov_assign rfl) rfl rfl rfl <|
                    hl_nil <| ?_
                  refine hx_then_normal <|
                    hc_seq <| ?_
                  refine hc_any [blk b5 28 [.slice Al l.length cl, .slice Bm m.length cm]] mixed 21 rfl ?_
                  refine ha_take 0 rfl (ov_move rfl) rfl rfl rfl (by kernel_rfl) (by kernel_rfl) (by kernel_rfl) (by first | assumption | exact Ent.refl _ | exact Ent.nil _ | (repeat (first | exact Ent.refl _ | exact Ent.nil _ | refine Ent.pick ?_))) <| ?_
                  refine ha_take 1 rfl (ov_neq rfl rfl) rfl rfl rfl (by kernel_rfl) (by kernel_rfl) (by kernel_rfl) (by first | assumption | exact Ent.refl _ | exact Ent.nil _ | (repeat (first | exact Ent.refl _ | exact Ent.nil _ | refine Ent.pick ?_))) <| ?_
                  refine ha_take 2 rfl (ov_move rfl) rfl rfl rfl (by kernel_rfl) (by kernel_rfl) (by kernel_rfl) (by first | assumption | exact Ent.refl _ | exact Ent.nil _ | (repeat (first | exact Ent.refl _ | exact Ent.nil _ | refine Ent.pick ?_))) <| ?_
                  refine ha_partF (t := 75) rfl ((fun h => h rfl)) ?_
                  refine ha_take 3 rfl (ov_move rfl) rfl rfl rfl (by kernel_rfl) (by kernel_rfl) (by kernel_rfl) (by first | assumption | exact Ent.refl _ | exact Ent.nil _ | (repeat (first | exact Ent.refl _ | exact Ent.nil _ | refine Ent.pick ?_))) <| ?_
                  refine ha_take 4 rfl (ov_neq rfl rfl) rfl rfl rfl (by kernel_rfl) (by kernel_rfl) (by kernel_rfl) (by first | assumption | exact Ent.refl _ | exact Ent.nil _ | (repeat (first | exact Ent.refl _ | exact Ent.nil _ | refine Ent.pick ?_))) <| ?_
                  refine ha_take 5 rfl (ov_pickF rfl rfl) rfl rfl rfl (by kernel_rfl) (by kernel_rfl) (by kernel_rfl) (by first | assumption | exact Ent.refl _ | exact Ent.nil _ | (repeat (first | exact Ent.refl _ | exact Ent.nil _ | refine Ent.pick ?_))) <| ?_
                  refine ha_take 6 rfl (ov_move rfl) rfl rfl rfl (by kernel_rfl) (by kernel_rfl) (by kernel_rfl) (by first | assumption | exact Ent.refl _ | exact Ent.nil _ | (repeat (first | exact Ent.refl _ | exact Ent.nil _ | refine Ent.pick ?_))) <| ?_
                  refine ha_partF (t := 79) rfl ((fun h => h rfl)) ?_
                  refine ha_take 7 rfl (ov_move rfl) rfl rfl rfl (by kernel_rfl) (by kernel_rfl) (by kernel_rfl) (by first | assumption | exact Ent.refl _ | exact Ent.nil _ | (repeat (first | exact Ent.refl _ | exact Ent.nil _ | refine Ent.pick ?_))) <| ?_
                  refine ha_take 8 rfl (ov_move rfl) rfl rfl rfl (by kernel_rfl) (by kernel_rfl) (by kernel_rfl) (by first | assumption | exact Ent.refl _ | exact Ent.nil _ | (repeat (first | exact Ent.refl _ | exact Ent.nil _ | refine Ent.pick ?_))) <| ?_
                  refine ha_take 10 rfl (ov_idxPc rfl rfl rfl rfl rfl) rfl rfl rfl (by kernel_rfl) (by kernel_rfl) (by kernel_rfl) (by first | assumption | exact Ent.refl _ | exact Ent.nil _ | (repeat (first | exact Ent.refl _ | exact Ent.nil _ | refine Ent.pick ?_))) <| ?_
                  refine ha_take 11 rfl (ov_load rfl (CellIs.blk rfl)) rfl rfl rfl (by kernel_rfl) (by kernel_rfl) (by kernel_rfl) (by first | assumption | exact Ent.refl _ | exact Ent.nil _ | (repeat (first | exact Ent.refl _ | exact Ent.nil _ | refine Ent.pick ?_))) <| ?_
                  refine ha_take 12 rfl (ov_idxPc rfl rfl rfl rfl rfl) rfl rfl rfl (by kernel_rfl) (by kernel_rfl) (by kernel_rfl) (by first | assumption | exact Ent.refl _ | exact Ent.nil _ | (repeat (first | exact Ent.refl _ | exact Ent.nil _ | refine Ent.pick ?_))) <| ?_
                  refine ha_take 13 rfl (ov_load rfl (CellIs.blk rfl)) rfl rfl rfl (by kernel_rfl) (by kernel_rfl) (by kernel_rfl) (by first | assumption | exact Ent.refl _ | exact Ent.nil _ | (repeat (first | exact Ent.refl _ | exact Ent.nil _ | refine Ent.pick ?_))) <| ?_
                  refine ha_one 9 (by kernel_rfl) <| ?_
                  refine ho_c rfl Try.call18 rfl rfl rfl (fun w1 H1 => Own.calln H1 fun D' hold hin H2 => Bytes_spec D' w1 _ _ (edsB l) (edsB m) (hin _ fun h hs ho => rep_row (A := A3) hs (edsB l) rfl (repL_bytes.2 rfl)) (hin _ fun h hs ho => rep_row (A := A4) hs (edsB m) rfl (repL_bytes.2 rfl))) (by first | assumption | exact Ent.refl _ | exact Ent.nil _ | (repeat (first | exact Ent.refl _ | exact Ent.nil _ | refine Ent.pick ?_))) ?_
                  refine ha_one 14 (by kernel_rfl) <| ?_
                  refine ho_call (σ := BIff (l = m)) rfl Try.call21 rfl rfl rfl (fun w1 H1 => Own.callx0 H1 fun D' hold hin H2 => keepE_spec D' w1 _ _ l m (hold _ hl) (hold _ hm)) (fun _ => (by first | assumption | exact Ent.refl _ | exact Ent.nil _ | (repeat (first | exact Ent.refl _ | exact Ent.nil _ | refine Ent.pick ?_)))) ?_
                  intro bk
                  try rw [List.nil_append]
                  have hbk : decide (edsB l = edsB m) = bk.1 := by rw [Bool.eq_iff_iff, decide_eq_true_iff, edsB_inj hg3 hg4]; exact bk.2.symm
                  refine ha_take 15 rfl (ov_eqlB rfl rfl) rfl rfl rfl (by kernel_rfl) (by kernel_rfl) (by kernel_rfl) (by first | assumption | exact Ent.refl _ | exact Ent.nil _ | (repeat (first | exact Ent.refl _ | exact Ent.nil _ | refine Ent.pick ?_))) <| ?_
                  refine ha_take 16 rfl (ov_pickF rfl rfl) rfl rfl rfl (by kernel_rfl) (by kernel_rfl) (by kernel_rfl) (by first | assumption | exact Ent.refl _ | exact Ent.nil _ | (repeat (first | exact Ent.refl _ | exact Ent.nil _ | refine Ent.pick ?_))) <| ?_
                  refine ha_take 17 rfl (ov_move rfl) rfl rfl rfl (by kernel_rfl) (by kernel_rfl) (by kernel_rfl) (by first | assumption | exact Ent.refl _ | exact Ent.nil _ | (repeat (first | exact Ent.refl _ | exact Ent.nil _ | refine Ent.pick ?_))) <| ?_
                  refine ha_partT (t := 90) rfl (hbk) ?_
                  refine ha_one 18 (by kernel_rfl) <| ?_
                  refine ho_c rfl Try.call16 rfl rfl rfl (fun w1 H1 => Own.calln H1 fun D' hold hin H2 => wakes_spec D' w1) (by first | assumption | exact Ent.refl _ | exact Ent.nil _ | (repeat (first | exact Ent.refl _ | exact Ent.nil _ | refine Ent.pick ?_))) ?_
                  refine ha_take 19 rfl (ov_pickT rfl rfl) rfl rfl rfl (by kernel_rfl) (by kernel_rfl) (by kernel_rfl) (by first | assumption | exact Ent.refl _ | exact Ent.nil _ | (repeat (first | exact Ent.refl _ | exact Ent.nil _ | refine Ent.pick ?_))) <| ?_
                  refine ha_take 20 rfl (ov_assign rfl) rfl rfl rfl (by kernel_rfl) (by kernel_rfl) (by kernel_rfl) (by first | assumption | exact Ent.refl _ | exact Ent.nil _ | (repeat (first | exact Ent.refl _ | exact Ent.nil _ | refine Ent.pick ?_))) <| ?_
                  refine ha_done (by kernel_rfl) <|
                    hx_then_normal <|
                    hc_ret <| ?_
                  exact results_1 (.inr rfl) rfl rfl fun w' H' => ⟨rfl, H'.ent (Ent.nil _)⟩
            · refine hl_val (ov_move rfl) rfl rfl rfl <|
                hl_val (ov_extract rfl rfl) rfl rfl rfl <|
                hl_val (ov_extract rfl rfl) rfl rfl rfl <|
                hl_val (ov_assign rfl) rfl rfl rfl <|
                hl_val (ov_assign rfl) rfl rfl rfl <|
                hl_nil <| ?_
              refine hx_then_normal <|
                hc_seq <|
                hc_seq <| ?_
              refine hc_any [blk b4 26 (cfgV d (.slice Bp d.2.2.2.1.length dp) (.slice Bv d.2.2.2.2.1.length dv) (.slice Bs d.2.2.2.2.2.length dx)), blk b3 26 (cfgV c (.slice Ap c.2.2.2.1.length cp) (.slice Av c.2.2.2.2.1.length cv) (.slice As c.2.2.2.2.2.length cx))] mixed 15 rfl ?_
              refine ha_take 0 rfl (ov_move rfl) rfl rfl rfl (by kernel_rfl) (by kernel_rfl) (by kernel_rfl) (by first | assumption | exact Ent.refl _ | exact Ent.nil _ | (repeat (first | exact Ent.refl _ | exact Ent.nil _ | refine Ent.pick ?_))) <| ?_
              refine ha_take 1 rfl (ov_eql rfl rfl) rfl rfl rfl (by kernel_rfl) (by kernel_rfl) (by kernel_rfl) (by first | assumption | exact Ent.refl _ | exact Ent.nil _ | (repeat (first | exact Ent.refl _ | exact Ent.nil _ | refine Ent.pick ?_))) <| ?_
              refine ha_take 2 rfl (ov_move rfl) rfl rfl rfl (by kernel_rfl) (by kernel_rfl) (by kernel_rfl) (by first | assumption | exact Ent.refl _ | exact Ent.nil _ | (repeat (first | exact Ent.refl _ | exact Ent.nil _ | refine Ent.pick ?_))) <| ?_
              refine ha_partT (t := 48) rfl (rfl) ?_
              refine ha_take 3 rfl (ov_move rfl) rfl rfl rfl (by kernel_rfl) (by kernel_rfl) (by kernel_rfl) (by first | assumption | exact Ent.refl _ | exact Ent.nil _ | (repeat (first | exact Ent.refl _ | exact Ent.nil _ | refine Ent.pick ?_))) <| ?_
              refine ha_take 4 rfl (ov_eql rfl rfl) rfl rfl rfl (by kernel_rfl) (by kernel_rfl) (by kernel_rfl) (by first | assumption | exact Ent.refl _ | exact Ent.nil _ | (repeat (first | exact Ent.refl _ | exact Ent.nil _ | refine Ent.pick ?_))) <| ?_
              refine ha_take 5 rfl (ov_pickT rfl rfl) rfl rfl rfl (by kernel_rfl) (by kernel_rfl) (by kernel_rfl) (by first | assumption | exact Ent.refl _ | exact Ent.nil _ | (repeat (first | exact Ent.refl _ | exact Ent.nil _ | refine Ent.pick ?_))) <| ?_
              refine ha_take 6 rfl (ov_move rfl) rfl rfl rfl (by kernel_rfl) (by kernel_rfl) (by kernel_rfl) (by first | assumption | exact Ent.refl _ | exact Ent.nil _ | (repeat (first | exact Ent.refl _ | exact Ent.nil _ | refine Ent.pick ?_))) <| ?_
              refine ha_partT (t := 52) rfl (rfl) ?_
              refine ha_take 7 rfl (ov_move rfl) rfl rfl rfl (by kernel_rfl) (by kernel_rfl) (by kernel_rfl) (by first | assumption | exact Ent.refl _ | exact Ent.nil _ | (repeat (first | exact Ent.refl _ | exact Ent.nil _ | refine Ent.pick ?_))) <| ?_
              refine ha_take 8 rfl (ov_move rfl) rfl rfl rfl (by kernel_rfl) (by kernel_rfl) (by kernel_rfl) (by first | assumption | exact Ent.refl _ | exact Ent.nil _ | (repeat (first | exact Ent.refl _ | exact Ent.nil _ | refine Ent.pick ?_))) <| ?_
              refine ha_take 10 rfl (by first | exact ov_loadW rfl (by simp; done) | exact ov_loadGB rfl rfl) rfl rfl rfl (by kernel_rfl) (by kernel_rfl) (by kernel_rfl) (by first | assumption | exact Ent.refl _ | exact Ent.nil _ | (repeat (first | exact Ent.refl _ | exact Ent.nil _ | refine Ent.pick ?_))) <| ?_
              refine ha_take 11 rfl (by first | exact ov_loadW rfl (by simp; done) | exact ov_loadGB rfl rfl) rfl rfl rfl (by kernel_rfl) (by kernel_rfl) (by kernel_rfl) (by first | assumption | exact Ent.refl _ | exact Ent.nil _ | (repeat (first | exact Ent.refl _ | exact Ent.nil _ | refine Ent.pick ?_))) <| ?_
              refine ha_one 9 (by kernel_rfl) <| ?_
              refine ho_c rfl Try.call18 rfl rfl rfl (fun w1 H1 => Own.calln H1 fun D' hold hin H2 => Bytes_spec D' w1 _ _ (cfgB c) (cfgB d) (hin _ fun h hs ho => rep_row (A := A1) hs (cfgB c) rfl (repL_bytes.2 rfl)) (hin _ fun h hs ho => rep_row (A := A2) hs (cfgB d) rfl (repL_bytes.2 rfl))) (by first | assumption | exact Ent.refl _ | exact Ent.nil _ | (repeat (first | exact Ent.refl _ | exact Ent.nil _ | refine Ent.pick ?_))) ?_
              refine ha_one 12 (by kernel_rfl) <| ?_
              refine ho_call (σ := BIff (c = d)) rfl Try.call19 rfl rfl rfl (fun w1 H1 => Own.callx0 H1 fun D' hold hin H2 => keepC_spec D' w1 c d _ _ _ _ _ _ (HC.hold hold) (HD.hold hold)) (fun _ => (by first | assumption | exact Ent.refl _ | exact Ent.nil _ | (repeat (first | exact Ent.refl _ | exact Ent.nil _ | refine Ent.pick ?_)))) ?_
              intro bk
              try rw [List.nil_append]
              have hbk : decide (cfgB c = cfgB d) = bk.1 := by rw [Bool.eq_iff_iff, decide_eq_true_iff, cfgB_inj hg1.wok hg2.wok]; exact bk.2.symm
              refine ha_take 13 rfl (ov_neqB rfl rfl) rfl rfl rfl (by kernel_rfl) (by kernel_rfl) (by kernel_rfl) (by first | assumption | exact Ent.refl _ | exact Ent.nil _ | (repeat (first | exact Ent.refl _ | exact Ent.nil _ | refine Ent.pick ?_))) <| ?_
              refine ha_take 14 rfl (ov_pickT rfl rfl) rfl rfl rfl (by kernel_rfl) (by kernel_rfl) (by kernel_rfl) (by first | assumption | exact Ent.refl _ | exact Ent.nil _ | (repeat (first | exact Ent.refl _ | exact Ent.nil _ | refine Ent.pick ?_))) <| ?_
              refine ha_done (by kernel_rfl) <|
                hx_then_normal <| ?_
              refine hc_cond_F rfl ((fun h => h hbk)) ?_
              refine hc_skip <|
                hx_then_normal <|
                hc_seq <|
                hc_region <|
                hl_val (ov_idxPc rfl rfl rfl rfl rfl) rfl rfl rfl <|
                hl_val (ov_load rfl (CellIs.blk rfl)) rfl rfl rfl <| ?_
              refine hl_call (σ := ResT (okEds l) (edsB l) (fun e => e = if 32 < l.length then 3 else 11)) Try.call20 rfl rfl (fun w1 H1 => Own.callx0 H1 fun D' hold hin H2 => Edits_res D' w1 _ l (by omega) (hold _ hl)) ?_
              intro s3
              try rw [List.nil_append]
              obtain ⟨⟨⟨A3, k3⟩, b3', e3⟩, hs3⟩ := s3
              dsimp only at hs3 ⊢
              refine hl_val (ov_move rfl) rfl rfl rfl <|
                hl_val (ov_extract rfl rfl) rfl rfl rfl <|
                hl_val (ov_extract rfl rfl) rfl rfl rfl <|
                hl_val (ov_assign rfl) rfl rfl rfl <|
                hl_val (ov_assign rfl) rfl rfl rfl <|
                hl_nil <| ?_
              refine hx_then_normal <|
                hc_seq <|
                hc_region <|
                hl_val (ov_idxPc rfl rfl rfl rfl rfl) rfl rfl rfl <|
                hl_val (ov_load rfl (CellIs.blk rfl)) rfl rfl rfl <| ?_
              refine hl_call (σ := ResT (okEds m) (edsB m) (fun e => e = if 32 < m.length then 3 else 11)) Try.call20 rfl rfl (fun w1 H1 => Own.callx0 H1 fun D' hold hin H2 => Edits_res D' w1 _ m (by omega) (hold _ hm)) ?_
              intro s4
              try rw [List.nil_append]
              obtain ⟨⟨⟨A4, k4⟩, b4', e4⟩, hs4⟩ := s4
              dsimp only at hs4 ⊢
              rcases hs3 with ⟨hno3, rfl, hne3, he3⟩ | ⟨hg3, rfl, rfl⟩
              · refine hl_val (ov_move rfl) rfl rfl rfl <|
                  hl_val (ov_extract rfl rfl) rfl rfl rfl <|
                  hl_val (ov_extract rfl rfl) rfl rfl rfl <|
                  hl_val (ov_assign rfl) rfl rfl rfl <|
                  hl_val (ov_assign rfl) rfl rfl rfl <|
                  hl_nil <| ?_
                refine hx_then_normal <|
                  hc_seq <| ?_
                refine hc_any [] mixed 21 rfl ?_
                refine ha_take 0 rfl (ov_move rfl) rfl rfl rfl (by kernel_rfl) (by kernel_rfl) (by kernel_rfl) (by first | assumption | exact Ent.refl _ | exact Ent.nil _ | (repeat (first | exact Ent.refl _ | exact Ent.nil _ | refine Ent.pick ?_))) <| ?_
                refine ha_take 1 rfl (ov_neq rfl rfl) rfl rfl rfl (by kernel_rfl) (by kernel_rfl) (by kernel_rfl) (by first | assumption | exact Ent.refl _ | exact Ent.nil _ | (repeat (first | exact Ent.refl _ | exact Ent.nil _ | refine Ent.pick ?_))) <| ?_
                refine ha_take 2 rfl (ov_move rfl) rfl rfl rfl (by kernel_rfl) (by kernel_rfl) (by kernel_rfl) (by first | assumption | exact Ent.refl _ | exact Ent.nil _ | (repeat (first | exact Ent.refl _ | exact Ent.nil _ | refine Ent.pick ?_))) <| ?_
                refine ha_partT (t := 75) rfl (hne3) ?_
                refine ha_off 3 rfl rfl rfl rfl (by kernel_rfl) (by kernel_rfl) (by kernel_rfl) (by first | assumption | exact Ent.refl _ | exact Ent.nil _ | (repeat (first | exact Ent.refl _ | exact Ent.nil _ | refine Ent.pick ?_))) <| ?_
                refine ha_off 4 rfl rfl rfl rfl (by kernel_rfl) (by kernel_rfl) (by kernel_rfl) (by first | assumption | exact Ent.refl _ | exact Ent.nil _ | (repeat (first | exact Ent.refl _ | exact Ent.nil _ | refine Ent.pick ?_))) <| ?_
                refine ha_take 5 rfl (ov_pickT rfl rfl) rfl rfl rfl (by kernel_rfl) (by kernel_rfl) (by kernel_rfl) (by first | assumption | exact Ent.refl _ | exact Ent.nil _ | (repeat (first | exact Ent.refl _ | exact Ent.nil _ | refine Ent.pick ?_))) <| ?_
                refine ha_take 6 rfl (ov_move rfl) rfl rfl rfl (by kernel_rfl) (by kernel_rfl) (by kernel_rfl) (by first | assumption | exact Ent.refl _ | exact Ent.nil _ | (repeat (first | exact Ent.refl _ | exact Ent.nil _ | refine Ent.pick ?_))) <| ?_
                refine ha_off 7 rfl rfl rfl rfl (by kernel_rfl) (by kernel_rfl) (by kernel_rfl) (by first | assumption | exact Ent.refl _ | exact Ent.nil _ | (repeat (first | exact Ent.refl _ | exact Ent.nil _ | refine Ent.pick ?_))) <| ?_
                refine ha_off 8 rfl rfl rfl rfl (by kernel_rfl) (by kernel_rfl) (by kernel_rfl) (by first | assumption | exact Ent.refl _ | exact Ent.nil _ | (repeat (first | exact Ent.refl _ | exact Ent.nil _ | refine Ent.pick ?_))) <| ?_
                refine ha_off 10 rfl rfl rfl rfl (by kernel_rfl) (by kernel_rfl) (by kernel_rfl) (by first | assumption | exact Ent.refl _ | exact Ent.nil _ | (repeat (first | exact Ent.refl _ | exact Ent.nil _ | refine Ent.pick ?_))) <| ?_
                refine ha_off 11 rfl rfl rfl rfl (by kernel_rfl) (by kernel_rfl) (by kernel_rfl) (by first | assumption | exact Ent.refl _ | exact Ent.nil _ | (repeat (first | exact Ent.refl _ | exact Ent.nil _ | refine Ent.pick ?_))) <| ?_
                refine ha_off 12 rfl rfl rfl rfl (by kernel_rfl) (by kernel_rfl) (by kernel_rfl) (by first | assumption | exact Ent.refl _ | exact Ent.nil _ | (repeat (first | exact Ent.refl _ | exact Ent.nil _ | refine Ent.pick ?_))) <| ?_
                refine ha_off 13 rfl rfl rfl rfl (by kernel_rfl) (by kernel_rfl) (by kernel_rfl) (by first | assumption | exact Ent.refl _ | exact Ent.nil _ | (repeat (first | exact Ent.refl _ | exact Ent.nil _ | refine Ent.pick ?_))) <| ?_
                refine ha_one 9 (by kernel_rfl) <|
                  ho_off rfl rfl rfl rfl (by first | assumption | exact Ent.refl _ | exact Ent.nil _ | (repeat (first | exact Ent.refl _ | exact Ent.nil _ | refine Ent.pick ?_))) <| ?_
                refine ha_one 14 (by kernel_rfl) <|
                  ho_off rfl rfl rfl rfl (by first | assumption | exact Ent.refl _ | exact Ent.nil _ | (repeat (first | exact Ent.refl _ | exact Ent.nil _ | refine Ent.pick ?_))) <| ?_
                refine ha_off 15 rfl rfl rfl rfl (by kernel_rfl) (by kernel_rfl) (by kernel_rfl) (by first | assumption | exact Ent.refl _ | exact Ent.nil _ | (repeat (first | exact Ent.refl _ | exact Ent.nil _ | refine Ent.pick ?_))) <| ?_
                refine ha_take 16 rfl (ov_pickT rfl rfl) rfl rfl rfl (by kernel_rfl) (by kernel_rfl) (by kernel_rfl) (by first | assumption | exact Ent.refl _ | exact Ent.nil _ | (repeat (first | exact Ent.refl _ | exact Ent.nil _ | refine Ent.pick ?_))) <| ?_
                refine ha_take 17 rfl (ov_move rfl) rfl rfl rfl (by kernel_rfl) (by kernel_rfl) (by kernel_rfl) (by first | assumption | exact Ent.refl _ | exact Ent.nil _ | (repeat (first | exact Ent.refl _ | exact Ent.nil _ | refine Ent.pick ?_))) <| ?_
                refine ha_one 18 (by kernel_rfl) <| ?_
                refine ho_c rfl Try.call16 rfl rfl rfl (fun w1 H1 => Own.calln H1 fun D' hold hin H2 => wakes_spec D' w1) (by first | assumption | exact Ent.refl _ | exact Ent.nil _ | (repeat (first | exact Ent.refl _ | exact Ent.nil _ | refine Ent.pick ?_))) ?_
                refine ha_take 19 rfl (ov_pickT rfl rfl) rfl rfl rfl (by kernel_rfl) (by kernel_rfl) (by kernel_rfl) (by first | assumption | exact Ent.refl _ | exact Ent.nil _ | (repeat (first | exact Ent.refl _ | exact Ent.nil _ | refine Ent.pick ?_))) <| ?_
                refine ha_take 20 rfl (ov_assign rfl) rfl rfl rfl (by kernel_rfl) (by kernel_rfl) (by kernel_rfl) (by first | assumption | exact Ent.refl _ | exact Ent.nil _ | (repeat (first | exact Ent.refl _ | exact Ent.nil _ | refine Ent.pick ?_))) <| ?_
                refine ha_done (by kernel_rfl) <|
                  hx_then_normal <|
                  hc_ret <| ?_
                exact results_1 (.inr rfl) rfl rfl fun w' H' => ⟨rfl, H'.ent (Ent.nil _)⟩
              · rcases hs4 with ⟨hno4, rfl, hne4, he4⟩ | ⟨hg4, rfl, rfl⟩
                · refine hl_val (ov_move rfl) rfl rfl rfl <|
                    hl_val (ov_extract rfl rfl) rfl rfl rfl <|
                    hl_val (ov_extract rfl rfl) rfl rfl rfl <|
                    hl_val (ov_assign rfl) rfl rfl rfl <|
                    hl_val (ov_assign rfl) rfl rfl rfl <|
                    hl_nil <| ?_
                  refine hx_then_normal <|
                    hc_seq <| ?_
                  refine hc_any [] mixed 21 rfl ?_
                  refine ha_take 0 rfl (ov_move rfl) rfl rfl rfl (by kernel_rfl) (by kernel_rfl) (by kernel_rfl) (by first | assumption | exact Ent.refl _ | exact Ent.nil _ | (repeat (first | exact Ent.refl _ | exact Ent.nil _ | refine Ent.pick ?_))) <| ?_
                  refine ha_take 1 rfl (ov_neq rfl rfl) rfl rfl rfl (by kernel_rfl) (by kernel_rfl) (by kernel_rfl) (by first | assumption | exact Ent.refl _ | exact Ent.nil _ | (repeat (first | exact Ent.refl _ | exact Ent.nil _ | refine Ent.pick ?_))) <| ?_
                  refine ha_take 2 rfl (ov_move rfl) rfl rfl rfl (by kernel_rfl) (by kernel_rfl) (by kernel_rfl) (by first | assumption | exact Ent.refl _ | exact Ent.nil _ | (repeat (first | exact Ent.refl _ | exact Ent.nil _ | refine Ent.pick ?_))) <| ?_
                  refine ha_partF (t := 75) rfl ((fun h => h rfl)) ?_
                  refine ha_take 3 rfl (ov_move rfl) rfl rfl rfl (by kernel_rfl) (by kernel_rfl) (by kernel_rfl) (by first | assumption | exact Ent.refl _ | exact Ent.nil _ | (repeat (first | exact Ent.refl _ | exact Ent.nil _ | refine Ent.pick ?_))) <| ?_
                  refine ha_take 4 rfl (ov_neq rfl rfl) rfl rfl rfl (by kernel_rfl) (by kernel_rfl) (by kernel_rfl) (by first | assumption | exact Ent.refl _ | exact Ent.nil _ | (repeat (first | exact Ent.refl _ | exact Ent.nil _ | refine Ent.pick ?_))) <| ?_
                  refine ha_take 5 rfl (ov_pickF rfl rfl) rfl rfl rfl (by kernel_rfl) (by kernel_rfl) (by kernel_rfl) (by first | assumption | exact Ent.refl _ | exact Ent.nil _ | (repeat (first | exact Ent.refl _ | exact Ent.nil _ | refine Ent.pick ?_))) <| ?_
                  refine ha_take 6 rfl (ov_move rfl) rfl rfl rfl (by kernel_rfl) (by kernel_rfl) (by kernel_rfl) (by first | assumption | exact Ent.refl _ | exact Ent.nil _ | (repeat (first | exact Ent.refl _ | exact Ent.nil _ | refine Ent.pick ?_))) <| ?_
                  refine ha_partT (t := 79) rfl (hne4) ?_
                  refine ha_off 7 rfl rfl rfl rfl (by kernel_rfl) (by kernel_rfl) (by kernel_rfl) (by first | assumption | exact Ent.refl _ | exact Ent.nil _ | (repeat (first | exact Ent.refl _ | exact Ent.nil _ | refine Ent.pick ?_))) <| ?_
                  refine ha_off 8 rfl rfl rfl rfl (by kernel_rfl) (by kernel_rfl) (by kernel_rfl) (by first | assumption | exact Ent.refl _ | exact Ent.nil _ | (repeat (first | exact Ent.refl _ | exact Ent.nil _ | refine Ent.pick ?_))) <| ?_
                  refine ha_off 10 rfl rfl rfl rfl (by kernel_rfl) (by kernel_rfl) (by kernel_rfl) (by first | assumption | exact Ent.refl _ | exact Ent.nil _ | (repeat (first | exact Ent.refl _ | exact Ent.nil _ | refine Ent.pick ?_))) <| ?_
                  refine ha_off 11 rfl rfl rfl rfl (by kernel_rfl) (by kernel_rfl) (by kernel_rfl) (by first | assumption | exact Ent.refl _ | exact Ent.nil _ | (repeat (first | exact Ent.refl _ | exact Ent.nil _ | refine Ent.pick ?_))) <| ?_
                  refine ha_off 12 rfl rfl rfl rfl (by kernel_rfl) (by kernel_rfl) (by kernel_rfl) (by first | assumption | exact Ent.refl _ | exact Ent.nil _ | (repeat (first | exact Ent.refl _ | exact Ent.nil _ | refine Ent.pick ?_))) <| ?_
                  refine ha_off 13 rfl rfl rfl rfl (by kernel_rfl) (by kernel_rfl) (by kernel_rfl) (by first | assumption | exact Ent.refl _ | exact Ent.nil _ | (repeat (first | exact Ent.refl _ | exact Ent.nil _ | refine Ent.pick ?_))) <| ?_
                  refine ha_one 9 (by kernel_rfl) <|
                    ho_off rfl rfl rfl rfl (by first | assumption | exact Ent.refl _ | exact Ent.nil _ | (repeat (first | exact Ent.refl _ | exact Ent.nil _ | refine Ent.pick ?_))) <| ?_
                  refine ha_one 14 (by kernel_rfl) <|
                    ho_off rfl rfl rfl rfl (by first | assumption | exact Ent.refl _ | exact Ent.nil _ | (repeat (first | exact Ent.refl _ | exact Ent.nil _ | refine Ent.pick ?_))) <| ?_
                  refine ha_off 15 rfl rfl rfl rfl (by kernel_rfl) (by kernel_rfl) (by kernel_rfl) (by first | assumption | exact Ent.refl _ | exact Ent.nil _ | (repeat (first | exact Ent.refl _ | exact Ent.nil _ | refine Ent.pick ?_))) <| ?_
                  refine ha_take 16 rfl (ov_pickT rfl rfl) rfl rfl rfl (by kernel_rfl) (by kernel_rfl) (by kernel_rfl) (by first | assumption | exact Ent.refl _ | exact Ent.nil _ | (repeat (first | exact Ent.refl _ | exact Ent.nil _ | refine Ent.pick ?_))) <| ?_
                  refine ha_take 17 rfl (ov_move rfl) rfl rfl rfl (by kernel_rfl) (by kernel_rfl) (by kernel_rfl) (by first | assumption | exact Ent.refl _ | exact Ent.nil _ | (repeat (first | exact Ent.refl _ | exact Ent.nil _ | refine Ent.pick ?_))) <| ?_
                  refine ha_one 18 (by kernel_rfl) <| ?_
                  refine ho_c rfl Try.call16 rfl rfl rfl (fun w1 H1 => Own.calln H1 fun D' hold hin H2 => wakes_spec D' w1) (by first | assumption | exact Ent.refl _ | exact Ent.nil _ | (repeat (first | exact Ent.refl _ | exact Ent.nil _ | refine Ent.pick ?_))) ?_
                  refine ha_take 19 rfl (ov_pickT rfl rfl) rfl rfl rfl (by kernel_rfl) (by kernel_rfl) (by kernel_rfl) (by first | assumption | exact Ent.refl _ | exact Ent.nil _ | (repeat (first | exact Ent.refl _ | exact Ent.nil _ | refine Ent.pick ?_))) <| ?_
                  refine ha_take 20 rfl (ov_assign rfl) rfl rfl rfl (by kernel_rfl) (by kernel_rfl) (by kernel_rfl) (by first | assumption | exact Ent.refl _ | exact Ent.nil _ | (repeat (first | exact Ent.refl _ | exact Ent.nil _ | refine Ent.pick ?_))) <| ?_
                  refine ha_done (by kernel_rfl) <|
                    hx_then_normal <|
                    hc_ret <| ?_
                  exact results_1 (.inr rfl) rfl rfl fun w' H' => ⟨rfl, H'.ent (Ent.nil _)⟩
                · refine hl_val (ov_move rfl) rfl rfl rfl <|
                    hl_val (ov_extract rfl rfl) rfl rfl rfl <|
                    hl_val (ov_extract rfl rfl) rfl rfl rfl <|
                    hl_val (ov_assign rfl) rfl rfl rfl <|
                    hl_val (ov_assign rfl) rfl rfl rfl <|
                    hl_nil <| ?_
                  refine hx_then_normal <|
                    hc_seq <| ?_
                  refine hc_any [blk b5 28 [.slice Al l.length cl, .slice Bm m.length cm]] mixed 21 rfl ?_
                  refine ha_take 0 rfl (ov_move rfl) rfl rfl rfl (by kernel_rfl) (by kernel_rfl) (by kernel_rfl) (by first | assumption | exact Ent.refl _ | exact Ent.nil _ | (repeat (first | exact Ent.refl _ | exact Ent.nil _ | refine Ent.pick ?_))) <| ?_
                  refine ha_take 1 rfl (ov_neq rfl rfl) rfl rfl rfl (by kernel_rfl) (by kernel_rfl) (by kernel_rfl) (by first | assumption | exact Ent.refl _ | exact Ent.nil _ | (repeat (first | exact Ent.refl _ | exact Ent.nil _ | refine Ent.pick ?_))) <| ?_
                  refine ha_take 2 rfl (ov_move rfl) rfl rfl rfl (by kernel_rfl) (by kernel_rfl) (by kernel_rfl) (by first | assumption | exact Ent.refl _ | exact Ent.nil _ | (repeat (first | exact Ent.refl _ | exact Ent.nil _ | refine Ent.pick ?_))) <| ?_
                  refine ha_partF (t := 75) rfl ((fun h => h rfl)) ?_
                  refine ha_take 3 rfl (ov_move rfl) rfl rfl rfl (by kernel_rfl) (by kernel_rfl) (by kernel_rfl) (by first | assumption | exact Ent.refl _ | exact Ent.nil _ | (repeat (first | exact Ent.refl _ | exact Ent.nil _ | refine Ent.pick ?_))) <| ?_
                  refine ha_take 4 rfl (ov_neq rfl rfl) rfl rfl rfl (by kernel_rfl) (by kernel_rfl) (by kernel_rfl) (by first | assumption | exact Ent.refl _ | exact Ent.nil _ | (repeat (first | exact Ent.refl _ | exact Ent.nil _ | refine Ent.pick ?_))) <| ?_
                  refine ha_take 5 rfl (ov_pickF rfl rfl) rfl rfl rfl (by kernel_rfl) (by kernel_rfl) (by kernel_rfl) (by first | assumption | exact Ent.refl _ | exact Ent.nil _ | (repeat (first | exact Ent.refl _ | exact Ent.nil _ | refine Ent.pick ?_))) <| ?_
                  refine ha_take 6 rfl (ov_move rfl) rfl rfl rfl (by kernel_rfl) (by kernel_rfl) (by kernel_rfl) (by first | assumption | exact Ent.refl _ | exact Ent.nil _ | (repeat (first | exact Ent.refl _ | exact Ent.nil _ | refine Ent.pick ?_))) <| ?_
                  refine ha_partF (t := 79) rfl ((fun h => h rfl)) ?_
                  refine ha_take 7 rfl (ov_move rfl) rfl rfl rfl (by kernel_rfl) (by kernel_rfl) (by kernel_rfl) (by first | assumption | exact Ent.refl _ | exact Ent.nil _ | (repeat (first | exact Ent.refl _ | exact Ent.nil _ | refine Ent.pick ?_))) <| ?_
                  refine ha_take 8 rfl (ov_move rfl) rfl rfl rfl (by kernel_rfl) (by kernel_rfl) (by kernel_rfl) (by first | assumption | exact Ent.refl _ | exact Ent.nil _ | (repeat (first | exact Ent.refl _ | exact Ent.nil _ | refine Ent.pick ?_))) <| ?_
                  refine ha_take 10 rfl (ov_idxPc rfl rfl rfl rfl rfl) rfl rfl rfl (by kernel_rfl) (by kernel_rfl) (by kernel_rfl) (by first | assumption | exact Ent.refl _ | exact Ent.nil _ | (repeat (first | exact Ent.refl _ | exact Ent.nil _ | refine Ent.pick ?_))) <| ?_
                  refine ha_take 11 rfl (ov_load rfl (CellIs.blk rfl)) rfl rfl rfl (by kernel_rfl) (by kernel_rfl) (by kernel_rfl) (by first | assumption | exact Ent.refl _ | exact Ent.nil _ | (repeat (first | exact Ent.refl _ | exact Ent.nil _ | refine Ent.pick ?_))) <| ?_
                  refine ha_take 12 rfl (ov_idxPc rfl rfl rfl rfl rfl) rfl rfl rfl (by kernel_rfl) (by kernel_rfl) (by kernel_rfl) (by first | assumption | exact Ent.refl _ | exact Ent.nil _ | (repeat (first | exact Ent.refl _ | exact Ent.nil _ | refine Ent.pick ?_))) <| ?_
                  refine ha_take 13 rfl (ov_load rfl (CellIs.blk rfl)) rfl rfl rfl (by kernel_rfl) (by kernel_rfl) (by kernel_rfl) (by first | assumption | exact Ent.refl _ | exact Ent.nil _ | (repeat (first | exact Ent.refl _ | exact Ent.nil _ | refine Ent.pick ?_))) <| ?_
                  refine ha_one 9 (by kernel_rfl) <| ?_
                  refine ho_c rfl Try.call18 rfl rfl rfl (fun w1 H1 => Own.calln H1 fun D' hold hin H2 => Bytes_spec D' w1 _ _ (edsB l) (edsB m) (hin _ fun h hs ho => rep_row (A := A3) hs (edsB l) rfl (repL_bytes.2 rfl)) (hin _ fun h hs ho => rep_row (A := A4) hs (edsB m) rfl (repL_bytes.2 rfl))) (by first | assumption | exact Ent.refl _ | exact Ent.nil _ | (repeat (first | exact Ent.refl _ | exact Ent.nil _ | refine Ent.pick ?_))) ?_
                  refine ha_one 14 (by kernel_rfl) <| ?_
                  refine ho_call (σ := BIff (l = m)) rfl Try.call21 rfl rfl rfl (fun w1 H1 => Own.callx0 H1 fun D' hold hin H2 => keepE_spec D' w1 _ _ l m (hold _ hl) (hold _ hm)) (fun _ => (by first | assumption | exact Ent.refl _ | exact Ent.nil _ | (repeat (first | exact Ent.refl _ | exact Ent.nil _ | refine Ent.pick ?_)))) ?_
                  intro bk
                  try rw [List.nil_append]
                  have hbk : decide (edsB l = edsB m) = bk.1 := by rw [Bool.eq_iff_iff, decide_eq_true_iff, edsB_inj hg3 hg4]; exact bk.2.symm
                  refine ha_take 15 rfl (ov_eqlB rfl rfl) rfl rfl rfl (by kernel_rfl) (by kernel_rfl) (by kernel_rfl) (by first | assumption | exact Ent.refl _ | exact Ent.nil _ | (repeat (first | exact Ent.refl _ | exact Ent.nil _ | refine Ent.pick ?_))) <| ?_
                  refine ha_take 16 rfl (ov_pickF rfl rfl) rfl rfl rfl (by kernel_rfl) (by kernel_rfl) (by kernel_rfl) (by first | assumption | exact Ent.refl _ | exact Ent.nil _ | (repeat (first | exact Ent.refl _ | exact Ent.nil _ | refine Ent.pick ?_))) <| ?_
                  refine ha_take 17 rfl (ov_move rfl) rfl rfl rfl (by kernel_rfl) (by kernel_rfl) (by kernel_rfl) (by first | assumption | exact Ent.refl _ | exact Ent.nil _ | (repeat (first | exact Ent.refl _ | exact Ent.nil _ | refine Ent.pick ?_))) <| ?_
                  refine ha_partT (t := 90) rfl (hbk) ?_
                  refine ha_one 18 (by kernel_rfl) <| ?_
                  refine ho_c rfl Try.call16 rfl rfl rfl (fun w1 H1 => Own.calln H1 fun D' hold hin H2 => wakes_spec D' w1) (by first | assumption | exact Ent.refl _ | exact Ent.nil _ | (repeat (first | exact Ent.refl _ | exact Ent.nil _ | refine Ent.pick ?_))) ?_
                  refine ha_take 19 rfl (ov_pickT rfl rfl) rfl rfl rfl (by kernel_rfl) (by kernel_rfl) (by kernel_rfl) (by first | assumption | exact Ent.refl _ | exact Ent.nil _ | (repeat (first | exact Ent.refl _ | exact Ent.nil _ | refine Ent.pick ?_))) <| ?_
                  refine ha_take 20 rfl (ov_assign rfl) rfl rfl rfl (by kernel_rfl) (by kernel_rfl) (by kernel_rfl) (by first | assumption | exact Ent.refl _ | exact Ent.nil _ | (repeat (first | exact Ent.refl _ | exact Ent.nil _ | refine Ent.pick ?_))) <| ?_
                  refine ha_done (by kernel_rfl) <|
                    hx_then_normal <|
                    hc_ret <| ?_
                  exact results_1 (.inr rfl) rfl rfl fun w' H' => ⟨rfl, H'.ent (Ent.nil _)⟩
end Go.Proofs.Ytpgpfcplchaleaa
