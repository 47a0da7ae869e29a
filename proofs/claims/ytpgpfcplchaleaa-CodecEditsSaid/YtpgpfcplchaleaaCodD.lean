import Derived.Test.YtpgpfcplchaleaaCodC
set_option linter.unusedVariables false
set_option linter.unusedSimpArgs false
namespace Go.Proofs.Ytpgpfcplchaleaa
open Slk
theorem be1_cells (n : Nat) (h : n < 256) : [Value.int .u8 (n : Int)] = (beB n 1).map u8v := by
  have : beB n 1 = [UInt8.ofNat n] := by simp [beB, List.range_succ]
  rw [this, List.map_cons, List.map_nil, u8v_ofNat, Nat.mod_eq_of_lt h]
theorem be1_int {x : Int} (h0 : 0 ≤ x) (h1 : x < 256) : [Value.int .u8 x] = (beB x.toNat 1).map u8v := by
  rw [← be1_cells _ (by omega), Int.toNat_of_nonneg h0]
theorem be1_u8 (x : UInt8) : [u8v x] = (beB x.toNat 1).map u8v := be1_cells _ x.toNat_lt
theorem REdits_spec (D : Nat → Prop) (w : World) (v : Value) (l : List EditC) (hl : l.length ≤ 1000000) (HA : Old D w (Rep.rep l [v])) :
    Calls Try.prog 22 #[v] w fun e w' => ∃ s : ResT (okEds l) (edsB l) (fun e => e = if 32 < l.length then 3 else 11), e = .returned (.tuple #[.slice s.1.1.1 s.1.2.1.length s.1.1.2, .int .i64 s.1.2.2]) ∧ Own D w w' [row s.1.1.1 5 1 s.1.2.1.length s.1.1.2 (s.1.2.1.map u8v)] := by
  obtain ⟨As, caps, rfl, hs1, hs2, HSs, hsok⟩ := HA.openF
  have HSs : OldS D w As (l.flatMap editV) := HSs
  refine hc_enter (vs := [.slice As l.length caps]) Try.func22 rfl _ Try.ntmps22 rfl (Own.start D w) ?_
  simp only [argSlots, Nat.zero_add]
  refine hc_seq <|
    hc_region <|
    hl_val (ov_assign rfl) rfl rfl rfl <|
    hl_val (ov_assign rfl) rfl rfl rfl <|
    hl_nil <|
    hx_then_normal <| ?_
  refine hc_seq <|
    hc_seq <|
    hc_region <|
    hl_val (ov_move rfl) rfl rfl rfl <|
    hl_val (by first | exact ov_len rfl | exact ov_lenS rfl) rfl rfl rfl <| ?_
  refine hl_val (ov_gtr rfl rfl) rfl rfl rfl <|
    hl_nil <|
    hx_then_normal <| ?_
  refine hc_cond rfl (fun h => ?_) (fun h => ?_)
  · have hno : ¬ okEds l := fun k => by have := k.1; omega
    refine hc_seq <|
      hc_region <|
      hl_val (ov_assign rfl) rfl rfl rfl <|
      hl_val (ov_assign rfl) rfl rfl rfl <|
      hl_nil <|
      hx_then_normal <| ?_
    refine hc_ret <|
      hx_then_ret <| ?_
    exact results_2 (.inr rfl) rfl rfl rfl fun w' H' => ⟨⟨((none, 0), [], 3), .inl ⟨hno, rfl, by decide, by rw [if_pos (by omega)]⟩⟩, rfl, H'.ent (Ent.nil_row _ _)⟩
  · have hl32 : l.length ≤ 32 := by omega
    refine hc_skip <|
      hx_then_normal <|
      hc_seq <|
      hc_region <|
      hl_val (ov_move rfl) rfl rfl rfl <|
      hl_val (by first | exact ov_len rfl | exact ov_lenS rfl) rfl rfl rfl <| ?_
    refine hl_val (ov_conv rfl (by first | exact wrap_u8 (by omega) | rfl)) rfl rfl rfl <| ?_
    refine hl_new (on_buildSliceN rfl rfl rfl) rfl rfl rfl fun b13 =>  ?_
    refine HL.ent (Ent.blk_row 1 1 rfl (by decide)) ?_
    rw [be1_cells l.length (by omega)]
    refine hl_val (ov_assign rfl) rfl rfl rfl <|
      hl_nil <|
      hx_then_normal <|
      hc_seq <|
      hc_seq <|
      hc_region <| ?_
    refine hl_val (ov_assign rfl) rfl rfl rfl <|
      hl_nil <|
      hx_then_normal <|
      hc_block <| ?_
    refine hc_loopK2 (σ := Nat × Nat × List Value × Option Addr × Nat) [0] rfl 5 (fun s => .int .i64 (s.1 : Int)) 4 (fun s => .slice s.2.2.2.1 s.2.1 s.2.2.2.2) (fun s => [row s.2.2.2.1 5 1 s.2.1 s.2.2.2.2 s.2.2.1]) (fun s => (s.1 ≤ l.length ∧ ∀ j (h : j < l.length), j < s.1 → goodE l[j]) ∧ s.2.1 = 1 + 16 * s.1 ∧ s.2.2.1 = (beB l.length 1 ++ (l.take s.1).flatMap edB).map u8v) (fun s => l.length - s.1) ((0, 1, (beB l.length 1).map u8v, some ⟨b13, 0, none⟩, 1)) (⟨⟨Nat.zero_le _, fun j _ h => absurd h (Nat.not_lt_zero _)⟩, rfl, by simp⟩) rfl rfl (by first | assumption | exact Ent.refl _ | exact Ent.nil _ | (repeat (first | exact Ent.refl _ | exact Ent.nil _ | refine Ent.pick ?_))) ?_
    rintro ⟨i, m, cs, A, c⟩ hj_ K1 hK1
    dsimp only at hj_ ⊢
    obtain ⟨⟨hi, hall⟩, hm, hcs⟩ := hj_
    refine hc_seq <|
      hc_seq <|
      hc_region <|
      hl_val (ov_move rfl) rfl rfl rfl <|
      hl_val (ov_move rfl) rfl rfl rfl <|
      hl_val (by first | exact ov_len rfl | exact ov_lenS rfl) rfl rfl rfl <| ?_
    refine hl_val (ov_lss rfl rfl) rfl rfl rfl <|
      hl_nil <|
      hx_then_normal <| ?_
    refine hc_cond rfl (fun h2 => ?_) (fun h2 => ?_)
    · have hlt : i < l.length := by omega
      obtain ⟨hA, hc⟩ := OldS.cells_flat (D := D) (w0 := w) (f := editV) (sz := 7) (fun _ => rfl) (by decide) HSs hlt [row A 5 1 m c cs]
      have hc' := fun l' => (OldS.cells_flat (D := D) (w0 := w) (f := editV) (sz := 7) (fun _ => rfl) (by decide) HSs hlt l').2
      have hsn := edsB_to (beB l.length 1) l i hlt
      have hbad : ¬ goodE l[i] → ¬ okEds l := fun hx k => hx (k.2 i hlt)
      have hnext : goodE l[i] → ∀ j (h : j < l.length), j < i + 1 → goodE l[j] := fun hx j hj h1 => by
        rcases Nat.lt_or_ge j i with h3 | h3
        · exact hall j hj h3
        · obtain rfl : j = i := by omega
          exact hx
      generalize l[i] = x at *
      refine hc_skip <|
        hx_then_normal <|
        hc_seq <|
        hc_block <|
        hc_seq <|
        hc_region <| ?_
      refine hl_val (ov_move rfl) rfl rfl rfl <|
        hl_val (ov_move rfl) rfl rfl rfl <|
        hl_val (ov_idxS rfl (by assumption) rfl _ rfl (by omega)) rfl rfl rfl <| ?_
      refine hl_val (ov_loadG (cs := editV x) rfl rfl (hc' _)) rfl rfl rfl ?_
      refine hl_new (on_alloc) rfl rfl rfl fun b6 =>  ?_
      refine hl_u0 (on_storeW (vs := editV x) rfl rfl (by simp) (by simp) (by simp [Value.oneCell', u8v])) rfl rfl ?_
      refine hl_nil <|
        hx_then_normal <|
        hc_seq <|
        hc_seq <|
        hc_region <|
        hl_val (by first | exact ov_loadW rfl (by simp; done) | exact ov_loadGB rfl rfl) rfl rfl rfl <| ?_
      refine hl_call (σ := BIff (goodE x)) Try.call43 rfl rfl (fun w1 H1 => Own.callx0 H1 fun D' hold hin H2 => form_spec D' w1 x) ?_
      intro r
      try rw [List.nil_append]
      refine hl_val (by first | exact ov_notd rfl | exact ov_not rfl) rfl rfl rfl <| ?_
      refine hl_nil <|
        hx_then_normal <| ?_
      refine hc_cond_bool rfl (fun hb => ?_) (fun hb => ?_)
      · have hno : ¬ okEds l := hbad fun h => by have := r.2.2 h; rw [this] at hb; cases hb
        refine hc_seq <|
          hc_region <|
          hl_val (ov_assign rfl) rfl rfl rfl <|
          hl_val (ov_assign rfl) rfl rfl rfl <|
          hl_nil <|
          hx_then_normal <| ?_
        refine hc_ret <|
          hx_then_ret <|
          hx_block_ret <|
          hx_then_ret <|
          hx_then_ret <|
          hx_block_ret <| ?_
        refine hx_then_ret <| ?_
        exact results_2 (.inr rfl) rfl rfl rfl fun w' H' => ⟨⟨((none, 0), [], 11), .inl ⟨hno, rfl, by decide, by rw [if_neg (by omega)]⟩⟩, rfl, H'.ent (Ent.trans (Ent.nil_row 5 1) (Ent.cons (Ent.nil _)))⟩
      · have hg : goodE x := r.2.1 (by simpa using hb)
        have hn := hnext hg
        obtain ⟨g1, g2, g3, g4, g5, g6, g7, g8, g9⟩ := hg
        refine hc_skip <|
          hx_then_normal <|
          hc_seq <| ?_
        have hm' : m + 2 + 4 + 2 + 2 + 6 = 1 + 16 * (i + 1) := by omega
        have hme : l.length - (i + 1) < l.length - i := by omega
        have hfin : ((((cs ++ [.int .u8 x.1, .int .u8 x.2.1]) ++ (beB x.2.2.1.toNat 4).map u8v) ++ (beB x.2.2.2.1.toNat 2).map u8v) ++ [u8v x.2.2.2.2.1, u8v x.2.2.2.2.2.1]) ++ (beB x.2.2.2.2.2.2.toNat 6).map u8v = (beB l.length 1 ++ (l.take (i + 1)).flatMap edB).map u8v := by
          have e1 : [Value.int .u8 x.1, Value.int .u8 x.2.1] = (beB x.1.toNat 1).map u8v ++ (beB x.2.1.toNat 1).map u8v := by
            rw [← be1_int (by omega) (by omega), ← be1_int (by omega) (by omega)]; rfl
          have e2 : [u8v x.2.2.2.2.1, u8v x.2.2.2.2.2.1] = (beB x.2.2.2.2.1.toNat 1).map u8v ++ (beB x.2.2.2.2.2.1.toNat 1).map u8v := by
            rw [← be1_u8, ← be1_u8]; rfl
          rw [e1, e2, hcs, ← hsn]
          simp only [List.map_append, List.append_assoc]
        refine hc_any [blk b6 64 (editV x)] mixed 15 rfl ?_
        refine ha_take 0 rfl (ov_move rfl) rfl rfl rfl (by kernel_rfl) (by kernel_rfl) (by kernel_rfl) (by first | assumption | exact Ent.refl _ | exact Ent.nil _ | (repeat (first | exact Ent.refl _ | exact Ent.nil _ | refine Ent.pick ?_))) <| ?_
        refine ha_take 1 rfl (ov_fieldA rfl) rfl rfl rfl (by kernel_rfl) (by kernel_rfl) (by kernel_rfl) (by first | assumption | exact Ent.refl _ | exact Ent.nil _ | (repeat (first | exact Ent.refl _ | exact Ent.nil _ | refine Ent.pick ?_))) <| ?_
        refine ha_take 2 rfl (ov_load rfl (CellIs.blk rfl)) rfl rfl rfl (by kernel_rfl) (by kernel_rfl) (by kernel_rfl) (by first | assumption | exact Ent.refl _ | exact Ent.nil _ | (repeat (first | exact Ent.refl _ | exact Ent.nil _ | refine Ent.pick ?_))) <| ?_
        refine ha_take 3 rfl (ov_conv rfl (by first | exact wrap_u8 (by omega) | rfl)) rfl rfl rfl (by kernel_rfl) (by kernel_rfl) (by kernel_rfl) (by first | assumption | exact Ent.refl _ | exact Ent.nil _ | (repeat (first | exact Ent.refl _ | exact Ent.nil _ | refine Ent.pick ?_))) <| ?_
        refine ha_take 4 rfl (ov_fieldA rfl) rfl rfl rfl (by kernel_rfl) (by kernel_rfl) (by kernel_rfl) (by first | assumption | exact Ent.refl _ | exact Ent.nil _ | (repeat (first | exact Ent.refl _ | exact Ent.nil _ | refine Ent.pick ?_))) <| ?_
        refine ha_take 5 rfl (ov_load rfl (CellIs.blk rfl)) rfl rfl rfl (by kernel_rfl) (by kernel_rfl) (by kernel_rfl) (by first | assumption | exact Ent.refl _ | exact Ent.nil _ | (repeat (first | exact Ent.refl _ | exact Ent.nil _ | refine Ent.pick ?_))) <| ?_
        refine ha_take 6 rfl (ov_conv rfl (by first | exact wrap_u8 (by omega) | rfl)) rfl rfl rfl (by kernel_rfl) (by kernel_rfl) (by kernel_rfl) (by first | assumption | exact Ent.refl _ | exact Ent.nil _ | (repeat (first | exact Ent.refl _ | exact Ent.nil _ | refine Ent.pick ?_))) <| ?_
        refine ha_take 9 rfl (ov_fieldA rfl) rfl rfl rfl (by kernel_rfl) (by kernel_rfl) (by kernel_rfl) (by first | assumption | exact Ent.refl _ | exact Ent.nil _ | (repeat (first | exact Ent.refl _ | exact Ent.nil _ | refine Ent.pick ?_))) <| ?_
        refine ha_take 10 rfl (ov_load rfl (CellIs.blk rfl)) rfl rfl rfl (by kernel_rfl) (by kernel_rfl) (by kernel_rfl) (by first | assumption | exact Ent.refl _ | exact Ent.nil _ | (repeat (first | exact Ent.refl _ | exact Ent.nil _ | refine Ent.pick ?_))) <| ?_
        refine ha_take 11 rfl (ov_conv (m := ((x.2.2.1.toNat : Nat) : Int)) rfl (convN (by omega) (by omega))) rfl rfl rfl (by kernel_rfl) (by kernel_rfl) (by kernel_rfl) (by first | assumption | exact Ent.refl _ | exact Ent.nil _ | (repeat (first | exact Ent.refl _ | exact Ent.nil _ | refine Ent.pick ?_))) ?_
        refine ha_one 7 (by kernel_rfl) <|
          ho_new rfl (on_buildSliceN rfl rfl rfl) rfl rfl rfl (fun _ => (by first | assumption | exact Ent.refl _ | exact Ent.nil _ | (repeat (first | exact Ent.refl _ | exact Ent.nil _ | refine Ent.pick ?_)))) fun b34 =>  ?_
        refine ha_one 8 (by kernel_rfl) <| ?_
        refine ho_new rfl (on_appendR (A := A) (news := [.int .u8 x.1, .int .u8 x.2.1]) rfl rfl (SrcIs.blk (b := b34)) rfl (by simp [Value.oneCell']) (by decide) (by omega)) rfl rfl rfl (fun _ => (by first | assumption | exact Ent.refl _ | exact Ent.nil _ | (repeat (first | exact Ent.refl _ | exact Ent.nil _ | refine Ent.pick ?_)))) (fun q2 => ?_)
        refine ha_one 12 (by kernel_rfl) <| ?_
        refine ho_call (σ := { q : Option Addr × Nat // 0 < 4 → isA q.1 }) rfl Try.call44 rfl rfl rfl (fun w1 H1 => Own.callx0 H1 fun D' hold hin H2 => big_spec D' w1 x.2.2.1.toNat 4 (by omega) (by decide)) (fun _ => (by first | assumption | exact Ent.refl _ | exact Ent.nil _ | (repeat (first | exact Ent.refl _ | exact Ent.nil _ | refine Ent.pick ?_)))) ?_
        intro q3
        try rw [List.nil_append]
        refine ha_one 13 (by kernel_rfl) <| ?_
        refine ho_new rfl (on_appendR (A := q2.1) (news := (beB x.2.2.1.toNat 4).map u8v) rfl rfl (SrcIs.rowR (A := q3.1.1) (fun _ => q3.2 (by decide))) (by rw [List.length_map, beB_len]) (u8_one _) (by decide) (by omega)) rfl rfl rfl (fun _ => (by first | assumption | exact Ent.refl _ | exact Ent.nil _ | (repeat (first | exact Ent.refl _ | exact Ent.nil _ | refine Ent.pick ?_)))) (fun q4 => ?_)
        refine ha_take 14 rfl (ov_assign rfl) rfl rfl rfl (by kernel_rfl) (by kernel_rfl) (by kernel_rfl) (by first | assumption | exact Ent.refl _ | exact Ent.nil _ | (repeat (first | exact Ent.refl _ | exact Ent.nil _ | refine Ent.pick ?_))) <| ?_
        refine ha_done (by kernel_rfl) <|
          hx_then_normal <| ?_
        refine hc_any [blk b6 64 (editV x)] mixed 17 rfl ?_
        refine ha_take 0 rfl (ov_move rfl) rfl rfl rfl (by kernel_rfl) (by kernel_rfl) (by kernel_rfl) (by first | assumption | exact Ent.refl _ | exact Ent.nil _ | (repeat (first | exact Ent.refl _ | exact Ent.nil _ | refine Ent.pick ?_))) <| ?_
        refine ha_take 1 rfl (ov_fieldA rfl) rfl rfl rfl (by kernel_rfl) (by kernel_rfl) (by kernel_rfl) (by first | assumption | exact Ent.refl _ | exact Ent.nil _ | (repeat (first | exact Ent.refl _ | exact Ent.nil _ | refine Ent.pick ?_))) <| ?_
        refine ha_take 2 rfl (ov_load rfl (CellIs.blk rfl)) rfl rfl rfl (by kernel_rfl) (by kernel_rfl) (by kernel_rfl) (by first | assumption | exact Ent.refl _ | exact Ent.nil _ | (repeat (first | exact Ent.refl _ | exact Ent.nil _ | refine Ent.pick ?_))) <| ?_
        refine ha_take 6 rfl (ov_fieldA rfl) rfl rfl rfl (by kernel_rfl) (by kernel_rfl) (by kernel_rfl) (by first | assumption | exact Ent.refl _ | exact Ent.nil _ | (repeat (first | exact Ent.refl _ | exact Ent.nil _ | refine Ent.pick ?_))) <| ?_
        refine ha_take 7 rfl (ov_load rfl (CellIs.blk rfl)) rfl rfl rfl (by kernel_rfl) (by kernel_rfl) (by kernel_rfl) (by first | assumption | exact Ent.refl _ | exact Ent.nil _ | (repeat (first | exact Ent.refl _ | exact Ent.nil _ | refine Ent.pick ?_))) <| ?_
        refine ha_take 8 rfl (ov_fieldA rfl) rfl rfl rfl (by kernel_rfl) (by kernel_rfl) (by kernel_rfl) (by first | assumption | exact Ent.refl _ | exact Ent.nil _ | (repeat (first | exact Ent.refl _ | exact Ent.nil _ | refine Ent.pick ?_))) <| ?_
        refine ha_take 9 rfl (ov_load rfl (CellIs.blk rfl)) rfl rfl rfl (by kernel_rfl) (by kernel_rfl) (by kernel_rfl) (by first | assumption | exact Ent.refl _ | exact Ent.nil _ | (repeat (first | exact Ent.refl _ | exact Ent.nil _ | refine Ent.pick ?_))) <| ?_
        refine ha_take 12 rfl (ov_fieldA rfl) rfl rfl rfl (by kernel_rfl) (by kernel_rfl) (by kernel_rfl) (by first | assumption | exact Ent.refl _ | exact Ent.nil _ | (repeat (first | exact Ent.refl _ | exact Ent.nil _ | refine Ent.pick ?_))) <| ?_
        refine ha_take 13 rfl (ov_load rfl (CellIs.blk rfl)) rfl rfl rfl (by kernel_rfl) (by kernel_rfl) (by kernel_rfl) (by first | assumption | exact Ent.refl _ | exact Ent.nil _ | (repeat (first | exact Ent.refl _ | exact Ent.nil _ | refine Ent.pick ?_))) <| ?_
        refine ha_take 3 rfl (ov_conv (m := ((x.2.2.2.1.toNat : Nat) : Int)) rfl (convN (by omega) (by omega))) rfl rfl rfl (by kernel_rfl) (by kernel_rfl) (by kernel_rfl) (by first | assumption | exact Ent.refl _ | exact Ent.nil _ | (repeat (first | exact Ent.refl _ | exact Ent.nil _ | refine Ent.pick ?_))) ?_
        refine ha_two 4 10 (by kernel_rfl) ?_ ?_
        · skip
          refine ho_call (σ := { q : Option Addr × Nat // 0 < 2 → isA q.1 }) rfl Try.call44 rfl rfl rfl (fun w1 H1 => Own.callx0 H1 fun D' hold hin H2 => big_spec D' w1 x.2.2.2.1.toNat 2 (by omega) (by decide)) (fun _ => (by first | assumption | exact Ent.refl _ | exact Ent.nil _ | (repeat (first | exact Ent.refl _ | exact Ent.nil _ | refine Ent.pick ?_)))) ?_
          intro q5
          try rw [List.nil_append]
          refine ha_two 5 10 (by kernel_rfl) ?_ ?_
          · skip
            refine ho_new rfl (on_appendR (A := q4.1) (news := (beB x.2.2.2.1.toNat 2).map u8v) rfl rfl (SrcIs.rowR (A := q5.1.1) (fun _ => q5.2 (by decide))) (by rw [List.length_map, beB_len]) (u8_one _) (by decide) (by omega)) rfl rfl rfl (fun _ => (by first | assumption | exact Ent.refl _ | exact Ent.nil _ | (repeat (first | exact Ent.refl _ | exact Ent.nil _ | refine Ent.pick ?_)))) (fun q6 => ?_)
            refine ha_one 10 (by kernel_rfl) <| ?_
            refine ho_new rfl (on_buildSliceN rfl rfl rfl) rfl rfl rfl (fun _ => (by first | assumption | exact Ent.refl _ | exact Ent.nil _ | (repeat (first | exact Ent.refl _ | exact Ent.nil _ | refine Ent.pick ?_)))) (fun b51 => ?_)
            refine ha_one 11 (by kernel_rfl) <| ?_
            refine ho_new rfl (on_appendR (A := q6.1) (news := [u8v x.2.2.2.2.1, u8v x.2.2.2.2.2.1]) rfl rfl (SrcIs.blk (b := b51)) rfl (by simp [Value.oneCell', u8v]) (by decide) (by omega)) rfl rfl rfl (fun _ => (by first | assumption | exact Ent.refl _ | exact Ent.nil _ | (repeat (first | exact Ent.refl _ | exact Ent.nil _ | refine Ent.pick ?_)))) (fun q7 => ?_)
            refine ha_one 14 (by kernel_rfl) <| ?_
            refine ho_call (σ := { q : Option Addr × Nat // 0 < 6 → isA q.1 }) rfl Try.call44 rfl rfl rfl (fun w1 H1 => Own.callx0 H1 fun D' hold hin H2 => big_spec D' w1 x.2.2.2.2.2.2.toNat 6 (by omega) (by decide)) (fun _ => (by first | assumption | exact Ent.refl _ | exact Ent.nil _ | (repeat (first | exact Ent.refl _ | exact Ent.nil _ | refine Ent.pick ?_)))) ?_
            intro q8
            try rw [List.nil_append]
            refine ha_one 15 (by kernel_rfl) <| ?_
            refine ho_new rfl (on_appendR (A := q7.1) (news := (beB x.2.2.2.2.2.2.toNat 6).map u8v) rfl rfl (SrcIs.rowR (A := q8.1.1) (fun _ => q8.2 (by decide))) (by rw [List.length_map, beB_len]) (u8_one _) (by decide) (by omega)) rfl rfl rfl (fun _ => (by first | assumption | exact Ent.refl _ | exact Ent.nil _ | (repeat (first | exact Ent.refl _ | exact Ent.nil _ | refine Ent.pick ?_)))) (fun q9 => ?_)
            refine ha_take 16 rfl (ov_assign rfl) rfl rfl rfl (by kernel_rfl) (by kernel_rfl) (by kernel_rfl) (by first | assumption | exact Ent.refl _ | exact Ent.nil _ | (repeat (first | exact Ent.refl _ | exact Ent.nil _ | refine Ent.pick ?_))) <| ?_
            refine ha_done (by kernel_rfl) <|
              hx_block_normal <|
              hx_then_normal <|
              hc_region <|
              hl_val (ov_move rfl) rfl rfl rfl <|
              hl_val (ov_add rfl rfl (by first | exact wrap_i64 (by omega) | rfl)) rfl rfl rfl <| ?_
            refine hl_val (ov_assign rfl) rfl rfl rfl <|
              hl_nil <| ?_
            refine hx_next hK1 ((i + 1, m + 2 + 4 + 2 + 2 + 6, ((((cs ++ [.int .u8 x.1, .int .u8 x.2.1]) ++ (beB x.2.2.1.toNat 4).map u8v) ++ (beB x.2.2.2.1.toNat 2).map u8v) ++ [u8v x.2.2.2.2.1, u8v x.2.2.2.2.2.1]) ++ (beB x.2.2.2.2.2.2.toNat 6).map u8v, q9)) (⟨⟨hlt, hn⟩, hm', hfin⟩) (hme) (by repeat (first | exact Slots.sub_nil _ | refine Slots.sub_cons rfl ?_)) (by first | assumption | exact Ent.refl _ | exact Ent.nil _ | (repeat (first | exact Ent.refl _ | exact Ent.nil _ | refine Ent.pick ?_)))
          · skip
            refine ho_new rfl (on_buildSliceN rfl rfl rfl) rfl rfl rfl (fun _ => (by first | assumption | exact Ent.refl _ | exact Ent.nil _ | (repeat (first | exact Ent.refl _ | exact Ent.nil _ | refine Ent.pick ?_)))) (fun b51 => ?_)
            refine ha_one 5 (by kernel_rfl) <| ?_
            refine ho_new rfl (on_appendR (A := q4.1) (news := (beB x.2.2.2.1.toNat 2).map u8v) rfl rfl (SrcIs.rowR (A := q5.1.1) (fun _ => q5.2 (by decide))) (by rw [List.length_map, beB_len]) (u8_one _) (by decide) (by omega)) rfl rfl rfl (fun _ => (by first | assumption | exact Ent.refl _ | exact Ent.nil _ | (repeat (first | exact Ent.refl _ | exact Ent.nil _ | refine Ent.pick ?_)))) (fun q6 => ?_)
            refine ha_one 11 (by kernel_rfl) <| ?_
            refine ho_new rfl (on_appendR (A := q6.1) (news := [u8v x.2.2.2.2.1, u8v x.2.2.2.2.2.1]) rfl rfl (SrcIs.blk (b := b51)) rfl (by simp [Value.oneCell', u8v]) (by decide) (by omega)) rfl rfl rfl (fun _ => (by first | assumption | exact Ent.refl _ | exact Ent.nil _ | (repeat (first | exact Ent.refl _ | exact Ent.nil _ | refine Ent.pick ?_)))) (fun q7 => ?_)
            refine ha_one 14 (by kernel_rfl) <| ?_
            refine ho_call (σ := { q : Option Addr × Nat // 0 < 6 → isA q.1 }) rfl Try.call44 rfl rfl rfl (fun w1 H1 => Own.callx0 H1 fun D' hold hin H2 => big_spec D' w1 x.2.2.2.2.2.2.toNat 6 (by omega) (by decide)) (fun _ => (by first | assumption | exact Ent.refl _ | exact Ent.nil _ | (repeat (first | exact Ent.refl _ | exact Ent.nil _ | refine Ent.pick ?_)))) ?_
            intro q8
            try rw [List.nil_append]
            refine ha_one 15 (by kernel_rfl) <| ?_
            refine ho_new rfl (on_appendR (A := q7.1) (news := (beB x.2.2.2.2.2.2.toNat 6).map u8v) rfl rfl (SrcIs.rowR (A := q8.1.1) (fun _ => q8.2 (by decide))) (by rw [List.length_map, beB_len]) (u8_one _) (by decide) (by omega)) rfl rfl rfl (fun _ => (by first | assumption | exact Ent.refl _ | exact Ent.nil _ | (repeat (first | exact Ent.refl _ | exact Ent.nil _ | refine Ent.pick ?_)))) (fun q9 => ?_)
            refine ha_take 16 rfl (ov_assign rfl) rfl rfl rfl (by kernel_rfl) (by kernel_rfl) (by kernel_rfl) (by first | assumption | exact Ent.refl _ | exact Ent.nil _ | (repeat (first | exact Ent.refl _ | exact Ent.nil _ | refine Ent.pick ?_))) <| ?_
            refine ha_done (by kernel_rfl) <|
              hx_block_normal <|
              hx_then_normal <|
              hc_region <|
              hl_val (ov_move rfl) rfl rfl rfl <|
              hl_val (ov_add rfl rfl (by first | exact wrap_i64 (by omega) | rfl)) rfl rfl rfl <| ?_
            refine hl_val (ov_assign rfl) rfl rfl rfl <|
              hl_nil <| ?_
            refine hx_next hK1 ((i + 1, m + 2 + 4 + 2 + 2 + 6, ((((cs ++ [.int .u8 x.1, .int .u8 x.2.1]) ++ (beB x.2.2.1.toNat 4).map u8v) ++ (beB x.2.2.2.1.toNat 2).map u8v) ++ [u8v x.2.2.2.2.1, u8v x.2.2.2.2.2.1]) ++ (beB x.2.2.2.2.2.2.toNat 6).map u8v, q9)) (⟨⟨hlt, hn⟩, hm', hfin⟩) (hme) (by repeat (first | exact Slots.sub_nil _ | refine Slots.sub_cons rfl ?_)) (by first | assumption | exact Ent.refl _ | exact Ent.nil _ | (repeat (first | exact Ent.refl _ | exact Ent.nil _ | refine Ent.pick ?_)))
        · skip
          refine ho_new rfl (on_buildSliceN rfl rfl rfl) rfl rfl rfl (fun _ => (by first | assumption | exact Ent.refl _ | exact Ent.nil _ | (repeat (first | exact Ent.refl _ | exact Ent.nil _ | refine Ent.pick ?_)))) (fun b51 => ?_)
          refine ha_one 4 (by kernel_rfl) <| ?_
          refine ho_call (σ := { q : Option Addr × Nat // 0 < 2 → isA q.1 }) rfl Try.call44 rfl rfl rfl (fun w1 H1 => Own.callx0 H1 fun D' hold hin H2 => big_spec D' w1 x.2.2.2.1.toNat 2 (by omega) (by decide)) (fun _ => (by first | assumption | exact Ent.refl _ | exact Ent.nil _ | (repeat (first | exact Ent.refl _ | exact Ent.nil _ | refine Ent.pick ?_)))) ?_
          intro q5
          try rw [List.nil_append]
          refine ha_one 5 (by kernel_rfl) <| ?_
          refine ho_new rfl (on_appendR (A := q4.1) (news := (beB x.2.2.2.1.toNat 2).map u8v) rfl rfl (SrcIs.rowR (A := q5.1.1) (fun _ => q5.2 (by decide))) (by rw [List.length_map, beB_len]) (u8_one _) (by decide) (by omega)) rfl rfl rfl (fun _ => (by first | assumption | exact Ent.refl _ | exact Ent.nil _ | (repeat (first | exact Ent.refl _ | exact Ent.nil _ | refine Ent.pick ?_)))) (fun q6 => ?_)
          refine ha_one 11 (by kernel_rfl) <| ?_
          refine ho_new rfl (on_appendR (A := q6.1) (news := [u8v x.2.2.2.2.1, u8v x.2.2.2.2.2.1]) rfl rfl (SrcIs.blk (b := b51)) rfl (by simp [Value.oneCell', u8v]) (by decide) (by omega)) rfl rfl rfl (fun _ => (by first | assumption | exact Ent.refl _ | exact Ent.nil _ | (repeat (first | exact Ent.refl _ | exact Ent.nil _ | refine Ent.pick ?_)))) (fun q7 => ?_)
          refine ha_one 14 (by kernel_rfl) <| ?_
          refine ho_call (σ := { q : Option Addr × Nat // 0 < 6 → isA q.1 }) rfl Try.call44 rfl rfl rfl (fun w1 H1 => Own.callx0 H1 fun D' hold hin H2 => big_spec D' w1 x.2.2.2.2.2.2.toNat 6 (by omega) (by decide)) (fun _ => (by first | assumption | exact Ent.refl _ | exact Ent.nil _ | (repeat (first | exact Ent.refl _ | exact Ent.nil _ | refine Ent.pick ?_)))) ?_
          intro q8
          try rw [List.nil_append]
          refine ha_one 15 (by kernel_rfl) <| ?_
          refine ho_new rfl (on_appendR (A := q7.1) (news := (beB x.2.2.2.2.2.2.toNat 6).map u8v) rfl rfl (SrcIs.rowR (A := q8.1.1) (fun _ => q8.2 (by decide))) (by rw [List.length_map, beB_len]) (u8_one _) (by decide) (by omega)) rfl rfl rfl (fun _ => (by first | assumption | exact Ent.refl _ | exact Ent.nil _ | (repeat (first | exact Ent.refl _ | exact Ent.nil _ | refine Ent.pick ?_)))) (fun q9 => ?_)
          refine ha_take 16 rfl (ov_assign rfl) rfl rfl rfl (by kernel_rfl) (by kernel_rfl) (by kernel_rfl) (by first | assumption | exact Ent.refl _ | exact Ent.nil _ | (repeat (first | exact Ent.refl _ | exact Ent.nil _ | refine Ent.pick ?_))) <| ?_
          refine ha_done (by kernel_rfl) <|
            hx_block_normal <|
            hx_then_normal <|
            hc_region <|
            hl_val (ov_move rfl) rfl rfl rfl <|
            hl_val (ov_add rfl rfl (by first | exact wrap_i64 (by omega) | rfl)) rfl rfl rfl <| ?_
          refine hl_val (ov_assign rfl) rfl rfl rfl <|
            hl_nil <| ?_
          refine hx_next hK1 ((i + 1, m + 2 + 4 + 2 + 2 + 6, ((((cs ++ [.int .u8 x.1, .int .u8 x.2.1]) ++ (beB x.2.2.1.toNat 4).map u8v) ++ (beB x.2.2.2.1.toNat 2).map u8v) ++ [u8v x.2.2.2.2.1, u8v x.2.2.2.2.2.1]) ++ (beB x.2.2.2.2.2.2.toNat 6).map u8v, q9)) (⟨⟨hlt, hn⟩, hm', hfin⟩) (hme) (by repeat (first | exact Slots.sub_nil _ | refine Slots.sub_cons rfl ?_)) (by first | assumption | exact Ent.refl _ | exact Ent.nil _ | (repeat (first | exact Ent.refl _ | exact Ent.nil _ | refine Ent.pick ?_)))
    · have hie : i = l.length := by omega
      subst hie
      have hall' : okEds l := ⟨hl32, fun j hj => hall j hj hj⟩
      rw [List.take_length] at hcs
      have hcs : cs = (edsB l).map u8v := hcs
      have hm : m = (edsB l).length := by rw [hm, edsB_len]
      subst hcs; subst hm
      refine hc_exit <|
        hx_then_exit <|
        hx_then_exit <|
        hx_block_out <|
        hx_then_normal <|
        hc_seq <| ?_
      refine hc_region <|
        hl_val (ov_move rfl) rfl rfl rfl <|
        hl_val (ov_assign rfl) rfl rfl rfl <|
        hl_val (ov_assign rfl) rfl rfl rfl <|
        hl_nil <|
        hx_then_normal <| ?_
      refine hc_ret <| ?_
      exact results_2 (.inr rfl) rfl rfl rfl fun w' H' => ⟨⟨((A, c), edsB l, 0), .inr ⟨hall', rfl, rfl⟩⟩, rfl, H'⟩
end Go.Proofs.Ytpgpfcplchaleaa
