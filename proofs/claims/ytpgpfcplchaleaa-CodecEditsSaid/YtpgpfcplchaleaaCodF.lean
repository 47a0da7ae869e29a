import Derived.Test.YtpgpfcplchaleaaCodE
set_option linter.unusedVariables false
set_option linter.unusedSimpArgs false
namespace Go.Proofs.Ytpgpfcplchaleaa
open Slk
theorem getS_sticky (s : RS) (k : Nat) (h0 : 0 < k) (h : s.bad = true ∧ s.rem = []) : (getS s k).bad = true ∧ (getS s k).rem = [] := by
  unfold getS
  rw [if_pos (by rw [h.2]; exact h0)]
  exact ⟨rfl, rfl⟩
theorem getS_bad (s : RS) (k : Nat) (hs : s.bad = true → s.rem = []) : (getS s k).bad = true → (getS s k).rem = [] := by
  unfold getS
  split
  · intro _; rfl
  · intro h
    have : s.rem = [] := hs h
    show s.rem.drop k = []
    rw [this]; simp
/-- What a full read gives. -/
theorem getS_full (s : RS) (k : Nat) (h : (getS s k).bad = false) : s.bad = false ∧ k ≤ s.rem.length ∧ getN s k = numB (s.rem.take k) ∧ (getS s k).rem = s.rem.drop k := by
  unfold getS getN at *
  split at h
  · cases h
  · rename_i hk
    rw [if_neg hk, if_neg hk]
    exact ⟨h, by omega, rfl, rfl⟩
theorem be_numB1 (x : UInt8) : beB (numB [x]) 1 = [x] := by
  have : beB (numB [x]) 1 = [UInt8.ofNat (numB [x])] := by simp [beB, List.range_succ]
  rw [this]; simp [numB]
theorem rdE_sticky (s : RS) (h : s.bad = true ∧ s.rem = []) : (rdE s).2.bad = true ∧ (rdE s).2.rem = [] :=
  getS_sticky _ 6 (by decide) (getS_sticky _ 1 (by decide) (getS_sticky _ 1 (by decide) (getS_sticky _ 2 (by decide) (getS_sticky _ 4 (by decide) (getS_sticky _ 1 (by decide) (getS_sticky _ 1 (by decide) h))))))
theorem rdE_bad (s : RS) (hs : s.bad = true → s.rem = []) : (rdE s).2.bad = true → (rdE s).2.rem = [] :=
  getS_bad _ 6 (getS_bad _ 1 (getS_bad _ 1 (getS_bad _ 2 (getS_bad _ 4 (getS_bad _ 1 (getS_bad _ 1 hs))))))
theorem rdEs_bad (i : Nat) (s : RS) (hs : s.bad = true → s.rem = []) : (rdEs i s).2.bad = true → (rdEs i s).2.rem = [] := by
  induction i with
  | zero => exact hs
  | succ i ih => exact rdE_bad _ ih
theorem rdEs_sticky (i j : Nat) (hij : i ≤ j) (s : RS) (hs : s.bad = true → s.rem = []) (h : (rdEs i s).2.bad = true) : (rdEs j s).2.bad = true := by
  have : (rdEs j s).2.bad = true ∧ (rdEs j s).2.rem = [] := by
    induction j with
    | zero =>
      obtain rfl : i = 0 := by omega
      exact ⟨h, rdEs_bad 0 s hs h⟩
    | succ j ih =>
      rcases Nat.lt_or_ge i (j + 1) with h1 | h1
      · exact rdE_sticky _ (ih (by omega))
      · obtain rfl : i = j + 1 := by omega
        exact ⟨h, rdEs_bad _ s hs h⟩
  exact this.1
def refP (xs : List UInt8) (s : RS) : Prop := (rdAll s).2.bad = false ∧ okEds (rdAll s).1 ∧ edsB (rdAll s).1 = xs
theorem RList_spec (D : Nat → Prop) (w : World) (v : Value) (xs : List UInt8) (HA : Old D w (Rep.rep xs [v])) :
    Calls Try.prog 24 #[v] w fun e w' => ∃ r : { r : (Option Addr × Nat) × List EditC × Int // (¬ refP xs ⟨xs, v, false⟩ ∧ r.2.1 = [] ∧ r.2.2 = 11) ∨ (refP xs ⟨xs, v, false⟩ ∧ r.2.1 = (rdAll ⟨xs, v, false⟩).1 ∧ r.2.2 = 0) }, e = .returned (.tuple #[.slice r.1.1.1 r.1.2.1.length r.1.1.2, .int .i64 r.1.2.2]) ∧ Own D w w' [row r.1.1.1 64 7 r.1.2.1.length r.1.1.2 (r.1.2.1.flatMap editV)] := by
  have HA0 := HA
  obtain ⟨A, cap, rfl, _, _, HSx⟩ := HA0.openB
  obtain ⟨s, hs⟩ : ∃ s : RS, s = ⟨xs, .slice A xs.length cap, false⟩ := ⟨_, rfl⟩
  have HA1 : Old D w (Rep.rep s.rem [s.v]) := by rw [hs]; exact HA
  rw [← hs]
  have hn : getN s 1 < 256 := getN_lt s 1
  have HA2 := old_get 1 HA1
  have hlen : ∀ i, (rdEs i (getS s 1)).1.length = i := fun i => rdEs_len _ _
  have hok := fun i => rdEs_ok i (getS s 1)
  have hs1b : (getS s 1).bad = true → (getS s 1).rem = [] := getS_bad s 1 (fun h => by rw [hs] at h; cases h)
  obtain ⟨s1, hs1⟩ : ∃ t, getS s 1 = t := ⟨_, rfl⟩
  obtain ⟨n, hnn⟩ : ∃ t, getN s 1 = t := ⟨_, rfl⟩
  have hall : rdAll s = rdEs n s1 := by rw [← hs1, ← hnn]
  rw [hs1] at HA2 hs1b
  simp only [hs1] at hlen hok
  rw [hnn] at hn
  refine hc_enter (vs := [.slice A xs.length cap]) Try.func24 rfl _ Try.ntmps24 rfl (Own.start D w) ?_
  simp only [argSlots, Nat.zero_add]
  refine hc_seq <|
    hc_region <|
    hl_val (ov_assign rfl) rfl rfl rfl <|
    hl_val (ov_assign rfl) rfl rfl rfl <|
    hl_nil <|
    hx_then_normal <| ?_
  refine hc_seq <|
    hc_region <|
    hl_val (ov_move rfl) rfl rfl rfl <|
    hl_val (ov_buildSN rfl rfl) rfl rfl rfl <| ?_
  refine hl_new (on_boxN rfl rfl) rfl rfl rfl fun b11 =>  ?_
  refine hl_val (ov_assign rfl) rfl rfl rfl <|
    hl_nil <|
    hx_then_normal <|
    hc_seq <|
    hc_region <|
    hl_val (ov_assign rfl) rfl rfl rfl <| ?_
  refine hl_nil <|
    hx_then_normal <|
    hc_seq <|
    hc_seq <|
    hc_region <|
    hl_val (ov_move rfl) rfl rfl rfl <| ?_
  refine HL.ent (show Ent _ [blk b11 96 [s.v, .bool s.bad]] by rw [hs]; exact (by first | assumption | exact Ent.refl _ | exact Ent.nil _ | exact Ent.row_any (Ent.refl _) | (repeat (first | exact Ent.refl _ | exact Ent.nil _ | refine Ent.pick ?_)))) ?_
  refine hl_c Try.call47 rfl rfl (fun w1 H1 => Own.callp (blk b11 96 [s.v, .bool s.bad]) H1 fun D' hold hin H2 => num_spec D' w1 b11 96 1 s (by decide) H2 (hold _ HA1)) ?_
  rw [hs1, hnn]
  refine hl_val (ov_conv rfl (by first | exact wrap_i64 (by omega) | rfl)) rfl rfl rfl <| ?_
  refine hl_val (ov_assign rfl) rfl rfl rfl <|
    hl_nil <|
    hx_then_normal <|
    hc_block <| ?_
  refine hc_loopK2 (σ := Nat × Option Addr × Nat) [0, 4] rfl 6 (fun q => .int .i64 ((n : Int) - (q.1 : Int))) 5 (fun q => .slice q.2.1 q.1 q.2.2) (fun q => [row q.2.1 64 7 q.1 q.2.2 ((rdEs q.1 s1).1.flatMap editV), blk b11 96 [(rdEs q.1 s1).2.v, .bool (rdEs q.1 s1).2.bad]]) (fun q => q.1 ≤ n) (fun q => n - q.1) ((0, none, 0)) (Nat.zero_le _) rfl rfl (Ent.nil_row 64 7) ?_
  rintro ⟨i, A, c⟩ hi K1 hK1
  dsimp only at hi ⊢
  have HAi := old_rdEs i HA2
  refine hc_seq <|
    hc_seq <|
    hc_region <|
    hl_val (ov_move rfl) rfl rfl rfl <|
    hl_val (ov_gtr rfl rfl) rfl rfl rfl <|
    hl_val (ov_move rfl) rfl rfl rfl <| ?_
  refine hl_part (t := 17) rfl (fun p1 => ?_) (fun p1 => ?_)
  · refine hl_on rfl rfl <| hl_val (ov_move rfl) rfl rfl rfl <|
      hl_on rfl rfl <| hl_val (ov_nil rfl) rfl rfl rfl <|
      hl_on rfl rfl <| hl_val (ov_fieldA rfl) rfl rfl rfl <|
      hl_on rfl rfl <| hl_val (ov_load rfl (CellIs.blk rfl)) rfl rfl rfl <|
      hl_on rfl rfl <| hl_val (by first | exact ov_notd rfl | exact ov_not rfl) rfl rfl rfl <| ?_
    refine hl_val (ov_pickT rfl rfl) rfl rfl rfl <|
      hl_nil <|
      hx_then_normal <| ?_
    refine hc_cond_bool rfl (fun p2 => ?_) (fun p2 => ?_)
    · have hlt : i < n := by omega
      have hB : ∀ (s : RS) (k : Nat), k ≤ 6 → getN s k < 281474976710656 := fun s k hk => Nat.lt_of_lt_of_le (getN_lt s k) (by have : 256 ^ k ≤ 256 ^ 6 := Nat.pow_le_pow_right (by decide) hk; exact this)
      have hce := rdE_cells (rdEs i s1).2
      have hs7 : (rdEs (i + 1) s1).2 = getS (getS (getS (getS (getS (getS (getS (rdEs i s1).2 1) 1) 4) 2) 1) 1) 6 := rfl
      have hl7 : (rdEs i s1).1.flatMap editV ++ editV (rdE (rdEs i s1).2).1 = (rdEs (i + 1) s1).1.flatMap editV := by
        show _ = ((rdEs i s1).1 ++ [(rdE (rdEs i s1).2).1]).flatMap editV
        rw [List.flatMap_append, List.flatMap_singleton]
      generalize (rdEs i s1).2 = r0 at *
      have K0 := HAi
      have K1 := old_get 1 K0
      have K2 := old_get 1 K1
      have K3 := old_get 4 K2
      have K4 := old_get 2 K3
      have K5 := old_get 1 K4
      have K6 := old_get 1 K5
      refine hc_skip <|
        hx_then_normal <|
        hc_seq <|
        hc_block <|
        hc_region <|
        hl_val (ov_move rfl) rfl rfl rfl <| ?_
      refine hl_val (ov_move rfl) rfl rfl rfl <| ?_
      refine hl_c Try.call47 rfl rfl (fun w1 H1 => Own.callp (blk b11 96 [r0.v, .bool r0.bad]) H1 fun D' hold hin H2 => num_spec D' w1 b11 96 1 r0 (by decide) H2 (hold _ K0)) ?_
      refine hl_val (ov_conv (m := ((getN r0 1 : Nat) : Int)) rfl (wrap_i64 (by have := hB r0 1 (by decide); omega))) rfl rfl rfl ?_
      refine hl_val (ov_move rfl) rfl rfl rfl <| ?_
      refine hl_c Try.call47 rfl rfl (fun w1 H1 => Own.callp (blk b11 96 [(getS r0 1).v, .bool (getS r0 1).bad]) H1 fun D' hold hin H2 => num_spec D' w1 b11 96 1 (getS r0 1) (by decide) H2 (hold _ K1)) ?_
      refine hl_val (ov_conv (m := ((getN (getS r0 1) 1 : Nat) : Int)) rfl (wrap_i64 (by have := hB (getS r0 1) 1 (by decide); omega))) rfl rfl rfl ?_
      refine hl_val (ov_move rfl) rfl rfl rfl <| ?_
      refine hl_c Try.call47 rfl rfl (fun w1 H1 => Own.callp (blk b11 96 [(getS (getS r0 1) 1).v, .bool (getS (getS r0 1) 1).bad]) H1 fun D' hold hin H2 => num_spec D' w1 b11 96 4 (getS (getS r0 1) 1) (by decide) H2 (hold _ K2)) ?_
      refine hl_val (ov_conv (m := ((getN (getS (getS r0 1) 1) 4 : Nat) : Int)) rfl (wrap_i64 (by have := hB (getS (getS r0 1) 1) 4 (by decide); omega))) rfl rfl rfl ?_
      refine hl_val (ov_move rfl) rfl rfl rfl <| ?_
      refine hl_c Try.call47 rfl rfl (fun w1 H1 => Own.callp (blk b11 96 [(getS (getS (getS r0 1) 1) 4).v, .bool (getS (getS (getS r0 1) 1) 4).bad]) H1 fun D' hold hin H2 => num_spec D' w1 b11 96 2 (getS (getS (getS r0 1) 1) 4) (by decide) H2 (hold _ K3)) ?_
      refine hl_val (ov_conv (m := ((getN (getS (getS (getS r0 1) 1) 4) 2 : Nat) : Int)) rfl (wrap_i64 (by have := hB (getS (getS (getS r0 1) 1) 4) 2 (by decide); omega))) rfl rfl rfl ?_
      refine hl_val (ov_move rfl) rfl rfl rfl <| ?_
      refine hl_c Try.call47 rfl rfl (fun w1 H1 => Own.callp (blk b11 96 [(getS (getS (getS (getS r0 1) 1) 4) 2).v, .bool (getS (getS (getS (getS r0 1) 1) 4) 2).bad]) H1 fun D' hold hin H2 => num_spec D' w1 b11 96 1 (getS (getS (getS (getS r0 1) 1) 4) 2) (by decide) H2 (hold _ K4)) ?_
      refine hl_val (ov_conv (m := ((getN (getS (getS (getS (getS r0 1) 1) 4) 2) 1 % 256 : Nat) : Int)) rfl (wrap8 _)) rfl rfl rfl ?_
      refine hl_val (ov_move rfl) rfl rfl rfl <| ?_
      refine hl_c Try.call47 rfl rfl (fun w1 H1 => Own.callp (blk b11 96 [(getS (getS (getS (getS (getS r0 1) 1) 4) 2) 1).v, .bool (getS (getS (getS (getS (getS r0 1) 1) 4) 2) 1).bad]) H1 fun D' hold hin H2 => num_spec D' w1 b11 96 1 (getS (getS (getS (getS (getS r0 1) 1) 4) 2) 1) (by decide) H2 (hold _ K5)) ?_
      refine hl_val (ov_conv (m := ((getN (getS (getS (getS (getS (getS r0 1) 1) 4) 2) 1) 1 % 256 : Nat) : Int)) rfl (wrap8 _)) rfl rfl rfl ?_
      refine hl_val (ov_move rfl) rfl rfl rfl <| ?_
      refine hl_c Try.call47 rfl rfl (fun w1 H1 => Own.callp (blk b11 96 [(getS (getS (getS (getS (getS (getS r0 1) 1) 4) 2) 1) 1).v, .bool (getS (getS (getS (getS (getS (getS r0 1) 1) 4) 2) 1) 1).bad]) H1 fun D' hold hin H2 => num_spec D' w1 b11 96 6 (getS (getS (getS (getS (getS (getS r0 1) 1) 4) 2) 1) 1) (by decide) H2 (hold _ K6)) ?_
      refine hl_val (ov_buildSN rfl rfl) rfl rfl rfl <| ?_
      refine hl_new (on_buildSliceN rfl rfl rfl) rfl rfl rfl fun b48 =>  ?_
      rw [← hce]
      refine hl_new (on_appendR (A := A) (news := editV (rdE r0).1) rfl rfl (SrcIs.blk (b := b48)) rfl (by simp [Value.oneCell', u8v]) (by decide) (by omega)) rfl rfl rfl (fun q2 => ?_)
      rw [hl7, ← hs7]
      refine hl_val (ov_assign rfl) rfl rfl rfl <|
        hl_nil <|
        hx_block_normal <|
        hx_then_normal <|
        hc_region <|
        hl_val (ov_move rfl) rfl rfl rfl <| ?_
      refine hl_val (ov_sub (m := (n : Int) - ((i + 1 : Nat) : Int)) rfl rfl (by rw [wrap_i64 (by omega)]; omega)) rfl rfl rfl ?_
      refine hl_val (ov_assign rfl) rfl rfl rfl <|
        hl_nil <| ?_
      refine hx_next hK1 ((i + 1, q2)) (hlt) (by show n - (i + 1) < n - i; omega) (by repeat (first | exact Slots.sub_nil _ | refine Slots.sub_cons rfl ?_)) (by first | assumption | exact Ent.refl _ | exact Ent.nil _ | (repeat (first | exact Ent.refl _ | exact Ent.nil _ | refine Ent.pick ?_)))
    · have hX : (rdEs i s1).2.bad = false → i = n := fun h => by rw [h] at p2; cases p2
      refine hc_exit <|
        hx_then_exit <|
        hx_then_exit <|
        hx_block_out <|
        hx_then_normal <|
        hc_seq <| ?_
      refine hc_region <|
        hl_val (ov_move rfl) rfl rfl rfl <| ?_
      refine hl_call (σ := ResT (okEds (rdEs i s1).1) (edsB (rdEs i s1).1) (fun e => e = if 32 < (rdEs i s1).1.length then 3 else 11)) Try.call22 rfl rfl (fun w1 H1 => Own.callx0 H1 fun D' hold hin H2 => REdits_spec D' w1 _ (rdEs i s1).1 (by rw [hlen]; omega) (hin _ fun h hs ho => rep_row (A := A) hs (rdEs i s1).1 (hlen i).symm (repL_F.2 ⟨rfl, hok i⟩))) ?_
      intro s2
      try rw [List.nil_append]
      obtain ⟨⟨⟨A2, k2⟩, b2', e2⟩, hs2⟩ := s2
      dsimp only at hs2 ⊢
      refine HL.fact (fun w H => Own.factR A2 H) ?_
      rintro ⟨_, _, _, hA2⟩
      refine hl_val (ov_move rfl) rfl rfl rfl <|
        hl_val (ov_extract rfl rfl) rfl rfl rfl <|
        hl_val (ov_extract rfl rfl) rfl rfl rfl <|
        hl_val (ov_assign rfl) rfl rfl rfl <|
        hl_val (ov_assign rfl) rfl rfl rfl <|
        hl_nil <| ?_
      refine hx_then_normal <|
        hc_seq <|
        hc_seq <|
        hc_region <|
        hl_val (ov_move rfl) rfl rfl rfl <|
        hl_val (ov_nil rfl) rfl rfl rfl <| ?_
      refine hl_val (ov_fieldA rfl) rfl rfl rfl <|
        hl_val (ov_load rfl (CellIs.blk rfl)) rfl rfl rfl <|
        hl_val (ov_move rfl) rfl rfl rfl <| ?_
      refine hl_partb (t := 59) rfl (fun q1 => ?_) (fun q1 => ?_)
      · have hno : ¬ refP xs s := fun h => by
          have h1 := rdEs_sticky i n hi s1 hs1b q1
          have h2 := h.1
          rw [hall, h1] at h2; cases h2
        refine hl_off rfl rfl rfl rfl rfl rfl <|
          hl_off rfl rfl rfl rfl rfl rfl <|
          hl_val (ov_pickT rfl rfl) rfl rfl rfl <|
          hl_val (ov_move rfl) rfl rfl rfl <|
          hl_off rfl rfl rfl rfl rfl rfl <|
          hl_off rfl rfl rfl rfl rfl rfl <| ?_
        refine hl_off rfl rfl rfl rfl rfl rfl <|
          hl_off rfl rfl rfl rfl rfl rfl <|
          hl_off rfl rfl rfl rfl rfl rfl <|
          hl_val (ov_pickT rfl rfl) rfl rfl rfl <|
          hl_nil <|
          hx_then_normal <| ?_
        refine hc_cond_true rfl <|
          hc_seq <|
          hc_region <|
          hl_val (ov_assign rfl) rfl rfl rfl <|
          hl_val (ov_assign rfl) rfl rfl rfl <|
          hl_nil <| ?_
        refine hx_then_normal <|
          hc_ret <|
          hx_then_ret <| ?_
        exact results_2 (.inr rfl) rfl rfl rfl fun w' H' => ⟨⟨((none, 0), [], 11), .inl ⟨hno, rfl, rfl⟩⟩, rfl, H'.ent (Ent.trans (Ent.nil_row 64 7) (Ent.cons (Ent.nil _)))⟩
      · have hin' : i = n := hX q1
        have hall' : rdAll s = rdEs i s1 := by rw [hall, hin']
        rcases hs2 with ⟨hno2, rfl, hne2, he2⟩ | ⟨hg2, rfl, rfl⟩
        · have hno : ¬ refP xs s := fun h => hno2 (by have := h.2.1; rw [hall'] at this; exact this)
          refine hl_on rfl rfl <| hl_val (ov_move rfl) rfl rfl rfl <|
            hl_on rfl rfl <| hl_val (ov_neq rfl rfl) rfl rfl rfl <|
            hl_val (ov_pickF rfl rfl) rfl rfl rfl <|
            hl_val (ov_move rfl) rfl rfl rfl <| ?_
          refine hl_partT (t := 63) rfl (hne2) ?_
          refine hl_off rfl rfl rfl rfl rfl rfl <|
            hl_off rfl rfl rfl rfl rfl rfl <|
            hl_off rfl rfl rfl rfl rfl rfl <|
            hl_off rfl rfl rfl rfl rfl rfl <|
            hl_off rfl rfl rfl rfl rfl rfl <|
            hl_val (ov_pickT rfl rfl) rfl rfl rfl <| ?_
          refine hl_nil <|
            hx_then_normal <|
            hc_cond_true rfl <|
            hc_seq <|
            hc_region <|
            hl_val (ov_assign rfl) rfl rfl rfl <| ?_
          refine hl_val (ov_assign rfl) rfl rfl rfl <|
            hl_nil <|
            hx_then_normal <|
            hc_ret <|
            hx_then_ret <| ?_
          exact results_2 (.inr rfl) rfl rfl rfl fun w' H' => ⟨⟨((none, 0), [], 11), .inl ⟨hno, rfl, rfl⟩⟩, rfl, H'.ent (Ent.trans (Ent.nil_row 64 7) (Ent.cons (Ent.nil _)))⟩
        · refine hl_on rfl rfl <| hl_val (ov_move rfl) rfl rfl rfl <|
            hl_on rfl rfl <| hl_val (ov_neq rfl rfl) rfl rfl rfl <|
            hl_val (ov_pickF rfl rfl) rfl rfl rfl <|
            hl_val (ov_move rfl) rfl rfl rfl <| ?_
          refine hl_partF (t := 63) rfl ((fun h => h rfl)) ?_
          refine hl_on rfl rfl <| hl_val (ov_move rfl) rfl rfl rfl <| ?_
          refine hl_on rfl rfl <| hl_val (ov_string (xs := edsB (rdEs i s1).1) rfl (SrcIs.rowR (A := A2) hA2)) rfl rfl rfl ?_
          refine hl_on rfl rfl <| hl_val (ov_move rfl) rfl rfl rfl <| ?_
          refine hl_on rfl rfl <| hl_val (ov_string (xs := xs) rfl (SrcIs.old HSx)) rfl rfl rfl ?_
          refine hl_on rfl rfl <| hl_val (by first | exact ov_neqV rfl rfl | exact ov_neqS rfl rfl) rfl rfl rfl <| ?_
          refine hl_val (ov_pickF rfl rfl) rfl rfl rfl <|
            hl_nil <|
            hx_then_normal <| ?_
          refine hc_cond rfl (fun q3 => ?_) (fun q3 => ?_)
          · have hno : ¬ refP xs s := fun h => q3 (by have := h.2.2; rw [hall'] at this; exact this)
            refine hc_seq <|
              hc_region <|
              hl_val (ov_assign rfl) rfl rfl rfl <|
              hl_val (ov_assign rfl) rfl rfl rfl <|
              hl_nil <|
              hx_then_normal <| ?_
            refine hc_ret <|
              hx_then_ret <| ?_
            exact results_2 (.inr rfl) rfl rfl rfl fun w' H' => ⟨⟨((none, 0), [], 11), .inl ⟨hno, rfl, rfl⟩⟩, rfl, H'.ent (Ent.trans (Ent.nil_row 64 7) (Ent.cons (Ent.nil _)))⟩
          · have hP : refP xs s := ⟨by rw [hall']; exact q1, by rw [hall']; exact hg2, by rw [hall']; exact Classical.not_not.1 q3⟩
            have hl1 : (rdAll s).1.length = i := by rw [hall']; exact hlen i
            refine hc_skip <|
              hx_then_normal <|
              hc_seq <|
              hc_region <|
              hl_val (ov_move rfl) rfl rfl rfl <|
              hl_val (ov_assign rfl) rfl rfl rfl <| ?_
            refine hl_val (ov_assign rfl) rfl rfl rfl <|
              hl_nil <|
              hx_then_normal <|
              hc_ret <| ?_
            exact results_2 (.inr rfl) rfl rfl rfl fun w' H' => ⟨⟨((A, c), (rdAll s).1, 0), .inr ⟨hP, rfl, rfl⟩⟩, by simp only [hl1], by simp only [hall', hlen]; exact H'.ent (by first | assumption | exact Ent.refl _ | exact Ent.nil _ | exact Ent.row_any (Ent.refl _) | (repeat (first | exact Ent.refl _ | exact Ent.nil _ | refine Ent.pick ?_)))⟩
  · have hX : (rdEs i s1).2.bad = false → i = n := fun _ => by omega
    refine hl_off rfl rfl rfl rfl rfl rfl <|
      hl_off rfl rfl rfl rfl rfl rfl <|
      hl_off rfl rfl rfl rfl rfl rfl <|
      hl_off rfl rfl rfl rfl rfl rfl <|
      hl_off rfl rfl rfl rfl rfl rfl <|
      hl_val (ov_pickF rfl rfl) rfl rfl rfl <| ?_
    refine hl_nil <|
      hx_then_normal <|
      hc_cond_false rfl <|
      hc_exit <|
      hx_then_exit <|
      hx_then_exit <| ?_
    refine hx_block_out <|
      hx_then_normal <|
      hc_seq <|
      hc_region <|
      hl_val (ov_move rfl) rfl rfl rfl <| ?_
    refine hl_call (σ := ResT (okEds (rdEs i s1).1) (edsB (rdEs i s1).1) (fun e => e = if 32 < (rdEs i s1).1.length then 3 else 11)) Try.call22 rfl rfl (fun w1 H1 => Own.callx0 H1 fun D' hold hin H2 => REdits_spec D' w1 _ (rdEs i s1).1 (by rw [hlen]; omega) (hin _ fun h hs ho => rep_row (A := A) hs (rdEs i s1).1 (hlen i).symm (repL_F.2 ⟨rfl, hok i⟩))) ?_
    intro s2
    try rw [List.nil_append]
    obtain ⟨⟨⟨A2, k2⟩, b2', e2⟩, hs2⟩ := s2
    dsimp only at hs2 ⊢
    refine HL.fact (fun w H => Own.factR A2 H) ?_
    rintro ⟨_, _, _, hA2⟩
    refine hl_val (ov_move rfl) rfl rfl rfl <|
      hl_val (ov_extract rfl rfl) rfl rfl rfl <|
      hl_val (ov_extract rfl rfl) rfl rfl rfl <|
      hl_val (ov_assign rfl) rfl rfl rfl <|
      hl_val (ov_assign rfl) rfl rfl rfl <|
      hl_nil <| ?_
    refine hx_then_normal <|
      hc_seq <|
      hc_seq <|
      hc_region <|
      hl_val (ov_move rfl) rfl rfl rfl <|
      hl_val (ov_nil rfl) rfl rfl rfl <| ?_
    refine hl_val (ov_fieldA rfl) rfl rfl rfl <|
      hl_val (ov_load rfl (CellIs.blk rfl)) rfl rfl rfl <|
      hl_val (ov_move rfl) rfl rfl rfl <| ?_
    refine hl_partb (t := 59) rfl (fun q1 => ?_) (fun q1 => ?_)
    · have hno : ¬ refP xs s := fun h => by
        have h1 := rdEs_sticky i n hi s1 hs1b q1
        have h2 := h.1
        rw [hall, h1] at h2; cases h2
      refine hl_off rfl rfl rfl rfl rfl rfl <|
        hl_off rfl rfl rfl rfl rfl rfl <|
        hl_val (ov_pickT rfl rfl) rfl rfl rfl <|
        hl_val (ov_move rfl) rfl rfl rfl <|
        hl_off rfl rfl rfl rfl rfl rfl <|
        hl_off rfl rfl rfl rfl rfl rfl <| ?_
      refine hl_off rfl rfl rfl rfl rfl rfl <|
        hl_off rfl rfl rfl rfl rfl rfl <|
        hl_off rfl rfl rfl rfl rfl rfl <|
        hl_val (ov_pickT rfl rfl) rfl rfl rfl <|
        hl_nil <|
        hx_then_normal <| ?_
      refine hc_cond_true rfl <|
        hc_seq <|
        hc_region <|
        hl_val (ov_assign rfl) rfl rfl rfl <|
        hl_val (ov_assign rfl) rfl rfl rfl <|
        hl_nil <| ?_
      refine hx_then_normal <|
        hc_ret <|
        hx_then_ret <| ?_
      exact results_2 (.inr rfl) rfl rfl rfl fun w' H' => ⟨⟨((none, 0), [], 11), .inl ⟨hno, rfl, rfl⟩⟩, rfl, H'.ent (Ent.trans (Ent.nil_row 64 7) (Ent.cons (Ent.nil _)))⟩
    · have hin' : i = n := hX q1
      have hall' : rdAll s = rdEs i s1 := by rw [hall, hin']
      rcases hs2 with ⟨hno2, rfl, hne2, he2⟩ | ⟨hg2, rfl, rfl⟩
      · have hno : ¬ refP xs s := fun h => hno2 (by have := h.2.1; rw [hall'] at this; exact this)
        refine hl_on rfl rfl <| hl_val (ov_move rfl) rfl rfl rfl <|
          hl_on rfl rfl <| hl_val (ov_neq rfl rfl) rfl rfl rfl <|
          hl_val (ov_pickF rfl rfl) rfl rfl rfl <|
          hl_val (ov_move rfl) rfl rfl rfl <| ?_
        refine hl_partT (t := 63) rfl (hne2) ?_
        refine hl_off rfl rfl rfl rfl rfl rfl <|
          hl_off rfl rfl rfl rfl rfl rfl <|
          hl_off rfl rfl rfl rfl rfl rfl <|
          hl_off rfl rfl rfl rfl rfl rfl <|
          hl_off rfl rfl rfl rfl rfl rfl <|
          hl_val (ov_pickT rfl rfl) rfl rfl rfl <| ?_
        refine hl_nil <|
          hx_then_normal <|
          hc_cond_true rfl <|
          hc_seq <|
          hc_region <|
          hl_val (ov_assign rfl) rfl rfl rfl <| ?_
        refine hl_val (ov_assign rfl) rfl rfl rfl <|
          hl_nil <|
          hx_then_normal <|
          hc_ret <|
          hx_then_ret <| ?_
        exact results_2 (.inr rfl) rfl rfl rfl fun w' H' => ⟨⟨((none, 0), [], 11), .inl ⟨hno, rfl, rfl⟩⟩, rfl, H'.ent (Ent.trans (Ent.nil_row 64 7) (Ent.cons (Ent.nil _)))⟩
      · refine hl_on rfl rfl <| hl_val (ov_move rfl) rfl rfl rfl <|
          hl_on rfl rfl <| hl_val (ov_neq rfl rfl) rfl rfl rfl <|
          hl_val (ov_pickF rfl rfl) rfl rfl rfl <|
          hl_val (ov_move rfl) rfl rfl rfl <| ?_
        refine hl_partF (t := 63) rfl ((fun h => h rfl)) ?_
        refine hl_on rfl rfl <| hl_val (ov_move rfl) rfl rfl rfl <| ?_
        refine hl_on rfl rfl <| hl_val (ov_string (xs := edsB (rdEs i s1).1) rfl (SrcIs.rowR (A := A2) hA2)) rfl rfl rfl ?_
        refine hl_on rfl rfl <| hl_val (ov_move rfl) rfl rfl rfl <| ?_
        refine hl_on rfl rfl <| hl_val (ov_string (xs := xs) rfl (SrcIs.old HSx)) rfl rfl rfl ?_
        refine hl_on rfl rfl <| hl_val (by first | exact ov_neqV rfl rfl | exact ov_neqS rfl rfl) rfl rfl rfl <| ?_
        refine hl_val (ov_pickF rfl rfl) rfl rfl rfl <|
          hl_nil <|
          hx_then_normal <| ?_
        refine hc_cond rfl (fun q3 => ?_) (fun q3 => ?_)
        · have hno : ¬ refP xs s := fun h => q3 (by have := h.2.2; rw [hall'] at this; exact this)
          refine hc_seq <|
            hc_region <|
            hl_val (ov_assign rfl) rfl rfl rfl <|
            hl_val (ov_assign rfl) rfl rfl rfl <|
            hl_nil <|
            hx_then_normal <| ?_
          refine hc_ret <|
            hx_then_ret <| ?_
          exact results_2 (.inr rfl) rfl rfl rfl fun w' H' => ⟨⟨((none, 0), [], 11), .inl ⟨hno, rfl, rfl⟩⟩, rfl, H'.ent (Ent.trans (Ent.nil_row 64 7) (Ent.cons (Ent.nil _)))⟩
        · have hP : refP xs s := ⟨by rw [hall']; exact q1, by rw [hall']; exact hg2, by rw [hall']; exact Classical.not_not.1 q3⟩
          have hl1 : (rdAll s).1.length = i := by rw [hall']; exact hlen i
          refine hc_skip <|
            hx_then_normal <|
            hc_seq <|
            hc_region <|
            hl_val (ov_move rfl) rfl rfl rfl <|
            hl_val (ov_assign rfl) rfl rfl rfl <| ?_
          refine hl_val (ov_assign rfl) rfl rfl rfl <|
            hl_nil <|
            hx_then_normal <|
            hc_ret <| ?_
          exact results_2 (.inr rfl) rfl rfl rfl fun w' H' => ⟨⟨((A, c), (rdAll s).1, 0), .inr ⟨hP, rfl, rfl⟩⟩, by simp only [hl1], by simp only [hall', hlen]; exact H'.ent (by first | assumption | exact Ent.refl _ | exact Ent.nil _ | exact Ent.row_any (Ent.refl _) | (repeat (first | exact Ent.refl _ | exact Ent.nil _ | refine Ent.pick ?_)))⟩
end Go.Proofs.Ytpgpfcplchaleaa
