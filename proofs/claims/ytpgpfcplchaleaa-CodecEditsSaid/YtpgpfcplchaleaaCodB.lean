import Derived.Test.YtpgpfcplchaleaaCodA
set_option linter.unusedVariables false
set_option linter.unusedSimpArgs false
namespace Go.Proofs.Ytpgpfcplchaleaa
open Slk
theorem getN_in (s : RS) (k : Nat) (hk : k ≤ 6) : inI64 (getN s k) := by
  have h : getN s k < 281474976710656 := Nat.lt_of_lt_of_le (getN_lt s k) (by have : 256 ^ k ≤ 256 ^ 6 := Nat.pow_le_pow_right (by decide) hk; exact this)
  unfold inI64; omega
theorem rdE_ok (s : RS) : Flat.ok (rdE s).1 := ⟨getN_in _ 1 (by decide), getN_in _ 1 (by decide), getN_in _ 4 (by decide), getN_in _ 2 (by decide)⟩
theorem rdEs_ok (i : Nat) (s : RS) : ∀ x ∈ (rdEs i s).1, Flat.ok x := by
  induction i with
  | zero => intro x hx; cases hx
  | succ i ih =>
    intro x hx
    rcases List.mem_append.1 hx with h | h
    · exact ih x h
    · rw [List.mem_singleton.1 h]; exact rdE_ok _
/-- All that is read. -/
abbrev rdAll (s : RS) : List EditC × RS := rdEs (getN s 1) (getS s 1)
def listP (s : RS) : Prop := ((rdAll s).2.bad = false ∧ (rdAll s).2.rem = []) ∧ okEds (rdAll s).1
abbrev ListT (s : RS) := { r : (Option Addr × Nat) × List EditC × Int // (¬ listP s ∧ r.2.1 = [] ∧ r.2.2 = 11) ∨ (listP s ∧ r.2.1 = (rdAll s).1 ∧ r.2.2 = 0) }
theorem List_spec (D : Nat → Prop) (w : World) (v : Value) (xs : List UInt8) (HA : Old D w (Rep.rep xs [v])) :
    Calls Try.prog 23 #[v] w fun e w' => ∃ r : ListT ⟨xs, v, false⟩, e = .returned (.tuple #[.slice r.1.1.1 r.1.2.1.length r.1.1.2, .int .i64 r.1.2.2]) ∧ Own D w w' [row r.1.1.1 64 7 r.1.2.1.length r.1.1.2 (r.1.2.1.flatMap editV)] := by
  have HA0 := HA
  obtain ⟨A, cap, rfl, _⟩ := HA0.openB
  obtain ⟨s, hs⟩ : ∃ s : RS, s = ⟨xs, .slice A xs.length cap, false⟩ := ⟨_, rfl⟩
  have HA : Old D w (Rep.rep s.rem [s.v]) := by rw [hs]; exact HA
  rw [← hs]
  have hn : getN s 1 < 256 := getN_lt s 1
  have hlen : (rdAll s).1.length = getN s 1 := rdEs_len _ _
  have hok := rdEs_ok (getN s 1) (getS s 1)
  have HAe : Old D w (Rep.rep (rdAll s).2.rem [(rdAll s).2.v]) := old_rdEs _ (old_get 1 HA)
  refine hc_enter (vs := [.slice A xs.length cap]) Try.func23 rfl _ Try.ntmps23 rfl (Own.start D w) ?_
  simp only [argSlots, Nat.zero_add]
  refine hc_seq <|
    hc_region <|
    hl_val (ov_assign rfl) rfl rfl rfl <|
    hl_val (ov_assign rfl) rfl rfl rfl <|
    hl_nil <|
    hx_then_normal <| ?_
  refine hc_seq <|
    hc_region <|
    hl_val (ov_move rfl) rfl rfl rfl <|
    hl_val (ov_buildSN rfl rfl) rfl rfl rfl <| ?_
  refine hl_val (ov_buildSN rfl rfl) rfl rfl rfl <| ?_
  refine hl_new (on_boxN rfl rfl) rfl rfl rfl fun b9 =>  ?_
  refine hl_val (ov_assign rfl) rfl rfl rfl <|
    hl_nil <|
    hx_then_normal <|
    hc_seq <|
    hc_region <|
    hl_val (ov_move rfl) rfl rfl rfl <| ?_
  refine HL.ent (show Ent _ [blk b9 92 [s.v, .bool s.bad]] by rw [hs]; exact (by first | assumption | exact Ent.refl _ | exact Ent.nil _ | exact Ent.row_any (Ent.refl _) | (repeat (first | exact Ent.refl _ | exact Ent.nil _ | refine Ent.pick ?_)))) ?_
  refine hl_call (σ := Option Addr × Nat) Try.call45 rfl rfl (fun w1 H1 => Own.callpx (blk b9 92 [s.v, .bool s.bad]) H1 fun D' hold hin H2 => redits_spec D' w1 b9 92 s H2 (hold _ HA)) ?_
  intro q
  refine hl_val (ov_assign rfl) rfl rfl rfl <|
    hl_nil <|
    hx_then_normal <|
    hc_seq <|
    hc_seq <|
    hc_region <| ?_
  refine hl_val (ov_move rfl) rfl rfl rfl <| ?_
  refine hl_call (σ := BIff ((rdAll s).2.bad = false ∧ (rdAll s).2.rem = [])) Try.call46 rfl rfl (fun w1 H1 => Own.callpx (blk b9 92 [(rdAll s).2.v, .bool (rdAll s).2.bad]) H1 fun D' hold hin H2 => ended_spec D' w1 b9 92 (rdAll s).2 H2 (hold _ HAe)) ?_
  intro r
  refine hl_val (by first | exact ov_notd rfl | exact ov_not rfl) rfl rfl rfl <| ?_
  refine hl_val (ov_move rfl) rfl rfl rfl <| ?_
  refine hl_partb (t := 15) rfl (fun a1 => ?_) (fun a1 => ?_)
  · have hno : ¬ listP s := fun h => by have := r.2.2 h.1; rw [this] at a1; cases a1
    refine hl_off rfl rfl rfl rfl rfl rfl <|
      hl_off rfl rfl rfl rfl rfl rfl <|
      hl_off rfl rfl rfl rfl rfl rfl <|
      hl_val (ov_pickT rfl rfl) rfl rfl rfl <|
      hl_val (ov_move rfl) rfl rfl rfl <|
      hl_off rfl rfl rfl rfl rfl rfl <| ?_
    refine hl_off rfl rfl rfl rfl rfl rfl <|
      hl_val (ov_pickT rfl rfl) rfl rfl rfl <|
      hl_nil <|
      hx_then_normal <|
      hc_cond_true rfl <|
      hc_seq <| ?_
    refine hc_region <|
      hl_val (ov_assign rfl) rfl rfl rfl <|
      hl_val (ov_assign rfl) rfl rfl rfl <|
      hl_nil <|
      hx_then_normal <|
      hc_ret <| ?_
    refine hx_then_ret <| ?_
    exact results_2 (.inr rfl) rfl rfl rfl fun w' H' => ⟨⟨((none, 0), [], 11), .inl ⟨hno, rfl, rfl⟩⟩, rfl, H'.ent (Ent.trans (Ent.nil_row 64 7) (Ent.cons (Ent.nil _)))⟩
  · have hend := r.2.1 (by simpa using a1)
    refine hl_on rfl rfl <| hl_val (ov_move rfl) rfl rfl rfl <|
      hl_on rfl rfl <| hl_val (by first | exact ov_len rfl | exact ov_lenS rfl) rfl rfl rfl <| ?_
    refine hl_on rfl rfl <| hl_val (ov_gtr rfl rfl) rfl rfl rfl <|
      hl_val (ov_pickF rfl rfl) rfl rfl rfl <|
      hl_val (ov_move rfl) rfl rfl rfl <| ?_
    refine hl_part (t := 20) rfl (fun a2 => ?_) (fun a2 => ?_)
    · have hno : ¬ listP s := fun h => by have := h.2.1; omega
      refine hl_off rfl rfl rfl rfl rfl rfl <|
        hl_off rfl rfl rfl rfl rfl rfl <|
        hl_val (ov_pickT rfl rfl) rfl rfl rfl <|
        hl_nil <|
        hx_then_normal <|
        hc_cond_true rfl <| ?_
      refine hc_seq <|
        hc_region <|
        hl_val (ov_assign rfl) rfl rfl rfl <|
        hl_val (ov_assign rfl) rfl rfl rfl <|
        hl_nil <|
        hx_then_normal <| ?_
      refine hc_ret <|
        hx_then_ret <| ?_
      exact results_2 (.inr rfl) rfl rfl rfl fun w' H' => ⟨⟨((none, 0), [], 11), .inl ⟨hno, rfl, rfl⟩⟩, rfl, H'.ent (Ent.trans (Ent.nil_row 64 7) (Ent.cons (Ent.nil _)))⟩
    · refine hl_on rfl rfl <| hl_val (ov_move rfl) rfl rfl rfl <| ?_
      refine hl_on rfl rfl <| hl_call (σ := BIff (∃ i, badE (rdAll s).1 i)) Try.call40 rfl rfl (fun w1 H1 => Own.callx0 H1 fun D' hold hin H2 => HasE_spec D' w1 _ (rdAll s).1 (by omega) (hin _ fun h hs ho => rep_row (A := q.1) hs (rdAll s).1 hlen.symm (repL_F.2 ⟨rfl, hok⟩))) ?_
      intro r3
      try rw [List.nil_append]
      refine hl_val (ov_pickF rfl rfl) rfl rfl rfl <|
        hl_nil <|
        hx_then_normal <| ?_
      refine hc_cond_bool rfl (fun a3 => ?_) (fun a3 => ?_)
      · have hno : ¬ listP s := fun h => by
          obtain ⟨i, hi, hx⟩ := r3.2.1 a3
          exact hx (h.2.2 i hi)
        refine hc_seq <|
          hc_region <|
          hl_val (ov_assign rfl) rfl rfl rfl <|
          hl_val (ov_assign rfl) rfl rfl rfl <|
          hl_nil <|
          hx_then_normal <| ?_
        refine hc_ret <|
          hx_then_ret <| ?_
        exact results_2 (.inr rfl) rfl rfl rfl fun w' H' => ⟨⟨((none, 0), [], 11), .inl ⟨hno, rfl, rfl⟩⟩, rfl, H'.ent (Ent.trans (Ent.nil_row 64 7) (Ent.cons (Ent.nil _)))⟩
      · have hP : listP s := ⟨hend, by omega, fun i hi => Classical.byContradiction fun hx => by
          have := r3.2.2 ⟨i, hi, hx⟩
          rw [this] at a3; cases a3⟩
        refine hc_skip <|
          hx_then_normal <|
          hc_seq <|
          hc_region <|
          hl_val (ov_move rfl) rfl rfl rfl <|
          hl_val (ov_assign rfl) rfl rfl rfl <| ?_
        refine hl_val (ov_assign rfl) rfl rfl rfl <|
          hl_nil <|
          hx_then_normal <|
          hc_ret <| ?_
        exact results_2 (.inr rfl) rfl rfl rfl fun w' H' => ⟨⟨(q, (rdAll s).1, 0), .inr ⟨hP, rfl, rfl⟩⟩, by simp only [hlen], by simp only [hlen]; exact H'.ent (by first | assumption | exact Ent.refl _ | exact Ent.nil _ | exact Ent.row_any (Ent.refl _) | (repeat (first | exact Ent.refl _ | exact Ent.nil _ | refine Ent.pick ?_)))⟩
end Go.Proofs.Ytpgpfcplchaleaa
