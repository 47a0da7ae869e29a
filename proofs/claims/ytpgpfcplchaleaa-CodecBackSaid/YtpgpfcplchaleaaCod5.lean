import Derived.Test.YtpgpfcplchaleaaM4
set_option linter.unusedVariables false
set_option linter.unusedSimpArgs false
namespace Go.Proofs.Ytpgpfcplchaleaa
open Slk
theorem Config_good (D : Nat → Prop) (w : World) (c : ConfC) (vp vv vs : Value) (hg : goodP c) (H : ConfOld D w c vp vv vs) :
    Calls Try.prog 17 #[.agg (cfgV c vp vv vs).toArray] w fun e w' => ∃ q : Option Addr × Nat, e = .returned (.tuple #[.slice q.1 (cfgB c).length q.2, .int .i64 0]) ∧ Own D w w' [row q.1 5 1 (cfgB c).length q.2 ((cfgB c).map u8v)] :=
  (Config_spec D w c vp vv vs H).mono fun e w' hp => by
    rcases hp with ⟨h, _⟩ | ⟨_, h⟩
    · exact absurd hg h
    · exact h
theorem Edits_good (D : Nat → Prop) (w : World) (v : Value) (l : List EditC) (h1 : l.length ≤ 32) (h2 : ∀ i (h : i < l.length), goodE l[i]) (HA : Old D w (Rep.rep l [v])) :
    Calls Try.prog 20 #[v] w fun e w' => ∃ q : Option Addr × Nat, e = .returned (.tuple #[.slice q.1 (edsB l).length q.2, .int .i64 0]) ∧ Own D w w' [row q.1 5 1 (edsB l).length q.2 ((edsB l).map u8v)] :=
  (Edits_spec D w v l (by omega) HA).mono fun e w' hp => by
    rcases hp with ⟨h, _⟩ | ⟨_, ⟨i, hi, hb⟩, _⟩ | ⟨_, _, h⟩
    · omega
    · exact absurd (h2 i hi) hb
    · exact h
def e0 : EditC := (5, 1, 258, 0, 0, 0, 0)
theorem eds0 : edsB [e0] = [1, 5, 1, 0, 0, 1, 2, 0, 0, 0, 0, 0, 0, 0, 0, 0, 0] := by decide +kernel
theorem cfg0 : cfgB (firstC 2) = [128, 0, 20, 15, 2, 1, 0, 0, 78, 32, 0, 1, 1, 0, 0, 78, 32, 0, 1, 1, 0, 1, 3, 0, 0] := by decide +kernel
theorem good0 : goodP (firstC 2) := by
  refine ⟨⟨by decide, by decide, by decide, by decide, by decide, by decide, by decide, by decide⟩, ⟨by decide, by decide, fun i hi => ?_, fun i hi h0 => ?_⟩, ⟨by decide, by decide, fun i hi => ?_⟩, by decide, fun i hi h0 => absurd hi (Nat.not_lt_zero _), fun i hi => absurd hi (Nat.not_lt_zero _)⟩
  · have hi : i < 1 := hi
    obtain rfl : i = 0 := by omega
    exact (show vlanOk 2 ((1, 3, 0) : VlanC) from ⟨by decide, by decide, by decide, by decide⟩)
  · have hi : i < 1 := hi
    omega
  have hi : i < 2 := hi
  match i, hi with
  | 0, _ => exact (show portOk [((1, 3, 0) : VlanC)] ((true, 20000, 1) : PortC) from ⟨⟨0, by decide, rfl⟩, by decide, by decide⟩)
  | 1, _ => exact (show portOk [((1, 3, 0) : VlanC)] ((true, 20000, 1) : PortC) from ⟨⟨0, by decide, rfl⟩, by decide, by decide⟩)
theorem first_ok : (∀ x ∈ (firstC 2).2.2.2.1, Flat.ok x) ∧ (∀ x ∈ (firstC 2).2.2.2.2.1, Flat.ok x) := by
  constructor
  · intro x hx
    obtain rfl := List.eq_of_mem_replicate hx
    show inI64 1
    unfold inI64; decide
  intro x hx
  have : x = (1, UInt8.ofNat (2 ^ 2 - 1), 0) := by simpa [firstC] using hx
  subst this
  show inI64 1
  unfold inI64; decide
theorem e0_ok : ∀ x ∈ [e0], Flat.ok x := fun x hx => by
  obtain rfl : x = e0 := by simpa using hx
  exact ⟨by unfold inI64; decide, by unfold inI64; decide, by unfold inI64; decide, by unfold inI64; decide⟩
theorem wakes_spec (D : Nat → Prop) (w : World) : Calls Try.prog 16 #[] w fun e w' => e = .returned (.bool true) ∧ Own D w w' [] := by
  refine hc_enter (vs := []) Try.func16 rfl _ Try.ntmps16 rfl (Own.start D w) ?_
  simp only [argSlots, Nat.zero_add]
  refine hc_seq <| hc_region <| hl_v (ov_assign rfl) rfl <| hl_nil <| hx_then_normal <| hc_seq <| ?_
  refine hc_region <| ?_
  refine hl_call (σ := (Option Addr × Nat) × Nat) Try.call29 rfl rfl (fun w1 H1 => Own.callx0 H1 fun D' hold hin H2 => First_spec D' w1 2 (by decide) (by decide)) ?_
  rintro ⟨⟨A, c⟩, b⟩
  try rw [List.nil_append]
  dsimp only
  refine hl_v (ov_move rfl) rfl <| hl_v (ov_extract rfl rfl) rfl <| hl_v (ov_extract rfl rfl) rfl <| hl_new (on_alloc) rfl rfl rfl fun b1 =>  ?_
  refine hl_u0 (on_storeW (vs := cfgV (firstC 2) (.slice A 2 c) (.slice (some ⟨b, 0, none⟩) 1 1) (.slice none 0 0)) rfl rfl rfl (by simp) (by simp [firstC, Value.oneCell'])) rfl rfl ?_
  refine hl_v (ov_assign rfl) rfl <| hl_nil <| hx_then_normal <| hc_seq <| hc_region <| hl_v (by first | exact ov_loadW rfl (by simp; done) | exact ov_loadGB rfl rfl) rfl <| ?_
  refine hl_call (σ := Option Addr × Nat) Try.call17 rfl rfl (fun w1 H1 => Own.callx0 H1 fun D' hold hin H2 => (Config_good D' w1 (firstC 2) (.slice A 2 c) (.slice (some ⟨b, 0, none⟩) 1 1) (.slice none 0 0) good0 ⟨(by unfold inI64; decide), (by unfold inI64; decide), (by unfold inI64; decide), hin _ fun h hs ho => rep_row (A := A) hs (firstC 2).2.2.2.1 rfl (repL_F.2 ⟨rfl, first_ok.1⟩), hin _ fun h hs ho => rep_row (A := some ⟨b, 0, none⟩) hs (firstC 2).2.2.2.2.1 rfl (repL_F.2 ⟨rfl, first_ok.2⟩), hin _ fun h hs ho => (rep_nil : Rep.rep ([] : List StatC) [.slice none 0 0] h), by decide, by decide, by decide⟩)) ?_
  intro q
  try rw [List.nil_append]
  rw [cfg0]
  refine hl_v (ov_move rfl) rfl <| hl_v (ov_extract rfl rfl) rfl <| hl_v (ov_extract rfl rfl) rfl <| hl_v (ov_assign rfl) rfl <| hl_v (ov_assign rfl) rfl <| hl_nil <| ?_
  refine hx_then_normal <| hc_seq <| hc_region <| hl_v (ov_buildSN rfl rfl) rfl <| ?_
  refine hl_new (on_buildSliceN rfl rfl rfl) rfl rfl rfl fun b18 =>  ?_
  refine hl_call (σ := Option Addr × Nat) Try.call20 rfl rfl (fun w1 H1 => Own.callx0 H1 fun D' hold hin H2 => (Edits_good D' w1 _ [e0] (by decide) (fun i hi => (by have hi : i < 1 := hi; obtain rfl : i = 0 := (by omega); exact (show goodE e0 from ⟨by decide, by decide, by decide, by decide, by decide, by decide, by decide, by decide, by decide⟩))) (hin _ fun h hs ho => rep_lits (b := b18) hs [e0] (repL_F.2 ⟨rfl, e0_ok⟩) (by decide)))) ?_
  intro q2
  try rw [List.nil_append]
  rw [eds0]
  have hl1 : ([128, 0, 20, 15, 2, 1, 0, 0, 78, 32, 0, 1, 1, 0, 0, 78, 32, 0, 1, 1, 0, 1, 3, 0, 0] : List UInt8).length = 25 := rfl
  have hl2 : ([1, 5, 1, 0, 0, 1, 2, 0, 0, 0, 0, 0, 0, 0, 0, 0, 0] : List UInt8).length = 17 := rfl
  refine HL.fact (fun w H => Own.factR q.1 H) ?_
  rintro ⟨_, _, _, hA⟩
  have hA : isA q.1 := hA (by simp)
  refine HL.fact (fun w H => Own.factR q2.1 H) ?_
  rintro ⟨_, _, _, hA2⟩
  have hA2 : isA q2.1 := hA2 (by simp)
  refine hl_v (ov_move rfl) rfl <| hl_v (ov_extract rfl rfl) rfl <| hl_v (ov_extract rfl rfl) rfl <| hl_v (ov_assign rfl) rfl <| hl_v (ov_assign rfl) rfl <| hl_nil <| ?_
  refine hx_then_normal <| hc_seq <| hc_region <| hl_v (ov_move rfl) rfl <| hl_v (ov_eql rfl rfl) rfl <| hl_v (ov_move rfl) rfl <| ?_
  refine hl_partT (t := 24) rfl (rfl) ?_
  refine hl_on rfl rfl <| hl_v (ov_move rfl) rfl <| hl_on rfl rfl <| hl_v (by first | exact ov_len rfl | exact ov_lenS rfl) rfl <| ?_
  refine hl_on rfl rfl <| hl_v (ov_eql rfl rfl) rfl <| hl_v (ov_pickT rfl rfl) rfl <| hl_v (ov_move rfl) rfl <| ?_
  refine hl_partT (t := 29) rfl (rfl) ?_
  refine hl_on rfl rfl <| hl_v (ov_move rfl) rfl <| hl_on rfl rfl <| hl_v (ov_idxSc rfl (by assumption) rfl rfl (by omega)) rfl <| ?_
  refine hl_on rfl rfl <| hl_v (ov_load rfl (CellIs.row (A := q.1) hA (i := 0) (v := .int .u8 128) rfl)) rfl ?_
  refine hl_on rfl rfl <| hl_v (ov_eql rfl rfl) rfl <| hl_v (ov_pickT rfl rfl) rfl <| hl_v (ov_move rfl) rfl <| ?_
  refine hl_partT (t := 35) rfl (rfl) ?_
  refine hl_on rfl rfl <| hl_v (ov_move rfl) rfl <| hl_on rfl rfl <| hl_v (ov_eql rfl rfl) rfl <| hl_v (ov_pickT rfl rfl) rfl <| hl_v (ov_move rfl) rfl <| ?_
  refine hl_partT (t := 39) rfl (rfl) ?_
  refine hl_on rfl rfl <| hl_v (ov_move rfl) rfl <| hl_on rfl rfl <| hl_v (by first | exact ov_len rfl | exact ov_lenS rfl) rfl <| ?_
  refine hl_on rfl rfl <| hl_v (ov_eql rfl rfl) rfl <| hl_v (ov_pickT rfl rfl) rfl <| hl_v (ov_move rfl) rfl <| ?_
  refine hl_partT (t := 44) rfl (rfl) ?_
  refine hl_on rfl rfl <| hl_v (ov_move rfl) rfl <| hl_on rfl rfl <| hl_v (ov_idxSc rfl (by assumption) rfl rfl (by omega)) rfl <| ?_
  refine hl_on rfl rfl <| hl_v (ov_load rfl (CellIs.row (A := q2.1) hA2 (i := 1) (v := .int .u8 5) rfl)) rfl ?_
  refine hl_on rfl rfl <| hl_v (ov_eql rfl rfl) rfl <| hl_v (ov_pickT rfl rfl) rfl <| hl_v (ov_move rfl) rfl <| ?_
  refine hl_partT (t := 50) rfl (rfl) ?_
  refine hl_on rfl rfl <| hl_v (ov_move rfl) rfl <| hl_on rfl rfl <| hl_v (ov_idxSc rfl (by assumption) rfl rfl (by omega)) rfl <| ?_
  refine hl_on rfl rfl <| hl_v (ov_load rfl (CellIs.row (A := q2.1) hA2 (i := 5) (v := .int .u8 1) rfl)) rfl ?_
  refine hl_on rfl rfl <| hl_v (ov_eql rfl rfl) rfl <| hl_v (ov_pickT rfl rfl) rfl <| hl_v (ov_move rfl) rfl <| ?_
  refine hl_partT (t := 56) rfl (rfl) ?_
  refine hl_on rfl rfl <| hl_v (ov_move rfl) rfl <| hl_on rfl rfl <| hl_v (ov_idxSc rfl (by assumption) rfl rfl (by omega)) rfl <| ?_
  refine hl_on rfl rfl <| hl_v (ov_load rfl (CellIs.row (A := q2.1) hA2 (i := 6) (v := .int .u8 2) rfl)) rfl ?_
  refine hl_on rfl rfl <| hl_v (ov_eql rfl rfl) rfl <| hl_v (ov_pickT rfl rfl) rfl <| hl_v (ov_assign rfl) rfl <| hl_nil <| hx_then_normal <| hc_ret <| ?_
  exact results_1 (.inr rfl) rfl rfl fun w' H' => ⟨rfl, H'.ent (Ent.nil _)⟩
end Go.Proofs.Ytpgpfcplchaleaa
