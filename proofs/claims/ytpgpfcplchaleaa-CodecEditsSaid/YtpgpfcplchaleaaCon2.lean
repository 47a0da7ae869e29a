import Derived.Test.YtpgpfcplchaleaaCon1
set_option linter.unusedVariables false
set_option linter.unusedSimpArgs false
namespace Go.Proofs.Ytpgpfcplchaleaa
open Slk
def risP {α : Type} (c : α → α → Int) (l : List α) : Prop := ∀ i (h : i < l.length), 0 < i → c (l[i - 1]'(by omega)) l[i] < 0
abbrev BIff (p : Prop) := { b : Bool // b = true ↔ p }
def bT {p : Prop} (h : p) : BIff p := ⟨true, by simp [h]⟩
def bF {p : Prop} (h : ¬ p) : BIff p := ⟨false, by simp [h]⟩
def cV (x y : VlanC) : Int := cmpI x.1 y.1
theorem risV_spec (D : Nat → Prop) (w : World) (v : Value) (l : List VlanC) (hl : l.length ≤ 1000000) (HA : Old D w (Rep.rep l [v])) :
    Calls Try.prog 75 #[v, .func (.func 76) #[] #[]] w fun e w' => ∃ b : BIff (risP cV l), e = .returned (.bool b.1) ∧ Own D w w' [] := by
  obtain ⟨A, cap, rfl, hc1, hc2, HS, hok⟩ := HA.openF
  have HS : OldS D w A (l.flatMap vlanV) := HS
  refine hc_enter (vs := [.slice A l.length cap, .func (.func 76) #[] #[]]) Try.func75 rfl _ Try.ntmps75 rfl (Own.start D w) ?_
  simp only [argSlots, Nat.zero_add]
  refine hc_seq <|
    hc_region <|
    hl_val (ov_assign rfl) rfl rfl rfl <|
    hl_nil <|
    hx_then_normal <|
    hc_seq <| ?_
  refine hc_seq <|
    hc_region <|
    hl_val (ov_move rfl) rfl rfl rfl <|
    hl_val (by first | exact ov_len rfl | exact ov_lenS rfl) rfl rfl rfl <| ?_
  refine hl_val (ov_move rfl) rfl rfl rfl <|
    hl_nil <|
    hx_then_normal <|
    hc_block <| ?_
  refine hc_loops1 (σ := Nat) [0, 1, 7] rfl 8 (fun i => .int .i64 (i : Int)) (fun i => i ≤ l.length ∧ ∀ j (h : j < l.length), j < i → 0 < j → cV (l[j - 1]'(by omega)) l[j] < 0) (fun i => l.length - i) (0) (⟨Nat.zero_le _, fun j _ h => absurd h (Nat.not_lt_zero _)⟩) rfl ?_
  rintro i ⟨hi, hris⟩ K1 hK1
  refine hc_seq <|
    hc_region <|
    hl_val (ov_lss rfl rfl) rfl rfl rfl <|
    hl_nil <|
    hx_then_normal <|
    hc_seq <| ?_
  refine hc_cond rfl (fun h => ?_) (fun h => ?_)
  · have hlt : i < l.length := by omega
    obtain ⟨hA, hc⟩ := OldS.cells_flat (f := vlanV) (sz := 3) (fun _ => rfl) (by decide) HS hlt []
    refine hc_skip <|
      hx_then_normal <|
      hc_seq <|
      hc_block <|
      hc_seq <|
      hc_region <| ?_
    refine hl_val (ov_move rfl) rfl rfl rfl <|
      hl_val (ov_assign rfl) rfl rfl rfl <|
      hl_nil <|
      hx_then_normal <|
      hc_seq <| ?_
    refine hc_tail 13 mixed (by kernel_rfl) ?_
    refine ht_val (ov_move rfl) rfl rfl rfl <|
      ht_val (ov_gtr rfl rfl) rfl rfl rfl <|
      ht_val (ov_move rfl) rfl rfl rfl <| ?_
    refine ht_part (t := 13) rfl (fun h0 => ?_) (fun h0 => ?_)
    · have hlt2 : i - 1 < l.length := by omega
      obtain ⟨_, hc2⟩ := OldS.cells_flat (f := vlanV) (sz := 3) (fun _ => rfl) (by decide) HS hlt2 []
      have hnext : cV l[i - 1] l[i] < 0 → ∀ j (h : j < l.length), j < i + 1 → 0 < j → cV (l[j - 1]'(by omega)) l[j] < 0 := fun hx j hj h1 h2 => by
        rcases Nat.lt_or_ge j i with h3 | h3
        · exact hris j hj h3 h2
        · obtain rfl : j = i := by omega
          exact hx
      have hbad : ¬ cV l[i - 1] l[i] < 0 → ¬ risP cV l := fun hx hr => hx (hr i hlt (by omega))
      generalize l[i - 1] = y at *
      generalize l[i] = x at *
      refine ht_on rfl rfl <| ht_val (ov_move rfl) rfl rfl rfl <|
        ht_on rfl rfl <| ht_val (ov_move rfl) rfl rfl rfl <|
        ht_on rfl rfl <| ht_val (ov_move rfl) rfl rfl rfl <| ?_
      refine ht_on rfl rfl <| ht_val (ov_sub (m := ((i - 1 : Nat) : Int)) rfl rfl (by rw [wrap_i64 (by omega)]; omega)) rfl rfl rfl ?_
      refine ht_on rfl rfl <| ht_val (ov_idxS rfl (by assumption) rfl _ rfl (by omega)) rfl rfl rfl <| ?_
      refine ht_on rfl rfl <| ht_val (ov_loadG (cs := vlanV y) rfl rfl hc2) rfl rfl rfl ?_
      refine ht_on rfl rfl <| ht_val (ov_move rfl) rfl rfl rfl <|
        ht_on rfl rfl <| ht_val (ov_move rfl) rfl rfl rfl <|
        ht_on rfl rfl <| ht_val (ov_idxS rfl (by assumption) rfl _ rfl (by omega)) rfl rfl rfl <| ?_
      refine ht_on rfl rfl <| ht_val (ov_loadG (cs := vlanV x) rfl rfl hc) rfl rfl rfl ?_
      refine ht_nil <| ?_
      refine hl_on rfl rfl <| hl_cv rfl (fun _ _ => Try.call76 _ _) rfl rfl (fun w1 H1 => Own.calln H1 fun D' hold hin H2 => vlans1_spec D' w1 y x) ?_
      refine hl_on rfl rfl <| hl_val (ov_geq rfl rfl) rfl rfl rfl <|
        hl_val (ov_pickT rfl rfl) rfl rfl rfl <|
        hl_nil <|
        hx_then_normal <| ?_
      refine hc_cond rfl (fun hx => ?_) (fun hx => ?_)
      · have hb := hbad (show ¬ cV y x < 0 by have hx : 0 ≤ cV y x := hx; omega)
        refine hc_seq <|
          hc_region <|
          hl_val (ov_assign rfl) rfl rfl rfl <|
          hl_nil <|
          hx_then_normal <|
          hc_ret <| ?_
        refine hx_block_ret <|
          hx_then_ret <|
          hx_then_ret <|
          hx_block_ret <|
          hx_then_ret <| ?_
        exact results_1 (.inr rfl) rfl rfl fun w' H' => ⟨bF hb, rfl, H'⟩
      · have hn := hnext (show cV y x < 0 by have hx : ¬ 0 ≤ cV y x := hx; omega)
        refine hc_skip <|
          hx_block_normal <|
          hx_then_normal <|
          hc_region <|
          hl_val (ov_add rfl rfl (by first | exact wrap_i64 (by omega) | rfl)) rfl rfl rfl <| ?_
        refine hl_val (ov_move rfl) rfl rfl rfl <|
          hl_nil <| ?_
        refine hx_next hK1 (i + 1) (⟨hlt, hn⟩) (by omega) (by repeat (first | exact Slots.sub_nil _ | refine Slots.sub_cons rfl ?_)) (by first | assumption | exact Ent.refl _ | exact Ent.nil _ | (repeat (first | exact Ent.refl _ | exact Ent.nil _ | refine Ent.pick ?_)))
    · refine ht_off rfl rfl rfl rfl rfl rfl <|
        ht_off rfl rfl rfl rfl rfl rfl <|
        ht_off rfl rfl rfl rfl rfl rfl <|
        ht_off rfl rfl rfl rfl rfl rfl <|
        ht_off rfl rfl rfl rfl rfl rfl <|
        ht_off rfl rfl rfl rfl rfl rfl <| ?_
      refine ht_off rfl rfl rfl rfl rfl rfl <|
        ht_off rfl rfl rfl rfl rfl rfl <|
        ht_off rfl rfl rfl rfl rfl rfl <|
        ht_off rfl rfl rfl rfl rfl rfl <|
        ht_nil <|
        hl_off rfl rfl rfl rfl rfl rfl <| ?_
      refine hl_off rfl rfl rfl rfl rfl rfl <|
        hl_val (ov_pickF rfl rfl) rfl rfl rfl <|
        hl_nil <|
        hx_then_normal <|
        hc_cond_false rfl <|
        hc_skip <| ?_
      refine hx_block_normal <|
        hx_then_normal <|
        hc_region <|
        hl_val (ov_add rfl rfl (by first | exact wrap_i64 (by omega) | rfl)) rfl rfl rfl <| ?_
      refine hl_val (ov_move rfl) rfl rfl rfl <|
        hl_nil <| ?_
      refine hx_next hK1 (i + 1) (⟨hlt, fun j _ h1 h2 => by omega⟩) (by omega) (by repeat (first | exact Slots.sub_nil _ | refine Slots.sub_cons rfl ?_)) (by first | assumption | exact Ent.refl _ | exact Ent.nil _ | (repeat (first | exact Ent.refl _ | exact Ent.nil _ | refine Ent.pick ?_)))
  · refine hc_exit <|
      hx_then_exit <|
      hx_then_exit <|
      hx_block_out <|
      hx_then_normal <|
      hc_seq <| ?_
    refine hc_region <|
      hl_val (ov_assign rfl) rfl rfl rfl <|
      hl_nil <|
      hx_then_normal <|
      hc_ret <| ?_
    exact results_1 (.inr rfl) rfl rfl fun w' H' => ⟨bT (fun j h h0 => hris j h (by omega) h0), rfl, H'⟩
theorem risS_spec (D : Nat → Prop) (w : World) (v : Value) (l : List StatC) (hl : l.length ≤ 1000000) (HA : Old D w (Rep.rep l [v])) :
    Calls Try.prog 56 #[v, .func (.func 57) #[] #[]] w fun e w' => ∃ b : BIff (risP byPl l), e = .returned (.bool b.1) ∧ Own D w w' [] := by
  obtain ⟨A, cap, rfl, hc1, hc2, HS, hok⟩ := HA.openF
  have HS : OldS D w A (l.flatMap statV) := HS
  refine hc_enter (vs := [.slice A l.length cap, .func (.func 57) #[] #[]]) Try.func56 rfl _ Try.ntmps56 rfl (Own.start D w) ?_
  simp only [argSlots, Nat.zero_add]
  refine hc_seq <|
    hc_region <|
    hl_val (ov_assign rfl) rfl rfl rfl <|
    hl_nil <|
    hx_then_normal <|
    hc_seq <| ?_
  refine hc_seq <|
    hc_region <|
    hl_val (ov_move rfl) rfl rfl rfl <|
    hl_val (by first | exact ov_len rfl | exact ov_lenS rfl) rfl rfl rfl <| ?_
  refine hl_val (ov_move rfl) rfl rfl rfl <|
    hl_nil <|
    hx_then_normal <|
    hc_block <| ?_
  refine hc_loops1 (σ := Nat) [0, 1, 7] rfl 8 (fun i => .int .i64 (i : Int)) (fun i => i ≤ l.length ∧ ∀ j (h : j < l.length), j < i → 0 < j → byPl (l[j - 1]'(by omega)) l[j] < 0) (fun i => l.length - i) (0) (⟨Nat.zero_le _, fun j _ h => absurd h (Nat.not_lt_zero _)⟩) rfl ?_
  rintro i ⟨hi, hris⟩ K1 hK1
  refine hc_seq <|
    hc_region <|
    hl_val (ov_lss rfl rfl) rfl rfl rfl <|
    hl_nil <|
    hx_then_normal <|
    hc_seq <| ?_
  refine hc_cond rfl (fun h => ?_) (fun h => ?_)
  · have hlt : i < l.length := by omega
    obtain ⟨hA, hc⟩ := OldS.cells_flat (f := statV) (sz := 3) (fun _ => rfl) (by decide) HS hlt []
    refine hc_skip <|
      hx_then_normal <|
      hc_seq <|
      hc_block <|
      hc_seq <|
      hc_region <| ?_
    refine hl_val (ov_move rfl) rfl rfl rfl <|
      hl_val (ov_assign rfl) rfl rfl rfl <|
      hl_nil <|
      hx_then_normal <|
      hc_seq <| ?_
    refine hc_tail 13 mixed (by kernel_rfl) ?_
    refine ht_val (ov_move rfl) rfl rfl rfl <|
      ht_val (ov_gtr rfl rfl) rfl rfl rfl <|
      ht_val (ov_move rfl) rfl rfl rfl <| ?_
    refine ht_part (t := 13) rfl (fun h0 => ?_) (fun h0 => ?_)
    · have hlt2 : i - 1 < l.length := by omega
      obtain ⟨_, hc2⟩ := OldS.cells_flat (f := statV) (sz := 3) (fun _ => rfl) (by decide) HS hlt2 []
      have hnext : byPl l[i - 1] l[i] < 0 → ∀ j (h : j < l.length), j < i + 1 → 0 < j → byPl (l[j - 1]'(by omega)) l[j] < 0 := fun hx j hj h1 h2 => by
        rcases Nat.lt_or_ge j i with h3 | h3
        · exact hris j hj h3 h2
        · obtain rfl : j = i := by omega
          exact hx
      have hbad : ¬ byPl l[i - 1] l[i] < 0 → ¬ risP byPl l := fun hx hr => hx (hr i hlt (by omega))
      generalize l[i - 1] = y at *
      generalize l[i] = x at *
      refine ht_on rfl rfl <| ht_val (ov_move rfl) rfl rfl rfl <|
        ht_on rfl rfl <| ht_val (ov_move rfl) rfl rfl rfl <|
        ht_on rfl rfl <| ht_val (ov_move rfl) rfl rfl rfl <| ?_
      refine ht_on rfl rfl <| ht_val (ov_sub (m := ((i - 1 : Nat) : Int)) rfl rfl (by rw [wrap_i64 (by omega)]; omega)) rfl rfl rfl ?_
      refine ht_on rfl rfl <| ht_val (ov_idxS rfl (by assumption) rfl _ rfl (by omega)) rfl rfl rfl <| ?_
      refine ht_on rfl rfl <| ht_val (ov_loadG (cs := statV y) rfl rfl hc2) rfl rfl rfl ?_
      refine ht_on rfl rfl <| ht_val (ov_move rfl) rfl rfl rfl <|
        ht_on rfl rfl <| ht_val (ov_move rfl) rfl rfl rfl <|
        ht_on rfl rfl <| ht_val (ov_idxS rfl (by assumption) rfl _ rfl (by omega)) rfl rfl rfl <| ?_
      refine ht_on rfl rfl <| ht_val (ov_loadG (cs := statV x) rfl rfl hc) rfl rfl rfl ?_
      refine ht_nil <| ?_
      refine hl_on rfl rfl <| hl_cv rfl (fun _ _ => Try.call57 _ _) rfl rfl (fun w1 H1 => Own.calln H1 fun D' hold hin H2 => byPlace_spec D' w1 y x) ?_
      refine hl_on rfl rfl <| hl_val (ov_geq rfl rfl) rfl rfl rfl <|
        hl_val (ov_pickT rfl rfl) rfl rfl rfl <|
        hl_nil <|
        hx_then_normal <| ?_
      refine hc_cond rfl (fun hx => ?_) (fun hx => ?_)
      · have hb := hbad (show ¬ byPl y x < 0 by have hx : 0 ≤ byPl y x := hx; omega)
        refine hc_seq <|
          hc_region <|
          hl_val (ov_assign rfl) rfl rfl rfl <|
          hl_nil <|
          hx_then_normal <|
          hc_ret <| ?_
        refine hx_block_ret <|
          hx_then_ret <|
          hx_then_ret <|
          hx_block_ret <|
          hx_then_ret <| ?_
        exact results_1 (.inr rfl) rfl rfl fun w' H' => ⟨bF hb, rfl, H'⟩
      · have hn := hnext (show byPl y x < 0 by have hx : ¬ 0 ≤ byPl y x := hx; omega)
        refine hc_skip <|
          hx_block_normal <|
          hx_then_normal <|
          hc_region <|
          hl_val (ov_add rfl rfl (by first | exact wrap_i64 (by omega) | rfl)) rfl rfl rfl <| ?_
        refine hl_val (ov_move rfl) rfl rfl rfl <|
          hl_nil <| ?_
        refine hx_next hK1 (i + 1) (⟨hlt, hn⟩) (by omega) (by repeat (first | exact Slots.sub_nil _ | refine Slots.sub_cons rfl ?_)) (by first | assumption | exact Ent.refl _ | exact Ent.nil _ | (repeat (first | exact Ent.refl _ | exact Ent.nil _ | refine Ent.pick ?_)))
    · refine ht_off rfl rfl rfl rfl rfl rfl <|
        ht_off rfl rfl rfl rfl rfl rfl <|
        ht_off rfl rfl rfl rfl rfl rfl <|
        ht_off rfl rfl rfl rfl rfl rfl <|
        ht_off rfl rfl rfl rfl rfl rfl <|
        ht_off rfl rfl rfl rfl rfl rfl <| ?_
      refine ht_off rfl rfl rfl rfl rfl rfl <|
        ht_off rfl rfl rfl rfl rfl rfl <|
        ht_off rfl rfl rfl rfl rfl rfl <|
        ht_off rfl rfl rfl rfl rfl rfl <|
        ht_nil <|
        hl_off rfl rfl rfl rfl rfl rfl <| ?_
      refine hl_off rfl rfl rfl rfl rfl rfl <|
        hl_val (ov_pickF rfl rfl) rfl rfl rfl <|
        hl_nil <|
        hx_then_normal <|
        hc_cond_false rfl <|
        hc_skip <| ?_
      refine hx_block_normal <|
        hx_then_normal <|
        hc_region <|
        hl_val (ov_add rfl rfl (by first | exact wrap_i64 (by omega) | rfl)) rfl rfl rfl <| ?_
      refine hl_val (ov_move rfl) rfl rfl rfl <|
        hl_nil <| ?_
      refine hx_next hK1 (i + 1) (⟨hlt, fun j _ h1 h2 => by omega⟩) (by omega) (by repeat (first | exact Slots.sub_nil _ | refine Slots.sub_cons rfl ?_)) (by first | assumption | exact Ent.refl _ | exact Ent.nil _ | (repeat (first | exact Ent.refl _ | exact Ent.nil _ | refine Ent.pick ?_)))
  · refine hc_exit <|
      hx_then_exit <|
      hx_then_exit <|
      hx_block_out <|
      hx_then_normal <|
      hc_seq <| ?_
    refine hc_region <|
      hl_val (ov_assign rfl) rfl rfl rfl <|
      hl_nil <|
      hx_then_normal <|
      hc_ret <| ?_
    exact results_1 (.inr rfl) rfl rfl fun w' H' => ⟨bT (fun j h h0 => hris j h (by omega) h0), rfl, H'⟩
theorem ris_lt {l : List VlanC} (h : risP cV l) : ∀ (q p : Nat) (hq : q < p) (hp : p < l.length), (l[q]'(by omega)).1 < l[p].1 := fun q p hq hp => by
  induction p with
  | zero => omega
  | succ p ih =>
    have h1 := h (p + 1) hp (by omega)
    simp only [Nat.add_sub_cancel] at h1
    have h2 : (l[p]'(by omega)).1 < l[p + 1].1 := by
      unfold cV cmpI at h1
      split at h1
      · assumption
      · split at h1 <;> omega
    rcases Nat.lt_or_ge q p with h3 | h3
    · have := ih h3 (by omega); omega
    · obtain rfl : q = p := by omega
      exact h2
/-- Where an id stands, or would stand. -/
def atP (l : List VlanC) (id : Int) (i : Nat) : Prop := i ≤ l.length ∧ (∀ q (h : q < l.length), q < i → l[q].1 < id) ∧ ∀ q (h : q < l.length), i ≤ q → id ≤ l[q].1
theorem cmpI_neg {a b : Int} : cmpI a b < 0 ↔ a < b := by
  unfold cmpI
  split
  · simp; assumption
  · split <;> omega
theorem cmpI_zero {a b : Int} : cmpI a b = 0 ↔ a = b := by
  unfold cmpI
  split
  · omega
  · split <;> omega
theorem shr1 (n : Nat) : ((n : Int)).fdiv (2 ^ (min (Int.toNat 1) 64)) = ((n / 2 : Nat) : Int) := by
  rw [Int.fdiv_eq_ediv_of_nonneg _ (by decide)]
  simp
theorem BSV_spec (D : Nat → Prop) (w : World) (v : Value) (l : List VlanC) (id : Int) (hl : l.length ≤ 1000000) (hr : risP cV l) (HA : Old D w (Rep.rep l [v])) :
    Calls Try.prog 88 #[v, .int .i64 id, .func (.func 89) #[] #[]] w fun e w' => ∃ b : { p : Nat × Bool // atP l id p.1 ∧ (p.2 = true ↔ ∃ h : p.1 < l.length, l[p.1].1 = id) }, e = .returned (.tuple #[.int .i64 b.1.1, .bool b.1.2]) ∧ Own D w w' [] := by
  obtain ⟨A, cap, rfl, hc1, hc2, HS, hok⟩ := HA.openF
  have HS : OldS D w A (l.flatMap vlanV) := HS
  have hlt' := ris_lt hr
  refine hc_enter (vs := [.slice A l.length cap, .int .i64 id, .func (.func 89) #[] #[]]) Try.func88 rfl _ Try.ntmps88 rfl (Own.start D w) ?_
  simp only [argSlots, Nat.zero_add]
  refine hc_seq <|
    hc_region <|
    hl_val (ov_assign rfl) rfl rfl rfl <|
    hl_val (ov_assign rfl) rfl rfl rfl <|
    hl_nil <|
    hx_then_normal <| ?_
  refine hc_seq <|
    hc_region <|
    hl_val (ov_move rfl) rfl rfl rfl <|
    hl_val (by first | exact ov_len rfl | exact ov_lenS rfl) rfl rfl rfl <| ?_
  refine hl_val (ov_assign rfl) rfl rfl rfl <|
    hl_nil <|
    hx_then_normal <|
    hc_seq <|
    hc_region <|
    hl_val (ov_move rfl) rfl rfl rfl <| ?_
  refine hl_val (ov_assign rfl) rfl rfl rfl <|
    hl_val (ov_assign rfl) rfl rfl rfl <|
    hl_nil <|
    hx_then_normal <|
    hc_seq <|
    hc_block <| ?_
  refine hc_loops2 (σ := Nat × Nat) [0, 1, 2, 8] rfl 9 (fun s => .int .i64 (s.1 : Int)) 10 (fun s => .int .i64 (s.2 : Int)) (fun s => s.1 ≤ s.2 ∧ s.2 ≤ l.length ∧ (∀ q (h : q < l.length), q < s.1 → l[q].1 < id) ∧ (∀ q (h : q < l.length), s.2 ≤ q → id ≤ l[q].1)) (fun s => s.2 - s.1) ((0, l.length)) (⟨Nat.zero_le _, Nat.le_refl _, fun _ _ h => absurd h (Nat.not_lt_zero _), fun q h h2 => absurd h2 (by simpa using h)⟩) rfl rfl ?_
  rintro ⟨i, j⟩ hj_ K1 hK1
  dsimp only at hj_ ⊢
  obtain ⟨hij, hj, h1, h2⟩ := hj_
  refine hc_seq <|
    hc_seq <|
    hc_region <|
    hl_val (ov_move rfl) rfl rfl rfl <|
    hl_val (ov_move rfl) rfl rfl rfl <|
    hl_val (ov_lss rfl rfl) rfl rfl rfl <| ?_
  refine hl_nil <|
    hx_then_normal <| ?_
  refine hc_cond rfl (fun h => ?_) (fun h => ?_)
  · have hlt : i < j := by omega
    obtain ⟨m, hm⟩ : ∃ m, (i + j) / 2 = m := ⟨_, rfl⟩
    have hmi : i ≤ m := by omega
    have hmj : m < j := by omega
    have hml : m < l.length := by omega
    obtain ⟨hA, hc⟩ := OldS.cells_flat (f := vlanV) (sz := 3) (fun _ => rfl) (by decide) HS hml []
    have hlo : l[m].1 < id → ∀ q (h : q < l.length), q < m + 1 → l[q].1 < id := fun hx q hq h3 => by
      rcases Nat.lt_or_ge q m with h4 | h4
      · have := hlt' q m h4 hml; omega
      · obtain rfl : q = m := by omega
        exact hx
    have hhi : ¬ l[m].1 < id → ∀ q (h : q < l.length), m ≤ q → id ≤ l[q].1 := fun hx q hq h3 => by
      rcases Nat.lt_or_ge m q with h4 | h4
      · have := hlt' m q h4 hq; omega
      · obtain rfl : q = m := by omega
        omega
    generalize l[m] = x at *
    refine hc_skip <|
      hx_then_normal <|
      hc_block <|
      hc_seq <|
      hc_region <|
      hl_val (ov_move rfl) rfl rfl rfl <| ?_
    refine hl_val (ov_move rfl) rfl rfl rfl <|
      hl_val (ov_add rfl rfl (by first | exact wrap_i64 (by omega) | rfl)) rfl rfl rfl <| ?_
    refine hl_val (ov_conv rfl (by first | exact wrap_u64 (by omega) | rfl)) rfl rfl rfl <| ?_
    refine hl_val (ov_shr (m := (m : Int)) rfl rfl (by decide) (by rw [← hm]; exact shr1 (i + j))) rfl rfl rfl ?_
    refine hl_val (ov_conv rfl (by first | exact wrap_i64 (by omega) | rfl)) rfl rfl rfl <| ?_
    refine hl_val (ov_assign rfl) rfl rfl rfl <|
      hl_nil <|
      hx_then_normal <|
      hc_seq <|
      hc_region <|
      hl_val (ov_move rfl) rfl rfl rfl <| ?_
    refine hl_val (ov_move rfl) rfl rfl rfl <|
      hl_val (ov_move rfl) rfl rfl rfl <|
      hl_val (ov_idxS rfl (by assumption) rfl _ rfl (by omega)) rfl rfl rfl <| ?_
    refine hl_val (ov_loadG (cs := vlanV x) rfl rfl hc) rfl rfl rfl ?_
    refine hl_val (ov_move rfl) rfl rfl rfl <| ?_
    refine hl_cv rfl (fun _ _ => Try.call89 _ _) rfl rfl (fun w1 H1 => Own.calln H1 fun D' hold hin H2 => find1_spec D' w1 x id) ?_
    refine hl_val (ov_lss rfl rfl) rfl rfl rfl <|
      hl_nil <|
      hx_then_normal <| ?_
    refine hc_cond rfl (fun hx => ?_) (fun hx => ?_)
    · have hx' : x.1 < id := cmpI_neg.1 hx
      have hn := hlo hx'
      refine hc_region <|
        hl_val (ov_move rfl) rfl rfl rfl <|
        hl_val (ov_add rfl rfl (by first | exact wrap_i64 (by omega) | rfl)) rfl rfl rfl <| ?_
      refine hl_val (ov_assign rfl) rfl rfl rfl <|
        hl_nil <|
        hx_block_normal <| ?_
      refine hx_next hK1 ((m + 1, j)) (⟨hmj, hj, hn, h2⟩) (by show j - (m + 1) < j - i; omega) (by repeat (first | exact Slots.sub_nil _ | refine Slots.sub_cons rfl ?_)) (by first | assumption | exact Ent.refl _ | exact Ent.nil _ | (repeat (first | exact Ent.refl _ | exact Ent.nil _ | refine Ent.pick ?_)))
    · have hx' : ¬ x.1 < id := fun h => hx (cmpI_neg.2 h)
      have hn := hhi hx'
      refine hc_region <|
        hl_val (ov_move rfl) rfl rfl rfl <|
        hl_val (ov_assign rfl) rfl rfl rfl <|
        hl_nil <|
        hx_block_normal <| ?_
      refine hx_next hK1 ((i, m)) (⟨hmi, by omega, h1, hn⟩) (by show m - i < j - i; omega) (by repeat (first | exact Slots.sub_nil _ | refine Slots.sub_cons rfl ?_)) (by first | assumption | exact Ent.refl _ | exact Ent.nil _ | (repeat (first | exact Ent.refl _ | exact Ent.nil _ | refine Ent.pick ?_)))
  · have hie : j = i := by omega
    subst hie
    have hat : atP l id j := ⟨hj, h1, h2⟩
    refine hc_exit <|
      hx_then_exit <|
      hx_then_exit <|
      hx_block_out <|
      hx_then_normal <|
      hc_seq <| ?_
    refine hc_region <|
      hl_val (ov_move rfl) rfl rfl rfl <|
      hl_val (ov_move rfl) rfl rfl rfl <|
      hl_val (ov_move rfl) rfl rfl rfl <|
      hl_val (ov_lss rfl rfl) rfl rfl rfl <|
      hl_val (ov_move rfl) rfl rfl rfl <| ?_
    refine hl_part (t := 39) rfl (fun hp => ?_) (fun hp => ?_)
    · have hjl : j < l.length := by omega
      obtain ⟨hA, hc⟩ := OldS.cells_flat (f := vlanV) (sz := 3) (fun _ => rfl) (by decide) HS hjl []
      have hres : ∀ b : Bool, (b = true ↔ l[j].1 = id) → (b = true ↔ ∃ h : j < l.length, l[j].1 = id) := fun b hb => ⟨fun h => ⟨hjl, hb.1 h⟩, fun ⟨_, h⟩ => hb.2 h⟩
      generalize l[j] = x at *
      refine hl_on rfl rfl <| hl_val (ov_move rfl) rfl rfl rfl <|
        hl_on rfl rfl <| hl_val (ov_move rfl) rfl rfl rfl <|
        hl_on rfl rfl <| hl_val (ov_move rfl) rfl rfl rfl <|
        hl_on rfl rfl <| hl_val (ov_idxS rfl (by assumption) rfl _ rfl (by omega)) rfl rfl rfl <| ?_
      refine hl_on rfl rfl <| hl_val (ov_loadG (cs := vlanV x) rfl rfl hc) rfl rfl rfl ?_
      refine hl_on rfl rfl <| hl_val (ov_move rfl) rfl rfl rfl <| ?_
      refine hl_on rfl rfl <| hl_cv rfl (fun _ _ => Try.call89 _ _) rfl rfl (fun w1 H1 => Own.calln H1 fun D' hold hin H2 => find1_spec D' w1 x id) ?_
      refine hl_on rfl rfl <| hl_val (ov_eql rfl rfl) rfl rfl rfl <|
        hl_val (ov_pickT rfl rfl) rfl rfl rfl <|
        hl_val (ov_assign rfl) rfl rfl rfl <|
        hl_val (ov_assign rfl) rfl rfl rfl <|
        hl_nil <|
        hx_then_normal <| ?_
      refine hc_ret <| ?_
      exact results_2 (.inr rfl) rfl rfl rfl fun w' H' => ⟨⟨(j, decide (cmpI x.1 id = 0)), hat, hres _ (by rw [decide_eq_true_iff, cmpI_zero])⟩, rfl, H'⟩
    · refine hl_off rfl rfl rfl rfl rfl rfl <|
        hl_off rfl rfl rfl rfl rfl rfl <|
        hl_off rfl rfl rfl rfl rfl rfl <|
        hl_off rfl rfl rfl rfl rfl rfl <|
        hl_off rfl rfl rfl rfl rfl rfl <|
        hl_off rfl rfl rfl rfl rfl rfl <| ?_
      refine hl_off rfl rfl rfl rfl rfl rfl <|
        hl_off rfl rfl rfl rfl rfl rfl <|
        hl_val (ov_pickF rfl rfl) rfl rfl rfl <|
        hl_val (ov_assign rfl) rfl rfl rfl <|
        hl_val (ov_assign rfl) rfl rfl rfl <|
        hl_nil <| ?_
      refine hx_then_normal <|
        hc_ret <| ?_
      exact results_2 (.inr rfl) rfl rfl rfl fun w' H' => ⟨⟨(j, false), hat, by simp only [Bool.false_eq_true, false_iff]; rintro ⟨h, _⟩; omega⟩, rfl, H'⟩
theorem find_spec (D : Nat → Prop) (w : World) (v : Value) (l : List VlanC) (id : Int) (hl : l.length ≤ 1000000) (hr : risP cV l) (HA : Old D w (Rep.rep l [v])) :
    Calls Try.prog 78 #[v, .int .i64 id] w fun e w' => ∃ b : { p : Nat × Bool // atP l id p.1 ∧ (p.2 = true ↔ ∃ h : p.1 < l.length, l[p.1].1 = id) }, e = .returned (.tuple #[.int .i64 b.1.1, .bool b.1.2]) ∧ Own D w w' [] := by
  refine hc_enter (vs := [v, .int .i64 id]) Try.func78 rfl _ Try.ntmps78 rfl (Own.start D w) ?_
  simp only [argSlots, Nat.zero_add]
  refine hc_seq <|
    hc_region <|
    hl_val (ov_assign rfl) rfl rfl rfl <|
    hl_val (ov_assign rfl) rfl rfl rfl <|
    hl_nil <|
    hx_then_normal <| ?_
  refine hc_seq <|
    hc_region <|
    hl_val (ov_move rfl) rfl rfl rfl <|
    hl_val (ov_move rfl) rfl rfl rfl <| ?_
  refine hl_call (σ := { p : Nat × Bool // atP l id p.1 ∧ (p.2 = true ↔ ∃ h : p.1 < l.length, l[p.1].1 = id) }) Try.call88 rfl rfl (fun w1 H1 => Own.callx0 H1 fun D' hold hin H2 => BSV_spec D' w1 v l id hl hr (hold _ HA)) ?_
  intro b
  try rw [List.nil_append]
  refine hl_val (ov_extract rfl rfl) rfl rfl rfl <|
    hl_val (ov_extract rfl rfl) rfl rfl rfl <|
    hl_val (ov_assign rfl) rfl rfl rfl <|
    hl_val (ov_assign rfl) rfl rfl rfl <|
    hl_nil <|
    hx_then_normal <| ?_
  refine hc_ret <| ?_
  exact results_2 (.inr rfl) rfl rfl rfl fun w' H' => ⟨b, rfl, H'⟩
end Go.Proofs.Ytpgpfcplchaleaa
