import Derived.Test.YtpgpfcplchaleaaCfA
set_option linter.unusedVariables false
set_option linter.unusedSimpArgs false
namespace Go.Proofs.Ytpgpfcplchaleaa
open Slk
theorem flat_take {α : Type} {f : α → List Value} {sz : Nat} (hf : ∀ x, (f x).length = sz) : ∀ (l : List α) (k : Nat), (l.flatMap f).take (k * sz) = (l.take k).flatMap f
  | [], k => by simp
  | x :: r, 0 => by simp
  | x :: r, k + 1 => by
    rw [List.flatMap_cons, List.take_succ_cons, List.flatMap_cons, ← flat_take hf r k, List.take_append, hf, List.take_of_length_le (by rw [hf, Nat.add_mul]; omega), show (k + 1) * sz - sz = k * sz by rw [Nat.add_mul]; omega]
theorem flat_drop {α : Type} {f : α → List Value} {sz : Nat} (hf : ∀ x, (f x).length = sz) : ∀ (l : List α) (k : Nat), (l.flatMap f).drop (k * sz) = (l.drop k).flatMap f
  | [], k => by simp
  | x :: r, 0 => by simp
  | x :: r, k + 1 => by
    rw [List.flatMap_cons, List.drop_succ_cons, ← flat_drop hf r k, List.drop_append, hf, List.drop_of_length_le (by rw [hf, Nat.add_mul]; omega), List.nil_append, show (k + 1) * sz - sz = k * sz by rw [Nat.add_mul]; omega]
theorem cells_ins {α : Type} {f : α → List Value} (hf : ∀ x, (f x).length = 3) (l : List α) (x : α) (k : Nat) : (l.flatMap f).take (k * 3) ++ f x ++ (l.flatMap f).drop (k * 3) = (l.take k ++ [x] ++ l.drop k).flatMap f := by
  rw [flat_take hf, flat_drop hf]; simp
theorem cells_set {α : Type} {f : α → List Value} (hf : ∀ x, (f x).length = 3) (l : List α) (x : α) (k : Nat) : (l.flatMap f).take (k * 3) ++ f x ++ (l.flatMap f).drop (k * 3 + 3) = (l.take k ++ [x] ++ l.drop (k + 1)).flatMap f := by
  rw [flat_take hf, show k * 3 + 3 = (k + 1) * 3 by omega, flat_drop hf]; simp
theorem cells_del {α : Type} {f : α → List Value} (hf : ∀ x, (f x).length = 3) (l : List α) (k : Nat) : (l.flatMap f).take (k * 3) ++ (l.flatMap f).drop (k * 3 + 3) = (l.take k ++ l.drop (k + 1)).flatMap f := by
  rw [flat_take hf, show k * 3 + 3 = (k + 1) * 3 by omega, flat_drop hf]; simp
theorem statV_one (x : StatC) : ∀ v ∈ statV x, v.oneCell' = true := by simp [Value.oneCell']
theorem vlanV_one (x : VlanC) : ∀ v ∈ vlanV x, v.oneCell' = true := by simp [Value.oneCell', u8v]
abbrev FindS (l : List StatC) (t : StatC) := { p : Nat × Bool // atL ltS l t p.1 ∧ (p.2 = true ↔ hasL ltS t l = true) }
theorem shr1' (n : Nat) : ((n : Int)).fdiv (2 ^ (min (Int.toNat 1) 64)) = ((n / 2 : Nat) : Int) := by
  rw [Int.fdiv_eq_ediv_of_nonneg _ (by decide)]
  simp
theorem byPl_zero {x y : StatC} : byPl x y = 0 ↔ ltS x y = false ∧ ltS y x = false := by
  have h1 := byPl_lt (x := x) (y := y)
  have h2 := byPl_lt (x := y) (y := x)
  unfold byPl ltS at *
  rw [decide_eq_true_iff] at h1 h2
  rw [decide_eq_false_iff_not, decide_eq_false_iff_not]
  by_cases h : cmpI x.2.1 y.2.1 = 0
  · have e := cmpI_zero.1 h
    rw [if_pos h, cmpI_zero]
    omega
  have : ¬ x.2.1 = y.2.1 := fun e => h (cmpI_zero.2 e)
  rw [if_neg h]
  omega
theorem BSS_spec (D : Nat → Prop) (w : World) (v : Value) (l : List StatC) (t : StatC) (hl : l.length ≤ 1000000) (hr : Asc ltS l) (HA : Old D w (Rep.rep l [v])) :
    Calls Try.prog 82 #[v, .agg (statV t).toArray, .func (.func 57) #[] #[]] w fun e w' => ∃ b : FindS l t, e = .returned (.tuple #[.int .i64 b.1.1, .bool b.1.2]) ∧ Own D w w' [] := by
  obtain ⟨A, cap, rfl, hc1, hc2, HS, hok⟩ := HA.openF
  have HS : OldS D w A (l.flatMap statV) := HS
  refine hc_enter (vs := [.slice A l.length cap, .agg (statV t).toArray, .func (.func 57) #[] #[]]) Try.func82 rfl _ Try.ntmps82 rfl (Own.start D w) ?_
  simp only [argSlots, Nat.zero_add]
  refine hc_seq <| hc_region <| hl_new (on_boxN rfl rfl) rfl rfl rfl fun b4 =>  ?_
  refine hl_v (ov_assign rfl) rfl <| hl_v (ov_assign rfl) rfl <| hl_nil <| hx_then_normal <| hc_seq <| hc_region <| ?_
  refine hl_v (ov_move rfl) rfl <| hl_v (by first | exact ov_len rfl | exact ov_lenS rfl) rfl <| ?_
  refine hl_v (ov_assign rfl) rfl <| hl_nil <| hx_then_normal <| hc_seq <| hc_region <| hl_v (ov_move rfl) rfl <| ?_
  refine hl_v (ov_assign rfl) rfl <| hl_v (ov_assign rfl) rfl <| hl_nil <| hx_then_normal <| hc_seq <| hc_block <| ?_
  refine hc_loops2 (σ := Nat × Nat) [0, 2, 4, 8] rfl 9 (fun s => .int .i64 (s.1 : Int)) 10 (fun s => .int .i64 (s.2 : Int)) (fun s => s.1 ≤ s.2 ∧ s.2 ≤ l.length ∧ (∀ q (h : q < l.length), q < s.1 → ltS l[q] t = true) ∧ (∀ q (h : q < l.length), s.2 ≤ q → ltS l[q] t = false)) (fun s => s.2 - s.1) ((0, l.length)) (⟨Nat.zero_le _, Nat.le_refl _, fun _ _ h => absurd h (Nat.not_lt_zero _), fun q h h2 => absurd h2 (by simpa using h)⟩) rfl rfl ?_
  rintro ⟨i, j⟩ hj_ K1 hK1
  dsimp only at hj_ ⊢
  obtain ⟨hij, hj, h1, h2⟩ := hj_
  refine hc_seq <| hc_seq <| hc_region <| hl_v (ov_move rfl) rfl <| hl_v (ov_move rfl) rfl <| hl_v (ov_lss rfl rfl) rfl <| ?_
  refine hl_nil <| hx_then_normal <| ?_
  refine hc_cond rfl (fun h => ?_) (fun h => ?_)
  · have hlt : i < j := by omega
    obtain ⟨m, hm⟩ : ∃ m, (i + j) / 2 = m := ⟨_, rfl⟩
    have hmi : i ≤ m := by omega
    have hmj : m < j := by omega
    have hml : m < l.length := by omega
    have hcc := fun l' => (OldS.cells_flat (D := D) (w0 := w) (f := statV) (sz := 3) (fun _ => rfl) (by decide) HS hml l')
    have hA := (hcc []).1
    have hlo : ltS l[m] t = true → ∀ q (h : q < l.length), q < m + 1 → ltS l[q] t = true := fun hx q hq h3 => by
      rcases Nat.lt_or_ge q m with h4 | h4
      · exact ordS.tr _ _ _ (hr.get q m hq hml h4) hx
      · obtain rfl : q = m := by omega
        exact hx
    have hhi : ltS l[m] t = false → ∀ q (h : q < l.length), m ≤ q → ltS l[q] t = false := fun hx q hq h3 => by
      rcases Nat.lt_or_ge m q with h4 | h4
      · cases e : ltS l[q] t with
        | false => rfl
        | true => have := ordS.tr _ _ _ (hr.get m q hml hq h4) e; rw [hx] at this; cases this
      · obtain rfl : q = m := by omega
        exact hx
    generalize l[m] = x at *
    refine hc_skip <| hx_then_normal <| hc_block <| hc_seq <| hc_region <| hl_v (ov_move rfl) rfl <| ?_
    refine hl_v (ov_move rfl) rfl <| hl_v (ov_add rfl rfl (by first | exact wrap_i64 (by omega) | rfl)) rfl <| ?_
    refine hl_v (ov_conv rfl (by first | exact wrap_u64 (by omega) | rfl)) rfl <| ?_
    refine hl_v (ov_shr (m := (m : Int)) rfl rfl (by decide) (by rw [← hm]; exact shr1' (i + j))) rfl ?_
    refine hl_v (ov_conv rfl (by first | exact wrap_i64 (by omega) | rfl)) rfl <| ?_
    refine hl_v (ov_assign rfl) rfl <| hl_nil <| hx_then_normal <| hc_seq <| ?_
    refine hc_any [blk b4 72 (statV t)] mixed 8 rfl ?_
    refine ha_v 0 rfl (ov_move rfl) rfl <| ?_
    refine ha_v 1 rfl (ov_move rfl) rfl <| ?_
    refine ha_v 2 rfl (ov_move rfl) rfl <| ?_
    refine ha_v 3 rfl (ov_idxS rfl (by assumption) rfl _ rfl (by omega)) rfl <| ?_
    refine ha_v 5 rfl (by first | exact ov_loadW rfl (by simp; done) | exact ov_loadGB rfl rfl) rfl <| ?_
    refine ha_one 4 (by kernel_rfl) <| ?_
    refine ho_v rfl (ov_loadG (cs := statV x) rfl rfl (hcc _).2) rfl ?_
    refine ha_one 6 (by kernel_rfl) <| ?_
    refine ho_kv rfl rfl (fun _ _ => Try.call57 _ _) rfl (fun w1 H1 => Own.calln H1 fun D' hold hin H2 => byPlace_spec D' w1 x t) ?_
    refine ha_v 7 rfl (ov_lss rfl rfl) rfl <| ?_
    refine ha_done (by kernel_rfl) <| hx_then_normal <| ?_
    refine hc_cond rfl (fun hx => ?_) (fun hx => ?_)
    · have hx' := byPl_lt.1 hx
      have hn := hlo hx'
      refine hc_region <| hl_v (ov_move rfl) rfl <| hl_v (ov_add rfl rfl (by first | exact wrap_i64 (by omega) | rfl)) rfl <| ?_
      refine hl_v (ov_assign rfl) rfl <| hl_nil <| hx_block_normal <| ?_
      refine hx_next hK1 ((m + 1, j)) (⟨hmj, hj, hn, h2⟩) (by show j - (m + 1) < j - i; omega) (by repeat (first | exact Slots.sub_nil _ | refine Slots.sub_cons rfl ?_)) (by first | assumption | exact Ent.refl _ | exact Ent.nil _ | (repeat (first | exact Ent.refl _ | exact Ent.nil _ | refine Ent.pick ?_)))
    have hx' : ltS x t = false := by
      cases e : ltS x t with
      | false => rfl
      | true => exact absurd (byPl_lt.2 e) hx
    have hn := hhi hx'
    refine hc_region <| hl_v (ov_move rfl) rfl <| hl_v (ov_assign rfl) rfl <| hl_nil <| hx_block_normal <| ?_
    refine hx_next hK1 ((i, m)) (⟨hmi, by omega, h1, hn⟩) (by show m - i < j - i; omega) (by repeat (first | exact Slots.sub_nil _ | refine Slots.sub_cons rfl ?_)) (by first | assumption | exact Ent.refl _ | exact Ent.nil _ | (repeat (first | exact Ent.refl _ | exact Ent.nil _ | refine Ent.pick ?_)))
  have hie : j = i := by omega
  subst hie
  have hat : atL ltS l t j := ⟨hj, h1, h2⟩
  have hhas := has_at ordS hr hat
  refine hc_exit <| hx_then_exit <| hx_then_exit <| hx_block_out <| hx_then_normal <| hc_seq <| ?_
  refine hc_any [blk b4 72 (statV t)] mixed 16 rfl ?_
  refine ha_v 0 rfl (ov_move rfl) rfl <| ?_
  refine ha_v 1 rfl (ov_move rfl) rfl <| ?_
  refine ha_v 2 rfl (ov_move rfl) rfl <| ?_
  refine ha_v 3 rfl (ov_lss rfl rfl) rfl <| ?_
  refine ha_v 4 rfl (ov_move rfl) rfl <| ?_
  refine ha_part (t := 39) rfl (fun hp => ?_) (fun hp => ?_)
  · have hjl : j < l.length := by omega
    have hcc := fun l' => (OldS.cells_flat (D := D) (w0 := w) (f := statV) (sz := 3) (fun _ => rfl) (by decide) HS hjl l')
    have hA := (hcc []).1
    have hres : ∀ b : Bool, (b = true ↔ ltS t l[j] = false) → (b = true ↔ hasL ltS t l = true) := fun b hb => by
      rw [hhas, hb]
      exact ⟨fun h => ⟨hjl, h⟩, fun ⟨_, h⟩ => h⟩
    have hlow := h2 j hjl (Nat.le_refl _)
    generalize l[j] = x at *
    refine ha_v 5 rfl (ov_move rfl) rfl <| ?_
    refine ha_v 6 rfl (ov_move rfl) rfl <| ?_
    refine ha_v 7 rfl (ov_move rfl) rfl <| ?_
    refine ha_v 8 rfl (ov_idxS rfl (by assumption) rfl _ rfl (by omega)) rfl <| ?_
    refine ha_v 10 rfl (by first | exact ov_loadW rfl (by simp; done) | exact ov_loadGB rfl rfl) rfl <| ?_
    refine ha_one 9 (by kernel_rfl) <| ?_
    refine ho_v rfl (ov_loadG (cs := statV x) rfl rfl (hcc _).2) rfl ?_
    refine ha_one 11 (by kernel_rfl) <| ?_
    refine ho_kv rfl rfl (fun _ _ => Try.call57 _ _) rfl (fun w1 H1 => Own.calln H1 fun D' hold hin H2 => byPlace_spec D' w1 x t) ?_
    refine ha_v 12 rfl (ov_eql rfl rfl) rfl <| ?_
    refine ha_v 13 rfl (ov_pickT rfl rfl) rfl <| ?_
    refine ha_v 14 rfl (ov_assign rfl) rfl <| ?_
    refine ha_v 15 rfl (ov_assign rfl) rfl <| ?_
    refine ha_done (by kernel_rfl) <| hx_then_normal <| hc_ret <| ?_
    exact results_2 (.inr rfl) rfl rfl rfl fun w' H' => ⟨⟨(j, decide (byPl x t = 0)), hat, hres _ (by rw [decide_eq_true_iff, byPl_zero]; exact ⟨fun h => h.2, fun h => ⟨hlow, h⟩⟩)⟩, rfl, H'.ent (Ent.nil _)⟩
  refine ha_x 5 rfl rfl <| ?_
  refine ha_x 6 rfl rfl <| ?_
  refine ha_x 7 rfl rfl <| ?_
  refine ha_x 8 rfl rfl <| ?_
  refine ha_x 9 rfl rfl <| ?_
  refine ha_x 10 rfl rfl <| ?_
  refine ha_one 11 (by kernel_rfl) <| ho_x rfl rfl <| ?_
  refine ha_x 12 rfl rfl <| ?_
  refine ha_v 13 rfl (ov_pickF rfl rfl) rfl <| ?_
  refine ha_v 14 rfl (ov_assign rfl) rfl <| ?_
  refine ha_v 15 rfl (ov_assign rfl) rfl <| ?_
  refine ha_done (by kernel_rfl) <| hx_then_normal <| hc_ret <| ?_
  exact results_2 (.inr rfl) rfl rfl rfl fun w' H' => ⟨⟨(j, false), hat, by simp only [Bool.false_eq_true, false_iff]; intro h; obtain ⟨h, _⟩ := hhas.1 h; omega⟩, rfl, H'.ent (Ent.nil _)⟩
/-- An edit of a port. -/
def portC (c : ConfC) (e : EditC) : ConfC × Int :=
  if e.2.1 < 0 ∨ (c.2.2.2.1.length : Int) ≤ e.2.1 then (c, 1)
  else
    let p := c.2.2.2.1.getD e.2.1.toNat (false, 0, 0)
    let put := fun x : PortC => (c.1, c.2.1, c.2.2.1, c.2.2.2.1.set e.2.1.toNat x, c.2.2.2.2)
    if e.1 = 4 then if e.2.2.1 ≠ 0 ∧ e.2.2.1 ≠ 1 then (c, 1) else (put (decide (e.2.2.1 = 1), p.2), 0)
    else if e.1 = 5 then if e.2.2.1 < 0 ∨ 4294967295 < e.2.2.1 then (c, 1) else (put (p.1, UInt32.ofNat e.2.2.1.toNat, p.2.2), 0)
    else (put (p.1, p.2.1, e.2.2.1), 0)
theorem oneC_port {c : ConfC} {e : EditC} (h : 4 ≤ e.1 ∧ e.1 ≤ 6) : oneC c e = portC c e := by
  unfold oneC portC
  rw [if_neg (by omega), if_neg (by omega), if_neg (by omega), if_pos h]
abbrev cfgQ (g : Nat) (c : ConfC) (q : Three) : List HProp := blk g 26 (cfgA c q) :: cfgR c q
/-- A configuration of one's own. -/
def cfgO (g : Nat) (c : ConfC) : HProp := exS fun q : Three => cfgQ g c q
theorem cfgO_mk {g : Nat} {c : ConfC} (q : Three) {l : List HProp} : Ent (cfgQ g c q ++ l) (cfgO g c :: l) := Ent.exS (L := fun q : Three => cfgQ g c q) q
theorem port_spec (D : Nat → Prop) (w : World) (g : Nat) (c : ConfC) (e : EditC) (hi2 : inI64 e.2.1) (hp : c.2.2.2.1.length ≤ 1000) (hk : 4 ≤ e.1 ∧ e.1 ≤ 6) (H : Own D w w [cfgO g c]) :
    Calls Try.prog 83 #[.pointer (some ⟨g, 0, none⟩), .agg (editV e).toArray] w fun r w' => r = .returned (.int .i64 (portC c e).2) ∧ Own D w w' [cfgO g (portC c e).1] := by
  obtain ⟨q, H⟩ := Own.exs H
  refine hc_enter (vs := [.pointer (some ⟨g, 0, none⟩), .agg (editV e).toArray]) Try.func83 rfl _ Try.ntmps83 rfl H ?_
  simp only [argSlots, Nat.zero_add]
  refine HC.ent (l' := cfgQ g c q) (fun _ h => h) ?_
  refine hc_seq <| hc_region <| hl_new (on_boxN rfl rfl) rfl rfl rfl fun b3 =>  ?_
  refine hl_v (ov_assign rfl) rfl <| hl_nil <| hx_then_normal <| hc_seq <| hc_seq <| hc_quiet mixed (by kernel_rfl) <| ?_
  refine hq_v (ov_fieldA rfl) rfl <| hq_v (ov_load rfl (CellIs.blk rfl)) rfl <| hq_v (ov_lss rfl rfl) rfl <| hq_v (ov_move rfl) rfl <| ?_
  refine hq_part (t := 9) rfl (fun h1 => ?_) (fun h1 => ?_)
  · have hres : portC c e = (c, 1) := by unfold portC; rw [if_pos (.inl h1)]
    refine hq_off rfl rfl rfl rfl rfl rfl <| hq_off rfl rfl rfl rfl rfl rfl <| hq_off rfl rfl rfl rfl rfl rfl <| hq_off rfl rfl rfl rfl rfl rfl <| hq_off rfl rfl rfl rfl rfl rfl <| hq_off rfl rfl rfl rfl rfl rfl <| ?_
    refine hq_off rfl rfl rfl rfl rfl rfl <| hq_off rfl rfl rfl rfl rfl rfl <| hq_v (ov_pickT rfl rfl) rfl <| hq_nil <| hx_then_normal <| hc_cond_true rfl <| ?_
    refine hc_seq <| hc_region <| hl_v (ov_assign rfl) rfl <| hl_nil <| hx_then_normal <| hc_ret <| ?_
    refine hx_then_ret <| ?_
    exact results_1 (.inr rfl) rfl rfl fun w' H' => ⟨by rw [hres], H'.ent (Ent.trans (b := cfgQ g c q) (by first | assumption | exact Ent.refl _ | exact Ent.nil _ | exact Ent.row_any (Ent.refl _) | (repeat (first | exact Ent.refl _ | exact Ent.nil _ | refine Ent.pick ?_))) (by rw [hres]; exact cfgO_mk (l := []) q))⟩
  refine hq_on rfl rfl <| hq_v (ov_fieldA rfl) rfl <| hq_on rfl rfl <| hq_v (ov_load rfl (CellIs.blk rfl)) rfl <| hq_on rfl rfl <| hq_v (ov_move rfl) rfl <| hq_on rfl rfl <| hq_v (ov_nil rfl) rfl <| hq_on rfl rfl <| hq_v (ov_fieldA rfl) rfl <| hq_on rfl rfl <| hq_v (ov_load rfl (CellIs.blk rfl)) rfl <| ?_
  refine hq_on rfl rfl <| hq_v (by first | exact ov_len rfl | exact ov_lenS rfl) rfl <| ?_
  refine hq_on rfl rfl <| hq_v (ov_geq rfl rfl) rfl <| hq_v (ov_pickF rfl rfl) rfl <| hq_nil <| hx_then_normal <| ?_
  refine hc_cond rfl (fun h2 => ?_) (fun h2 => ?_)
  · have hres : portC c e = (c, 1) := by unfold portC; rw [if_pos (.inr h2)]
    refine hc_seq <| hc_region <| hl_v (ov_assign rfl) rfl <| hl_nil <| hx_then_normal <| hc_ret <| ?_
    refine hx_then_ret <| ?_
    exact results_1 (.inr rfl) rfl rfl fun w' H' => ⟨by rw [hres], H'.ent (Ent.trans (b := cfgQ g c q) (by first | assumption | exact Ent.refl _ | exact Ent.nil _ | exact Ent.row_any (Ent.refl _) | (repeat (first | exact Ent.refl _ | exact Ent.nil _ | refine Ent.pick ?_))) (by rw [hres]; exact cfgO_mk (l := []) q))⟩
  have hlt : e.2.1.toNat < c.2.2.2.1.length := by omega
  refine HC.fact (fun w H => Own.factR q.1.1 H) ?_
  rintro ⟨hpl, hpc, _, hA⟩
  have hA : isA q.1.1 := hA (by intro h; have := congrArg List.length h; rw [hpl] at this; simp only [List.length_nil] at this; omega)
  obtain ⟨i, hi⟩ : ∃ i, i = e.2.1.toNat := ⟨_, rfl⟩
  have hii : (i : Int) = e.2.1 := by omega
  rw [← hi] at hlt
  have hgd : c.2.2.2.1.getD i (false, 0, 0) = c.2.2.2.1[i] := by rw [List.getD_eq_getElem?_getD, List.getElem?_eq_getElem hlt]; rfl
  have hfl := flat_len (f := portV) (sz := 3) (fun _ => rfl) c.2.2.2.1
  refine hc_skip <| hx_then_normal <| hc_seq <| hc_quiet mixed (by kernel_rfl) <| hq_v (ov_move rfl) rfl <| hq_v (ov_nil rfl) rfl <| ?_
  refine hq_v (ov_fieldA rfl) rfl <| hq_v (ov_load rfl (CellIs.blk rfl)) rfl <| hq_v (ov_fieldA rfl) rfl <| hq_v (ov_load rfl (CellIs.blk rfl)) rfl <| ?_
  refine hq_v (ov_idxS rfl hA rfl i (by omega) (by omega)) rfl ?_
  refine hq_v (ov_assign rfl) rfl <| hq_nil <| hx_then_normal <| hc_seq <| hc_seq <| hc_region <| ?_
  refine hl_v (ov_fieldA rfl) rfl <| hl_v (ov_load rfl (CellIs.blk rfl)) rfl <| hl_nil <| hx_then_normal <| hc_block <| hc_seq <| ?_
  refine hc_region <| hl_v (ov_eql rfl rfl) rfl <| hl_v (ov_assign rfl) rfl <| hl_nil <| hx_then_normal <| ?_
  refine hc_cond rfl (fun k1 => ?_) (fun k1 => ?_)
  · have k1 : e.1 = 4 := k1
    refine hc_seq <| hc_seq <| hc_region <| hl_v (ov_fieldA rfl) rfl <| hl_v (ov_load rfl (CellIs.blk rfl)) rfl <| hl_v (ov_neq rfl rfl) rfl <| ?_
    refine hl_v (ov_move rfl) rfl <| ?_
    refine hl_part (t := 38) rfl (fun k2 => ?_) (fun k2 => ?_)
    · refine hl_on rfl rfl <| hl_v (ov_fieldA rfl) rfl <| hl_on rfl rfl <| hl_v (ov_load rfl (CellIs.blk rfl)) rfl <| hl_on rfl rfl <| hl_v (ov_neq rfl rfl) rfl <| hl_v (ov_pickT rfl rfl) rfl <| hl_nil <| hx_then_normal <| ?_
      refine hc_cond rfl (fun k3 => ?_) (fun k3 => ?_)
      · have hres : portC c e = (c, 1) := by unfold portC; rw [if_neg (by omega), if_pos k1, if_pos ⟨k2, k3⟩]
        refine hc_seq <| hc_region <| hl_v (ov_assign rfl) rfl <| hl_nil <| hx_then_normal <| hc_ret <| ?_
        refine hx_then_ret <| hx_block_ret <| hx_then_ret <| ?_
        exact results_1 (.inr rfl) rfl rfl fun w' H' => ⟨by rw [hres], H'.ent (Ent.trans (b := cfgQ g c q) (by first | assumption | exact Ent.refl _ | exact Ent.nil _ | exact Ent.row_any (Ent.refl _) | (repeat (first | exact Ent.refl _ | exact Ent.nil _ | refine Ent.pick ?_))) (by rw [hres]; exact cfgO_mk (l := []) q))⟩
      have hres : portC c e = ((c.1, c.2.1, c.2.2.1, c.2.2.2.1.set i (decide (e.2.2.1 = 1), c.2.2.2.1[i].2), c.2.2.2.2), 0) := by unfold portC; rw [if_neg (by omega), if_pos k1, if_neg (by omega), ← hi]; dsimp only; rw [hgd]
      refine hc_skip <| hx_then_normal <| hc_region <| hl_v (ov_move rfl) rfl <| hl_v (ov_fieldA rfl) rfl <| hl_v (ov_load rfl (CellIs.blk rfl)) rfl <| ?_
      refine hl_v (ov_eql rfl rfl) rfl <| hl_v (ov_nil rfl) rfl <| hl_v (ov_fieldA rfl) rfl <| ?_
      refine hl_u0 (on_storeRX (A := q.1.1) (i * 3 + 0) ((c.2.2.2.1.set i (decide (e.2.2.1 = 1), c.2.2.2.1[i].2)).flatMap portV) rfl rfl (by omega) (by rw [hfl]; omega) rfl (flat_set1 (f := portV) (sz := 3) (fun _ => rfl) _ i 0 _ _ hlt (by decide) rfl)) rfl rfl ?_
      refine hl_nil <| hx_block_normal <| hx_then_normal <| hc_seq <| hc_region <| hl_v (ov_assign rfl) rfl <| ?_
      refine hl_nil <| hx_then_normal <| hc_ret <| ?_
      exact results_1 (.inr rfl) rfl rfl fun w' H' => ⟨by rw [hres], H'.ent (Ent.trans (b := cfgQ g (portC c e).1 q) (by rw [hres]; dsimp only [cfgQ, cfgA, cfgR]; rw [List.length_set]; exact (by first | assumption | exact Ent.refl _ | exact Ent.nil _ | exact Ent.row_any (Ent.refl _) | (repeat (first | exact Ent.refl _ | exact Ent.nil _ | refine Ent.pick ?_)))) (cfgO_mk (l := []) q))⟩
    have hres : portC c e = ((c.1, c.2.1, c.2.2.1, c.2.2.2.1.set i (decide (e.2.2.1 = 1), c.2.2.2.1[i].2), c.2.2.2.2), 0) := by unfold portC; rw [if_neg (by omega), if_pos k1, if_neg (by omega), ← hi]; dsimp only; rw [hgd]
    refine hl_off rfl rfl rfl rfl rfl rfl <| hl_off rfl rfl rfl rfl rfl rfl <| hl_off rfl rfl rfl rfl rfl rfl <| hl_v (ov_pickF rfl rfl) rfl <| hl_nil <| hx_then_normal <| ?_
    refine hc_cond_false rfl <| hc_skip <| hx_then_normal <| hc_region <| hl_v (ov_move rfl) rfl <| hl_v (ov_fieldA rfl) rfl <| ?_
    refine hl_v (ov_load rfl (CellIs.blk rfl)) rfl <| hl_v (ov_eql rfl rfl) rfl <| hl_v (ov_nil rfl) rfl <| hl_v (ov_fieldA rfl) rfl <| ?_
    refine hl_u0 (on_storeRX (A := q.1.1) (i * 3 + 0) ((c.2.2.2.1.set i (decide (e.2.2.1 = 1), c.2.2.2.1[i].2)).flatMap portV) rfl rfl (by omega) (by rw [hfl]; omega) rfl (flat_set1 (f := portV) (sz := 3) (fun _ => rfl) _ i 0 _ _ hlt (by decide) rfl)) rfl rfl ?_
    refine hl_nil <| hx_block_normal <| hx_then_normal <| hc_seq <| hc_region <| hl_v (ov_assign rfl) rfl <| ?_
    refine hl_nil <| hx_then_normal <| hc_ret <| ?_
    exact results_1 (.inr rfl) rfl rfl fun w' H' => ⟨by rw [hres], H'.ent (Ent.trans (b := cfgQ g (portC c e).1 q) (by rw [hres]; dsimp only [cfgQ, cfgA, cfgR]; rw [List.length_set]; exact (by first | assumption | exact Ent.refl _ | exact Ent.nil _ | exact Ent.row_any (Ent.refl _) | (repeat (first | exact Ent.refl _ | exact Ent.nil _ | refine Ent.pick ?_)))) (cfgO_mk (l := []) q))⟩
  refine hc_seq <| hc_region <| hl_v (ov_eql rfl rfl) rfl <| hl_v (ov_assign rfl) rfl <| hl_nil <| hx_then_normal <| ?_
  refine hc_cond rfl (fun k2 => ?_) (fun k2 => ?_)
  · have k2 : e.1 = 5 := k2
    refine hc_seq <| hc_seq <| hc_region <| hl_v (ov_fieldA rfl) rfl <| hl_v (ov_load rfl (CellIs.blk rfl)) rfl <| hl_v (ov_lss rfl rfl) rfl <| ?_
    refine hl_v (ov_move rfl) rfl <| ?_
    refine hl_part (t := 54) rfl (fun k3 => ?_) (fun k3 => ?_)
    · have hres : portC c e = (c, 1) := by unfold portC; rw [if_neg (by omega), if_neg (by omega), if_pos k2, if_pos (.inl k3)]
      refine hl_off rfl rfl rfl rfl rfl rfl <| hl_off rfl rfl rfl rfl rfl rfl <| hl_off rfl rfl rfl rfl rfl rfl <| hl_v (ov_pickT rfl rfl) rfl <| hl_nil <| hx_then_normal <| ?_
      refine hc_cond_true rfl <| hc_seq <| hc_region <| hl_v (ov_assign rfl) rfl <| hl_nil <| hx_then_normal <| ?_
      refine hc_ret <| hx_then_ret <| hx_block_ret <| hx_then_ret <| ?_
      exact results_1 (.inr rfl) rfl rfl fun w' H' => ⟨by rw [hres], H'.ent (Ent.trans (b := cfgQ g c q) (by first | assumption | exact Ent.refl _ | exact Ent.nil _ | exact Ent.row_any (Ent.refl _) | (repeat (first | exact Ent.refl _ | exact Ent.nil _ | refine Ent.pick ?_))) (by rw [hres]; exact cfgO_mk (l := []) q))⟩
    refine hl_on rfl rfl <| hl_v (ov_fieldA rfl) rfl <| hl_on rfl rfl <| hl_v (ov_load rfl (CellIs.blk rfl)) rfl <| hl_on rfl rfl <| hl_v (ov_gtr rfl rfl) rfl <| hl_v (ov_pickF rfl rfl) rfl <| hl_nil <| hx_then_normal <| ?_
    refine hc_cond rfl (fun k4 => ?_) (fun k4 => ?_)
    · have hres : portC c e = (c, 1) := by unfold portC; rw [if_neg (by omega), if_neg (by omega), if_pos k2, if_pos (.inr k4)]
      refine hc_seq <| hc_region <| hl_v (ov_assign rfl) rfl <| hl_nil <| hx_then_normal <| hc_ret <| ?_
      refine hx_then_ret <| hx_block_ret <| hx_then_ret <| ?_
      exact results_1 (.inr rfl) rfl rfl fun w' H' => ⟨by rw [hres], H'.ent (Ent.trans (b := cfgQ g c q) (by first | assumption | exact Ent.refl _ | exact Ent.nil _ | exact Ent.row_any (Ent.refl _) | (repeat (first | exact Ent.refl _ | exact Ent.nil _ | refine Ent.pick ?_))) (by rw [hres]; exact cfgO_mk (l := []) q))⟩
    have hres : portC c e = ((c.1, c.2.1, c.2.2.1, c.2.2.2.1.set i (c.2.2.2.1[i].1, UInt32.ofNat e.2.2.1.toNat, c.2.2.2.1[i].2.2), c.2.2.2.2), 0) := by unfold portC; rw [if_neg (by omega), if_neg (by omega), if_pos k2, if_neg (by omega), ← hi]; dsimp only; rw [hgd]
    have hu : ((UInt32.ofNat e.2.2.1.toNat).toNat : Int) = e.2.2.1 := by rw [UInt32.toNat_ofNat']; omega
    refine hc_skip <| hx_then_normal <| hc_region <| hl_v (ov_move rfl) rfl <| hl_v (ov_fieldA rfl) rfl <| hl_v (ov_load rfl (CellIs.blk rfl)) rfl <| ?_
    refine hl_v (ov_conv (m := e.2.2.1) rfl (wrap_u32 (by omega))) rfl ?_
    refine hl_v (ov_nil rfl) rfl <| hl_v (ov_fieldA rfl) rfl <| ?_
    refine hl_u0 (on_storeRX (A := q.1.1) (i * 3 + 1) ((c.2.2.2.1.set i (c.2.2.2.1[i].1, UInt32.ofNat e.2.2.1.toNat, c.2.2.2.1[i].2.2)).flatMap portV) rfl rfl (by omega) (by rw [hfl]; omega) rfl (flat_set1 (f := portV) (sz := 3) (fun _ => rfl) _ i 1 _ _ hlt (by decide) (by show [_, Value.int .u32 ((UInt32.ofNat e.2.2.1.toNat).toNat : Int), _] = _; rw [hu]; rfl))) rfl rfl ?_
    refine hl_nil <| hx_block_normal <| hx_then_normal <| hc_seq <| hc_region <| hl_v (ov_assign rfl) rfl <| ?_
    refine hl_nil <| hx_then_normal <| hc_ret <| ?_
    exact results_1 (.inr rfl) rfl rfl fun w' H' => ⟨by rw [hres], H'.ent (Ent.trans (b := cfgQ g (portC c e).1 q) (by rw [hres]; dsimp only [cfgQ, cfgA, cfgR]; rw [List.length_set]; exact (by first | assumption | exact Ent.refl _ | exact Ent.nil _ | exact Ent.row_any (Ent.refl _) | (repeat (first | exact Ent.refl _ | exact Ent.nil _ | refine Ent.pick ?_)))) (cfgO_mk (l := []) q))⟩
  have hres : portC c e = ((c.1, c.2.1, c.2.2.1, c.2.2.2.1.set i (c.2.2.2.1[i].1, c.2.2.2.1[i].2.1, e.2.2.1), c.2.2.2.2), 0) := by unfold portC; rw [if_neg (by omega), if_neg (by omega), if_neg (by omega), ← hi]; dsimp only; rw [hgd]
  refine hc_region <| hl_v (ov_move rfl) rfl <| hl_v (ov_fieldA rfl) rfl <| hl_v (ov_load rfl (CellIs.blk rfl)) rfl <| hl_v (ov_nil rfl) rfl <| hl_v (ov_fieldA rfl) rfl <| ?_
  refine hl_u0 (on_storeRX (A := q.1.1) (i * 3 + 2) ((c.2.2.2.1.set i (c.2.2.2.1[i].1, c.2.2.2.1[i].2.1, e.2.2.1)).flatMap portV) rfl rfl (by omega) (by rw [hfl]; omega) rfl (flat_set1 (f := portV) (sz := 3) (fun _ => rfl) _ i 2 _ _ hlt (by decide) rfl)) rfl rfl ?_
  refine hl_nil <| hx_block_normal <| hx_then_normal <| hc_seq <| hc_region <| hl_v (ov_assign rfl) rfl <| ?_
  refine hl_nil <| hx_then_normal <| hc_ret <| ?_
  exact results_1 (.inr rfl) rfl rfl fun w' H' => ⟨by rw [hres], H'.ent (Ent.trans (b := cfgQ g (portC c e).1 q) (by rw [hres]; dsimp only [cfgQ, cfgA, cfgR]; rw [List.length_set]; exact (by first | assumption | exact Ent.refl _ | exact Ent.nil _ | exact Ent.row_any (Ent.refl _) | (repeat (first | exact Ent.refl _ | exact Ent.nil _ | refine Ent.pick ?_)))) (cfgO_mk (l := []) q))⟩
end Go.Proofs.Ytpgpfcplchaleaa
