import Derived.Test.YtpgpfcplchaleaaCon3
set_option linter.unusedVariables false
set_option linter.unusedSimpArgs false
namespace Go.Proofs.Ytpgpfcplchaleaa
open Slk
theorem find_iff {l : List VlanC} {id : Int} {p : Nat} (hr : risP cV l) (h : atP l id p) : (∃ i, ∃ h : i < l.length, l[i].1 = id) ↔ ∃ h : p < l.length, l[p].1 = id := by
  constructor
  · rintro ⟨i, hi, e⟩
    obtain ⟨h1, h2, h3⟩ := h
    rcases Nat.lt_trichotomy i p with hlt | he | hgt
    · have := h2 i hi hlt; omega
    · subst he; exact ⟨hi, e⟩
    · have h4 := ris_lt hr p i hgt hi
      have h5 := h3 p (by omega) (Nat.le_refl _)
      omega
  · rintro ⟨h, e⟩; exact ⟨p, h, e⟩
def portOk (l : List VlanC) (p : PortC) : Prop := (∃ i, ∃ h : i < l.length, l[i].1 = p.2.2) ∧ 1 ≤ p.2.1.toNat ∧ p.2.1.toNat ≤ 200000000
def portsP (c : ConfC) : Prop := 1 ≤ c.2.2.2.1.length ∧ c.2.2.2.1.length ≤ 8 ∧ ∀ i (h : i < c.2.2.2.1.length), portOk c.2.2.2.2.1 c.2.2.2.1[i]
abbrev FindT (l : List VlanC) (id : Int) := { p : Nat × Bool // atP l id p.1 ∧ (p.2 = true ↔ ∃ h : p.1 < l.length, l[p.1].1 = id) }
theorem ports_spec (D : Nat → Prop) (w : World) (c : ConfC) (vp vv vs : Value) (H : ConfOld D w c vp vv vs) (hr : risP cV c.2.2.2.2.1) :
    Calls Try.prog 55 #[.agg (cfgV c vp vv vs).toArray] w fun e w' => ∃ b : BIff (portsP c), e = .returned (.bool b.1) ∧ Own D w w' [] := by
  have HV := H.v
  have hlv := H.lv
  have hlp := H.lp
  obtain ⟨Ap, capp, rfl, hp1, hp2, HSp, hpok⟩ := H.p.openF
  have HSp : OldS D w Ap (c.2.2.2.1.flatMap portV) := HSp
  obtain ⟨q, hq⟩ : ∃ q, c.2.2.2.1 = q := ⟨_, rfl⟩
  obtain ⟨l, hll⟩ : ∃ l, c.2.2.2.2.1 = l := ⟨_, rfl⟩
  have hP : portsP c ↔ 1 ≤ q.length ∧ q.length ≤ 8 ∧ ∀ i (h : i < q.length), portOk l q[i] := by
    subst hq; subst hll; exact Iff.rfl
  rw [hll] at HV hlv hr
  rw [hq] at HSp hlp hp1 ⊢
  refine hc_enter (vs := [.agg (cfgV c (.slice Ap q.length capp) vv vs).toArray]) Try.func55 rfl _ Try.ntmps55 rfl (Own.start D w) ?_
  simp only [argSlots, Nat.zero_add]
  refine hc_seq <|
    hc_region <|
    hl_new (on_boxN rfl rfl) rfl rfl rfl fun b1 =>  ?_
  refine hl_val (ov_assign rfl) rfl rfl rfl <|
    hl_nil <|
    hx_then_normal <|
    hc_seq <|
    hc_seq <|
    hc_region <| ?_
  refine hl_val (ov_fieldA rfl) rfl rfl rfl <|
    hl_val (ov_load rfl (CellIs.blk rfl)) rfl rfl rfl <|
    hl_val (by first | exact ov_len rfl | exact ov_lenS rfl) rfl rfl rfl <| ?_
  refine hl_val (ov_move rfl) rfl rfl rfl <|
    hl_nil <|
    hx_then_normal <|
    hc_block <| ?_
  refine hc_loops1 (σ := Nat) [1, 8, 9] rfl 10 (fun i => .int .i64 (i : Int)) (fun i => i ≤ q.length ∧ ∀ j (h : j < q.length), j < i → portOk l q[j]) (fun i => q.length - i) (0) (⟨Nat.zero_le _, fun j _ h => absurd h (Nat.not_lt_zero _)⟩) rfl ?_
  rintro i ⟨hi, hall⟩ K1 hK1
  refine hc_seq <|
    hc_region <|
    hl_val (ov_lss rfl rfl) rfl rfl rfl <|
    hl_nil <|
    hx_then_normal <|
    hc_seq <| ?_
  refine hc_cond rfl (fun h => ?_) (fun h => ?_)
  · have hlt : i < q.length := by omega
    have hc := OldS.cells_flat (D := D) (w0 := w) (f := portV) (sz := 3) (fun _ => rfl) (by decide) HSp hlt
    have hA := (hc []).1
    have hbad : ¬ portOk l q[i] → ¬ portsP c := fun hx h => hx ((hP.1 h).2.2 i hlt)
    have hnext : portOk l q[i] → ∀ j (h : j < q.length), j < i + 1 → portOk l q[j] := fun hx j hj h1 => by
      rcases Nat.lt_or_ge j i with h3 | h3
      · exact hall j hj h3
      · obtain rfl : j = i := by omega
        exact hx
    generalize q[i] = x at *
    refine hc_skip <|
      hx_then_normal <|
      hc_seq <|
      hc_block <|
      hc_seq <|
      hc_region <| ?_
    refine hl_val (ov_idxS rfl (by assumption) rfl _ rfl (by omega)) rfl rfl rfl <| ?_
    refine hl_val (ov_loadG (cs := portV x) rfl rfl (hc _).2) rfl rfl rfl ?_
    refine hl_new (on_alloc) rfl rfl rfl fun b4 =>  ?_
    refine hl_u0 (on_storeW (vs := portV x) rfl rfl (by simp) (by simp) (by simp [Value.oneCell'])) rfl rfl ?_
    refine hl_nil <|
      hx_then_normal <|
      hc_seq <|
      hc_region <|
      hl_val (ov_fieldA rfl) rfl rfl rfl <|
      hl_val (ov_load rfl (CellIs.blk rfl)) rfl rfl rfl <| ?_
    refine hl_val (ov_fieldA rfl) rfl rfl rfl <|
      hl_val (ov_load rfl (CellIs.blk rfl)) rfl rfl rfl <| ?_
    refine hl_call (σ := FindT l x.2.2) Try.call78 rfl rfl (fun w1 H1 => Own.callx0 H1 fun D' hold hin H2 => find_spec D' w1 _ l x.2.2 (by omega) hr (hold _ HV)) ?_
    intro f
    try rw [List.nil_append]
    obtain ⟨⟨pf, ok⟩, hat, hokf⟩ := f
    have hfi := find_iff hr hat
    have hokf : ok = true ↔ ∃ i, ∃ h : i < l.length, l[i].1 = x.2.2 := hokf.trans hfi.symm
    dsimp only
    refine hl_val (ov_move rfl) rfl rfl rfl <|
      hl_val (ov_extract rfl rfl) rfl rfl rfl <|
      hl_val (ov_extract rfl rfl) rfl rfl rfl <|
      hl_val (ov_assign rfl) rfl rfl rfl <|
      hl_val (ov_assign rfl) rfl rfl rfl <|
      hl_nil <| ?_
    refine hx_then_normal <|
      hc_seq <|
      hc_region <|
      hl_val (ov_move rfl) rfl rfl rfl <|
      hl_val (by first | exact ov_notd rfl | exact ov_not rfl) rfl rfl rfl <| ?_
    refine hl_val (ov_move rfl) rfl rfl rfl <| ?_
    refine hl_partb (t := 24) rfl (fun a1 => ?_) (fun a1 => ?_)
    · have hno := hbad fun h => by have := hokf.2 h.1; rw [this] at a1; cases a1
      refine hl_off rfl rfl rfl rfl rfl rfl <|
        hl_off rfl rfl rfl rfl rfl rfl <|
        hl_off rfl rfl rfl rfl rfl rfl <|
        hl_val (ov_pickT rfl rfl) rfl rfl rfl <|
        hl_val (ov_move rfl) rfl rfl rfl <|
        hl_off rfl rfl rfl rfl rfl rfl <| ?_
      refine hl_off rfl rfl rfl rfl rfl rfl <|
        hl_off rfl rfl rfl rfl rfl rfl <|
        hl_val (ov_pickT rfl rfl) rfl rfl rfl <|
        hl_nil <|
        hx_then_normal <|
        hc_cond_true rfl <| ?_
      refine hc_seq <|
        hc_region <|
        hl_val (ov_assign rfl) rfl rfl rfl <|
        hl_nil <|
        hx_then_normal <|
        hc_ret <| ?_
      refine hx_block_ret <|
        hx_then_ret <|
        hx_then_ret <|
        hx_block_ret <|
        hx_then_ret <| ?_
      exact results_1 (.inr rfl) rfl rfl fun w' H' => ⟨bF hno, rfl, H'.ent (Ent.nil _)⟩
    · have hok1 : ok = true := by simpa using a1
      refine hl_on rfl rfl <| hl_val (ov_fieldA rfl) rfl rfl rfl <|
        hl_on rfl rfl <| hl_val (ov_load rfl (CellIs.blk rfl)) rfl rfl rfl <|
        hl_on rfl rfl <| hl_val (ov_lss rfl rfl) rfl rfl rfl <|
        hl_val (ov_pickF rfl rfl) rfl rfl rfl <|
        hl_val (ov_move rfl) rfl rfl rfl <| ?_
      refine hl_part (t := 29) rfl (fun a2 => ?_) (fun a2 => ?_)
      · have hno := hbad fun h => by have := h.2.1; omega
        refine hl_off rfl rfl rfl rfl rfl rfl <|
          hl_off rfl rfl rfl rfl rfl rfl <|
          hl_off rfl rfl rfl rfl rfl rfl <|
          hl_val (ov_pickT rfl rfl) rfl rfl rfl <|
          hl_nil <|
          hx_then_normal <| ?_
        refine hc_cond_true rfl <|
          hc_seq <|
          hc_region <|
          hl_val (ov_assign rfl) rfl rfl rfl <|
          hl_nil <|
          hx_then_normal <| ?_
        refine hc_ret <|
          hx_block_ret <|
          hx_then_ret <|
          hx_then_ret <|
          hx_block_ret <|
          hx_then_ret <| ?_
        exact results_1 (.inr rfl) rfl rfl fun w' H' => ⟨bF hno, rfl, H'.ent (Ent.nil _)⟩
      · refine hl_on rfl rfl <| hl_val (ov_fieldA rfl) rfl rfl rfl <|
          hl_on rfl rfl <| hl_val (ov_load rfl (CellIs.blk rfl)) rfl rfl rfl <|
          hl_on rfl rfl <| hl_val (ov_gtr rfl rfl) rfl rfl rfl <|
          hl_val (ov_pickF rfl rfl) rfl rfl rfl <|
          hl_nil <|
          hx_then_normal <| ?_
        refine hc_cond rfl (fun a3 => ?_) (fun a3 => ?_)
        · have hno := hbad fun h => by have := h.2.2; omega
          refine hc_seq <|
            hc_region <|
            hl_val (ov_assign rfl) rfl rfl rfl <|
            hl_nil <|
            hx_then_normal <|
            hc_ret <| ?_
          refine hx_block_ret <|
            hx_then_ret <|
            hx_then_ret <|
            hx_block_ret <|
            hx_then_ret <| ?_
          exact results_1 (.inr rfl) rfl rfl fun w' H' => ⟨bF hno, rfl, H'.ent (Ent.nil _)⟩
        · have hn := hnext ⟨hokf.1 hok1, by omega, by omega⟩
          refine hc_skip <|
            hx_block_normal <|
            hx_then_normal <|
            hc_region <|
            hl_val (ov_add rfl rfl (by first | exact wrap_i64 (by omega) | rfl)) rfl rfl rfl <| ?_
          refine hl_val (ov_move rfl) rfl rfl rfl <|
            hl_nil <| ?_
          refine hx_next hK1 (i + 1) (⟨hlt, hn⟩) (by omega) (by repeat (first | exact Slots.sub_nil _ | refine Slots.sub_cons rfl ?_)) (by first | assumption | exact Ent.refl _ | exact Ent.nil _ | (repeat (first | exact Ent.refl _ | exact Ent.nil _ | refine Ent.pick ?_)))
  · have hall' : ∀ i (h : i < q.length), portOk l q[i] := fun j hj => hall j hj (by omega)
    refine hc_exit <|
      hx_then_exit <|
      hx_then_exit <|
      hx_block_out <|
      hx_then_normal <|
      hc_seq <| ?_
    refine hc_region <|
      hl_val (ov_fieldA rfl) rfl rfl rfl <|
      hl_val (ov_load rfl (CellIs.blk rfl)) rfl rfl rfl <|
      hl_val (by first | exact ov_len rfl | exact ov_lenS rfl) rfl rfl rfl <| ?_
    refine hl_val (ov_geq rfl rfl) rfl rfl rfl <|
      hl_val (ov_move rfl) rfl rfl rfl <| ?_
    refine hl_part (t := 39) rfl (fun b1 => ?_) (fun b1 => ?_)
    · refine hl_on rfl rfl <| hl_val (ov_fieldA rfl) rfl rfl rfl <|
        hl_on rfl rfl <| hl_val (ov_load rfl (CellIs.blk rfl)) rfl rfl rfl <|
        hl_on rfl rfl <| hl_val (by first | exact ov_len rfl | exact ov_lenS rfl) rfl rfl rfl <| ?_
      refine hl_on rfl rfl <| hl_val (ov_leq rfl rfl) rfl rfl rfl <|
        hl_val (ov_pickT rfl rfl) rfl rfl rfl <|
        hl_val (ov_assign rfl) rfl rfl rfl <|
        hl_nil <|
        hx_then_normal <|
        hc_ret <| ?_
      exact results_1 (.inr rfl) rfl rfl fun w' H' => ⟨⟨decide ((q.length : Int) ≤ 8), by rw [decide_eq_true_iff, hP]; exact ⟨fun h => ⟨by omega, by omega, hall'⟩, fun h => by have := h.2.1; omega⟩⟩, rfl, H'.ent (Ent.nil _)⟩
    · have hno : ¬ portsP c := fun h => by have := (hP.1 h).1; omega
      refine hl_off rfl rfl rfl rfl rfl rfl <|
        hl_off rfl rfl rfl rfl rfl rfl <|
        hl_off rfl rfl rfl rfl rfl rfl <|
        hl_off rfl rfl rfl rfl rfl rfl <|
        hl_val (ov_pickF rfl rfl) rfl rfl rfl <|
        hl_val (ov_assign rfl) rfl rfl rfl <| ?_
      refine hl_nil <|
        hx_then_normal <|
        hc_ret <| ?_
      exact results_1 (.inr rfl) rfl rfl fun w' H' => ⟨bF hno, rfl, H'.ent (Ent.nil _)⟩
end Go.Proofs.Ytpgpfcplchaleaa
