import Derived.Test.YtpgpfcplchaleaaCon4
set_option linter.unusedVariables false
set_option linter.unusedSimpArgs false
namespace Go.Proofs.Ytpgpfcplchaleaa
open Slk
section
variable {P : Program} {D : Nat → Prop} {w0 : World} {env : Slots} {l : List HProp} {dst : Option Tmp} {ty : TypeId} {pos : String} {after : Array Edge} {g : Option (Nat × Bool)} {x y : Operand} {t t' : TypeId}
theorem ov_and1_u64 {m : Nat} (hm : m < 18446744073709551616) (hx : evalO env x = some (.int .u64 (m : Int))) (hy : evalO env y = some (.int .u64 1)) : OpVal P D w0 env l ⟨dst, .binOp .and t x y t', ty, pos, after, g⟩ (.int .u64 ((m % 2 : Nat) : Int)) := ov_and hx hy (by
  have e : (BitVec.ofInt 64 (m : Int) &&& BitVec.ofInt 64 (1 : Int)).toNat = m % 2 := by
    rw [BitVec.toNat_and, BitVec.ofInt_natCast, BitVec.toNat_ofNat, Nat.mod_eq_of_lt hm]
    exact Nat.and_one_is_mod m
  show IntKind.u64.wrap (((BitVec.ofInt 64 (m : Int) &&& BitVec.ofInt 64 (1 : Int)).toNat : Nat) : Int) = _
  rw [e]
  exact wrap_u64 ⟨by omega, by omega⟩)
theorem ov_and1_u8 {m : Nat} (hm : m < 256) (hx : evalO env x = some (.int .u8 (m : Int))) (hy : evalO env y = some (.int .u8 1)) : OpVal P D w0 env l ⟨dst, .binOp .and t x y t', ty, pos, after, g⟩ (.int .u8 ((m % 2 : Nat) : Int)) := ov_and hx hy (by
  have e : (BitVec.ofInt 8 (m : Int) &&& BitVec.ofInt 8 (1 : Int)).toNat = m % 2 := by
    rw [BitVec.toNat_and, BitVec.ofInt_natCast, BitVec.toNat_ofNat, Nat.mod_eq_of_lt hm]
    exact Nat.and_one_is_mod m
  show IntKind.u8.wrap (((BitVec.ofInt 8 (m : Int) &&& BitVec.ofInt 8 (1 : Int)).toNat : Nat) : Int) = _
  rw [e]
  exact wrap_u8 ⟨by omega, by omega⟩)
end
theorem shr8 (x n : Nat) : ((x : Int)).fdiv (2 ^ (min ((n : Int)).toNat 8)) = ((x / 2 ^ (min n 8) : Nat) : Int) := by
  rw [Int.fdiv_eq_ediv_of_nonneg _ (Int.le_of_lt (Int.pow_pos (by decide)))]
  simp
theorem shrK (x k : Nat) (j : Int) (b : Nat) (hk : min j.toNat b = k) : ((x : Int)).fdiv (2 ^ (min j.toNat b)) = ((x / 2 ^ k : Nat) : Int) := by
  rw [hk, Int.fdiv_eq_ediv_of_nonneg _ (Int.le_of_lt (Int.pow_pos (by decide)))]
  simp
def statOk (np : Nat) (l : List VlanC) (s : StatC) : Prop := s.1.toNat ≠ 0 ∧ s.1.toNat / 2 ^ 48 = 0 ∧ s.1.toNat / 2 ^ 40 % 2 = 0 ∧ 0 ≤ s.2.2 ∧ s.2.2 < np ∧ ∃ i, ∃ h : i < l.length, l[i].1 = s.2.1 ∧ l[i].2.1.toNat / 2 ^ (min s.2.2.toNat 8) % 2 ≠ 0
theorem static_spec (D : Nat → Prop) (w : World) (c : ConfC) (x : StatC) (vp vv vs : Value) (H : ConfOld D w c vp vv vs) (hr : risP cV c.2.2.2.2.1) :
    Calls Try.prog 60 #[.agg (cfgV c vp vv vs).toArray, .agg (statV x).toArray] w fun e w' => ∃ b : BIff (statOk c.2.2.2.1.length c.2.2.2.2.1 x), e = .returned (.bool b.1) ∧ Own D w w' [] := by
  have HV := H.v
  have hlv := H.lv
  obtain ⟨Ap, capp, rfl, hp1, hp2, HSp, hpok⟩ := H.p.openF
  obtain ⟨Av, capv, rfl, hv1, hv2, HSv, hvok⟩ := H.v.openF
  have HSv : OldS D w Av (c.2.2.2.2.1.flatMap vlanV) := HSv
  obtain ⟨np, hnp⟩ : ∃ n, c.2.2.2.1.length = n := ⟨_, rfl⟩
  obtain ⟨l, hll⟩ : ∃ l, c.2.2.2.2.1 = l := ⟨_, rfl⟩
  rw [hll] at HV hlv hr HSv hv1 ⊢
  rw [hnp]
  have hmac := x.1.toNat_lt
  refine hc_enter (vs := [.agg (cfgV c (.slice Ap np capp) (.slice Av l.length capv) vs).toArray, .agg (statV x).toArray]) Try.func60 rfl _ Try.ntmps60 rfl (Own.start D w) ?_
  simp only [argSlots, Nat.zero_add]
  refine hc_seq <|
    hc_region <|
    hl_new (on_boxN rfl rfl) rfl rfl rfl fun b2 =>  ?_
  refine hl_new (on_boxN rfl rfl) rfl rfl rfl fun b3 =>  ?_
  refine hl_val (ov_assign rfl) rfl rfl rfl <|
    hl_nil <|
    hx_then_normal <|
    hc_seq <|
    hc_region <|
    hl_val (ov_fieldA rfl) rfl rfl rfl <| ?_
  refine hl_val (ov_load rfl (CellIs.blk rfl)) rfl rfl rfl <|
    hl_val (ov_fieldA rfl) rfl rfl rfl <|
    hl_val (ov_load rfl (CellIs.blk rfl)) rfl rfl rfl <| ?_
  refine hl_call (σ := FindT l x.2.1) Try.call78 rfl rfl (fun w1 H1 => Own.callx0 H1 fun D' hold hin H2 => find_spec D' w1 _ l x.2.1 (by omega) hr (hold _ HV)) ?_
  intro f
  try rw [List.nil_append]
  obtain ⟨⟨pf, ok⟩, hat, hokf⟩ := f
  have hfi := find_iff hr hat
  have hokf' : ok = true ↔ ∃ i, ∃ h : i < l.length, l[i].1 = x.2.1 := hokf.trans hfi.symm
  dsimp only
  refine hl_val (ov_move rfl) rfl rfl rfl <|
    hl_val (ov_extract rfl rfl) rfl rfl rfl <|
    hl_val (ov_extract rfl rfl) rfl rfl rfl <|
    hl_val (ov_assign rfl) rfl rfl rfl <|
    hl_val (ov_assign rfl) rfl rfl rfl <|
    hl_nil <| ?_
  refine hx_then_normal <|
    hc_seq <|
    hc_seq <|
    hc_region <|
    hl_val (ov_move rfl) rfl rfl rfl <|
    hl_val (by first | exact ov_notd rfl | exact ov_not rfl) rfl rfl rfl <| ?_
  refine hl_val (ov_move rfl) rfl rfl rfl <| ?_
  refine hl_partb (t := 17) rfl (fun a1 => ?_) (fun a1 => ?_)
  · have hno : ¬ statOk np l x := fun h => by
      obtain ⟨_, _, _, _, _, i, hi, h1, _⟩ := h
      have := hokf'.2 ⟨i, hi, h1⟩
      rw [this] at a1; cases a1
    refine hl_off rfl rfl rfl rfl rfl rfl <|
      hl_off rfl rfl rfl rfl rfl rfl <|
      hl_off rfl rfl rfl rfl rfl rfl <|
      hl_val (ov_pickT rfl rfl) rfl rfl rfl <|
      hl_val (ov_move rfl) rfl rfl rfl <|
      hl_off rfl rfl rfl rfl rfl rfl <| ?_
    refine hl_off rfl rfl rfl rfl rfl rfl <|
      hl_off rfl rfl rfl rfl rfl rfl <|
      hl_off rfl rfl rfl rfl rfl rfl <|
      hl_val (ov_pickT rfl rfl) rfl rfl rfl <|
      hl_val (ov_move rfl) rfl rfl rfl <|
      hl_off rfl rfl rfl rfl rfl rfl <| ?_
    refine hl_off rfl rfl rfl rfl rfl rfl <|
      hl_off rfl rfl rfl rfl rfl rfl <|
      hl_off rfl rfl rfl rfl rfl rfl <|
      hl_off rfl rfl rfl rfl rfl rfl <|
      hl_val (ov_pickT rfl rfl) rfl rfl rfl <|
      hl_nil <| ?_
    refine hx_then_normal <|
      hc_cond_true rfl <|
      hc_seq <|
      hc_region <|
      hl_val (ov_assign rfl) rfl rfl rfl <|
      hl_nil <| ?_
    refine hx_then_normal <|
      hc_ret <|
      hx_then_ret <| ?_
    exact results_1 (.inr rfl) rfl rfl fun w' H' => ⟨bF hno, rfl, H'.ent (Ent.nil _)⟩
  · have hok1 : ok = true := by simpa using a1
    obtain ⟨hpl, hpe⟩ := hokf.1 hok1
    have hpl : pf < l.length := hpl
    have hpe : l[pf].1 = x.2.1 := hpe
    refine hl_on rfl rfl <| hl_val (ov_fieldA rfl) rfl rfl rfl <|
      hl_on rfl rfl <| hl_val (ov_load rfl (CellIs.blk rfl)) rfl rfl rfl <|
      hl_on rfl rfl <| hl_val (ov_eql rfl rfl) rfl rfl rfl <|
      hl_val (ov_pickF rfl rfl) rfl rfl rfl <|
      hl_val (ov_move rfl) rfl rfl rfl <| ?_
    refine hl_part (t := 22) rfl (fun a2 => ?_) (fun a2 => ?_)
    · have hno : ¬ statOk np l x := fun h => h.1 (by omega)
      refine hl_off rfl rfl rfl rfl rfl rfl <|
        hl_off rfl rfl rfl rfl rfl rfl <|
        hl_off rfl rfl rfl rfl rfl rfl <|
        hl_off rfl rfl rfl rfl rfl rfl <|
        hl_val (ov_pickT rfl rfl) rfl rfl rfl <|
        hl_val (ov_move rfl) rfl rfl rfl <| ?_
      refine hl_off rfl rfl rfl rfl rfl rfl <|
        hl_off rfl rfl rfl rfl rfl rfl <|
        hl_off rfl rfl rfl rfl rfl rfl <|
        hl_off rfl rfl rfl rfl rfl rfl <|
        hl_off rfl rfl rfl rfl rfl rfl <|
        hl_val (ov_pickT rfl rfl) rfl rfl rfl <| ?_
      refine hl_nil <|
        hx_then_normal <|
        hc_cond_true rfl <|
        hc_seq <|
        hc_region <|
        hl_val (ov_assign rfl) rfl rfl rfl <| ?_
      refine hl_nil <|
        hx_then_normal <|
        hc_ret <|
        hx_then_ret <| ?_
      exact results_1 (.inr rfl) rfl rfl fun w' H' => ⟨bF hno, rfl, H'.ent (Ent.nil _)⟩
    · refine hl_on rfl rfl <| hl_val (ov_fieldA rfl) rfl rfl rfl <|
        hl_on rfl rfl <| hl_val (ov_load rfl (CellIs.blk rfl)) rfl rfl rfl <| ?_
      refine hl_on rfl rfl <| hl_val (ov_shr (m := ((x.1.toNat / 2 ^ 48 : Nat) : Int)) rfl rfl (by decide) (shrK _ 48 _ _ rfl)) rfl rfl rfl ?_
      refine hl_on rfl rfl <| hl_val (ov_neq rfl rfl) rfl rfl rfl <|
        hl_val (ov_pickF rfl rfl) rfl rfl rfl <|
        hl_val (ov_move rfl) rfl rfl rfl <| ?_
      refine hl_part (t := 28) rfl (fun a3 => ?_) (fun a3 => ?_)
      · have hno : ¬ statOk np l x := fun h => a3 (by have := h.2.1; omega)
        refine hl_off rfl rfl rfl rfl rfl rfl <|
          hl_off rfl rfl rfl rfl rfl rfl <|
          hl_off rfl rfl rfl rfl rfl rfl <|
          hl_off rfl rfl rfl rfl rfl rfl <|
          hl_off rfl rfl rfl rfl rfl rfl <|
          hl_val (ov_pickT rfl rfl) rfl rfl rfl <| ?_
        refine hl_nil <|
          hx_then_normal <|
          hc_cond_true rfl <|
          hc_seq <|
          hc_region <|
          hl_val (ov_assign rfl) rfl rfl rfl <| ?_
        refine hl_nil <|
          hx_then_normal <|
          hc_ret <|
          hx_then_ret <| ?_
        exact results_1 (.inr rfl) rfl rfl fun w' H' => ⟨bF hno, rfl, H'.ent (Ent.nil _)⟩
      · have h3 : x.1.toNat / 2 ^ 48 = 0 := by have := Classical.not_not.1 a3; omega
        refine hl_on rfl rfl <| hl_val (ov_fieldA rfl) rfl rfl rfl <|
          hl_on rfl rfl <| hl_val (ov_load rfl (CellIs.blk rfl)) rfl rfl rfl <| ?_
        refine hl_on rfl rfl <| hl_val (ov_shr (m := ((x.1.toNat / 2 ^ 40 : Nat) : Int)) rfl rfl (by decide) (shrK _ 40 _ _ rfl)) rfl rfl rfl ?_
        refine hl_on rfl rfl <| hl_val (ov_and1_u64 (by omega) rfl rfl) rfl rfl rfl ?_
        refine hl_on rfl rfl <| hl_val (ov_neq rfl rfl) rfl rfl rfl <|
          hl_val (ov_pickF rfl rfl) rfl rfl rfl <|
          hl_nil <|
          hx_then_normal <| ?_
        refine hc_cond rfl (fun a4 => ?_) (fun a4 => ?_)
        · have hno : ¬ statOk np l x := fun h => a4 (by have := h.2.2.1; omega)
          refine hc_seq <|
            hc_region <|
            hl_val (ov_assign rfl) rfl rfl rfl <|
            hl_nil <|
            hx_then_normal <|
            hc_ret <| ?_
          refine hx_then_ret <| ?_
          exact results_1 (.inr rfl) rfl rfl fun w' H' => ⟨bF hno, rfl, H'.ent (Ent.nil _)⟩
        · have h4 : x.1.toNat / 2 ^ 40 % 2 = 0 := by have := Classical.not_not.1 a4; omega
          refine hc_skip <|
            hx_then_normal <|
            hc_seq <|
            hc_quiet mixed (by kernel_rfl) <|
            hq_val (ov_fieldA rfl) rfl rfl rfl <|
            hq_val (ov_load rfl (CellIs.blk rfl)) rfl rfl rfl <| ?_
          refine hq_val (ov_geq rfl rfl) rfl rfl rfl <|
            hq_val (ov_move rfl) rfl rfl rfl <| ?_
          refine hq_part (t := 38) rfl (fun p1 => ?_) (fun p1 => ?_)
          · refine hq_on rfl rfl <| hq_val (ov_fieldA rfl) rfl rfl rfl <|
              hq_on rfl rfl <| hq_val (ov_load rfl (CellIs.blk rfl)) rfl rfl rfl <|
              hq_on rfl rfl <| hq_val (ov_fieldA rfl) rfl rfl rfl <|
              hq_on rfl rfl <| hq_val (ov_load rfl (CellIs.blk rfl)) rfl rfl rfl <|
              hq_on rfl rfl <| hq_val (by first | exact ov_len rfl | exact ov_lenS rfl) rfl rfl rfl <| ?_
            refine hq_on rfl rfl <| hq_val (ov_lss rfl rfl) rfl rfl rfl <|
              hq_val (ov_pickT rfl rfl) rfl rfl rfl <|
              hq_val (ov_move rfl) rfl rfl rfl <| ?_
            refine hq_part (t := 46) rfl (fun p2 => ?_) (fun p2 => ?_)
            · obtain ⟨hA, hc⟩ := OldS.cells_flat (D := D) (w0 := w) (f := vlanV) (sz := 3) (fun _ => rfl) (by decide) HSv hpl [blk b3 72 (statV x), blk b2 26 (cfgV c (.slice Ap np capp) (.slice Av l.length capv) vs)]
              have hcell : CellIs D w [blk b3 72 (statV x), blk b2 26 (cfgV c (.slice Ap np capp) (.slice Av l.length capv) vs)] (ab Av) (ao Av + pf * 3 + 1) (.int .u8 (l[pf].2.1.toNat : Int)) := hc.cell (i := 1) rfl
              have hfin : (l[pf].2.1.toNat / 2 ^ (min x.2.2.toNat 8) % 2 ≠ 0) ↔ statOk np l x := by
                constructor
                · intro h; exact ⟨by omega, h3, h4, p1, p2, pf, hpl, hpe, h⟩
                · rintro ⟨_, _, _, _, _, i, hi, h1, h2⟩
                  have hip : i = pf := by
                    rcases Nat.lt_trichotomy i pf with h | h | h
                    · have := ris_lt hr i pf h hpl; omega
                    · exact h
                    · have := ris_lt hr pf i h hi; omega
                  subst hip
                  exact h2
              have hb := l[pf].2.1.toNat_lt
              generalize l[pf].2.1.toNat = mb at *
              refine hq_on rfl rfl <| hq_val (ov_fieldA rfl) rfl rfl rfl <|
                hq_on rfl rfl <| hq_val (ov_load rfl (CellIs.blk rfl)) rfl rfl rfl <|
                hq_on rfl rfl <| hq_val (ov_move rfl) rfl rfl rfl <|
                hq_on rfl rfl <| hq_val (ov_idxS rfl (by assumption) rfl _ rfl (by omega)) rfl rfl rfl <|
                hq_on rfl rfl <| hq_val (ov_fieldA rfl) rfl rfl rfl <| ?_
              refine hq_on rfl rfl <| hq_val (ov_load rfl hcell) rfl rfl rfl ?_
              refine hq_on rfl rfl <| hq_val (ov_fieldA rfl) rfl rfl rfl <|
                hq_on rfl rfl <| hq_val (ov_load rfl (CellIs.blk rfl)) rfl rfl rfl <| ?_
              refine hq_on rfl rfl <| hq_val (ov_shr (m := ((mb / 2 ^ (min x.2.2.toNat 8) : Nat) : Int)) rfl rfl p1 (shrK _ _ _ _ rfl)) rfl rfl rfl ?_
              refine hq_on rfl rfl <| hq_val (ov_and1_u8 (Nat.lt_of_le_of_lt (Nat.div_le_self _ _) hb) rfl rfl) rfl rfl rfl ?_
              refine hq_on rfl rfl <| hq_val (ov_neq rfl rfl) rfl rfl rfl <|
                hq_val (ov_pickT rfl rfl) rfl rfl rfl <|
                hq_val (ov_assign rfl) rfl rfl rfl <|
                hq_nil <|
                hx_then_normal <|
                hc_ret <| ?_
              exact results_1 (.inr rfl) rfl rfl fun w' H' => ⟨⟨decide (¬ (((mb / 2 ^ (min x.2.2.toNat 8) % 2 : Nat) : Int) = 0)), by rw [decide_eq_true_iff, ← hfin]; omega⟩, rfl, H'.ent (Ent.nil _)⟩
            · have hno : ¬ statOk np l x := fun h => p2 h.2.2.2.2.1
              refine hq_off rfl rfl rfl rfl rfl rfl <|
                hq_off rfl rfl rfl rfl rfl rfl <|
                hq_off rfl rfl rfl rfl rfl rfl <|
                hq_off rfl rfl rfl rfl rfl rfl <|
                hq_off rfl rfl rfl rfl rfl rfl <|
                hq_off rfl rfl rfl rfl rfl rfl <| ?_
              refine hq_off rfl rfl rfl rfl rfl rfl <|
                hq_off rfl rfl rfl rfl rfl rfl <|
                hq_off rfl rfl rfl rfl rfl rfl <|
                hq_off rfl rfl rfl rfl rfl rfl <|
                hq_off rfl rfl rfl rfl rfl rfl <|
                hq_val (ov_pickF rfl rfl) rfl rfl rfl <| ?_
              refine hq_val (ov_assign rfl) rfl rfl rfl <|
                hq_nil <|
                hx_then_normal <|
                hc_ret <| ?_
              exact results_1 (.inr rfl) rfl rfl fun w' H' => ⟨bF hno, rfl, H'.ent (Ent.nil _)⟩
          · have hno : ¬ statOk np l x := fun h => p1 h.2.2.2.1
            refine hq_off rfl rfl rfl rfl rfl rfl <|
              hq_off rfl rfl rfl rfl rfl rfl <|
              hq_off rfl rfl rfl rfl rfl rfl <|
              hq_off rfl rfl rfl rfl rfl rfl <|
              hq_off rfl rfl rfl rfl rfl rfl <|
              hq_off rfl rfl rfl rfl rfl rfl <| ?_
            refine hq_val (ov_pickF rfl rfl) rfl rfl rfl <|
              hq_val (ov_move rfl) rfl rfl rfl <|
              hq_off rfl rfl rfl rfl rfl rfl <|
              hq_off rfl rfl rfl rfl rfl rfl <|
              hq_off rfl rfl rfl rfl rfl rfl <|
              hq_off rfl rfl rfl rfl rfl rfl <| ?_
            refine hq_off rfl rfl rfl rfl rfl rfl <|
              hq_off rfl rfl rfl rfl rfl rfl <|
              hq_off rfl rfl rfl rfl rfl rfl <|
              hq_off rfl rfl rfl rfl rfl rfl <|
              hq_off rfl rfl rfl rfl rfl rfl <|
              hq_off rfl rfl rfl rfl rfl rfl <| ?_
            refine hq_off rfl rfl rfl rfl rfl rfl <|
              hq_val (ov_pickF rfl rfl) rfl rfl rfl <|
              hq_val (ov_assign rfl) rfl rfl rfl <|
              hq_nil <|
              hx_then_normal <|
              hc_ret <| ?_
            exact results_1 (.inr rfl) rfl rfl fun w' H' => ⟨bF hno, rfl, H'.ent (Ent.nil _)⟩
end Go.Proofs.Ytpgpfcplchaleaa
