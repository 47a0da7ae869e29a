import Derived.Test.YtpgpfcplchaleaaCon2
set_option linter.unusedVariables false
set_option linter.unusedSimpArgs false
namespace Go.Proofs.Ytpgpfcplchaleaa
open Slk
abbrev cfgV (c : ConfC) (vp vv vs : Value) : List Value := [.int .i64 c.1, .int .i64 c.2.1, .int .i64 c.2.2.1, vp, vv, vs]
structure ConfOld (D : Nat → Prop) (w : World) (c : ConfC) (vp vv vs : Value) : Prop where
  i1 : inI64 c.1
  i2 : inI64 c.2.1
  i3 : inI64 c.2.2.1
  p : Old D w (Rep.rep c.2.2.2.1 [vp])
  v : Old D w (Rep.rep c.2.2.2.2.1 [vv])
  s : Old D w (Rep.rep c.2.2.2.2.2 [vs])
  lp : c.2.2.2.1.length ≤ 1000
  lv : c.2.2.2.2.1.length ≤ 1000
  ls : c.2.2.2.2.2.length ≤ 1000
theorem ConfOld.hold {D D' : Nat → Prop} {w w' : World} {c : ConfC} {vp vv vs : Value} (h : ConfOld D w c vp vv vs) (hold : ∀ A, Old D w A → Old D' w' A) : ConfOld D' w' c vp vv vs :=
  ⟨h.i1, h.i2, h.i3, hold _ h.p, hold _ h.v, hold _ h.s, h.lp, h.lv, h.ls⟩
def timesP (c : ConfC) : Prop := 0 ≤ c.1 ∧ c.1 ≤ 61440 ∧ c.1 % 4096 = 0 ∧ 6 ≤ c.2.1 ∧ c.2.1 ≤ 40 ∧ 4 ≤ c.2.2.1 ∧ c.2.2.1 ≤ 30 ∧ c.2.1 ≤ 2 * (c.2.2.1 - 1)
theorem times_spec (D : Nat → Prop) (w : World) (c : ConfC) (vp vv vs : Value) (H : ConfOld D w c vp vv vs) :
    Calls Try.prog 53 #[.agg (cfgV c vp vv vs).toArray] w fun e w' => ∃ b : BIff (timesP c), e = .returned (.bool b.1) ∧ Own D w w' [] := by
  obtain ⟨i1, i2, i3, _, _, _, _, _, _⟩ := H
  unfold inI64 at i1 i2 i3
  refine hc_enter (vs := [.agg (cfgV c vp vv vs).toArray]) Try.func53 rfl _ Try.ntmps53 rfl (Own.start D w) ?_
  simp only [argSlots, Nat.zero_add]
  refine hc_seq <|
    hc_region <|
    hl_new (on_boxN rfl rfl) rfl rfl rfl fun b1 =>  ?_
  refine hl_val (ov_assign rfl) rfl rfl rfl <|
    hl_nil <|
    hx_then_normal <|
    hc_seq <|
    hc_region <|
    hl_val (ov_fieldA rfl) rfl rfl rfl <| ?_
  refine hl_val (ov_load rfl (CellIs.blk rfl)) rfl rfl rfl <|
    hl_val (ov_geq rfl rfl) rfl rfl rfl <|
    hl_val (ov_move rfl) rfl rfl rfl <| ?_
  refine hl_part (t := 6) rfl (fun h1 => ?_) (fun h1 => ?_)
  · refine hl_on rfl rfl <| hl_val (ov_fieldA rfl) rfl rfl rfl <|
      hl_on rfl rfl <| hl_val (ov_load rfl (CellIs.blk rfl)) rfl rfl rfl <|
      hl_on rfl rfl <| hl_val (ov_leq rfl rfl) rfl rfl rfl <|
      hl_val (ov_pickT rfl rfl) rfl rfl rfl <|
      hl_val (ov_move rfl) rfl rfl rfl <| ?_
    refine hl_part (t := 11) rfl (fun h2 => ?_) (fun h2 => ?_)
    · refine hl_on rfl rfl <| hl_val (ov_fieldA rfl) rfl rfl rfl <|
        hl_on rfl rfl <| hl_val (ov_load rfl (CellIs.blk rfl)) rfl rfl rfl <| ?_
      refine hl_on rfl rfl <| hl_val (ov_rem (m := c.1 % 4096) rfl rfl (by decide) (Int.tmod_eq_emod_of_nonneg (by omega))) rfl rfl rfl ?_
      refine hl_on rfl rfl <| hl_val (ov_eql rfl rfl) rfl rfl rfl <|
        hl_val (ov_pickT rfl rfl) rfl rfl rfl <|
        hl_val (ov_move rfl) rfl rfl rfl <| ?_
      refine hl_part (t := 17) rfl (fun h3 => ?_) (fun h3 => ?_)
      · refine hl_on rfl rfl <| hl_val (ov_fieldA rfl) rfl rfl rfl <|
          hl_on rfl rfl <| hl_val (ov_load rfl (CellIs.blk rfl)) rfl rfl rfl <|
          hl_on rfl rfl <| hl_val (ov_geq rfl rfl) rfl rfl rfl <|
          hl_val (ov_pickT rfl rfl) rfl rfl rfl <|
          hl_val (ov_move rfl) rfl rfl rfl <| ?_
        refine hl_part (t := 22) rfl (fun h4 => ?_) (fun h4 => ?_)
        · refine hl_on rfl rfl <| hl_val (ov_fieldA rfl) rfl rfl rfl <|
            hl_on rfl rfl <| hl_val (ov_load rfl (CellIs.blk rfl)) rfl rfl rfl <|
            hl_on rfl rfl <| hl_val (ov_leq rfl rfl) rfl rfl rfl <|
            hl_val (ov_pickT rfl rfl) rfl rfl rfl <|
            hl_val (ov_move rfl) rfl rfl rfl <| ?_
          refine hl_part (t := 27) rfl (fun h5 => ?_) (fun h5 => ?_)
          · refine hl_on rfl rfl <| hl_val (ov_fieldA rfl) rfl rfl rfl <|
              hl_on rfl rfl <| hl_val (ov_load rfl (CellIs.blk rfl)) rfl rfl rfl <|
              hl_on rfl rfl <| hl_val (ov_geq rfl rfl) rfl rfl rfl <|
              hl_val (ov_pickT rfl rfl) rfl rfl rfl <|
              hl_val (ov_move rfl) rfl rfl rfl <| ?_
            refine hl_part (t := 32) rfl (fun h6 => ?_) (fun h6 => ?_)
            · refine hl_on rfl rfl <| hl_val (ov_fieldA rfl) rfl rfl rfl <|
                hl_on rfl rfl <| hl_val (ov_load rfl (CellIs.blk rfl)) rfl rfl rfl <|
                hl_on rfl rfl <| hl_val (ov_leq rfl rfl) rfl rfl rfl <|
                hl_val (ov_pickT rfl rfl) rfl rfl rfl <|
                hl_val (ov_move rfl) rfl rfl rfl <| ?_
              refine hl_part (t := 37) rfl (fun h7 => ?_) (fun h7 => ?_)
              · refine hl_on rfl rfl <| hl_val (ov_fieldA rfl) rfl rfl rfl <|
                  hl_on rfl rfl <| hl_val (ov_load rfl (CellIs.blk rfl)) rfl rfl rfl <| ?_
                refine hl_on rfl rfl <| hl_val (ov_sub (m := c.2.2.1 - 1) rfl rfl (by rw [wrap_i64 (by omega)])) rfl rfl rfl ?_
                refine hl_on rfl rfl <| hl_val (ov_mul (m := 2 * (c.2.2.1 - 1)) rfl rfl (by rw [wrap_i64 (by omega)])) rfl rfl rfl ?_
                refine hl_on rfl rfl <| hl_val (ov_fieldA rfl) rfl rfl rfl <|
                  hl_on rfl rfl <| hl_val (ov_load rfl (CellIs.blk rfl)) rfl rfl rfl <|
                  hl_on rfl rfl <| hl_val (ov_geq rfl rfl) rfl rfl rfl <|
                  hl_val (ov_pickT rfl rfl) rfl rfl rfl <|
                  hl_val (ov_assign rfl) rfl rfl rfl <|
                  hl_nil <| ?_
                refine hx_then_normal <|
                  hc_ret <| ?_
                exact results_1 (.inr rfl) rfl rfl fun w' H' => ⟨⟨decide (c.2.1 ≤ 2 * (c.2.2.1 - 1)), by rw [decide_eq_true_iff]; exact ⟨fun h => ⟨by omega, by omega, h3, by omega, by omega, by omega, by omega, h⟩, fun h => h.2.2.2.2.2.2.2⟩⟩, rfl, H'.ent (Ent.nil _)⟩
              · have hno : ¬ timesP c := fun h => h7 h.2.2.2.2.2.2.1
                refine hl_off rfl rfl rfl rfl rfl rfl <|
                  hl_off rfl rfl rfl rfl rfl rfl <|
                  hl_off rfl rfl rfl rfl rfl rfl <|
                  hl_off rfl rfl rfl rfl rfl rfl <|
                  hl_off rfl rfl rfl rfl rfl rfl <|
                  hl_off rfl rfl rfl rfl rfl rfl <| ?_
                refine hl_off rfl rfl rfl rfl rfl rfl <|
                  hl_val (ov_pickF rfl rfl) rfl rfl rfl <|
                  hl_val (ov_assign rfl) rfl rfl rfl <|
                  hl_nil <|
                  hx_then_normal <|
                  hc_ret <| ?_
                exact results_1 (.inr rfl) rfl rfl fun w' H' => ⟨bF hno, rfl, H'.ent (Ent.nil _)⟩
            · have hno : ¬ timesP c := fun h => h6 h.2.2.2.2.2.1
              refine hl_off rfl rfl rfl rfl rfl rfl <|
                hl_off rfl rfl rfl rfl rfl rfl <|
                hl_off rfl rfl rfl rfl rfl rfl <|
                hl_val (ov_pickF rfl rfl) rfl rfl rfl <|
                hl_val (ov_move rfl) rfl rfl rfl <|
                hl_off rfl rfl rfl rfl rfl rfl <| ?_
              refine hl_off rfl rfl rfl rfl rfl rfl <|
                hl_off rfl rfl rfl rfl rfl rfl <|
                hl_off rfl rfl rfl rfl rfl rfl <|
                hl_off rfl rfl rfl rfl rfl rfl <|
                hl_off rfl rfl rfl rfl rfl rfl <|
                hl_off rfl rfl rfl rfl rfl rfl <| ?_
              refine hl_val (ov_pickF rfl rfl) rfl rfl rfl <|
                hl_val (ov_assign rfl) rfl rfl rfl <|
                hl_nil <|
                hx_then_normal <|
                hc_ret <| ?_
              exact results_1 (.inr rfl) rfl rfl fun w' H' => ⟨bF hno, rfl, H'.ent (Ent.nil _)⟩
          · have hno : ¬ timesP c := fun h => h5 h.2.2.2.2.1
            refine hl_off rfl rfl rfl rfl rfl rfl <|
              hl_off rfl rfl rfl rfl rfl rfl <|
              hl_off rfl rfl rfl rfl rfl rfl <|
              hl_val (ov_pickF rfl rfl) rfl rfl rfl <|
              hl_val (ov_move rfl) rfl rfl rfl <|
              hl_off rfl rfl rfl rfl rfl rfl <| ?_
            refine hl_off rfl rfl rfl rfl rfl rfl <|
              hl_off rfl rfl rfl rfl rfl rfl <|
              hl_val (ov_pickF rfl rfl) rfl rfl rfl <|
              hl_val (ov_move rfl) rfl rfl rfl <|
              hl_off rfl rfl rfl rfl rfl rfl <|
              hl_off rfl rfl rfl rfl rfl rfl <| ?_
            refine hl_off rfl rfl rfl rfl rfl rfl <|
              hl_off rfl rfl rfl rfl rfl rfl <|
              hl_off rfl rfl rfl rfl rfl rfl <|
              hl_off rfl rfl rfl rfl rfl rfl <|
              hl_off rfl rfl rfl rfl rfl rfl <|
              hl_val (ov_pickF rfl rfl) rfl rfl rfl <| ?_
            refine hl_val (ov_assign rfl) rfl rfl rfl <|
              hl_nil <|
              hx_then_normal <|
              hc_ret <| ?_
            exact results_1 (.inr rfl) rfl rfl fun w' H' => ⟨bF hno, rfl, H'.ent (Ent.nil _)⟩
        · have hno : ¬ timesP c := fun h => h4 h.2.2.2.1
          refine hl_off rfl rfl rfl rfl rfl rfl <|
            hl_off rfl rfl rfl rfl rfl rfl <|
            hl_off rfl rfl rfl rfl rfl rfl <|
            hl_val (ov_pickF rfl rfl) rfl rfl rfl <|
            hl_val (ov_move rfl) rfl rfl rfl <|
            hl_off rfl rfl rfl rfl rfl rfl <| ?_
          refine hl_off rfl rfl rfl rfl rfl rfl <|
            hl_off rfl rfl rfl rfl rfl rfl <|
            hl_val (ov_pickF rfl rfl) rfl rfl rfl <|
            hl_val (ov_move rfl) rfl rfl rfl <|
            hl_off rfl rfl rfl rfl rfl rfl <|
            hl_off rfl rfl rfl rfl rfl rfl <| ?_
          refine hl_off rfl rfl rfl rfl rfl rfl <|
            hl_val (ov_pickF rfl rfl) rfl rfl rfl <|
            hl_val (ov_move rfl) rfl rfl rfl <|
            hl_off rfl rfl rfl rfl rfl rfl <|
            hl_off rfl rfl rfl rfl rfl rfl <|
            hl_off rfl rfl rfl rfl rfl rfl <| ?_
          refine hl_off rfl rfl rfl rfl rfl rfl <|
            hl_off rfl rfl rfl rfl rfl rfl <|
            hl_off rfl rfl rfl rfl rfl rfl <|
            hl_off rfl rfl rfl rfl rfl rfl <|
            hl_val (ov_pickF rfl rfl) rfl rfl rfl <|
            hl_val (ov_assign rfl) rfl rfl rfl <| ?_
          refine hl_nil <|
            hx_then_normal <|
            hc_ret <| ?_
          exact results_1 (.inr rfl) rfl rfl fun w' H' => ⟨bF hno, rfl, H'.ent (Ent.nil _)⟩
      · have hno : ¬ timesP c := fun h => h3 h.2.2.1
        refine hl_off rfl rfl rfl rfl rfl rfl <|
          hl_off rfl rfl rfl rfl rfl rfl <|
          hl_off rfl rfl rfl rfl rfl rfl <|
          hl_val (ov_pickF rfl rfl) rfl rfl rfl <|
          hl_val (ov_move rfl) rfl rfl rfl <|
          hl_off rfl rfl rfl rfl rfl rfl <| ?_
        refine hl_off rfl rfl rfl rfl rfl rfl <|
          hl_off rfl rfl rfl rfl rfl rfl <|
          hl_val (ov_pickF rfl rfl) rfl rfl rfl <|
          hl_val (ov_move rfl) rfl rfl rfl <|
          hl_off rfl rfl rfl rfl rfl rfl <|
          hl_off rfl rfl rfl rfl rfl rfl <| ?_
        refine hl_off rfl rfl rfl rfl rfl rfl <|
          hl_val (ov_pickF rfl rfl) rfl rfl rfl <|
          hl_val (ov_move rfl) rfl rfl rfl <|
          hl_off rfl rfl rfl rfl rfl rfl <|
          hl_off rfl rfl rfl rfl rfl rfl <|
          hl_off rfl rfl rfl rfl rfl rfl <| ?_
        refine hl_val (ov_pickF rfl rfl) rfl rfl rfl <|
          hl_val (ov_move rfl) rfl rfl rfl <|
          hl_off rfl rfl rfl rfl rfl rfl <|
          hl_off rfl rfl rfl rfl rfl rfl <|
          hl_off rfl rfl rfl rfl rfl rfl <|
          hl_off rfl rfl rfl rfl rfl rfl <| ?_
        refine hl_off rfl rfl rfl rfl rfl rfl <|
          hl_off rfl rfl rfl rfl rfl rfl <|
          hl_off rfl rfl rfl rfl rfl rfl <|
          hl_val (ov_pickF rfl rfl) rfl rfl rfl <|
          hl_val (ov_assign rfl) rfl rfl rfl <|
          hl_nil <| ?_
        refine hx_then_normal <|
          hc_ret <| ?_
        exact results_1 (.inr rfl) rfl rfl fun w' H' => ⟨bF hno, rfl, H'.ent (Ent.nil _)⟩
    · have hno : ¬ timesP c := fun h => h2 h.2.1
      refine hl_off rfl rfl rfl rfl rfl rfl <|
        hl_off rfl rfl rfl rfl rfl rfl <|
        hl_off rfl rfl rfl rfl rfl rfl <|
        hl_off rfl rfl rfl rfl rfl rfl <|
        hl_val (ov_pickF rfl rfl) rfl rfl rfl <|
        hl_val (ov_move rfl) rfl rfl rfl <| ?_
      refine hl_off rfl rfl rfl rfl rfl rfl <|
        hl_off rfl rfl rfl rfl rfl rfl <|
        hl_off rfl rfl rfl rfl rfl rfl <|
        hl_val (ov_pickF rfl rfl) rfl rfl rfl <|
        hl_val (ov_move rfl) rfl rfl rfl <|
        hl_off rfl rfl rfl rfl rfl rfl <| ?_
      refine hl_off rfl rfl rfl rfl rfl rfl <|
        hl_off rfl rfl rfl rfl rfl rfl <|
        hl_val (ov_pickF rfl rfl) rfl rfl rfl <|
        hl_val (ov_move rfl) rfl rfl rfl <|
        hl_off rfl rfl rfl rfl rfl rfl <|
        hl_off rfl rfl rfl rfl rfl rfl <| ?_
      refine hl_off rfl rfl rfl rfl rfl rfl <|
        hl_val (ov_pickF rfl rfl) rfl rfl rfl <|
        hl_val (ov_move rfl) rfl rfl rfl <|
        hl_off rfl rfl rfl rfl rfl rfl <|
        hl_off rfl rfl rfl rfl rfl rfl <|
        hl_off rfl rfl rfl rfl rfl rfl <| ?_
      refine hl_val (ov_pickF rfl rfl) rfl rfl rfl <|
        hl_val (ov_move rfl) rfl rfl rfl <|
        hl_off rfl rfl rfl rfl rfl rfl <|
        hl_off rfl rfl rfl rfl rfl rfl <|
        hl_off rfl rfl rfl rfl rfl rfl <|
        hl_off rfl rfl rfl rfl rfl rfl <| ?_
      refine hl_off rfl rfl rfl rfl rfl rfl <|
        hl_off rfl rfl rfl rfl rfl rfl <|
        hl_off rfl rfl rfl rfl rfl rfl <|
        hl_val (ov_pickF rfl rfl) rfl rfl rfl <|
        hl_val (ov_assign rfl) rfl rfl rfl <|
        hl_nil <| ?_
      refine hx_then_normal <|
        hc_ret <| ?_
      exact results_1 (.inr rfl) rfl rfl fun w' H' => ⟨bF hno, rfl, H'.ent (Ent.nil _)⟩
  · have hno : ¬ timesP c := fun h => h1 h.1
    refine hl_off rfl rfl rfl rfl rfl rfl <|
      hl_off rfl rfl rfl rfl rfl rfl <|
      hl_off rfl rfl rfl rfl rfl rfl <|
      hl_val (ov_pickF rfl rfl) rfl rfl rfl <|
      hl_val (ov_move rfl) rfl rfl rfl <|
      hl_off rfl rfl rfl rfl rfl rfl <| ?_
    refine hl_off rfl rfl rfl rfl rfl rfl <|
      hl_off rfl rfl rfl rfl rfl rfl <|
      hl_off rfl rfl rfl rfl rfl rfl <|
      hl_val (ov_pickF rfl rfl) rfl rfl rfl <|
      hl_val (ov_move rfl) rfl rfl rfl <|
      hl_off rfl rfl rfl rfl rfl rfl <| ?_
    refine hl_off rfl rfl rfl rfl rfl rfl <|
      hl_off rfl rfl rfl rfl rfl rfl <|
      hl_val (ov_pickF rfl rfl) rfl rfl rfl <|
      hl_val (ov_move rfl) rfl rfl rfl <|
      hl_off rfl rfl rfl rfl rfl rfl <|
      hl_off rfl rfl rfl rfl rfl rfl <| ?_
    refine hl_off rfl rfl rfl rfl rfl rfl <|
      hl_val (ov_pickF rfl rfl) rfl rfl rfl <|
      hl_val (ov_move rfl) rfl rfl rfl <|
      hl_off rfl rfl rfl rfl rfl rfl <|
      hl_off rfl rfl rfl rfl rfl rfl <|
      hl_off rfl rfl rfl rfl rfl rfl <| ?_
    refine hl_val (ov_pickF rfl rfl) rfl rfl rfl <|
      hl_val (ov_move rfl) rfl rfl rfl <|
      hl_off rfl rfl rfl rfl rfl rfl <|
      hl_off rfl rfl rfl rfl rfl rfl <|
      hl_off rfl rfl rfl rfl rfl rfl <|
      hl_val (ov_pickF rfl rfl) rfl rfl rfl <| ?_
    refine hl_val (ov_move rfl) rfl rfl rfl <|
      hl_off rfl rfl rfl rfl rfl rfl <|
      hl_off rfl rfl rfl rfl rfl rfl <|
      hl_off rfl rfl rfl rfl rfl rfl <|
      hl_off rfl rfl rfl rfl rfl rfl <|
      hl_off rfl rfl rfl rfl rfl rfl <| ?_
    refine hl_off rfl rfl rfl rfl rfl rfl <|
      hl_off rfl rfl rfl rfl rfl rfl <|
      hl_val (ov_pickF rfl rfl) rfl rfl rfl <|
      hl_val (ov_assign rfl) rfl rfl rfl <|
      hl_nil <|
      hx_then_normal <| ?_
    refine hc_ret <| ?_
    exact results_1 (.inr rfl) rfl rfl fun w' H' => ⟨bF hno, rfl, H'.ent (Ent.nil _)⟩
theorem ov_andNot_u8 {P : Program} {D : Nat → Prop} {w0 : World} {env : Slots} {l : List HProp} {dst : Option Tmp} {ty : TypeId} {pos : String} {after : Array Edge} {g : Option (Nat × Bool)} {x y : Operand} {t t' : TypeId} {a b : UInt8} (hx : evalO env x = some (.int .u8 (a.toNat : Int))) (hy : evalO env y = some (.int .u8 (b.toNat : Int))) : OpVal P D w0 env l ⟨dst, .binOp .andNot t x y t', ty, pos, after, g⟩ (.int .u8 ((a &&& ~~~b).toNat : Int)) := ov_andNot hx hy (by
  have e (c : UInt8) : BitVec.ofInt 8 (c.toNat : Int) = c.toBitVec := by
    apply BitVec.eq_of_toNat_eq
    rw [BitVec.ofInt_natCast, BitVec.toNat_ofNat]
    exact Nat.mod_eq_of_lt c.toNat_lt
  have e3 : (BitVec.ofInt 8 (a.toNat : Int) &&& ~~~ BitVec.ofInt 8 (b.toNat : Int)).toNat = (a &&& ~~~b).toNat := by rw [e a, e b]; rfl
  have := (a &&& ~~~b).toNat_lt
  show IntKind.u8.wrap (((BitVec.ofInt 8 (a.toNat : Int) &&& ~~~ BitVec.ofInt 8 (b.toNat : Int)).toNat : Nat) : Int) = _
  rw [e3]
  exact wrap_u8 ⟨by omega, by omega⟩)
theorem shrN (x n : Nat) : ((x : Int)).fdiv (2 ^ (min ((n : Int)).toNat 64)) = ((x / 2 ^ (min n 64) : Nat) : Int) := by
  rw [Int.fdiv_eq_ediv_of_nonneg _ (Int.le_of_lt (Int.pow_pos (by decide)))]
  simp
theorem shr_small (x n : Nat) (h : x < 256) : x / 2 ^ (min n 64) = 0 ↔ x < 2 ^ n := by
  rw [Nat.div_eq_zero_iff_lt (Nat.pow_pos (by decide))]
  rcases Nat.le_total n 64 with h1 | h1
  · rw [Nat.min_eq_left h1]
  · rw [Nat.min_eq_right h1]
    have h2 : 2 ^ 64 ≤ 2 ^ n := Nat.pow_le_pow_right (by decide) h1
    have h3 : (2 : Nat) ^ 64 = 18446744073709551616 := by decide
    constructor <;> intro _ <;> omega
def vlanOk (n : Nat) (v : VlanC) : Prop := 1 ≤ v.1 ∧ v.1 ≤ 4094 ∧ v.2.1.toNat < 2 ^ n ∧ v.2.2 &&& ~~~ v.2.1 = 0
def vlansP (c : ConfC) : Prop := 1 ≤ c.2.2.2.2.1.length ∧ c.2.2.2.2.1.length ≤ 16 ∧ (∀ i (h : i < c.2.2.2.2.1.length), vlanOk c.2.2.2.1.length c.2.2.2.2.1[i]) ∧ risP cV c.2.2.2.2.1
theorem vlans_spec (D : Nat → Prop) (w : World) (c : ConfC) (vp vv vs : Value) (H : ConfOld D w c vp vv vs) :
    Calls Try.prog 54 #[.agg (cfgV c vp vv vs).toArray] w fun e w' => ∃ b : BIff (vlansP c), e = .returned (.bool b.1) ∧ Own D w w' [] := by
  obtain ⟨Ap, capp, rfl, _, _, HSp, _⟩ := H.p.openF
  have HV := H.v
  have hlv := H.lv
  obtain ⟨Av, capv, rfl, hv1, hv2, HSv, hvok⟩ := H.v.openF
  have HSv : OldS D w Av (c.2.2.2.2.1.flatMap vlanV) := HSv
  obtain ⟨np, hnp⟩ : ∃ n, c.2.2.2.1.length = n := ⟨_, rfl⟩
  obtain ⟨l, hll⟩ : ∃ l, c.2.2.2.2.1 = l := ⟨_, rfl⟩
  have hP : vlansP c ↔ 1 ≤ l.length ∧ l.length ≤ 16 ∧ (∀ i (h : i < l.length), vlanOk np l[i]) ∧ risP cV l := by
    subst hnp; subst hll; exact Iff.rfl
  rw [hll] at HV hlv hv1 HSv ⊢
  rw [hnp]
  refine hc_enter (vs := [.agg (cfgV c (.slice Ap np capp) (.slice Av l.length capv) vs).toArray]) Try.func54 rfl _ Try.ntmps54 rfl (Own.start D w) ?_
  simp only [argSlots, Nat.zero_add]
  refine hc_seq <|
    hc_region <|
    hl_new (on_boxN rfl rfl) rfl rfl rfl fun b1 =>  ?_
  refine hl_val (ov_assign rfl) rfl rfl rfl <|
    hl_nil <|
    hx_then_normal <|
    hc_seq <|
    hc_seq <|
    hc_region <| ?_
  refine hl_val (ov_fieldA rfl) rfl rfl rfl <|
    hl_val (ov_load rfl (CellIs.blk rfl)) rfl rfl rfl <|
    hl_val (by first | exact ov_len rfl | exact ov_lenS rfl) rfl rfl rfl <| ?_
  refine hl_val (ov_lss rfl rfl) rfl rfl rfl <|
    hl_val (ov_move rfl) rfl rfl rfl <| ?_
  refine hl_part (t := 9) rfl (fun h1 => ?_) (fun h1 => ?_)
  · have hno : ¬ vlansP c := fun h => by have := (hP.1 h).1; omega
    refine hl_off rfl rfl rfl rfl rfl rfl <|
      hl_off rfl rfl rfl rfl rfl rfl <|
      hl_off rfl rfl rfl rfl rfl rfl <|
      hl_off rfl rfl rfl rfl rfl rfl <|
      hl_val (ov_pickT rfl rfl) rfl rfl rfl <|
      hl_nil <| ?_
    refine hx_then_normal <|
      hc_cond_true rfl <|
      hc_seq <|
      hc_region <|
      hl_val (ov_assign rfl) rfl rfl rfl <|
      hl_nil <| ?_
    refine hx_then_normal <|
      hc_ret <|
      hx_then_ret <| ?_
    exact results_1 (.inr rfl) rfl rfl fun w' H' => ⟨bF hno, rfl, H'.ent (Ent.nil _)⟩
  · refine hl_on rfl rfl <| hl_val (ov_fieldA rfl) rfl rfl rfl <|
      hl_on rfl rfl <| hl_val (ov_load rfl (CellIs.blk rfl)) rfl rfl rfl <|
      hl_on rfl rfl <| hl_val (by first | exact ov_len rfl | exact ov_lenS rfl) rfl rfl rfl <| ?_
    refine hl_on rfl rfl <| hl_val (ov_gtr rfl rfl) rfl rfl rfl <|
      hl_val (ov_pickF rfl rfl) rfl rfl rfl <|
      hl_nil <|
      hx_then_normal <| ?_
    refine hc_cond rfl (fun h2 => ?_) (fun h2 => ?_)
    · have hno : ¬ vlansP c := fun h => by have := (hP.1 h).2.1; omega
      refine hc_seq <|
        hc_region <|
        hl_val (ov_assign rfl) rfl rfl rfl <|
        hl_nil <|
        hx_then_normal <|
        hc_ret <| ?_
      refine hx_then_ret <| ?_
      exact results_1 (.inr rfl) rfl rfl fun w' H' => ⟨bF hno, rfl, H'.ent (Ent.nil _)⟩
    · refine hc_skip <|
        hx_then_normal <|
        hc_seq <|
        hc_seq <|
        hc_region <|
        hl_val (ov_fieldA rfl) rfl rfl rfl <| ?_
      refine hl_val (ov_load rfl (CellIs.blk rfl)) rfl rfl rfl <|
        hl_val (by first | exact ov_len rfl | exact ov_lenS rfl) rfl rfl rfl <| ?_
      refine hl_val (ov_move rfl) rfl rfl rfl <|
        hl_nil <|
        hx_then_normal <|
        hc_block <| ?_
      refine hc_loops1 (σ := Nat) [1, 16, 17] rfl 18 (fun i => .int .i64 (i : Int)) (fun i => i ≤ l.length ∧ ∀ j (h : j < l.length), j < i → vlanOk np l[j]) (fun i => l.length - i) (0) (⟨Nat.zero_le _, fun j _ h => absurd h (Nat.not_lt_zero _)⟩) rfl ?_
      rintro i ⟨hi, hall⟩ K1 hK1
      refine hc_seq <|
        hc_region <|
        hl_val (ov_lss rfl rfl) rfl rfl rfl <|
        hl_nil <|
        hx_then_normal <|
        hc_seq <| ?_
      refine hc_cond rfl (fun h => ?_) (fun h => ?_)
      · have hlt : i < l.length := by omega
        have hc := OldS.cells_flat (D := D) (w0 := w) (f := vlanV) (sz := 3) (fun _ => rfl) (by decide) HSv hlt
        have hA := (hc []).1
        have hbad : ¬ vlanOk np l[i] → ¬ vlansP c := fun hx h => hx ((hP.1 h).2.2.1 i hlt)
        have hnext : vlanOk np l[i] → ∀ j (h : j < l.length), j < i + 1 → vlanOk np l[j] := fun hx j hj h1 => by
          rcases Nat.lt_or_ge j i with h3 | h3
          · exact hall j hj h3
          · obtain rfl : j = i := by omega
            exact hx
        generalize l[i] = x at *
        have hb1 := x.2.1.toNat_lt
        refine hc_skip <|
          hx_then_normal <|
          hc_seq <|
          hc_block <|
          hc_seq <|
          hc_region <| ?_
        refine hl_val (ov_idxS rfl (by assumption) rfl _ rfl (by omega)) rfl rfl rfl <| ?_
        refine hl_val (ov_loadG (cs := vlanV x) rfl rfl (hc _).2) rfl rfl rfl ?_
        refine hl_new (on_alloc) rfl rfl rfl fun b4 =>  ?_
        refine hl_u0 (on_storeW (vs := vlanV x) rfl rfl (by simp) (by simp) (by simp [Value.oneCell', u8v])) rfl rfl ?_
        refine hl_nil <|
          hx_then_normal <|
          hc_seq <|
          hc_region <|
          hl_val (ov_fieldA rfl) rfl rfl rfl <|
          hl_val (ov_load rfl (CellIs.blk rfl)) rfl rfl rfl <| ?_
        refine hl_val (ov_lss rfl rfl) rfl rfl rfl <|
          hl_val (ov_move rfl) rfl rfl rfl <| ?_
        refine hl_part (t := 25) rfl (fun a1 => ?_) (fun a1 => ?_)
        · have hno := hbad fun h => by have := h.1; omega
          refine hl_off rfl rfl rfl rfl rfl rfl <|
            hl_off rfl rfl rfl rfl rfl rfl <|
            hl_off rfl rfl rfl rfl rfl rfl <|
            hl_val (ov_pickT rfl rfl) rfl rfl rfl <|
            hl_val (ov_move rfl) rfl rfl rfl <|
            hl_off rfl rfl rfl rfl rfl rfl <| ?_
          refine hl_off rfl rfl rfl rfl rfl rfl <|
            hl_off rfl rfl rfl rfl rfl rfl <|
            hl_off rfl rfl rfl rfl rfl rfl <|
            hl_off rfl rfl rfl rfl rfl rfl <|
            hl_off rfl rfl rfl rfl rfl rfl <|
            hl_off rfl rfl rfl rfl rfl rfl <| ?_
          refine hl_off rfl rfl rfl rfl rfl rfl <|
            hl_val (ov_pickT rfl rfl) rfl rfl rfl <|
            hl_val (ov_move rfl) rfl rfl rfl <|
            hl_off rfl rfl rfl rfl rfl rfl <|
            hl_off rfl rfl rfl rfl rfl rfl <|
            hl_off rfl rfl rfl rfl rfl rfl <| ?_
          refine hl_off rfl rfl rfl rfl rfl rfl <|
            hl_off rfl rfl rfl rfl rfl rfl <|
            hl_off rfl rfl rfl rfl rfl rfl <|
            hl_val (ov_pickT rfl rfl) rfl rfl rfl <|
            hl_nil <|
            hx_then_normal <| ?_
          refine hc_cond_true rfl <|
            hc_seq <|
            hc_region <|
            hl_val (ov_assign rfl) rfl rfl rfl <|
            hl_nil <|
            hx_then_normal <| ?_
          refine hc_ret <|
            hx_block_ret <|
            hx_then_ret <|
            hx_then_ret <|
            hx_block_ret <|
            hx_then_ret <| ?_
          exact results_1 (.inr rfl) rfl rfl fun w' H' => ⟨bF hno, rfl, H'.ent (Ent.nil _)⟩
        · refine hl_on rfl rfl <| hl_val (ov_fieldA rfl) rfl rfl rfl <|
            hl_on rfl rfl <| hl_val (ov_load rfl (CellIs.blk rfl)) rfl rfl rfl <|
            hl_on rfl rfl <| hl_val (ov_gtr rfl rfl) rfl rfl rfl <|
            hl_val (ov_pickF rfl rfl) rfl rfl rfl <|
            hl_val (ov_move rfl) rfl rfl rfl <| ?_
          refine hl_part (t := 30) rfl (fun a2 => ?_) (fun a2 => ?_)
          · have hno := hbad fun h => by have := h.2.1; omega
            refine hl_off rfl rfl rfl rfl rfl rfl <|
              hl_off rfl rfl rfl rfl rfl rfl <|
              hl_off rfl rfl rfl rfl rfl rfl <|
              hl_off rfl rfl rfl rfl rfl rfl <|
              hl_off rfl rfl rfl rfl rfl rfl <|
              hl_off rfl rfl rfl rfl rfl rfl <| ?_
            refine hl_off rfl rfl rfl rfl rfl rfl <|
              hl_off rfl rfl rfl rfl rfl rfl <|
              hl_val (ov_pickT rfl rfl) rfl rfl rfl <|
              hl_val (ov_move rfl) rfl rfl rfl <|
              hl_off rfl rfl rfl rfl rfl rfl <|
              hl_off rfl rfl rfl rfl rfl rfl <| ?_
            refine hl_off rfl rfl rfl rfl rfl rfl <|
              hl_off rfl rfl rfl rfl rfl rfl <|
              hl_off rfl rfl rfl rfl rfl rfl <|
              hl_off rfl rfl rfl rfl rfl rfl <|
              hl_val (ov_pickT rfl rfl) rfl rfl rfl <|
              hl_nil <| ?_
            refine hx_then_normal <|
              hc_cond_true rfl <|
              hc_seq <|
              hc_region <|
              hl_val (ov_assign rfl) rfl rfl rfl <|
              hl_nil <| ?_
            refine hx_then_normal <|
              hc_ret <|
              hx_block_ret <|
              hx_then_ret <|
              hx_then_ret <|
              hx_block_ret <| ?_
            refine hx_then_ret <| ?_
            exact results_1 (.inr rfl) rfl rfl fun w' H' => ⟨bF hno, rfl, H'.ent (Ent.nil _)⟩
          · refine hl_on rfl rfl <| hl_val (ov_fieldA rfl) rfl rfl rfl <|
              hl_on rfl rfl <| hl_val (ov_load rfl (CellIs.blk rfl)) rfl rfl rfl <|
              hl_on rfl rfl <| hl_val (ov_conv rfl (by first | exact wrap_i64 (by omega) | rfl)) rfl rfl rfl <| ?_
            refine hl_on rfl rfl <| hl_val (ov_fieldA rfl) rfl rfl rfl <|
              hl_on rfl rfl <| hl_val (ov_load rfl (CellIs.blk rfl)) rfl rfl rfl <|
              hl_on rfl rfl <| hl_val (by first | exact ov_len rfl | exact ov_lenS rfl) rfl rfl rfl <| ?_
            refine hl_on rfl rfl <| hl_val (ov_shr (m := ((x.2.1.toNat / 2 ^ (min np 64) : Nat) : Int)) rfl rfl (by omega) (shrN _ _)) rfl rfl rfl ?_
            refine hl_on rfl rfl <| hl_val (ov_neq rfl rfl) rfl rfl rfl <|
              hl_val (ov_pickF rfl rfl) rfl rfl rfl <|
              hl_val (ov_move rfl) rfl rfl rfl <| ?_
            refine hl_part (t := 40) rfl (fun a3 => ?_) (fun a3 => ?_)
            · have hno := hbad fun h => a3 (by have := (shr_small x.2.1.toNat np hb1).2 h.2.2.1; omega)
              refine hl_off rfl rfl rfl rfl rfl rfl <|
                hl_off rfl rfl rfl rfl rfl rfl <|
                hl_off rfl rfl rfl rfl rfl rfl <|
                hl_off rfl rfl rfl rfl rfl rfl <|
                hl_off rfl rfl rfl rfl rfl rfl <|
                hl_off rfl rfl rfl rfl rfl rfl <| ?_
              refine hl_val (ov_pickT rfl rfl) rfl rfl rfl <|
                hl_nil <|
                hx_then_normal <|
                hc_cond_true rfl <|
                hc_seq <|
                hc_region <| ?_
              refine hl_val (ov_assign rfl) rfl rfl rfl <|
                hl_nil <|
                hx_then_normal <|
                hc_ret <|
                hx_block_ret <|
                hx_then_ret <| ?_
              refine hx_then_ret <|
                hx_block_ret <|
                hx_then_ret <| ?_
              exact results_1 (.inr rfl) rfl rfl fun w' H' => ⟨bF hno, rfl, H'.ent (Ent.nil _)⟩
            · have h3 : x.2.1.toNat < 2 ^ np := (shr_small x.2.1.toNat np hb1).1 (by have := Classical.not_not.1 a3; omega)
              refine hl_on rfl rfl <| hl_val (ov_fieldA rfl) rfl rfl rfl <|
                hl_on rfl rfl <| hl_val (ov_load rfl (CellIs.blk rfl)) rfl rfl rfl <|
                hl_on rfl rfl <| hl_val (ov_fieldA rfl) rfl rfl rfl <|
                hl_on rfl rfl <| hl_val (ov_load rfl (CellIs.blk rfl)) rfl rfl rfl <| ?_
              refine hl_on rfl rfl <| hl_val (ov_andNot_u8 (a := x.2.2) (b := x.2.1) rfl rfl) rfl rfl rfl ?_
              refine hl_on rfl rfl <| hl_val (ov_neq rfl rfl) rfl rfl rfl <|
                hl_val (ov_pickF rfl rfl) rfl rfl rfl <|
                hl_nil <|
                hx_then_normal <| ?_
              refine hc_cond rfl (fun a4 => ?_) (fun a4 => ?_)
              · have hno := hbad fun h => a4 (by rw [h.2.2.2]; rfl)
                refine hc_seq <|
                  hc_region <|
                  hl_val (ov_assign rfl) rfl rfl rfl <|
                  hl_nil <|
                  hx_then_normal <|
                  hc_ret <| ?_
                refine hx_block_ret <|
                  hx_then_ret <|
                  hx_then_ret <|
                  hx_block_ret <|
                  hx_then_ret <| ?_
                exact results_1 (.inr rfl) rfl rfl fun w' H' => ⟨bF hno, rfl, H'.ent (Ent.nil _)⟩
              · have h4 : x.2.2 &&& ~~~ x.2.1 = 0 := UInt8.toNat_inj.1 (by have := Classical.not_not.1 a4; simp only [UInt8.toNat_zero]; omega)
                have hn := hnext ⟨by omega, by omega, h3, h4⟩
                refine hc_skip <|
                  hx_block_normal <|
                  hx_then_normal <|
                  hc_region <|
                  hl_val (ov_add rfl rfl (by first | exact wrap_i64 (by omega) | rfl)) rfl rfl rfl <| ?_
                refine hl_val (ov_move rfl) rfl rfl rfl <|
                  hl_nil <| ?_
                refine hx_next hK1 (i + 1) (⟨hlt, hn⟩) (by omega) (by repeat (first | exact Slots.sub_nil _ | refine Slots.sub_cons rfl ?_)) (by first | assumption | exact Ent.refl _ | exact Ent.nil _ | (repeat (first | exact Ent.refl _ | exact Ent.nil _ | refine Ent.pick ?_)))
      · have hall' : ∀ i (h : i < l.length), vlanOk np l[i] := fun j hj => hall j hj (by omega)
        refine hc_exit <|
          hx_then_exit <|
          hx_then_exit <|
          hx_block_out <|
          hx_then_normal <|
          hc_seq <| ?_
        refine hc_region <|
          hl_val (ov_fieldA rfl) rfl rfl rfl <|
          hl_val (ov_load rfl (CellIs.blk rfl)) rfl rfl rfl <| ?_
        refine hl_call (σ := BIff (risP cV l)) Try.call75 rfl rfl (fun w1 H1 => Own.callx0 H1 fun D' hold hin H2 => risV_spec D' w1 _ l (by omega) (hold _ HV)) ?_
        intro b
        try rw [List.nil_append]
        refine hl_val (ov_assign rfl) rfl rfl rfl <|
          hl_nil <|
          hx_then_normal <|
          hc_ret <| ?_
        exact results_1 (.inr rfl) rfl rfl fun w' H' => ⟨⟨b.1, by rw [b.2, hP]; exact ⟨fun h => ⟨by omega, by omega, hall', h⟩, fun h => h.2.2.2⟩⟩, rfl, H'.ent (Ent.nil _)⟩
end Go.Proofs.Ytpgpfcplchaleaa
