import Derived.Test.YtpgpfcplchaleaaCod1
set_option linter.unusedVariables false
set_option linter.unusedSimpArgs false
namespace Go.Proofs.Ytpgpfcplchaleaa
open Slk
instance : Flat EditC where
  f := editV
  ok x := inI64 x.1 ∧ inI64 x.2.1 ∧ inI64 x.2.2.1 ∧ inI64 x.2.2.2.1
  iff := by
    intro x c h
    constructor
    · rintro ⟨c1, d1, rfl, k1, c2, d2, rfl, k2, c3, d3, rfl, k3, c4, d4, rfl, k4, c5, d5, rfl, k5, c6, c7, rfl, k6, k7⟩
      obtain ⟨k1, o1⟩ : c1 = [.int .i64 x.1] ∧ inI64 x.1 := k1
      obtain ⟨k2, o2⟩ : c2 = [.int .i64 x.2.1] ∧ inI64 x.2.1 := k2
      obtain ⟨k3, o3⟩ : c3 = [.int .i64 x.2.2.1] ∧ inI64 x.2.2.1 := k3
      obtain ⟨k4, o4⟩ : c4 = [.int .i64 x.2.2.2.1] ∧ inI64 x.2.2.2.1 := k4
      have k5 : c5 = [u8v x.2.2.2.2.1] := k5
      have k6 : c6 = [u8v x.2.2.2.2.2.1] := k6
      have k7 : c7 = [.int .u64 (x.2.2.2.2.2.2.toNat : Int)] := k7
      subst k1; subst k2; subst k3; subst k4; subst k5; subst k6; subst k7
      exact ⟨rfl, o1, o2, o3, o4⟩
    · rintro ⟨rfl, o1, o2, o3, o4⟩
      exact ⟨[.int .i64 x.1], _, rfl, ⟨rfl, o1⟩, [.int .i64 x.2.1], _, rfl, ⟨rfl, o2⟩, [.int .i64 x.2.2.1], _, rfl, ⟨rfl, o3⟩, [.int .i64 x.2.2.2.1], _, rfl, ⟨rfl, o4⟩, [u8v x.2.2.2.2.1], _, rfl, rfl, [u8v x.2.2.2.2.2.1], [.int .u64 (x.2.2.2.2.2.2.toNat : Int)], rfl, rfl, rfl⟩
def goodE (e : EditC) : Prop := 1 ≤ e.1 ∧ e.1 ≤ 10 ∧ 0 ≤ e.2.1 ∧ e.2.1 < 256 ∧ 0 ≤ e.2.2.1 ∧ e.2.2.1 < 4294967296 ∧ 0 ≤ e.2.2.2.1 ∧ e.2.2.2.1 < 65536 ∧ e.2.2.2.2.2.2.toNat < 281474976710656
set_option maxRecDepth 20000 in
theorem good_spec (D : Nat → Prop) (w : World) (e : EditC) : Calls Try.prog 72 #[.agg (editV e).toArray] w fun r w' => ∃ b : BIff (goodE e), r = .returned (.bool b.1) ∧ Own D w w' [] := by
  refine hc_enter (vs := [.agg (editV e).toArray]) Try.func72 rfl _ Try.ntmps72 rfl (Own.start D w) ?_
  simp only [argSlots, Nat.zero_add]
  refine hc_seq <|
    hc_region <|
    hl_new (on_boxN rfl rfl) rfl rfl rfl fun b1 =>  ?_
  refine hl_val (ov_assign rfl) rfl rfl rfl <|
    hl_nil <|
    hx_then_normal <|
    hc_seq <|
    hc_region <|
    hl_val (ov_fieldA rfl) rfl rfl rfl <| ?_
  refine hl_val (ov_load rfl (CellIs.blk rfl)) rfl rfl rfl <|
    hl_val (ov_geq rfl rfl) rfl rfl rfl <|
    hl_val (ov_move rfl) rfl rfl rfl <| ?_
  refine hl_part (t := 6) rfl (fun h1 => ?_) (fun h1 => ?_)
  · skip
    refine hl_on rfl rfl <| hl_val (ov_fieldA rfl) rfl rfl rfl <|
      hl_on rfl rfl <| hl_val (ov_load rfl (CellIs.blk rfl)) rfl rfl rfl <|
      hl_on rfl rfl <| hl_val (ov_leq rfl rfl) rfl rfl rfl <|
      hl_val (ov_pickT rfl rfl) rfl rfl rfl <|
      hl_val (ov_move rfl) rfl rfl rfl <| ?_
    refine hl_part (t := 11) rfl (fun h2 => ?_) (fun h2 => ?_)
    · skip
      refine hl_on rfl rfl <| hl_val (ov_fieldA rfl) rfl rfl rfl <|
        hl_on rfl rfl <| hl_val (ov_load rfl (CellIs.blk rfl)) rfl rfl rfl <|
        hl_on rfl rfl <| hl_val (ov_geq rfl rfl) rfl rfl rfl <|
        hl_val (ov_pickT rfl rfl) rfl rfl rfl <|
        hl_val (ov_move rfl) rfl rfl rfl <| ?_
      refine hl_part (t := 16) rfl (fun h3 => ?_) (fun h3 => ?_)
      · skip
        refine hl_on rfl rfl <| hl_val (ov_fieldA rfl) rfl rfl rfl <|
          hl_on rfl rfl <| hl_val (ov_load rfl (CellIs.blk rfl)) rfl rfl rfl <|
          hl_on rfl rfl <| hl_val (ov_lss rfl rfl) rfl rfl rfl <|
          hl_val (ov_pickT rfl rfl) rfl rfl rfl <|
          hl_val (ov_move rfl) rfl rfl rfl <| ?_
        refine hl_part (t := 21) rfl (fun h4 => ?_) (fun h4 => ?_)
        · skip
          refine hl_on rfl rfl <| hl_val (ov_fieldA rfl) rfl rfl rfl <|
            hl_on rfl rfl <| hl_val (ov_load rfl (CellIs.blk rfl)) rfl rfl rfl <|
            hl_on rfl rfl <| hl_val (ov_geq rfl rfl) rfl rfl rfl <|
            hl_val (ov_pickT rfl rfl) rfl rfl rfl <|
            hl_val (ov_move rfl) rfl rfl rfl <| ?_
          refine hl_part (t := 26) rfl (fun h5 => ?_) (fun h5 => ?_)
          · skip
            refine hl_on rfl rfl <| hl_val (ov_fieldA rfl) rfl rfl rfl <|
              hl_on rfl rfl <| hl_val (ov_load rfl (CellIs.blk rfl)) rfl rfl rfl <|
              hl_on rfl rfl <| hl_val (ov_lss rfl rfl) rfl rfl rfl <|
              hl_val (ov_pickT rfl rfl) rfl rfl rfl <|
              hl_val (ov_move rfl) rfl rfl rfl <| ?_
            refine hl_part (t := 31) rfl (fun h6 => ?_) (fun h6 => ?_)
            · skip
              refine hl_on rfl rfl <| hl_val (ov_fieldA rfl) rfl rfl rfl <|
                hl_on rfl rfl <| hl_val (ov_load rfl (CellIs.blk rfl)) rfl rfl rfl <|
                hl_on rfl rfl <| hl_val (ov_geq rfl rfl) rfl rfl rfl <|
                hl_val (ov_pickT rfl rfl) rfl rfl rfl <|
                hl_val (ov_move rfl) rfl rfl rfl <| ?_
              refine hl_part (t := 36) rfl (fun h7 => ?_) (fun h7 => ?_)
              · skip
                refine hl_on rfl rfl <| hl_val (ov_fieldA rfl) rfl rfl rfl <|
                  hl_on rfl rfl <| hl_val (ov_load rfl (CellIs.blk rfl)) rfl rfl rfl <|
                  hl_on rfl rfl <| hl_val (ov_lss rfl rfl) rfl rfl rfl <|
                  hl_val (ov_pickT rfl rfl) rfl rfl rfl <|
                  hl_val (ov_move rfl) rfl rfl rfl <| ?_
                refine hl_part (t := 41) rfl (fun h8 => ?_) (fun h8 => ?_)
                · skip
                  refine hl_on rfl rfl <| hl_val (ov_fieldA rfl) rfl rfl rfl <|
                    hl_on rfl rfl <| hl_val (ov_load rfl (CellIs.blk rfl)) rfl rfl rfl <|
                    hl_on rfl rfl <| hl_val (ov_lss rfl rfl) rfl rfl rfl <| ?_
                  refine hl_part (t := 44) rfl (fun h9 => ?_) (fun h9 => ?_)
                  · have hyes : goodE e := ⟨h1, h2, h3, (by omega), h5, h6, h7, h8, by omega⟩
                    refine hl_val (ov_pickT rfl rfl) rfl rfl rfl <|
                      hl_val (ov_assign rfl) rfl rfl rfl <|
                      hl_nil <|
                      hx_then_normal <|
                      hc_ret <| ?_
                    exact results_1 (.inr rfl) rfl rfl fun w' H' => ⟨bT hyes, rfl, H'.ent (Ent.nil _)⟩
                  · have hno : ¬ goodE e := fun h => h9 (by have := h.2.2.2.2.2.2.2.2; omega)
                    refine hl_val (ov_pickT rfl rfl) rfl rfl rfl <|
                      hl_val (ov_assign rfl) rfl rfl rfl <|
                      hl_nil <|
                      hx_then_normal <|
                      hc_ret <| ?_
                    exact results_1 (.inr rfl) rfl rfl fun w' H' => ⟨bF hno, rfl, H'.ent (Ent.nil _)⟩
                · have hno : ¬ goodE e := fun h => h8 (by have := h.2.2.2.2.2.2.2.1; omega)
                  refine hl_off rfl rfl rfl rfl rfl rfl <|
                    hl_off rfl rfl rfl rfl rfl rfl <|
                    hl_off rfl rfl rfl rfl rfl rfl <|
                    hl_val (ov_pickF rfl rfl) rfl rfl rfl <|
                    hl_val (ov_assign rfl) rfl rfl rfl <|
                    hl_nil <| ?_
                  refine hx_then_normal <|
                    hc_ret <| ?_
                  exact results_1 (.inr rfl) rfl rfl fun w' H' => ⟨bF hno, rfl, H'.ent (Ent.nil _)⟩
              · have hno : ¬ goodE e := fun h => h7 (by have := h.2.2.2.2.2.2.1; omega)
                refine hl_off rfl rfl rfl rfl rfl rfl <|
                  hl_off rfl rfl rfl rfl rfl rfl <|
                  hl_off rfl rfl rfl rfl rfl rfl <|
                  hl_val (ov_pickF rfl rfl) rfl rfl rfl <|
                  hl_val (ov_move rfl) rfl rfl rfl <|
                  hl_off rfl rfl rfl rfl rfl rfl <| ?_
                refine hl_off rfl rfl rfl rfl rfl rfl <|
                  hl_off rfl rfl rfl rfl rfl rfl <|
                  hl_val (ov_pickF rfl rfl) rfl rfl rfl <|
                  hl_val (ov_assign rfl) rfl rfl rfl <|
                  hl_nil <|
                  hx_then_normal <| ?_
                refine hc_ret <| ?_
                exact results_1 (.inr rfl) rfl rfl fun w' H' => ⟨bF hno, rfl, H'.ent (Ent.nil _)⟩
            · have hno : ¬ goodE e := fun h => h6 (by have := h.2.2.2.2.2.1; omega)
              refine hl_off rfl rfl rfl rfl rfl rfl <|
                hl_off rfl rfl rfl rfl rfl rfl <|
                hl_off rfl rfl rfl rfl rfl rfl <|
                hl_val (ov_pickF rfl rfl) rfl rfl rfl <|
                hl_val (ov_move rfl) rfl rfl rfl <|
                hl_off rfl rfl rfl rfl rfl rfl <| ?_
              refine hl_off rfl rfl rfl rfl rfl rfl <|
                hl_off rfl rfl rfl rfl rfl rfl <|
                hl_val (ov_pickF rfl rfl) rfl rfl rfl <|
                hl_val (ov_move rfl) rfl rfl rfl <|
                hl_off rfl rfl rfl rfl rfl rfl <|
                hl_off rfl rfl rfl rfl rfl rfl <| ?_
              refine hl_off rfl rfl rfl rfl rfl rfl <|
                hl_val (ov_pickF rfl rfl) rfl rfl rfl <|
                hl_val (ov_assign rfl) rfl rfl rfl <|
                hl_nil <|
                hx_then_normal <|
                hc_ret <| ?_
              exact results_1 (.inr rfl) rfl rfl fun w' H' => ⟨bF hno, rfl, H'.ent (Ent.nil _)⟩
          · have hno : ¬ goodE e := fun h => h5 (by have := h.2.2.2.2.1; omega)
            refine hl_off rfl rfl rfl rfl rfl rfl <|
              hl_off rfl rfl rfl rfl rfl rfl <|
              hl_off rfl rfl rfl rfl rfl rfl <|
              hl_val (ov_pickF rfl rfl) rfl rfl rfl <|
              hl_val (ov_move rfl) rfl rfl rfl <|
              hl_off rfl rfl rfl rfl rfl rfl <| ?_
            refine hl_off rfl rfl rfl rfl rfl rfl <|
              hl_off rfl rfl rfl rfl rfl rfl <|
              hl_val (ov_pickF rfl rfl) rfl rfl rfl <|
              hl_val (ov_move rfl) rfl rfl rfl <|
              hl_off rfl rfl rfl rfl rfl rfl <|
              hl_off rfl rfl rfl rfl rfl rfl <| ?_
            refine hl_off rfl rfl rfl rfl rfl rfl <|
              hl_val (ov_pickF rfl rfl) rfl rfl rfl <|
              hl_val (ov_move rfl) rfl rfl rfl <|
              hl_off rfl rfl rfl rfl rfl rfl <|
              hl_off rfl rfl rfl rfl rfl rfl <|
              hl_off rfl rfl rfl rfl rfl rfl <| ?_
            refine hl_val (ov_pickF rfl rfl) rfl rfl rfl <|
              hl_val (ov_assign rfl) rfl rfl rfl <|
              hl_nil <|
              hx_then_normal <|
              hc_ret <| ?_
            exact results_1 (.inr rfl) rfl rfl fun w' H' => ⟨bF hno, rfl, H'.ent (Ent.nil _)⟩
        · have hno : ¬ goodE e := fun h => h4 (by have := h.2.2.2.1; omega)
          refine hl_off rfl rfl rfl rfl rfl rfl <|
            hl_off rfl rfl rfl rfl rfl rfl <|
            hl_off rfl rfl rfl rfl rfl rfl <|
            hl_val (ov_pickF rfl rfl) rfl rfl rfl <|
            hl_val (ov_move rfl) rfl rfl rfl <|
            hl_off rfl rfl rfl rfl rfl rfl <| ?_
          refine hl_off rfl rfl rfl rfl rfl rfl <|
            hl_off rfl rfl rfl rfl rfl rfl <|
            hl_val (ov_pickF rfl rfl) rfl rfl rfl <|
            hl_val (ov_move rfl) rfl rfl rfl <|
            hl_off rfl rfl rfl rfl rfl rfl <|
            hl_off rfl rfl rfl rfl rfl rfl <| ?_
          refine hl_off rfl rfl rfl rfl rfl rfl <|
            hl_val (ov_pickF rfl rfl) rfl rfl rfl <|
            hl_val (ov_move rfl) rfl rfl rfl <|
            hl_off rfl rfl rfl rfl rfl rfl <|
            hl_off rfl rfl rfl rfl rfl rfl <|
            hl_off rfl rfl rfl rfl rfl rfl <| ?_
          refine hl_val (ov_pickF rfl rfl) rfl rfl rfl <|
            hl_val (ov_move rfl) rfl rfl rfl <|
            hl_off rfl rfl rfl rfl rfl rfl <|
            hl_off rfl rfl rfl rfl rfl rfl <|
            hl_off rfl rfl rfl rfl rfl rfl <|
            hl_val (ov_pickF rfl rfl) rfl rfl rfl <| ?_
          refine hl_val (ov_assign rfl) rfl rfl rfl <|
            hl_nil <|
            hx_then_normal <|
            hc_ret <| ?_
          exact results_1 (.inr rfl) rfl rfl fun w' H' => ⟨bF hno, rfl, H'.ent (Ent.nil _)⟩
      · have hno : ¬ goodE e := fun h => h3 (by have := h.2.2.1; omega)
        refine hl_off rfl rfl rfl rfl rfl rfl <|
          hl_off rfl rfl rfl rfl rfl rfl <|
          hl_off rfl rfl rfl rfl rfl rfl <|
          hl_val (ov_pickF rfl rfl) rfl rfl rfl <|
          hl_val (ov_move rfl) rfl rfl rfl <|
          hl_off rfl rfl rfl rfl rfl rfl <| ?_
        refine hl_off rfl rfl rfl rfl rfl rfl <|
          hl_off rfl rfl rfl rfl rfl rfl <|
          hl_val (ov_pickF rfl rfl) rfl rfl rfl <|
          hl_val (ov_move rfl) rfl rfl rfl <|
          hl_off rfl rfl rfl rfl rfl rfl <|
          hl_off rfl rfl rfl rfl rfl rfl <| ?_
        refine hl_off rfl rfl rfl rfl rfl rfl <|
          hl_val (ov_pickF rfl rfl) rfl rfl rfl <|
          hl_val (ov_move rfl) rfl rfl rfl <|
          hl_off rfl rfl rfl rfl rfl rfl <|
          hl_off rfl rfl rfl rfl rfl rfl <|
          hl_off rfl rfl rfl rfl rfl rfl <| ?_
        refine hl_val (ov_pickF rfl rfl) rfl rfl rfl <|
          hl_val (ov_move rfl) rfl rfl rfl <|
          hl_off rfl rfl rfl rfl rfl rfl <|
          hl_off rfl rfl rfl rfl rfl rfl <|
          hl_off rfl rfl rfl rfl rfl rfl <|
          hl_val (ov_pickF rfl rfl) rfl rfl rfl <| ?_
        refine hl_val (ov_move rfl) rfl rfl rfl <|
          hl_off rfl rfl rfl rfl rfl rfl <|
          hl_off rfl rfl rfl rfl rfl rfl <|
          hl_off rfl rfl rfl rfl rfl rfl <|
          hl_val (ov_pickF rfl rfl) rfl rfl rfl <|
          hl_val (ov_assign rfl) rfl rfl rfl <| ?_
        refine hl_nil <|
          hx_then_normal <|
          hc_ret <| ?_
        exact results_1 (.inr rfl) rfl rfl fun w' H' => ⟨bF hno, rfl, H'.ent (Ent.nil _)⟩
    · have hno : ¬ goodE e := fun h => h2 (by have := h.2.1; omega)
      refine hl_off rfl rfl rfl rfl rfl rfl <|
        hl_off rfl rfl rfl rfl rfl rfl <|
        hl_off rfl rfl rfl rfl rfl rfl <|
        hl_val (ov_pickF rfl rfl) rfl rfl rfl <|
        hl_val (ov_move rfl) rfl rfl rfl <|
        hl_off rfl rfl rfl rfl rfl rfl <| ?_
      refine hl_off rfl rfl rfl rfl rfl rfl <|
        hl_off rfl rfl rfl rfl rfl rfl <|
        hl_val (ov_pickF rfl rfl) rfl rfl rfl <|
        hl_val (ov_move rfl) rfl rfl rfl <|
        hl_off rfl rfl rfl rfl rfl rfl <|
        hl_off rfl rfl rfl rfl rfl rfl <| ?_
      refine hl_off rfl rfl rfl rfl rfl rfl <|
        hl_val (ov_pickF rfl rfl) rfl rfl rfl <|
        hl_val (ov_move rfl) rfl rfl rfl <|
        hl_off rfl rfl rfl rfl rfl rfl <|
        hl_off rfl rfl rfl rfl rfl rfl <|
        hl_off rfl rfl rfl rfl rfl rfl <| ?_
      refine hl_val (ov_pickF rfl rfl) rfl rfl rfl <|
        hl_val (ov_move rfl) rfl rfl rfl <|
        hl_off rfl rfl rfl rfl rfl rfl <|
        hl_off rfl rfl rfl rfl rfl rfl <|
        hl_off rfl rfl rfl rfl rfl rfl <|
        hl_val (ov_pickF rfl rfl) rfl rfl rfl <| ?_
      refine hl_val (ov_move rfl) rfl rfl rfl <|
        hl_off rfl rfl rfl rfl rfl rfl <|
        hl_off rfl rfl rfl rfl rfl rfl <|
        hl_off rfl rfl rfl rfl rfl rfl <|
        hl_val (ov_pickF rfl rfl) rfl rfl rfl <|
        hl_val (ov_move rfl) rfl rfl rfl <| ?_
      refine hl_off rfl rfl rfl rfl rfl rfl <|
        hl_off rfl rfl rfl rfl rfl rfl <|
        hl_off rfl rfl rfl rfl rfl rfl <|
        hl_val (ov_pickF rfl rfl) rfl rfl rfl <|
        hl_val (ov_assign rfl) rfl rfl rfl <|
        hl_nil <| ?_
      refine hx_then_normal <|
        hc_ret <| ?_
      exact results_1 (.inr rfl) rfl rfl fun w' H' => ⟨bF hno, rfl, H'.ent (Ent.nil _)⟩
  · have hno : ¬ goodE e := fun h => h1 (by have := h.1; omega)
    refine hl_off rfl rfl rfl rfl rfl rfl <|
      hl_off rfl rfl rfl rfl rfl rfl <|
      hl_off rfl rfl rfl rfl rfl rfl <|
      hl_val (ov_pickF rfl rfl) rfl rfl rfl <|
      hl_val (ov_move rfl) rfl rfl rfl <|
      hl_off rfl rfl rfl rfl rfl rfl <| ?_
    refine hl_off rfl rfl rfl rfl rfl rfl <|
      hl_off rfl rfl rfl rfl rfl rfl <|
      hl_val (ov_pickF rfl rfl) rfl rfl rfl <|
      hl_val (ov_move rfl) rfl rfl rfl <|
      hl_off rfl rfl rfl rfl rfl rfl <|
      hl_off rfl rfl rfl rfl rfl rfl <| ?_
    refine hl_off rfl rfl rfl rfl rfl rfl <|
      hl_val (ov_pickF rfl rfl) rfl rfl rfl <|
      hl_val (ov_move rfl) rfl rfl rfl <|
      hl_off rfl rfl rfl rfl rfl rfl <|
      hl_off rfl rfl rfl rfl rfl rfl <|
      hl_off rfl rfl rfl rfl rfl rfl <| ?_
    refine hl_val (ov_pickF rfl rfl) rfl rfl rfl <|
      hl_val (ov_move rfl) rfl rfl rfl <|
      hl_off rfl rfl rfl rfl rfl rfl <|
      hl_off rfl rfl rfl rfl rfl rfl <|
      hl_off rfl rfl rfl rfl rfl rfl <|
      hl_val (ov_pickF rfl rfl) rfl rfl rfl <| ?_
    refine hl_val (ov_move rfl) rfl rfl rfl <|
      hl_off rfl rfl rfl rfl rfl rfl <|
      hl_off rfl rfl rfl rfl rfl rfl <|
      hl_off rfl rfl rfl rfl rfl rfl <|
      hl_val (ov_pickF rfl rfl) rfl rfl rfl <|
      hl_val (ov_move rfl) rfl rfl rfl <| ?_
    refine hl_off rfl rfl rfl rfl rfl rfl <|
      hl_off rfl rfl rfl rfl rfl rfl <|
      hl_off rfl rfl rfl rfl rfl rfl <|
      hl_val (ov_pickF rfl rfl) rfl rfl rfl <|
      hl_val (ov_move rfl) rfl rfl rfl <|
      hl_off rfl rfl rfl rfl rfl rfl <| ?_
    refine hl_off rfl rfl rfl rfl rfl rfl <|
      hl_off rfl rfl rfl rfl rfl rfl <|
      hl_val (ov_pickF rfl rfl) rfl rfl rfl <|
      hl_val (ov_assign rfl) rfl rfl rfl <|
      hl_nil <|
      hx_then_normal <| ?_
    refine hc_ret <| ?_
    exact results_1 (.inr rfl) rfl rfl fun w' H' => ⟨bF hno, rfl, H'.ent (Ent.nil _)⟩
set_option maxRecDepth 20000 in
theorem form_spec (D : Nat → Prop) (w : World) (e : EditC) : Calls Try.prog 43 #[.agg (editV e).toArray] w fun r w' => ∃ b : BIff (goodE e), r = .returned (.bool b.1) ∧ Own D w w' [] := by
  refine hc_enter (vs := [.agg (editV e).toArray]) Try.func43 rfl _ Try.ntmps43 rfl (Own.start D w) ?_
  simp only [argSlots, Nat.zero_add]
  refine hc_seq <|
    hc_region <|
    hl_new (on_boxN rfl rfl) rfl rfl rfl fun b1 =>  ?_
  refine hl_val (ov_assign rfl) rfl rfl rfl <|
    hl_nil <|
    hx_then_normal <|
    hc_seq <|
    hc_region <|
    hl_val (ov_fieldA rfl) rfl rfl rfl <| ?_
  refine hl_val (ov_load rfl (CellIs.blk rfl)) rfl rfl rfl <|
    hl_val (ov_geq rfl rfl) rfl rfl rfl <|
    hl_val (ov_move rfl) rfl rfl rfl <| ?_
  refine hl_part (t := 6) rfl (fun h1 => ?_) (fun h1 => ?_)
  · skip
    refine hl_on rfl rfl <| hl_val (ov_fieldA rfl) rfl rfl rfl <|
      hl_on rfl rfl <| hl_val (ov_load rfl (CellIs.blk rfl)) rfl rfl rfl <|
      hl_on rfl rfl <| hl_val (ov_leq rfl rfl) rfl rfl rfl <|
      hl_val (ov_pickT rfl rfl) rfl rfl rfl <|
      hl_val (ov_move rfl) rfl rfl rfl <| ?_
    refine hl_part (t := 11) rfl (fun h2 => ?_) (fun h2 => ?_)
    · skip
      refine hl_on rfl rfl <| hl_val (ov_fieldA rfl) rfl rfl rfl <|
        hl_on rfl rfl <| hl_val (ov_load rfl (CellIs.blk rfl)) rfl rfl rfl <|
        hl_on rfl rfl <| hl_val (ov_geq rfl rfl) rfl rfl rfl <|
        hl_val (ov_pickT rfl rfl) rfl rfl rfl <|
        hl_val (ov_move rfl) rfl rfl rfl <| ?_
      refine hl_part (t := 16) rfl (fun h3 => ?_) (fun h3 => ?_)
      · skip
        refine hl_on rfl rfl <| hl_val (ov_fieldA rfl) rfl rfl rfl <|
          hl_on rfl rfl <| hl_val (ov_load rfl (CellIs.blk rfl)) rfl rfl rfl <|
          hl_on rfl rfl <| hl_val (ov_leq rfl rfl) rfl rfl rfl <|
          hl_val (ov_pickT rfl rfl) rfl rfl rfl <|
          hl_val (ov_move rfl) rfl rfl rfl <| ?_
        refine hl_part (t := 21) rfl (fun h4 => ?_) (fun h4 => ?_)
        · skip
          refine hl_on rfl rfl <| hl_val (ov_fieldA rfl) rfl rfl rfl <|
            hl_on rfl rfl <| hl_val (ov_load rfl (CellIs.blk rfl)) rfl rfl rfl <|
            hl_on rfl rfl <| hl_val (ov_geq rfl rfl) rfl rfl rfl <|
            hl_val (ov_pickT rfl rfl) rfl rfl rfl <|
            hl_val (ov_move rfl) rfl rfl rfl <| ?_
          refine hl_part (t := 26) rfl (fun h5 => ?_) (fun h5 => ?_)
          · skip
            refine hl_on rfl rfl <| hl_val (ov_fieldA rfl) rfl rfl rfl <|
              hl_on rfl rfl <| hl_val (ov_load rfl (CellIs.blk rfl)) rfl rfl rfl <|
              hl_on rfl rfl <| hl_val (ov_lss rfl rfl) rfl rfl rfl <|
              hl_val (ov_pickT rfl rfl) rfl rfl rfl <|
              hl_val (ov_move rfl) rfl rfl rfl <| ?_
            refine hl_part (t := 31) rfl (fun h6 => ?_) (fun h6 => ?_)
            · skip
              refine hl_on rfl rfl <| hl_val (ov_fieldA rfl) rfl rfl rfl <|
                hl_on rfl rfl <| hl_val (ov_load rfl (CellIs.blk rfl)) rfl rfl rfl <|
                hl_on rfl rfl <| hl_val (ov_geq rfl rfl) rfl rfl rfl <|
                hl_val (ov_pickT rfl rfl) rfl rfl rfl <|
                hl_val (ov_move rfl) rfl rfl rfl <| ?_
              refine hl_part (t := 36) rfl (fun h7 => ?_) (fun h7 => ?_)
              · skip
                refine hl_on rfl rfl <| hl_val (ov_fieldA rfl) rfl rfl rfl <|
                  hl_on rfl rfl <| hl_val (ov_load rfl (CellIs.blk rfl)) rfl rfl rfl <|
                  hl_on rfl rfl <| hl_val (ov_lss rfl rfl) rfl rfl rfl <|
                  hl_val (ov_pickT rfl rfl) rfl rfl rfl <|
                  hl_val (ov_move rfl) rfl rfl rfl <| ?_
                refine hl_part (t := 41) rfl (fun h8 => ?_) (fun h8 => ?_)
                · skip
                  refine hl_on rfl rfl <| hl_val (ov_fieldA rfl) rfl rfl rfl <|
                    hl_on rfl rfl <| hl_val (ov_load rfl (CellIs.blk rfl)) rfl rfl rfl <|
                    hl_on rfl rfl <| hl_val (ov_lss rfl rfl) rfl rfl rfl <| ?_
                  refine hl_part (t := 44) rfl (fun h9 => ?_) (fun h9 => ?_)
                  · have hyes : goodE e := ⟨h1, h2, h3, (by omega), h5, h6, h7, h8, by omega⟩
                    refine hl_val (ov_pickT rfl rfl) rfl rfl rfl <|
                      hl_val (ov_assign rfl) rfl rfl rfl <|
                      hl_nil <|
                      hx_then_normal <|
                      hc_ret <| ?_
                    exact results_1 (.inr rfl) rfl rfl fun w' H' => ⟨bT hyes, rfl, H'.ent (Ent.nil _)⟩
                  · have hno : ¬ goodE e := fun h => h9 (by have := h.2.2.2.2.2.2.2.2; omega)
                    refine hl_val (ov_pickT rfl rfl) rfl rfl rfl <|
                      hl_val (ov_assign rfl) rfl rfl rfl <|
                      hl_nil <|
                      hx_then_normal <|
                      hc_ret <| ?_
                    exact results_1 (.inr rfl) rfl rfl fun w' H' => ⟨bF hno, rfl, H'.ent (Ent.nil _)⟩
                · have hno : ¬ goodE e := fun h => h8 (by have := h.2.2.2.2.2.2.2.1; omega)
                  refine hl_off rfl rfl rfl rfl rfl rfl <|
                    hl_off rfl rfl rfl rfl rfl rfl <|
                    hl_off rfl rfl rfl rfl rfl rfl <|
                    hl_val (ov_pickF rfl rfl) rfl rfl rfl <|
                    hl_val (ov_assign rfl) rfl rfl rfl <|
                    hl_nil <| ?_
                  refine hx_then_normal <|
                    hc_ret <| ?_
                  exact results_1 (.inr rfl) rfl rfl fun w' H' => ⟨bF hno, rfl, H'.ent (Ent.nil _)⟩
              · have hno : ¬ goodE e := fun h => h7 (by have := h.2.2.2.2.2.2.1; omega)
                refine hl_off rfl rfl rfl rfl rfl rfl <|
                  hl_off rfl rfl rfl rfl rfl rfl <|
                  hl_off rfl rfl rfl rfl rfl rfl <|
                  hl_val (ov_pickF rfl rfl) rfl rfl rfl <|
                  hl_val (ov_move rfl) rfl rfl rfl <|
                  hl_off rfl rfl rfl rfl rfl rfl <| ?_
                refine hl_off rfl rfl rfl rfl rfl rfl <|
                  hl_off rfl rfl rfl rfl rfl rfl <|
                  hl_val (ov_pickF rfl rfl) rfl rfl rfl <|
                  hl_val (ov_assign rfl) rfl rfl rfl <|
                  hl_nil <|
                  hx_then_normal <| ?_
                refine hc_ret <| ?_
                exact results_1 (.inr rfl) rfl rfl fun w' H' => ⟨bF hno, rfl, H'.ent (Ent.nil _)⟩
            · have hno : ¬ goodE e := fun h => h6 (by have := h.2.2.2.2.2.1; omega)
              refine hl_off rfl rfl rfl rfl rfl rfl <|
                hl_off rfl rfl rfl rfl rfl rfl <|
                hl_off rfl rfl rfl rfl rfl rfl <|
                hl_val (ov_pickF rfl rfl) rfl rfl rfl <|
                hl_val (ov_move rfl) rfl rfl rfl <|
                hl_off rfl rfl rfl rfl rfl rfl <| ?_
              refine hl_off rfl rfl rfl rfl rfl rfl <|
                hl_off rfl rfl rfl rfl rfl rfl <|
                hl_val (ov_pickF rfl rfl) rfl rfl rfl <|
                hl_val (ov_move rfl) rfl rfl rfl <|
                hl_off rfl rfl rfl rfl rfl rfl <|
                hl_off rfl rfl rfl rfl rfl rfl <| ?_
              refine hl_off rfl rfl rfl rfl rfl rfl <|
                hl_val (ov_pickF rfl rfl) rfl rfl rfl <|
                hl_val (ov_assign rfl) rfl rfl rfl <|
                hl_nil <|
                hx_then_normal <|
                hc_ret <| ?_
              exact results_1 (.inr rfl) rfl rfl fun w' H' => ⟨bF hno, rfl, H'.ent (Ent.nil _)⟩
          · have hno : ¬ goodE e := fun h => h5 (by have := h.2.2.2.2.1; omega)
            refine hl_off rfl rfl rfl rfl rfl rfl <|
              hl_off rfl rfl rfl rfl rfl rfl <|
              hl_off rfl rfl rfl rfl rfl rfl <|
              hl_val (ov_pickF rfl rfl) rfl rfl rfl <|
              hl_val (ov_move rfl) rfl rfl rfl <|
              hl_off rfl rfl rfl rfl rfl rfl <| ?_
            refine hl_off rfl rfl rfl rfl rfl rfl <|
              hl_off rfl rfl rfl rfl rfl rfl <|
              hl_val (ov_pickF rfl rfl) rfl rfl rfl <|
              hl_val (ov_move rfl) rfl rfl rfl <|
              hl_off rfl rfl rfl rfl rfl rfl <|
              hl_off rfl rfl rfl rfl rfl rfl <| ?_
            refine hl_off rfl rfl rfl rfl rfl rfl <|
              hl_val (ov_pickF rfl rfl) rfl rfl rfl <|
              hl_val (ov_move rfl) rfl rfl rfl <|
              hl_off rfl rfl rfl rfl rfl rfl <|
              hl_off rfl rfl rfl rfl rfl rfl <|
              hl_off rfl rfl rfl rfl rfl rfl <| ?_
            refine hl_val (ov_pickF rfl rfl) rfl rfl rfl <|
              hl_val (ov_assign rfl) rfl rfl rfl <|
              hl_nil <|
              hx_then_normal <|
              hc_ret <| ?_
            exact results_1 (.inr rfl) rfl rfl fun w' H' => ⟨bF hno, rfl, H'.ent (Ent.nil _)⟩
        · have hno : ¬ goodE e := fun h => h4 (by have := h.2.2.2.1; omega)
          refine hl_off rfl rfl rfl rfl rfl rfl <|
            hl_off rfl rfl rfl rfl rfl rfl <|
            hl_off rfl rfl rfl rfl rfl rfl <|
            hl_val (ov_pickF rfl rfl) rfl rfl rfl <|
            hl_val (ov_move rfl) rfl rfl rfl <|
            hl_off rfl rfl rfl rfl rfl rfl <| ?_
          refine hl_off rfl rfl rfl rfl rfl rfl <|
            hl_off rfl rfl rfl rfl rfl rfl <|
            hl_val (ov_pickF rfl rfl) rfl rfl rfl <|
            hl_val (ov_move rfl) rfl rfl rfl <|
            hl_off rfl rfl rfl rfl rfl rfl <|
            hl_off rfl rfl rfl rfl rfl rfl <| ?_
          refine hl_off rfl rfl rfl rfl rfl rfl <|
            hl_val (ov_pickF rfl rfl) rfl rfl rfl <|
            hl_val (ov_move rfl) rfl rfl rfl <|
            hl_off rfl rfl rfl rfl rfl rfl <|
            hl_off rfl rfl rfl rfl rfl rfl <|
            hl_off rfl rfl rfl rfl rfl rfl <| ?_
          refine hl_val (ov_pickF rfl rfl) rfl rfl rfl <|
            hl_val (ov_move rfl) rfl rfl rfl <|
            hl_off rfl rfl rfl rfl rfl rfl <|
            hl_off rfl rfl rfl rfl rfl rfl <|
            hl_off rfl rfl rfl rfl rfl rfl <|
            hl_val (ov_pickF rfl rfl) rfl rfl rfl <| ?_
          refine hl_val (ov_assign rfl) rfl rfl rfl <|
            hl_nil <|
            hx_then_normal <|
            hc_ret <| ?_
          exact results_1 (.inr rfl) rfl rfl fun w' H' => ⟨bF hno, rfl, H'.ent (Ent.nil _)⟩
      · have hno : ¬ goodE e := fun h => h3 (by have := h.2.2.1; omega)
        refine hl_off rfl rfl rfl rfl rfl rfl <|
          hl_off rfl rfl rfl rfl rfl rfl <|
          hl_off rfl rfl rfl rfl rfl rfl <|
          hl_val (ov_pickF rfl rfl) rfl rfl rfl <|
          hl_val (ov_move rfl) rfl rfl rfl <|
          hl_off rfl rfl rfl rfl rfl rfl <| ?_
        refine hl_off rfl rfl rfl rfl rfl rfl <|
          hl_off rfl rfl rfl rfl rfl rfl <|
          hl_val (ov_pickF rfl rfl) rfl rfl rfl <|
          hl_val (ov_move rfl) rfl rfl rfl <|
          hl_off rfl rfl rfl rfl rfl rfl <|
          hl_off rfl rfl rfl rfl rfl rfl <| ?_
        refine hl_off rfl rfl rfl rfl rfl rfl <|
          hl_val (ov_pickF rfl rfl) rfl rfl rfl <|
          hl_val (ov_move rfl) rfl rfl rfl <|
          hl_off rfl rfl rfl rfl rfl rfl <|
          hl_off rfl rfl rfl rfl rfl rfl <|
          hl_off rfl rfl rfl rfl rfl rfl <| ?_
        refine hl_val (ov_pickF rfl rfl) rfl rfl rfl <|
          hl_val (ov_move rfl) rfl rfl rfl <|
          hl_off rfl rfl rfl rfl rfl rfl <|
          hl_off rfl rfl rfl rfl rfl rfl <|
          hl_off rfl rfl rfl rfl rfl rfl <|
          hl_val (ov_pickF rfl rfl) rfl rfl rfl <| ?_
        refine hl_val (ov_move rfl) rfl rfl rfl <|
          hl_off rfl rfl rfl rfl rfl rfl <|
          hl_off rfl rfl rfl rfl rfl rfl <|
          hl_off rfl rfl rfl rfl rfl rfl <|
          hl_val (ov_pickF rfl rfl) rfl rfl rfl <|
          hl_val (ov_assign rfl) rfl rfl rfl <| ?_
        refine hl_nil <|
          hx_then_normal <|
          hc_ret <| ?_
        exact results_1 (.inr rfl) rfl rfl fun w' H' => ⟨bF hno, rfl, H'.ent (Ent.nil _)⟩
    · have hno : ¬ goodE e := fun h => h2 (by have := h.2.1; omega)
      refine hl_off rfl rfl rfl rfl rfl rfl <|
        hl_off rfl rfl rfl rfl rfl rfl <|
        hl_off rfl rfl rfl rfl rfl rfl <|
        hl_val (ov_pickF rfl rfl) rfl rfl rfl <|
        hl_val (ov_move rfl) rfl rfl rfl <|
        hl_off rfl rfl rfl rfl rfl rfl <| ?_
      refine hl_off rfl rfl rfl rfl rfl rfl <|
        hl_off rfl rfl rfl rfl rfl rfl <|
        hl_val (ov_pickF rfl rfl) rfl rfl rfl <|
        hl_val (ov_move rfl) rfl rfl rfl <|
        hl_off rfl rfl rfl rfl rfl rfl <|
        hl_off rfl rfl rfl rfl rfl rfl <| ?_
      refine hl_off rfl rfl rfl rfl rfl rfl <|
        hl_val (ov_pickF rfl rfl) rfl rfl rfl <|
        hl_val (ov_move rfl) rfl rfl rfl <|
        hl_off rfl rfl rfl rfl rfl rfl <|
        hl_off rfl rfl rfl rfl rfl rfl <|
        hl_off rfl rfl rfl rfl rfl rfl <| ?_
      refine hl_val (ov_pickF rfl rfl) rfl rfl rfl <|
        hl_val (ov_move rfl) rfl rfl rfl <|
        hl_off rfl rfl rfl rfl rfl rfl <|
        hl_off rfl rfl rfl rfl rfl rfl <|
        hl_off rfl rfl rfl rfl rfl rfl <|
        hl_val (ov_pickF rfl rfl) rfl rfl rfl <| ?_
      refine hl_val (ov_move rfl) rfl rfl rfl <|
        hl_off rfl rfl rfl rfl rfl rfl <|
        hl_off rfl rfl rfl rfl rfl rfl <|
        hl_off rfl rfl rfl rfl rfl rfl <|
        hl_val (ov_pickF rfl rfl) rfl rfl rfl <|
        hl_val (ov_move rfl) rfl rfl rfl <| ?_
      refine hl_off rfl rfl rfl rfl rfl rfl <|
        hl_off rfl rfl rfl rfl rfl rfl <|
        hl_off rfl rfl rfl rfl rfl rfl <|
        hl_val (ov_pickF rfl rfl) rfl rfl rfl <|
        hl_val (ov_assign rfl) rfl rfl rfl <|
        hl_nil <| ?_
      refine hx_then_normal <|
        hc_ret <| ?_
      exact results_1 (.inr rfl) rfl rfl fun w' H' => ⟨bF hno, rfl, H'.ent (Ent.nil _)⟩
  · have hno : ¬ goodE e := fun h => h1 (by have := h.1; omega)
    refine hl_off rfl rfl rfl rfl rfl rfl <|
      hl_off rfl rfl rfl rfl rfl rfl <|
      hl_off rfl rfl rfl rfl rfl rfl <|
      hl_val (ov_pickF rfl rfl) rfl rfl rfl <|
      hl_val (ov_move rfl) rfl rfl rfl <|
      hl_off rfl rfl rfl rfl rfl rfl <| ?_
    refine hl_off rfl rfl rfl rfl rfl rfl <|
      hl_off rfl rfl rfl rfl rfl rfl <|
      hl_val (ov_pickF rfl rfl) rfl rfl rfl <|
      hl_val (ov_move rfl) rfl rfl rfl <|
      hl_off rfl rfl rfl rfl rfl rfl <|
      hl_off rfl rfl rfl rfl rfl rfl <| ?_
    refine hl_off rfl rfl rfl rfl rfl rfl <|
      hl_val (ov_pickF rfl rfl) rfl rfl rfl <|
      hl_val (ov_move rfl) rfl rfl rfl <|
      hl_off rfl rfl rfl rfl rfl rfl <|
      hl_off rfl rfl rfl rfl rfl rfl <|
      hl_off rfl rfl rfl rfl rfl rfl <| ?_
    refine hl_val (ov_pickF rfl rfl) rfl rfl rfl <|
      hl_val (ov_move rfl) rfl rfl rfl <|
      hl_off rfl rfl rfl rfl rfl rfl <|
      hl_off rfl rfl rfl rfl rfl rfl <|
      hl_off rfl rfl rfl rfl rfl rfl <|
      hl_val (ov_pickF rfl rfl) rfl rfl rfl <| ?_
    refine hl_val (ov_move rfl) rfl rfl rfl <|
      hl_off rfl rfl rfl rfl rfl rfl <|
      hl_off rfl rfl rfl rfl rfl rfl <|
      hl_off rfl rfl rfl rfl rfl rfl <|
      hl_val (ov_pickF rfl rfl) rfl rfl rfl <|
      hl_val (ov_move rfl) rfl rfl rfl <| ?_
    refine hl_off rfl rfl rfl rfl rfl rfl <|
      hl_off rfl rfl rfl rfl rfl rfl <|
      hl_off rfl rfl rfl rfl rfl rfl <|
      hl_val (ov_pickF rfl rfl) rfl rfl rfl <|
      hl_val (ov_move rfl) rfl rfl rfl <|
      hl_off rfl rfl rfl rfl rfl rfl <| ?_
    refine hl_off rfl rfl rfl rfl rfl rfl <|
      hl_off rfl rfl rfl rfl rfl rfl <|
      hl_val (ov_pickF rfl rfl) rfl rfl rfl <|
      hl_val (ov_assign rfl) rfl rfl rfl <|
      hl_nil <|
      hx_then_normal <| ?_
    refine hc_ret <| ?_
    exact results_1 (.inr rfl) rfl rfl fun w' H' => ⟨bF hno, rfl, H'.ent (Ent.nil _)⟩
theorem bad_spec (D : Nat → Prop) (w : World) (e : EditC) : Calls Try.prog 41 #[.agg (editV e).toArray] w fun r w' => ∃ b : BIff (¬ goodE e), r = .returned (.bool b.1) ∧ Own D w w' [] := by
  refine hc_enter (vs := [.agg (editV e).toArray]) Try.func41 rfl _ Try.ntmps41 rfl (Own.start D w) ?_
  simp only [argSlots, Nat.zero_add]
  refine hc_seq <|
    hc_region <|
    hl_new (on_boxN rfl rfl) rfl rfl rfl fun b1 =>  ?_
  refine hl_val (ov_assign rfl) rfl rfl rfl <|
    hl_nil <|
    hx_then_normal <|
    hc_seq <|
    hc_region <|
    hl_val (by first | exact ov_loadW rfl (by simp; done) | exact ov_loadGB rfl rfl) rfl rfl rfl <| ?_
  refine hl_call (σ := BIff (goodE e)) Try.call72 rfl rfl (fun w1 H1 => Own.callx0 H1 fun D' hold hin H2 => good_spec D' w1 e) ?_
  intro r
  try rw [List.nil_append]
  refine hl_val (by first | exact ov_notd rfl | exact ov_not rfl) rfl rfl rfl <| ?_
  refine hl_val (ov_assign rfl) rfl rfl rfl <|
    hl_nil <|
    hx_then_normal <|
    hc_ret <| ?_
  exact results_1 (.inr rfl) rfl rfl fun w' H' => ⟨⟨!r.1, by have := r.2; cases h : r.1 <;> simp_all⟩, rfl, H'.ent (Ent.nil _)⟩
def badE (l : List EditC) (i : Nat) : Prop := ∃ h : i < l.length, ¬ goodE l[i]
theorem IdxE_spec (D : Nat → Prop) (w : World) (v : Value) (l : List EditC) (hl : l.length ≤ 1000000) (HA : Old D w (Rep.rep l [v])) :
    Calls Try.prog 71 #[v, .func (.func 41) #[] #[]] w fun e w' => ∃ r : { r : Int // 0 ≤ r ↔ ∃ i, badE l i }, e = .returned (.int .i64 r.1) ∧ Own D w w' [] := by
  obtain ⟨As, caps, rfl, hs1, hs2, HSs, hsok⟩ := HA.openF
  have HSs : OldS D w As (l.flatMap editV) := HSs
  refine hc_enter (vs := [.slice As l.length caps, .func (.func 41) #[] #[]]) Try.func71 rfl _ Try.ntmps71 rfl (Own.start D w) ?_
  simp only [argSlots, Nat.zero_add]
  refine hc_seq <|
    hc_region <|
    hl_val (ov_assign rfl) rfl rfl rfl <|
    hl_nil <|
    hx_then_normal <|
    hc_seq <| ?_
  refine hc_seq <|
    hc_region <|
    hl_val (ov_move rfl) rfl rfl rfl <|
    hl_val (by first | exact ov_len rfl | exact ov_lenS rfl) rfl rfl rfl <| ?_
  refine hl_val (ov_move rfl) rfl rfl rfl <|
    hl_nil <|
    hx_then_normal <|
    hc_block <| ?_
  refine hc_loops1 (σ := Nat) [0, 1, 7] rfl 8 (fun i => .int .i64 (i : Int)) (fun i => i ≤ l.length ∧ ∀ j, j < i → ¬ badE l j) (fun i => l.length - i) (0) (⟨Nat.zero_le _, fun j h => absurd h (Nat.not_lt_zero _)⟩) rfl ?_
  rintro i ⟨hi, hall⟩ K1 hK1
  refine hc_seq <|
    hc_region <|
    hl_val (ov_lss rfl rfl) rfl rfl rfl <|
    hl_nil <|
    hx_then_normal <|
    hc_seq <| ?_
  refine hc_cond rfl (fun h => ?_) (fun h => ?_)
  · have hlt : i < l.length := by omega
    obtain ⟨hA, hc⟩ := OldS.cells_flat (D := D) (w0 := w) (f := editV) (sz := 7) (fun _ => rfl) (by decide) HSs hlt []
    have hbi : badE l i ↔ ¬ goodE l[i] := ⟨fun ⟨_, h⟩ => h, fun h => ⟨hlt, h⟩⟩
    generalize l[i] = x at *
    refine hc_skip <|
      hx_then_normal <|
      hc_seq <|
      hc_block <|
      hc_seq <|
      hc_region <| ?_
    refine hl_val (ov_move rfl) rfl rfl rfl <|
      hl_val (ov_assign rfl) rfl rfl rfl <|
      hl_nil <|
      hx_then_normal <|
      hc_seq <|
      hc_region <| ?_
    refine hl_val (ov_move rfl) rfl rfl rfl <|
      hl_val (ov_move rfl) rfl rfl rfl <|
      hl_val (ov_move rfl) rfl rfl rfl <|
      hl_val (ov_idxS rfl (by assumption) rfl _ rfl (by omega)) rfl rfl rfl <| ?_
    refine hl_val (ov_loadG (cs := editV x) rfl rfl hc) rfl rfl rfl ?_
    refine hl_callv (σ := BIff (¬ goodE x)) rfl (fun _ _ => Try.call41 _ _) rfl rfl (fun w1 H1 => Own.callx0 H1 fun D' hold hin H2 => bad_spec D' w1 x) ?_
    intro r
    try rw [List.nil_append]
    refine hl_nil <|
      hx_then_normal <| ?_
    refine hc_cond_bool rfl (fun hb => ?_) (fun hb => ?_)
    · have hbad := hbi.2 (r.2.1 hb)
      refine hc_seq <|
        hc_region <|
        hl_val (ov_move rfl) rfl rfl rfl <|
        hl_val (ov_assign rfl) rfl rfl rfl <|
        hl_nil <|
        hx_then_normal <| ?_
      refine hc_ret <|
        hx_block_ret <|
        hx_then_ret <|
        hx_then_ret <|
        hx_block_ret <|
        hx_then_ret <| ?_
      exact results_1 (.inr rfl) rfl rfl fun w' H' => ⟨⟨i, ⟨fun _ => ⟨i, hbad⟩, fun _ => by omega⟩⟩, rfl, H'⟩
    · have hok : ¬ badE l i := fun h => by have := r.2.2 (hbi.1 h); rw [this] at hb; cases hb
      have hn : ∀ j, j < i + 1 → ¬ badE l j := fun j hj => by
        rcases Nat.lt_or_ge j i with h3 | h3
        · exact hall j h3
        · obtain rfl : j = i := by omega
          exact hok
      refine hc_skip <|
        hx_block_normal <|
        hx_then_normal <|
        hc_region <|
        hl_val (ov_add rfl rfl (by first | exact wrap_i64 (by omega) | rfl)) rfl rfl rfl <| ?_
      refine hl_val (ov_move rfl) rfl rfl rfl <|
        hl_nil <| ?_
      refine hx_next hK1 (i + 1) (⟨hlt, hn⟩) (by omega) (by repeat (first | exact Slots.sub_nil _ | refine Slots.sub_cons rfl ?_)) (by first | assumption | exact Ent.refl _ | exact Ent.nil _ | (repeat (first | exact Ent.refl _ | exact Ent.nil _ | refine Ent.pick ?_)))
  · refine hc_exit <|
      hx_then_exit <|
      hx_then_exit <|
      hx_block_out <|
      hx_then_normal <|
      hc_seq <| ?_
    refine hc_region <|
      hl_val (ov_assign rfl) rfl rfl rfl <|
      hl_nil <|
      hx_then_normal <|
      hc_ret <| ?_
    exact results_1 (.inr rfl) rfl rfl fun w' H' => ⟨⟨-1, ⟨fun h => by omega, fun ⟨j, hj⟩ => absurd hj (hall j (by obtain ⟨hj2, _⟩ := hj; omega))⟩⟩, rfl, H'⟩
theorem HasE_spec (D : Nat → Prop) (w : World) (v : Value) (l : List EditC) (hl : l.length ≤ 1000000) (HA : Old D w (Rep.rep l [v])) :
    Calls Try.prog 40 #[v, .func (.func 41) #[] #[]] w fun e w' => ∃ r : BIff (∃ i, badE l i), e = .returned (.bool r.1) ∧ Own D w w' [] := by
  refine hc_enter (vs := [v, .func (.func 41) #[] #[]]) Try.func40 rfl _ Try.ntmps40 rfl (Own.start D w) ?_
  simp only [argSlots, Nat.zero_add]
  refine hc_seq <|
    hc_region <|
    hl_val (ov_assign rfl) rfl rfl rfl <|
    hl_nil <|
    hx_then_normal <|
    hc_seq <| ?_
  refine hc_region <|
    hl_val (ov_move rfl) rfl rfl rfl <|
    hl_val (ov_move rfl) rfl rfl rfl <| ?_
  refine hl_call (σ := { r : Int // 0 ≤ r ↔ ∃ i, badE l i }) Try.call71 rfl rfl (fun w1 H1 => Own.callx0 H1 fun D' hold hin H2 => IdxE_spec D' w1 v l hl (hold _ HA)) ?_
  intro r
  try rw [List.nil_append]
  refine hl_val (ov_geq rfl rfl) rfl rfl rfl <|
    hl_val (ov_assign rfl) rfl rfl rfl <|
    hl_nil <|
    hx_then_normal <|
    hc_ret <| ?_
  exact results_1 (.inr rfl) rfl rfl fun w' H' => ⟨⟨decide (0 ≤ r.1), by rw [decide_eq_true_iff]; exact r.2⟩, rfl, H'⟩
/-! ### Edits are written -/
def edB (e : EditC) : List UInt8 := beB e.1.toNat 1 ++ beB e.2.1.toNat 1 ++ beB e.2.2.1.toNat 4 ++ beB e.2.2.2.1.toNat 2 ++ beB e.2.2.2.2.1.toNat 1 ++ beB e.2.2.2.2.2.1.toNat 1 ++ beB e.2.2.2.2.2.2.toNat 6
theorem edB_len (e : EditC) : (edB e).length = 16 := by simp [edB, beB_len]
def edsB (l : List EditC) : List UInt8 := beB l.length 1 ++ l.flatMap edB
theorem convN {x : Int} (h0 : 0 ≤ x) (h1 : x < 18446744073709551616) : IntKind.u64.wrap x = ((x.toNat : Nat) : Int) := by
  rw [wrap_u64 (by omega), Int.toNat_of_nonneg h0]
theorem edsB_to (xs : List UInt8) (l : List EditC) (k : Nat) (h : k < l.length) : ((((((((xs ++ (l.take k).flatMap edB) ++ beB l[k].1.toNat 1) ++ beB l[k].2.1.toNat 1) ++ beB l[k].2.2.1.toNat 4) ++ beB l[k].2.2.2.1.toNat 2) ++ beB l[k].2.2.2.2.1.toNat 1) ++ beB l[k].2.2.2.2.2.1.toNat 1) ++ beB l[k].2.2.2.2.2.2.toNat 6) = xs ++ (l.take (k + 1)).flatMap edB := by
  rw [List.take_succ_eq_append_getElem h, List.flatMap_append, List.flatMap_singleton, edB]
  simp only [List.append_assoc]
theorem wedits_spec (D : Nat → Prop) (w : World) (g : Nat) (v : Value) (l : List EditC) (hl : l.length ≤ 32) (hg : ∀ i (h : i < l.length), goodE l[i]) (H : Own D w w [wrt g []]) (HA : Old D w (Rep.rep l [v])) :
    Calls Try.prog 42 #[.pointer (some ⟨g, 0, none⟩), v] w fun e w' => e = .returned (.tuple #[]) ∧ Own D w w' [wrt g (edsB l)] := by
  obtain ⟨As, caps, rfl, hs1, hs2, HSs, hsok⟩ := HA.openF
  have HSs : OldS D w As (l.flatMap editV) := HSs
  refine hc_enter (vs := [.pointer (some ⟨g, 0, none⟩), .slice As l.length caps]) Try.func42 rfl _ Try.ntmps42 rfl H ?_
  simp only [argSlots, Nat.zero_add]
  refine hc_seq <|
    hc_region <|
    hl_val (ov_move rfl) rfl rfl rfl <|
    hl_val (ov_nil rfl) rfl rfl rfl <|
    hl_val (ov_fieldA rfl) rfl rfl rfl <|
    hl_val (ov_move rfl) rfl rfl rfl <| ?_
  refine hl_val (by first | exact ov_len rfl | exact ov_lenS rfl) rfl rfl rfl <| ?_
  refine hl_val (ov_conv rfl (by first | exact wrap_u64 (by omega) | rfl)) rfl rfl rfl <| ?_
  refine hl_c Try.call70 rfl rfl (fun w1 H1 => Own.callp (wrt g []) H1 fun D' hold hin H2 => put_spec D' w1 g l.length 1 [] (by omega) (by decide) (by simp) H2) ?_
  refine hl_nil <|
    hx_then_normal <|
    hc_seq <|
    hc_region <|
    hl_val (ov_move rfl) rfl rfl rfl <|
    hl_val (by first | exact ov_len rfl | exact ov_lenS rfl) rfl rfl rfl <| ?_
  refine hl_val (ov_move rfl) rfl rfl rfl <|
    hl_nil <|
    hx_then_normal <|
    hc_block <| ?_
  refine hc_loopK1 (σ := Nat) [0, 13, 14] rfl 15 (fun i => .int .i64 (i : Int)) (fun i => [wrt g (beB l.length 1 ++ (l.take i).flatMap edB)]) (fun i => i ≤ l.length) (fun i => l.length - i) (0) (Nat.zero_le _) rfl (by first | assumption | exact Ent.refl _ | exact Ent.nil _ | (repeat (first | exact Ent.refl _ | exact Ent.nil _ | refine Ent.pick ?_))) ?_
  rintro i hj K1 hK1
  refine hc_seq <|
    hc_region <|
    hl_val (ov_lss rfl rfl) rfl rfl rfl <|
    hl_nil <|
    hx_then_normal <|
    hc_seq <| ?_
  refine hc_cond rfl (fun h => ?_) (fun h => ?_)
  · have hlt : i < l.length := by omega
    obtain ⟨hA, _⟩ := OldS.cells_flat (D := D) (w0 := w) (f := editV) (sz := 7) (fun _ => rfl) (by decide) HSs hlt []
    have hc := fun l' => (OldS.cells_flat (D := D) (w0 := w) (f := editV) (sz := 7) (fun _ => rfl) (by decide) HSs hlt l').2
    have hgx := hg i hlt
    have heq := edsB_to (beB l.length 1) l i hlt
    generalize l[i] = x at *
    have hu1 := x.2.2.2.2.1.toNat_lt
    have hu2 := x.2.2.2.2.2.1.toNat_lt
    obtain ⟨g1, g2, g3, g4, g5, g6, g7, g8, g9⟩ := hgx
    obtain ⟨B0, hB0⟩ : ∃ B, B = beB l.length 1 ++ (l.take i).flatMap edB := ⟨_, rfl⟩
    have hB0l : B0.length ≤ 600 := by
      rw [hB0, List.length_append, beB_len, flat_len (f := edB) (sz := 16) edB_len, List.length_take]; omega
    rw [← hB0] at heq ⊢
    refine hc_skip <|
      hx_then_normal <|
      hc_seq <|
      hc_block <|
      hc_seq <|
      hc_region <| ?_
    refine hl_val (ov_idxS rfl (by assumption) rfl _ rfl (by omega)) rfl rfl rfl <| ?_
    refine hl_val (ov_loadG (cs := editV x) rfl rfl (hc _)) rfl rfl rfl ?_
    refine hl_new (on_alloc) rfl rfl rfl fun b5 =>  ?_
    refine hl_u0 (on_storeW (vs := editV x) rfl rfl (by simp) (by simp) (by simp [Value.oneCell', u8v])) rfl rfl ?_
    refine hl_nil <|
      hx_then_normal <|
      hc_seq <| ?_
    refine hc_tail 6 mixed (by kernel_rfl) ?_
    refine ht_val (ov_move rfl) rfl rfl rfl <|
      ht_val (ov_nil rfl) rfl rfl rfl <|
      ht_val (ov_fieldA rfl) rfl rfl rfl <|
      ht_val (ov_fieldA rfl) rfl rfl rfl <|
      ht_val (ov_load rfl (CellIs.blk rfl)) rfl rfl rfl <| ?_
    refine ht_val (ov_conv (m := ((x.1.toNat : Nat) : Int)) rfl (convN (by omega) (by omega))) rfl rfl rfl ?_
    refine ht_nil <| ?_
    refine hl_c Try.call70 rfl rfl (fun w1 H1 => Own.callp (wrt g (B0)) H1 fun D' hold hin H2 => put_spec D' w1 g x.1.toNat 1 (B0) (by omega) (by decide) (by omega) H2) ?_
    refine hl_nil <|
      hx_then_normal <|
      hc_seq <| ?_
    refine hc_tail 6 mixed (by kernel_rfl) ?_
    refine ht_val (ov_move rfl) rfl rfl rfl <|
      ht_val (ov_nil rfl) rfl rfl rfl <|
      ht_val (ov_fieldA rfl) rfl rfl rfl <|
      ht_val (ov_fieldA rfl) rfl rfl rfl <|
      ht_val (ov_load rfl (CellIs.blk rfl)) rfl rfl rfl <| ?_
    refine ht_val (ov_conv (m := ((x.2.1.toNat : Nat) : Int)) rfl (convN (by omega) (by omega))) rfl rfl rfl ?_
    refine ht_nil <| ?_
    refine hl_c Try.call70 rfl rfl (fun w1 H1 => Own.callp (wrt g ((B0 ++ beB x.1.toNat 1))) H1 fun D' hold hin H2 => put_spec D' w1 g x.2.1.toNat 1 ((B0 ++ beB x.1.toNat 1)) (by omega) (by decide) (by simp only [List.length_append, beB_len]; omega) H2) ?_
    refine hl_nil <|
      hx_then_normal <|
      hc_seq <| ?_
    refine hc_tail 6 mixed (by kernel_rfl) ?_
    refine ht_val (ov_move rfl) rfl rfl rfl <|
      ht_val (ov_nil rfl) rfl rfl rfl <|
      ht_val (ov_fieldA rfl) rfl rfl rfl <|
      ht_val (ov_fieldA rfl) rfl rfl rfl <|
      ht_val (ov_load rfl (CellIs.blk rfl)) rfl rfl rfl <| ?_
    refine ht_val (ov_conv (m := ((x.2.2.1.toNat : Nat) : Int)) rfl (convN (by omega) (by omega))) rfl rfl rfl ?_
    refine ht_nil <| ?_
    refine hl_c Try.call70 rfl rfl (fun w1 H1 => Own.callp (wrt g (((B0 ++ beB x.1.toNat 1) ++ beB x.2.1.toNat 1))) H1 fun D' hold hin H2 => put_spec D' w1 g x.2.2.1.toNat 4 (((B0 ++ beB x.1.toNat 1) ++ beB x.2.1.toNat 1)) (by omega) (by decide) (by simp only [List.length_append, beB_len]; omega) H2) ?_
    refine hl_nil <|
      hx_then_normal <|
      hc_seq <| ?_
    refine hc_tail 6 mixed (by kernel_rfl) ?_
    refine ht_val (ov_move rfl) rfl rfl rfl <|
      ht_val (ov_nil rfl) rfl rfl rfl <|
      ht_val (ov_fieldA rfl) rfl rfl rfl <|
      ht_val (ov_fieldA rfl) rfl rfl rfl <|
      ht_val (ov_load rfl (CellIs.blk rfl)) rfl rfl rfl <| ?_
    refine ht_val (ov_conv (m := ((x.2.2.2.1.toNat : Nat) : Int)) rfl (convN (by omega) (by omega))) rfl rfl rfl ?_
    refine ht_nil <| ?_
    refine hl_c Try.call70 rfl rfl (fun w1 H1 => Own.callp (wrt g ((((B0 ++ beB x.1.toNat 1) ++ beB x.2.1.toNat 1) ++ beB x.2.2.1.toNat 4))) H1 fun D' hold hin H2 => put_spec D' w1 g x.2.2.2.1.toNat 2 ((((B0 ++ beB x.1.toNat 1) ++ beB x.2.1.toNat 1) ++ beB x.2.2.1.toNat 4)) (by omega) (by decide) (by simp only [List.length_append, beB_len]; omega) H2) ?_
    refine hl_nil <|
      hx_then_normal <|
      hc_seq <| ?_
    refine hc_tail 6 mixed (by kernel_rfl) ?_
    refine ht_val (ov_move rfl) rfl rfl rfl <|
      ht_val (ov_nil rfl) rfl rfl rfl <|
      ht_val (ov_fieldA rfl) rfl rfl rfl <|
      ht_val (ov_fieldA rfl) rfl rfl rfl <|
      ht_val (ov_load rfl (CellIs.blk rfl)) rfl rfl rfl <|
      ht_val (ov_conv rfl (by first | exact wrap_u64 (by omega) | rfl)) rfl rfl rfl <| ?_
    refine ht_nil <| ?_
    refine hl_c Try.call70 rfl rfl (fun w1 H1 => Own.callp (wrt g (((((B0 ++ beB x.1.toNat 1) ++ beB x.2.1.toNat 1) ++ beB x.2.2.1.toNat 4) ++ beB x.2.2.2.1.toNat 2))) H1 fun D' hold hin H2 => put_spec D' w1 g x.2.2.2.2.1.toNat 1 (((((B0 ++ beB x.1.toNat 1) ++ beB x.2.1.toNat 1) ++ beB x.2.2.1.toNat 4) ++ beB x.2.2.2.1.toNat 2)) (by omega) (by decide) (by simp only [List.length_append, beB_len]; omega) H2) ?_
    refine hl_nil <|
      hx_then_normal <|
      hc_seq <| ?_
    refine hc_tail 6 mixed (by kernel_rfl) ?_
    refine ht_val (ov_move rfl) rfl rfl rfl <|
      ht_val (ov_nil rfl) rfl rfl rfl <|
      ht_val (ov_fieldA rfl) rfl rfl rfl <|
      ht_val (ov_fieldA rfl) rfl rfl rfl <|
      ht_val (ov_load rfl (CellIs.blk rfl)) rfl rfl rfl <|
      ht_val (ov_conv rfl (by first | exact wrap_u64 (by omega) | rfl)) rfl rfl rfl <| ?_
    refine ht_nil <| ?_
    refine hl_c Try.call70 rfl rfl (fun w1 H1 => Own.callp (wrt g ((((((B0 ++ beB x.1.toNat 1) ++ beB x.2.1.toNat 1) ++ beB x.2.2.1.toNat 4) ++ beB x.2.2.2.1.toNat 2) ++ beB x.2.2.2.2.1.toNat 1))) H1 fun D' hold hin H2 => put_spec D' w1 g x.2.2.2.2.2.1.toNat 1 ((((((B0 ++ beB x.1.toNat 1) ++ beB x.2.1.toNat 1) ++ beB x.2.2.1.toNat 4) ++ beB x.2.2.2.1.toNat 2) ++ beB x.2.2.2.2.1.toNat 1)) (by omega) (by decide) (by simp only [List.length_append, beB_len]; omega) H2) ?_
    refine hl_nil <|
      hx_then_normal <| ?_
    refine hc_tail 5 mixed (by kernel_rfl) ?_
    refine ht_val (ov_move rfl) rfl rfl rfl <|
      ht_val (ov_nil rfl) rfl rfl rfl <|
      ht_val (ov_fieldA rfl) rfl rfl rfl <|
      ht_val (ov_fieldA rfl) rfl rfl rfl <|
      ht_val (ov_load rfl (CellIs.blk rfl)) rfl rfl rfl <|
      ht_nil <| ?_
    refine hl_c Try.call70 rfl rfl (fun w1 H1 => Own.callp (wrt g (((((((B0 ++ beB x.1.toNat 1) ++ beB x.2.1.toNat 1) ++ beB x.2.2.1.toNat 4) ++ beB x.2.2.2.1.toNat 2) ++ beB x.2.2.2.2.1.toNat 1) ++ beB x.2.2.2.2.2.1.toNat 1))) H1 fun D' hold hin H2 => put_spec D' w1 g x.2.2.2.2.2.2.toNat 6 (((((((B0 ++ beB x.1.toNat 1) ++ beB x.2.1.toNat 1) ++ beB x.2.2.1.toNat 4) ++ beB x.2.2.2.1.toNat 2) ++ beB x.2.2.2.2.1.toNat 1) ++ beB x.2.2.2.2.2.1.toNat 1)) (by omega) (by decide) (by simp only [List.length_append, beB_len]; omega) H2) ?_
    refine hl_nil <|
      hx_block_normal <|
      hx_then_normal <|
      hc_region <|
      hl_val (ov_add rfl rfl (by first | exact wrap_i64 (by omega) | rfl)) rfl rfl rfl <| ?_
    refine hl_val (ov_move rfl) rfl rfl rfl <|
      hl_nil <| ?_
    rw [heq]
    refine hx_next hK1 (i + 1) (hlt) (by omega) (by repeat (first | exact Slots.sub_nil _ | refine Slots.sub_cons rfl ?_)) (by first | assumption | exact Ent.refl _ | exact Ent.nil _ | (repeat (first | exact Ent.refl _ | exact Ent.nil _ | refine Ent.pick ?_)))
  · have hie : i = l.length := by omega
    subst hie
    rw [List.take_length]
    refine hc_exit <|
      hx_then_exit <|
      hx_then_exit <|
      hx_block_out <| ?_
    exact results_0 (.inl rfl) rfl fun w' H' => ⟨rfl, H'⟩
theorem wrt_new (b : Nat) (l : List HProp) : Ent (blk b 82 [.slice none 0 0] :: l) (wrt b [] :: l) :=
  Ent.trans (b := blk b 82 [.slice none 0 0] :: row none 5 1 0 0 [] :: l) (Ent.cons (Ent.nil_row 5 1)) (Ent.exS (L := fun q : Option Addr × Nat => [blk b 82 [.slice q.1 ([] : List UInt8).length q.2], row q.1 5 1 ([] : List UInt8).length q.2 (([] : List UInt8).map u8v)]) (l := l) (none, 0))
theorem Edits_spec (D : Nat → Prop) (w : World) (v : Value) (l : List EditC) (hl : l.length ≤ 1000000) (HA : Old D w (Rep.rep l [v])) :
    Calls Try.prog 20 #[v] w fun e w' => (32 < l.length ∧ e = .returned (.tuple #[.slice none 0 0, .int .i64 3]) ∧ Own D w w' []) ∨ (l.length ≤ 32 ∧ (∃ i, badE l i) ∧ e = .returned (.tuple #[.slice none 0 0, .int .i64 11]) ∧ Own D w w' []) ∨
      (l.length ≤ 32 ∧ (∀ i (h : i < l.length), goodE l[i]) ∧ ∃ q : Option Addr × Nat, e = .returned (.tuple #[.slice q.1 (edsB l).length q.2, .int .i64 0]) ∧ Own D w w' [row q.1 5 1 (edsB l).length q.2 ((edsB l).map u8v)]) := by
  have HA0 := HA
  obtain ⟨As, caps, rfl, hs1, hs2, HSs, hsok⟩ := HA.openF
  refine hc_enter (vs := [.slice As l.length caps]) Try.func20 rfl _ Try.ntmps20 rfl (Own.start D w) ?_
  simp only [argSlots, Nat.zero_add]
  refine hc_seq <|
    hc_region <|
    hl_val (ov_assign rfl) rfl rfl rfl <|
    hl_val (ov_assign rfl) rfl rfl rfl <|
    hl_nil <|
    hx_then_normal <| ?_
  refine hc_seq <|
    hc_block <|
    hc_seq <|
    hc_region <|
    hl_val (ov_move rfl) rfl rfl rfl <|
    hl_val (by first | exact ov_len rfl | exact ov_lenS rfl) rfl rfl rfl <| ?_
  refine hl_val (ov_gtr rfl rfl) rfl rfl rfl <|
    hl_val (ov_assign rfl) rfl rfl rfl <|
    hl_nil <|
    hx_then_normal <| ?_
  refine hc_cond rfl (fun h => ?_) (fun h => ?_)
  · refine hc_seq <|
      hc_region <|
      hl_val (ov_assign rfl) rfl rfl rfl <|
      hl_val (ov_assign rfl) rfl rfl rfl <|
      hl_nil <|
      hx_then_normal <| ?_
    refine hc_ret <|
      hx_block_ret <|
      hx_then_ret <| ?_
    exact results_2 (.inr rfl) rfl rfl rfl fun w' H' => .inl ⟨by omega, rfl, H'⟩
  · refine hc_seq <|
      hc_region <|
      hl_val (ov_move rfl) rfl rfl rfl <| ?_
    refine hl_call (σ := BIff (∃ i, badE l i)) Try.call40 rfl rfl (fun w1 H1 => Own.callx0 H1 fun D' hold hin H2 => HasE_spec D' w1 _ l hl (hold _ HA0)) ?_
    intro r
    try rw [List.nil_append]
    refine hl_val (ov_assign rfl) rfl rfl rfl <|
      hl_nil <|
      hx_then_normal <| ?_
    refine hc_cond_bool rfl (fun hb => ?_) (fun hb => ?_)
    · have hbad := r.2.1 hb
      refine hc_seq <|
        hc_region <|
        hl_val (ov_assign rfl) rfl rfl rfl <|
        hl_val (ov_assign rfl) rfl rfl rfl <|
        hl_nil <|
        hx_then_normal <| ?_
      refine hc_ret <|
        hx_block_ret <|
        hx_then_ret <| ?_
      exact results_2 (.inr rfl) rfl rfl rfl fun w' H' => .inr (.inl ⟨by omega, hbad, rfl, H'⟩)
    · have hall : ∀ i (h : i < l.length), goodE l[i] := fun i hi => Classical.byContradiction fun hx => by
        have := r.2.2 ⟨i, hi, hx⟩
        rw [this] at hb; cases hb
      refine hc_skip <|
        hx_block_normal <|
        hx_then_normal <|
        hc_seq <|
        hc_region <|
        hl_val (ov_buildSN rfl rfl) rfl rfl rfl <| ?_
      refine hl_new (on_boxN rfl rfl) rfl rfl rfl fun b13 =>  ?_
      refine hl_val (ov_assign rfl) rfl rfl rfl <|
        hl_nil <|
        hx_then_normal <|
        hc_seq <|
        hc_region <| ?_
      refine HL.ent (wrt_new b13 _) ?_
      refine hl_val (ov_move rfl) rfl rfl rfl <|
        hl_val (ov_move rfl) rfl rfl rfl <| ?_
      refine hl_c Try.call42 rfl rfl (fun w1 H1 => Own.callp (wrt b13 []) H1 fun D' hold hin H2 => wedits_spec D' w1 b13 _ l (by omega) hall H2 (hold _ HA0)) ?_
      refine hl_nil <|
        hx_then_normal <|
        hc_seq <|
        hc_region <| ?_
      refine HL.exs ?_
      rintro ⟨A, c⟩
      dsimp only [List.cons_append, List.nil_append]
      refine hl_val (ov_move rfl) rfl rfl rfl <|
        hl_val (ov_nil rfl) rfl rfl rfl <|
        hl_val (ov_fieldA rfl) rfl rfl rfl <|
        hl_val (ov_fieldA rfl) rfl rfl rfl <|
        hl_val (ov_load rfl (CellIs.blk rfl)) rfl rfl rfl <|
        hl_val (ov_assign rfl) rfl rfl rfl <| ?_
      refine hl_val (ov_assign rfl) rfl rfl rfl <|
        hl_nil <|
        hx_then_normal <|
        hc_ret <| ?_
      exact results_2 (.inr rfl) rfl rfl rfl fun w' H' => .inr (.inr ⟨by omega, hall, (A, c), rfl, H'.ent (by first | assumption | exact Ent.refl _ | exact Ent.nil _ | exact Ent.row_any (Ent.refl _) | (repeat (first | exact Ent.refl _ | exact Ent.nil _ | refine Ent.pick ?_)))⟩)
end Go.Proofs.Ytpgpfcplchaleaa
