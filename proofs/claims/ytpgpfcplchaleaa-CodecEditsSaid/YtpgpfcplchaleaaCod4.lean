import Derived.Test.YtpgpfcplchaleaaCod3
set_option linter.unusedVariables false
set_option linter.unusedSimpArgs false
namespace Go.Proofs.Ytpgpfcplchaleaa
open Slk
theorem Fair_spec (D : Nat → Prop) (w : World) (i1 i2 i3 : Int) (Ap Av As : Option Addr) (np cp nv cv ns cs : Nat) :
    Calls Try.prog 15 #[.agg #[.int .i64 i1, .int .i64 i2, .int .i64 i3, .slice Ap np cp, .slice Av nv cv, .slice As ns cs]] w fun e w' => ∃ b : BIff (np ≤ 20 ∧ nv ≤ 40 ∧ ns ≤ 40), e = .returned (.bool b.1) ∧ Own D w w' [] := by
  refine hc_enter (vs := [.agg #[.int .i64 i1, .int .i64 i2, .int .i64 i3, .slice Ap np cp, .slice Av nv cv, .slice As ns cs]]) Try.func15 rfl _ Try.ntmps15 rfl (Own.start D w) ?_
  simp only [argSlots, Nat.zero_add]
  refine hc_seq <|
    hc_region <|
    hl_new (on_boxN rfl rfl) rfl rfl rfl fun b1 =>  ?_
  refine hl_val (ov_assign rfl) rfl rfl rfl <|
    hl_nil <|
    hx_then_normal <|
    hc_seq <|
    hc_region <|
    hl_val (ov_fieldA rfl) rfl rfl rfl <| ?_
  refine hl_val (ov_load rfl (CellIs.blk rfl)) rfl rfl rfl <|
    hl_val (by first | exact ov_len rfl | exact ov_lenS rfl) rfl rfl rfl <| ?_
  refine hl_val (ov_leq rfl rfl) rfl rfl rfl <|
    hl_val (ov_move rfl) rfl rfl rfl <| ?_
  refine hl_part (t := 7) rfl (fun h1 => ?_) (fun h1 => ?_)
  · refine hl_on rfl rfl <| hl_val (ov_fieldA rfl) rfl rfl rfl <|
      hl_on rfl rfl <| hl_val (ov_load rfl (CellIs.blk rfl)) rfl rfl rfl <|
      hl_on rfl rfl <| hl_val (by first | exact ov_len rfl | exact ov_lenS rfl) rfl rfl rfl <| ?_
    refine hl_on rfl rfl <| hl_val (ov_leq rfl rfl) rfl rfl rfl <|
      hl_val (ov_pickT rfl rfl) rfl rfl rfl <|
      hl_val (ov_move rfl) rfl rfl rfl <| ?_
    refine hl_part (t := 13) rfl (fun h2 => ?_) (fun h2 => ?_)
    · refine hl_on rfl rfl <| hl_val (ov_fieldA rfl) rfl rfl rfl <|
        hl_on rfl rfl <| hl_val (ov_load rfl (CellIs.blk rfl)) rfl rfl rfl <|
        hl_on rfl rfl <| hl_val (by first | exact ov_len rfl | exact ov_lenS rfl) rfl rfl rfl <| ?_
      refine hl_on rfl rfl <| hl_val (ov_leq rfl rfl) rfl rfl rfl <| ?_
      refine hl_part (t := 17) rfl (fun h3 => ?_) (fun h3 => ?_)
      · refine hl_val (ov_pickT rfl rfl) rfl rfl rfl <|
          hl_val (ov_assign rfl) rfl rfl rfl <|
          hl_nil <|
          hx_then_normal <|
          hc_ret <| ?_
        exact results_1 (.inr rfl) rfl rfl fun w' H' => ⟨bT ⟨by omega, by omega, by omega⟩, rfl, H'.ent (Ent.nil _)⟩
      · refine hl_val (ov_pickT rfl rfl) rfl rfl rfl <|
          hl_val (ov_assign rfl) rfl rfl rfl <|
          hl_nil <|
          hx_then_normal <|
          hc_ret <| ?_
        exact results_1 (.inr rfl) rfl rfl fun w' H' => ⟨bF (fun h => h3 (by omega)), rfl, H'.ent (Ent.nil _)⟩
    · refine hl_off rfl rfl rfl rfl rfl rfl <|
        hl_off rfl rfl rfl rfl rfl rfl <|
        hl_off rfl rfl rfl rfl rfl rfl <|
        hl_off rfl rfl rfl rfl rfl rfl <|
        hl_val (ov_pickF rfl rfl) rfl rfl rfl <|
        hl_val (ov_assign rfl) rfl rfl rfl <| ?_
      refine hl_nil <|
        hx_then_normal <|
        hc_ret <| ?_
      exact results_1 (.inr rfl) rfl rfl fun w' H' => ⟨bF (fun h => h2 (by omega)), rfl, H'.ent (Ent.nil _)⟩
  · refine hl_off rfl rfl rfl rfl rfl rfl <|
      hl_off rfl rfl rfl rfl rfl rfl <|
      hl_off rfl rfl rfl rfl rfl rfl <|
      hl_off rfl rfl rfl rfl rfl rfl <|
      hl_val (ov_pickF rfl rfl) rfl rfl rfl <|
      hl_val (ov_move rfl) rfl rfl rfl <| ?_
    refine hl_off rfl rfl rfl rfl rfl rfl <|
      hl_off rfl rfl rfl rfl rfl rfl <|
      hl_off rfl rfl rfl rfl rfl rfl <|
      hl_off rfl rfl rfl rfl rfl rfl <|
      hl_val (ov_pickF rfl rfl) rfl rfl rfl <|
      hl_val (ov_assign rfl) rfl rfl rfl <| ?_
    refine hl_nil <|
      hx_then_normal <|
      hc_ret <| ?_
    exact results_1 (.inr rfl) rfl rfl fun w' H' => ⟨bF (fun h => h1 (by omega)), rfl, H'.ent (Ent.nil _)⟩
/-! ### The first configuration -/
def firstC (n : Nat) : ConfC := (32768, 20, 15, List.replicate n (true, 20000, 1), [(1, UInt8.ofNat (2 ^ n - 1), 0)], [])
theorem shl_or : ∀ p : Fin 8, IntKind.u8.wrap ((1 : Int) * 2 ^ (min ((p : Nat) : Int).toNat 8)) = ((2 ^ (p : Nat) : Nat) : Int) ∧ IntKind.u8.wrap ((BitVec.ofInt 8 (((2 ^ (p : Nat) - 1 : Nat) : Int)) ||| BitVec.ofInt 8 (((2 ^ (p : Nat) : Nat) : Int))).toNat : Int) = ((2 ^ ((p : Nat) + 1) - 1 : Nat) : Int) := by decide +kernel
theorem First_spec (D : Nat → Prop) (w : World) (n : Nat) (h1 : 1 ≤ n) (h2 : n ≤ 8) :
    Calls Try.prog 29 #[.int .i64 n] w fun e w' => ∃ q : (Option Addr × Nat) × Nat, e = .returned (.tuple #[.agg (cfgV (firstC n) (.slice q.1.1 n q.1.2) (.slice (some ⟨q.2, 0, none⟩) 1 1) (.slice none 0 0)).toArray, .int .i64 0]) ∧
      Own D w w' [row q.1.1 70 3 n q.1.2 ((firstC n).2.2.2.1.flatMap portV), row (some ⟨q.2, 0, none⟩) 66 3 1 1 ((firstC n).2.2.2.2.1.flatMap vlanV)] := by
  refine hc_enter (vs := [.int .i64 n]) Try.func29 rfl _ Try.ntmps29 rfl (Own.start D w) ?_
  simp only [argSlots, Nat.zero_add]
  refine hc_seq <|
    hc_region <|
    hl_new (on_alloc) rfl rfl rfl fun b2 => 
    hl_val (ov_assign rfl) rfl rfl rfl <|
    hl_nil <|
    hx_then_normal <| ?_
  refine hc_seq <|
    hc_seq <|
    hc_region <|
    hl_val (ov_move rfl) rfl rfl rfl <|
    hl_val (ov_lss rfl rfl) rfl rfl rfl <|
    hl_val (ov_move rfl) rfl rfl rfl <| ?_
  refine hl_partF (t := 9) rfl (by omega) ?_
  refine hl_on rfl rfl <| hl_val (ov_move rfl) rfl rfl rfl <|
    hl_on rfl rfl <| hl_val (ov_gtr rfl rfl) rfl rfl rfl <|
    hl_val (ov_pickF rfl rfl) rfl rfl rfl <|
    hl_nil <|
    hx_then_normal <| ?_
  refine hc_cond_F rfl (by omega) ?_
  refine hc_skip <|
    hx_then_normal <|
    hc_seq <|
    hc_region <|
    hl_val (ov_buildSN rfl rfl) rfl rfl rfl <| ?_
  refine hl_new (on_alloc) rfl rfl rfl fun b4 => 
    hl_u0 (on_storeGN rfl rfl rfl rfl rfl rfl) rfl rfl <|
    hl_nil <|
    hx_then_normal <|
    hc_seq <|
    hc_region <| ?_
  refine hl_val (ov_buildSN rfl rfl) rfl rfl rfl <| ?_
  refine hl_new (on_alloc) rfl rfl rfl fun b5 => 
    hl_u0 (on_storeGN rfl rfl rfl rfl rfl rfl) rfl rfl <|
    hl_nil <|
    hx_then_normal <|
    hc_seq <|
    hc_seq <| ?_
  refine hc_region <|
    hl_val (ov_move rfl) rfl rfl rfl <|
    hl_val (ov_move rfl) rfl rfl rfl <|
    hl_nil <|
    hx_then_normal <|
    hc_block <| ?_
  refine hc_loopK1 (σ := Nat × Option Addr × Nat) [2, 4, 5, 16] rfl 17 (fun s => .int .i64 (s.1 : Int)) (fun s => [blk b4 26 [.int .i64 32768, .int .i64 20, .int .i64 15, .slice s.2.1 s.1 s.2.2, .slice none 0 0, .slice none 0 0], row s.2.1 70 3 s.1 s.2.2 ((List.replicate s.1 ((true, 20000, 1) : PortC)).flatMap portV), blk b5 66 [.int .i64 1, .int .u8 ((2 ^ s.1 - 1 : Nat) : Int), .int .u8 0], blk b2 26 [.int .i64 0, .int .i64 0, .int .i64 0, .slice none 0 0, .slice none 0 0, .slice none 0 0]]) (fun s => s.1 ≤ n) (fun s => n - s.1) ((0, none, 0)) (Nat.zero_le _) rfl (Ent.trans (b := [blk b4 26 [.int .i64 32768, .int .i64 20, .int .i64 15, .slice none 0 0, .slice none 0 0, .slice none 0 0], row none 70 3 0 0 [], blk b5 66 [.int .i64 1, .int .u8 0, .int .u8 0], blk b2 26 [.int .i64 0, .int .i64 0, .int .i64 0, .slice none 0 0, .slice none 0 0, .slice none 0 0]]) (Ent.trans (Ent.nil_row 70 3) (by first | assumption | exact Ent.refl _ | exact Ent.nil _ | exact Ent.row_any (Ent.refl _) | (repeat (first | exact Ent.refl _ | exact Ent.nil _ | refine Ent.pick ?_)))) (Ent.refl _)) ?_
  rintro ⟨p, A, c⟩ hp K1 hK1
  dsimp only at hp ⊢
  refine hc_seq <|
    hc_region <|
    hl_val (ov_lss rfl rfl) rfl rfl rfl <|
    hl_nil <|
    hx_then_normal <|
    hc_seq <| ?_
  refine hc_cond rfl (fun h => ?_) (fun h => ?_)
  · have hlt : p < n := by omega
    obtain ⟨k1, k2⟩ := shl_or ⟨p, by omega⟩
    have hrep : (List.replicate p ((true, 20000, 1) : PortC)).flatMap portV ++ portV (true, 20000, 1) = (List.replicate (p + 1) ((true, 20000, 1) : PortC)).flatMap portV := by
      rw [List.replicate_succ', List.flatMap_append, List.flatMap_singleton]
    refine hc_skip <|
      hx_then_normal <|
      hc_seq <|
      hc_block <|
      hc_seq <|
      hc_region <| ?_
    refine hl_val (ov_move rfl) rfl rfl rfl <|
      hl_val (ov_assign rfl) rfl rfl rfl <|
      hl_nil <|
      hx_then_normal <|
      hc_seq <|
      hc_region <| ?_
    refine hl_val (ov_fieldA rfl) rfl rfl rfl <|
      hl_val (ov_load rfl (CellIs.blk rfl)) rfl rfl rfl <|
      hl_val (ov_buildSN rfl rfl) rfl rfl rfl <| ?_
    refine hl_new (on_buildSliceN rfl rfl rfl) rfl rfl rfl fun b23 =>  ?_
    refine hl_new (on_appendR (A := A) (news := portV (true, 20000, 1)) rfl rfl (SrcIs.blk (b := b23)) rfl (by simp [Value.oneCell']) (by decide) (by omega)) rfl rfl rfl (fun q2 => ?_)
    rw [hrep]
    refine hl_val (ov_fieldA rfl) rfl rfl rfl <| ?_
    refine hl_u0 (on_storeE [.int .i64 32768, .int .i64 20, .int .i64 15, .slice q2.1 (p + 1) q2.2, .slice none 0 0, .slice none 0 0] rfl rfl (by simp) rfl rfl) rfl rfl ?_
    refine hl_nil <|
      hx_then_normal <| ?_
    refine hc_tail 6 mixed (by kernel_rfl) ?_
    refine ht_val (ov_fieldA rfl) rfl rfl rfl <|
      ht_val (ov_load rfl (CellIs.blk rfl)) rfl rfl rfl <|
      ht_val (ov_move rfl) rfl rfl rfl <| ?_
    refine ht_val (ov_shl (m := ((2 ^ p : Nat) : Int)) rfl rfl (by omega) k1) rfl rfl rfl ?_
    refine ht_val (ov_or (m := ((2 ^ (p + 1) - 1 : Nat) : Int)) rfl rfl k2) rfl rfl rfl ?_
    refine ht_val (ov_fieldA rfl) rfl rfl rfl <| ?_
    refine ht_nil <| ?_
    refine hl_u0 (on_storeE [.int .i64 1, .int .u8 ((2 ^ (p + 1) - 1 : Nat) : Int), .int .u8 0] rfl rfl (by simp) rfl rfl) rfl rfl ?_
    refine hl_nil <|
      hx_block_normal <|
      hx_then_normal <|
      hc_region <|
      hl_val (ov_add rfl rfl (by first | exact wrap_i64 (by omega) | rfl)) rfl rfl rfl <| ?_
    refine hl_val (ov_move rfl) rfl rfl rfl <|
      hl_nil <| ?_
    refine hx_next hK1 ((p + 1, q2)) (hlt) (by show n - (p + 1) < n - p; omega) (by repeat (first | exact Slots.sub_nil _ | refine Slots.sub_cons rfl ?_)) (by first | assumption | exact Ent.refl _ | exact Ent.nil _ | (repeat (first | exact Ent.refl _ | exact Ent.nil _ | refine Ent.pick ?_)))
  · have hpn : p = n := by omega
    subst hpn
    have hlt : 2 ^ p ≤ 2 ^ 8 := Nat.pow_le_pow_right (by decide) h2
    have hu : (firstC p).2.2.2.2.1.flatMap vlanV = [.int .i64 1, .int .u8 ((2 ^ p - 1 : Nat) : Int), .int .u8 0] := by
      show vlanV (1, UInt8.ofNat (2 ^ p - 1), 0) ++ [] = _
      rw [List.append_nil]
      show [Value.int .i64 1, u8v (UInt8.ofNat (2 ^ p - 1)), u8v 0] = _
      rw [u8v_ofNat, Nat.mod_eq_of_lt (by omega)]; rfl
    rw [hu]
    refine hc_exit <|
      hx_then_exit <|
      hx_then_exit <|
      hx_block_out <|
      hx_then_normal <|
      hc_seq <| ?_
    refine hc_region <|
      hl_val (by first | exact ov_loadW rfl (by simp; done) | exact ov_loadGB rfl rfl) rfl rfl rfl <| ?_
    refine hl_new (on_buildSliceN rfl rfl rfl) rfl rfl rfl fun b34 => 
      hl_val (ov_fieldA rfl) rfl rfl rfl <|
      hl_u0 (on_storeN rfl rfl rfl rfl rfl) rfl rfl <|
      hl_nil <|
      hx_then_normal <|
      hc_seq <| ?_
    refine hc_region <|
      hl_val (by first | exact ov_loadW rfl (by simp; done) | exact ov_loadGB rfl rfl) rfl rfl rfl <| ?_
    refine hl_u0 (on_storeGN rfl rfl rfl rfl rfl rfl) rfl rfl <|
      hl_val (ov_assign rfl) rfl rfl rfl <|
      hl_nil <|
      hx_then_normal <|
      hc_ret <| ?_
    exact results_ct (.inr rfl) rfl rfl (by simp) rfl fun w' H' => ⟨((A, c), b34), rfl, H'.ent (Ent.trans (b := [blk b34 66 [.int .i64 1, .int .u8 ((2 ^ p - 1 : Nat) : Int), .int .u8 0], row A 70 3 p c ((firstC p).2.2.2.1.flatMap portV)]) (show Ent _ [_, row A 70 3 p c ((List.replicate p ((true, 20000, 1) : PortC)).flatMap portV)] from (by first | assumption | exact Ent.refl _ | exact Ent.nil _ | exact Ent.row_any (Ent.refl _) | (repeat (first | exact Ent.refl _ | exact Ent.nil _ | refine Ent.pick ?_)))) (Ent.trans (Ent.blk_row 3 1 rfl (by decide)) (by first | assumption | exact Ent.refl _ | exact Ent.nil _ | exact Ent.row_any (Ent.refl _) | (repeat (first | exact Ent.refl _ | exact Ent.nil _ | refine Ent.pick ?_)))))⟩
/-! ### What the keep's functions say -/
theorem okC {k : CK} {ks : List CK} {v : Value} {cs : List Value} (h : (cellOk k v).isSome = true) (t : (cellsOk ks cs).isSome = true) : (cellsOk (k :: ks) (v :: cs)).isSome = true := by
  obtain ⟨a, ha⟩ := Option.isSome_iff_exists.1 h
  obtain ⟨b, hb⟩ := Option.isSome_iff_exists.1 t
  simp only [cellsOk, ha, hb]; rfl
theorem ok8 (b : UInt8) : (cellOk (.i .u8) (u8v b)).isSome = true := by
  have h := b.toNat_lt
  simp only [u8v, cellOk]
  rw [if_pos (by simp [Lit.wf, IntKind.min, IntKind.max, IntKind.signed, IntKind.bits]; omega)]; rfl
theorem ok32 (b : UInt32) : (cellOk (.i .u32) (.int .u32 (b.toNat : Int))).isSome = true := by
  have h := b.toNat_lt
  simp only [cellOk]
  rw [if_pos (by simp [Lit.wf, IntKind.min, IntKind.max, IntKind.signed, IntKind.bits]; omega)]; rfl
theorem ok64 (b : UInt64) : (cellOk (.i .u64) (.int .u64 (b.toNat : Int))).isSome = true := by
  have h := b.toNat_lt
  simp only [cellOk]
  rw [if_pos (by simp [Lit.wf, IntKind.min, IntKind.max, IntKind.signed, IntKind.bits]; omega)]; rfl
theorem okI {x : Int} (h : inI64 x) : (cellOk (.i .i64) (.int .i64 x)).isSome = true := by
  unfold inI64 at h
  simp only [cellOk]
  rw [if_pos (by simp [Lit.wf, IntKind.min, IntKind.max, IntKind.signed, IntKind.bits]; omega)]; rfl
theorem toNat_inj8 {a b : UInt8} : (a.toNat : Int) = b.toNat ↔ a = b := ⟨fun h => UInt8.toNat_inj.1 (by omega), fun h => by rw [h]⟩
theorem toNat_inj32 {a b : UInt32} : (a.toNat : Int) = b.toNat ↔ a = b := ⟨fun h => UInt32.toNat_inj.1 (by omega), fun h => by rw [h]⟩
theorem toNat_inj64 {a b : UInt64} : (a.toNat : Int) = b.toNat ↔ a = b := ⟨fun h => UInt64.toNat_inj.1 (by omega), fun h => by rw [h]⟩
theorem portV_inj {s t : PortC} : portV s = portV t ↔ s = t := by
  obtain ⟨a, b, c⟩ := s; obtain ⟨a', b', c'⟩ := t
  simp only [portV, List.cons.injEq, Value.bool.injEq, Value.int.injEq, true_and, and_true, Prod.mk.injEq, toNat_inj32]
theorem vlanV_inj {s t : VlanC} : vlanV s = vlanV t ↔ s = t := by
  obtain ⟨a, b, c⟩ := s; obtain ⟨a', b', c'⟩ := t
  simp only [vlanV, u8v, List.cons.injEq, Value.bool.injEq, Value.int.injEq, true_and, and_true, Prod.mk.injEq, toNat_inj8]
theorem statV_inj {s t : StatC} : statV s = statV t ↔ s = t := by
  obtain ⟨a, b, c⟩ := s; obtain ⟨a', b', c'⟩ := t
  simp only [statV, List.cons.injEq, Value.bool.injEq, Value.int.injEq, true_and, and_true, Prod.mk.injEq, toNat_inj64]
theorem editV_inj {s t : EditC} : editV s = editV t ↔ s = t := by
  obtain ⟨a, b, c, d, e, f, g⟩ := s; obtain ⟨a', b', c', d', e', f', g'⟩ := t
  simp only [editV, u8v, List.cons.injEq, Value.int.injEq, true_and, and_true, Prod.mk.injEq, toNat_inj8, toNat_inj64]
theorem editOk {x : EditC} (h : Flat.ok x) : (cellsOk [.i .i64, .i .i64, .i .i64, .i .i64, .i .u8, .i .u8, .i .u64] (editV x)).isSome = true :=
  okC (okI h.1) (okC (okI h.2.1) (okC (okI h.2.2.1) (okC (okI h.2.2.2) (okC (ok8 _) (okC (ok8 _) (okC (ok64 _) rfl))))))
theorem portOk' {x : PortC} (h : Flat.ok x) : (cellsOk [.b, .i .u32, .i .i64] (portV x)).isSome = true := okC rfl (okC (ok32 _) (okC (okI h) rfl))
theorem vlanOk' {x : VlanC} (h : Flat.ok x) : (cellsOk [.i .i64, .i .u8, .i .u8] (vlanV x)).isSome = true := okC (okI h) (okC (ok8 _) (okC (ok8 _) rfl))
theorem statOk' {x : StatC} (h : Flat.ok x) : (cellsOk [.i .u64, .i .i64, .i .i64] (statV x)).isSome = true := okC (ok64 _) (okC (okI h.1) (okC (okI h.2) rfl))
theorem keepE_spec (D : Nat → Prop) (w : World) (v1 v2 : Value) (S T : List EditC) (HA : Old D w (Rep.rep S [v1])) (HB : Old D w (Rep.rep T [v2])) :
    Calls Try.prog 21 #[v1, v2] w fun e w' => ∃ b : BIff (S = T), e = .returned (.bool b.1) ∧ Own D w w' [] := by
  obtain ⟨A, c1, rfl, hA1, hA2, HS, oS⟩ := HA.openF
  obtain ⟨B, c2, rfl, hB1, hB2, HT, oT⟩ := HB.openF
  have HS : OldS D w A (S.flatMap editV) := HS
  have HT : OldS D w B (T.flatMap editV) := HT
  refine hc_enter (vs := [.slice A S.length c1, .slice B T.length c2]) Try.func21 rfl _ Try.ntmps21 rfl (Own.start D w) ?_
  simp only [argSlots, Nat.zero_add]
  refine hc_seq <|
    hc_region <|
    hl_val (ov_assign rfl) rfl rfl rfl <|
    hl_nil <|
    hx_then_normal <|
    hc_seq <| ?_
  refine hc_seq <|
    hc_region <|
    hl_val (ov_move rfl) rfl rfl rfl <|
    hl_val (by first | exact ov_len rfl | exact ov_lenS rfl) rfl rfl rfl <| ?_
  refine hl_val (ov_move rfl) rfl rfl rfl <|
    hl_val (by first | exact ov_len rfl | exact ov_lenS rfl) rfl rfl rfl <| ?_
  refine hl_val (ov_neq rfl rfl) rfl rfl rfl <|
    hl_nil <|
    hx_then_normal <| ?_
  refine hc_cond rfl (fun h => ?_) (fun h => ?_)
  · have hne : ¬ S = T := fun e => by subst e; exact h rfl
    refine hc_seq <|
      hc_region <|
      hl_val (ov_assign rfl) rfl rfl rfl <|
      hl_nil <|
      hx_then_normal <|
      hc_ret <| ?_
    refine hx_then_ret <| ?_
    exact results_1 (.inr rfl) rfl rfl fun w' H' => ⟨bF hne, rfl, H'⟩
  · have hl : S.length = T.length := by omega
    refine hc_skip <|
      hx_then_normal <|
      hc_seq <|
      hc_seq <|
      hc_region <|
      hl_val (ov_assign rfl) rfl rfl rfl <| ?_
    refine hl_nil <|
      hx_then_normal <|
      hc_block <| ?_
    refine hc_loops1 (σ := Nat) [0, 1] rfl 5 (fun k => .int .i64 (k : Int)) (fun k => k ≤ S.length ∧ S.take k = T.take k) (fun k => S.length - k) (0) (⟨Nat.zero_le _, by simp⟩) rfl ?_
    rintro k ⟨hk, hkt⟩ K1 hK1
    refine hc_seq <|
      hc_seq <|
      hc_region <|
      hl_val (ov_move rfl) rfl rfl rfl <|
      hl_val (ov_move rfl) rfl rfl rfl <|
      hl_val (by first | exact ov_len rfl | exact ov_lenS rfl) rfl rfl rfl <| ?_
    refine hl_val (ov_lss rfl rfl) rfl rfl rfl <|
      hl_nil <|
      hx_then_normal <| ?_
    refine hc_cond rfl (fun h2 => ?_) (fun h2 => ?_)
    · have hlt : k < S.length := by omega
      have hlt2 : k < T.length := by omega
      obtain ⟨hA, hc1⟩ := OldS.cells_flat (D := D) (w0 := w) (f := editV) (sz := 7) (fun _ => rfl) (by decide) HS hlt []
      obtain ⟨hB, hc2⟩ := OldS.cells_flat (D := D) (w0 := w) (f := editV) (sz := 7) (fun _ => rfl) (by decide) HT hlt2 []
      have hs1 := List.take_succ_eq_append_getElem hlt
      have hs2 := List.take_succ_eq_append_getElem hlt2
      have hat : S = T → S[k] = T[k] := fun e => by subst e; rfl
      have os := editOk (oS S[k] (List.getElem_mem hlt))
      have ot := editOk (oT T[k] (List.getElem_mem hlt2))
      generalize S[k] = s at *
      generalize T[k] = t at *
      refine hc_skip <|
        hx_then_normal <|
        hc_seq <|
        hc_block <|
        hc_seq <|
        hc_quiet mixed (by kernel_rfl) <| ?_
      refine hq_val (ov_move rfl) rfl rfl rfl <|
        hq_val (ov_move rfl) rfl rfl rfl <|
        hq_val (ov_idxS rfl (by assumption) rfl _ rfl (by omega)) rfl rfl rfl <| ?_
      refine hq_val (ov_loadG (cs := editV s) rfl rfl hc1) rfl rfl rfl ?_
      refine hq_val (ov_move rfl) rfl rfl rfl <|
        hq_val (ov_move rfl) rfl rfl rfl <|
        hq_val (ov_idxS rfl (by assumption) rfl _ rfl (by omega)) rfl rfl rfl <| ?_
      refine hq_val (ov_loadG (cs := editV t) rfl rfl hc2) rfl rfl rfl ?_
      refine hq_val (ov_neqG rfl rfl os ot editV_inj) rfl rfl rfl ?_
      refine hq_nil <|
        hx_then_normal <| ?_
      refine hc_cond rfl (fun h3 => ?_) (fun h3 => ?_)
      · have hne : ¬ S = T := fun e => h3 (hat e)
        refine hc_seq <|
          hc_region <|
          hl_val (ov_assign rfl) rfl rfl rfl <|
          hl_nil <|
          hx_then_normal <|
          hc_ret <| ?_
        refine hx_block_ret <|
          hx_then_ret <|
          hx_then_ret <|
          hx_block_ret <|
          hx_then_ret <| ?_
        exact results_1 (.inr rfl) rfl rfl fun w' H' => ⟨bF hne, rfl, H'⟩
      · have hst : s = t := Classical.not_not.1 h3
        refine hc_skip <|
          hx_block_normal <|
          hx_then_normal <|
          hc_region <|
          hl_val (ov_move rfl) rfl rfl rfl <|
          hl_val (ov_add rfl rfl (by first | exact wrap_i64 (by omega) | rfl)) rfl rfl rfl <| ?_
        refine hl_val (ov_assign rfl) rfl rfl rfl <|
          hl_nil <| ?_
        refine hx_next hK1 (k + 1) (⟨hlt, by rw [hs1, hs2, hkt, hst]⟩) (by omega) (by repeat (first | exact Slots.sub_nil _ | refine Slots.sub_cons rfl ?_)) (by first | assumption | exact Ent.refl _ | exact Ent.nil _ | (repeat (first | exact Ent.refl _ | exact Ent.nil _ | refine Ent.pick ?_)))
    · have hk' : k = S.length := by omega
      have he : S = T := by rw [← List.take_length (l := S), ← hk', hkt, hk', hl, List.take_length]
      refine hc_exit <|
        hx_then_exit <|
        hx_then_exit <|
        hx_block_out <|
        hx_then_normal <|
        hc_seq <| ?_
      refine hc_region <|
        hl_val (ov_assign rfl) rfl rfl rfl <|
        hl_nil <|
        hx_then_normal <|
        hc_ret <| ?_
      exact results_1 (.inr rfl) rfl rfl fun w' H' => ⟨bT he, rfl, H'⟩
end Go.Proofs.Ytpgpfcplchaleaa
