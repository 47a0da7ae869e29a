import Derived.Test.YtnnhopjnpplfcaaEnt7
set_option linter.unusedVariables false
set_option linter.unusedSimpArgs false
namespace Go.Proofs.Ytnnhopjnpplfcaa
open Slk
abbrev EntG := Int × UInt32 × UInt32 × List UInt8
instance : ReadsAs Try.prog 62 EntG := ReadsAs.structG 0 (by kernel_rfl) rfl (ReadsG.cons 0 (ReadsG.cons 1 (ReadsG.cons 2 (ReadsG.last 3 (by decide)))))
instance : ReadsAs Try.prog 30 Sec := ReadsAs.arr (by kernel_rfl)
theorem entG_open {D : Nat → Prop} {w0 : World} {x : EntG} {cs : List Value} (k : Old D w0 (Rep.rep x cs)) : ∃ A cap, cs = [.int .i64 x.1, .int .u32 x.2.1.toNat, .int .u32 x.2.2.1.toNat, .slice A x.2.2.2.length cap] ∧ inI64 x.1 ∧ Old D w0 (Rep.rep x.2.2.2 [.slice A x.2.2.2.length cap]) := by
  obtain ⟨h, hh, c1, c2, rfl, ⟨rfl, ia⟩, c3, c4, rfl, k3, c5, c6, rfl, k5, hr⟩ := k
  have k3 : c3 = [.int .u32 (x.2.1.toNat : Int)] := k3
  have k5 : c5 = [.int .u32 (x.2.2.1.toNat : Int)] := k5
  subst k3; subst k5
  obtain ⟨A, cap, rfl, hr2⟩ := hr
  exact ⟨A, cap, rfl, ia, h, hh, A, cap, rfl, hr2⟩
/-- The entry that the laws write: its kind within a byte. -/
def entOf (x : EntG) : EntT := (modN x.1 256, x.2.1.toNat, x.2.2.1.toNat, x.2.2.2)
theorem entOf_ok (x : EntG) (h : x.2.2.2.length ≤ 4000) : okE (entOf x) := ⟨modN_lt _ (by decide), x.2.1.toNat_lt, x.2.2.1.toNat_lt, h⟩
theorem encE_get (e : EntT) (i : Nat) (h : i < (encE e).length) : (encE e)[i] = secOf (fullB e.1 e.2.1 e.2.2.1 e.2.2.2) i := by
  have : (encE e)[i]? = some (secOf (fullB e.1 e.2.1 e.2.2.1 e.2.2.2) i) := by
    unfold encE encS secsTo
    rw [List.getElem?_map, List.getElem?_range (by simpa [encE, encS, secsTo] using h)]; rfl
  rw [List.getElem?_eq_getElem h] at this
  simpa using this
/-- Encode of an entry of the laws. -/
theorem Encode_ent (D : Nat → Prop) (w : World) (e : EntT) (h : okE e) (v : Value) (HA : Old D w (Rep.rep e.2.2.2 [v])) :
    Calls Try.prog 28 #[.agg #[.int .i64 e.1, .int .u32 e.2.1, .int .u32 e.2.2.1, v]] w fun r w' => ∃ q : Option Addr × Nat, r = .returned (.tuple #[.slice q.1 (encE e).length q.2, .int .i64 0]) ∧ Own D w w' [row q.1 30 64 (encE e).length q.2 ((encE e).flatMap secC)] := by
  have hl : (encE e).length = (15 + e.2.2.2.length + 62) / 63 := by rw [encE, encS_len, fullB_length]
  rw [hl]
  exact Encode_ok D w e.1 e.2.1 e.2.2.1 v e.2.2.2 h.1 h.2.1 h.2.2.1 h.2.2.2 HA
theorem EntryBack_walk (W : World) (c0 : List Value) (v1 : Value) (x : EntG) (rest : List Sec) (h0 : Old none' W (Rep.rep x c0)) (h1 : Old none' W (Rep.rep rest [v1])) :
    Calls Try.prog 8 #[.agg c0.toArray, v1] W fun e w' => e = .returned (.bool true) ∧ Own none' W w' [] := by
  obtain ⟨A, cap, rfl, hxi, hx⟩ := entG_open h0
  obtain ⟨B, capB, rfl, hB1, hB2, HS, HR⟩ := h1.openS
  obtain ⟨e, he⟩ : ∃ e, e = entOf x := ⟨_, rfl⟩
  have he1 : e.1 = modN x.1 256 := by rw [he]; rfl
  have he2 : e.2.1 = x.2.1.toNat := by rw [he]; rfl
  have he3 : e.2.2.1 = x.2.2.1.toNat := by rw [he]; rfl
  have he4 : e.2.2.2 = x.2.2.2 := by rw [he]; rfl
  have hm := modN_lt x.1 (show 0 < 256 by decide)
  refine hc_enter (vs := [.agg #[.int .i64 x.1, .int .u32 x.2.1.toNat, .int .u32 x.2.2.1.toNat, .slice A x.2.2.2.length cap], .slice B rest.length capB]) Try.func8 rfl _ Try.ntmps8 rfl (Own.start none' W) ?_
  simp only [argSlots, Nat.zero_add]
  refine hc_seq <|
    hc_region <|
    hl_new (on_boxN rfl rfl) rfl rfl rfl fun b2 =>  ?_
  refine hl_val (ov_assign rfl) rfl rfl rfl <|
    hl_nil <|
    hx_then_normal <|
    hc_seq <|
    hc_seq <|
    hc_region <| ?_
  refine hl_val (ov_fieldA rfl) rfl rfl rfl <|
    hl_val (ov_load rfl (CellIs.blk rfl)) rfl rfl rfl <|
    hl_val (by first | exact ov_len rfl | exact ov_lenS rfl) rfl rfl rfl <| ?_
  refine hl_val (ov_gtr rfl rfl) rfl rfl rfl <|
    hl_val (ov_move rfl) rfl rfl rfl <| ?_
  refine hl_part (t := 15) rfl (fun hl => ?_) (fun hl => ?_)
  · refine hl_off rfl rfl rfl rfl rfl rfl <|
      hl_off rfl rfl rfl rfl rfl rfl <|
      hl_off rfl rfl rfl rfl rfl rfl <|
      hl_val (ov_pickT rfl rfl) rfl rfl rfl <|
      hl_nil <|
      hx_then_normal <| ?_
    refine hc_cond_true rfl <|
      hc_seq <|
      hc_region <| ?_
    refine hl_c Try.call27 rfl rfl (fun w1 H1 => Own.calln H1 fun D' hold hin H2 => wakes_spec D' w1) ?_
    refine hl_val (ov_assign rfl) rfl rfl rfl <|
      hl_nil <|
      hx_then_normal <|
      hc_ret <|
      hx_then_ret <| ?_
    exact results_1 (.inr rfl) rfl rfl fun w' H' => ⟨rfl, H'.ent (Ent.nil _)⟩
  · refine hl_on rfl rfl <| hl_val (ov_move rfl) rfl rfl rfl <|
      hl_on rfl rfl <| hl_val (by first | exact ov_len rfl | exact ov_lenS rfl) rfl rfl rfl <| ?_
    refine hl_on rfl rfl <| hl_val (ov_gtr rfl rfl) rfl rfl rfl <|
      hl_val (ov_pickF rfl rfl) rfl rfl rfl <|
      hl_nil <|
      hx_then_normal <| ?_
    refine hc_cond rfl (fun hl2 => ?_) (fun hl2 => ?_)
    · refine hc_seq <|
        hc_region <| ?_
      refine hl_c Try.call27 rfl rfl (fun w1 H1 => Own.calln H1 fun D' hold hin H2 => wakes_spec D' w1) ?_
      refine hl_val (ov_assign rfl) rfl rfl rfl <|
        hl_nil <|
        hx_then_normal <|
        hc_ret <|
        hx_then_ret <| ?_
      exact results_1 (.inr rfl) rfl rfl fun w' H' => ⟨rfl, H'.ent (Ent.nil _)⟩
    · have hok : okE e := by rw [he]; exact entOf_ok x (by omega)
      have hel : (encE e).length = needM e.2.2.2.length := encE_len e hok.2.2.2
      have hle : e.2.2.2.length = x.2.2.2.length := by rw [he4]
      rw [← he4] at hx
      rw [← he2, ← he3, ← hle]
      refine hc_skip <|
        hx_then_normal <|
        hc_seq <|
        hc_region <|
        hl_val (ov_fieldA rfl) rfl rfl rfl <|
        hl_val (ov_load rfl (CellIs.blk rfl)) rfl rfl rfl <| ?_
      refine hl_c Try.call14 rfl rfl (fun w1 H1 => Own.calln H1 fun D' hold hin H2 => Mod_nat D' w1 x.1 256 hxi (by decide) (by decide)) ?_
      rw [← he1]
      refine hl_val (ov_fieldA rfl) rfl rfl rfl <| ?_
      refine hl_u0 (on_storeE [.int .i64 e.1, .int .u32 e.2.1, .int .u32 e.2.2.1, .slice A e.2.2.2.length cap] rfl rfl (by simp) rfl rfl) rfl rfl ?_
      refine hl_nil <|
        hx_then_normal <|
        hc_seq <|
        hc_region <|
        hl_val (by first | exact ov_loadW rfl (by simp; done) | exact ov_loadGB rfl rfl) rfl rfl rfl <| ?_
      refine hl_call (σ := Option Addr × Nat) Try.call28 rfl rfl (fun w1 H1 => Own.callx0 H1 fun D' hold hin H2 => Encode_ent D' w1 e hok _ (hold _ hx)) ?_
      intro q
      try rw [List.nil_append]
      refine hl_val (ov_move rfl) rfl rfl rfl <|
        hl_val (ov_extract rfl rfl) rfl rfl rfl <|
        hl_val (ov_extract rfl rfl) rfl rfl rfl <|
        hl_val (ov_assign rfl) rfl rfl rfl <|
        hl_val (ov_assign rfl) rfl rfl rfl <|
        hl_nil <| ?_
      refine hx_then_normal <|
        hc_seq <|
        hc_seq <|
        hc_region <|
        hl_val (ov_move rfl) rfl rfl rfl <|
        hl_val (ov_neq rfl rfl) rfl rfl rfl <| ?_
      refine hl_val (ov_move rfl) rfl rfl rfl <| ?_
      refine hl_partF (t := 32) rfl ((by simp)) ?_
      refine hl_on rfl rfl <| hl_val (ov_move rfl) rfl rfl rfl <|
        hl_on rfl rfl <| hl_val (by first | exact ov_len rfl | exact ov_lenS rfl) rfl rfl rfl <| ?_
      refine hl_on rfl rfl <| hl_val (ov_fieldA rfl) rfl rfl rfl <|
        hl_on rfl rfl <| hl_val (ov_load rfl (CellIs.blk rfl)) rfl rfl rfl <|
        hl_on rfl rfl <| hl_val (by first | exact ov_len rfl | exact ov_lenS rfl) rfl rfl rfl <| ?_
      refine hl_on rfl rfl <| hl_c Try.call29 rfl rfl (fun w1 H1 => Own.calln H1 fun D' hold hin H2 => Need_nat D' w1 e.2.2.2.length (encE e).length hel.symm) ?_
      refine hl_on rfl rfl <| hl_val (ov_neq rfl rfl) rfl rfl rfl <|
        hl_val (ov_pickF rfl rfl) rfl rfl rfl <|
        hl_nil <|
        hx_then_normal <| ?_
      refine hc_cond_F rfl ((by simp)) ?_
      refine HC.fact (fun w H => Own.factR q.1 H) ?_
      rintro ⟨_, hqc, _, hqA⟩
      have hpos : 0 < (encE e).length := by rw [hel, needM, if_neg (by have := hok.2.2.2; omega)]; omega
      have hA : isA q.1 := hqA (secs_ne hpos)
      obtain ⟨S, hS⟩ : ∃ S, S = encE e := ⟨_, rfl⟩
      have hmk : ∀ i (h : i < S.length), ((S[i])[0].toNat : Int) = if i = 0 then 87 else 119 := fun i h => by
        subst hS
        rw [encE_get e i h, secOf_mark]; unfold markK
        split <;> rfl
      have hSb : S.length ≤ 100 := by rw [hS, hel, needM]; split <;> omega
      have hdec : decS (S ++ rest) = some (e, S.length) := by rw [hS, decS_enc e hok rest, hel]
      rw [← hS] at hpos ⊢
      refine hc_skip <|
        hx_then_normal <|
        hc_seq <|
        hc_seq <|
        hc_region <|
        hl_val (ov_assign rfl) rfl rfl rfl <| ?_
      refine hl_nil <|
        hx_then_normal <|
        hc_block <| ?_
      refine hc_loops1 (σ := Nat) [1, 2, 5] rfl 7 (fun i => .int .i64 (i : Int)) (fun i => i ≤ S.length) (fun i => S.length - i) (0) (Nat.zero_le _) rfl ?_
      rintro i hj K1 hK1
      refine hc_seq <|
        hc_seq <|
        hc_region <|
        hl_val (ov_move rfl) rfl rfl rfl <|
        hl_val (ov_move rfl) rfl rfl rfl <|
        hl_val (by first | exact ov_len rfl | exact ov_lenS rfl) rfl rfl rfl <| ?_
      refine hl_val (ov_lss rfl rfl) rfl rfl rfl <|
        hl_nil <|
        hx_then_normal <| ?_
      refine hc_cond rfl (fun h => ?_) (fun h => ?_)
      · have hi : i < S.length := by omega
        have hc : ∀ {l r : List HProp} [PickR l q.1 30 64 S.length q.2 (S.flatMap secC) r], CellIs none' W l (ab q.1) (ao q.1 + i * 64 + 0) (.int .u8 (if i = 0 then 87 else 119)) := fun {l r} [hp : PickR l q.1 30 64 S.length q.2 (S.flatMap secC) r] => by
          have := CellIs.sec (D := none') (w0 := W) (h := hp) hA hi (j := 0) (by decide)
          rw [hmk i hi] at this
          exact this
        refine hc_skip <|
          hx_then_normal <|
          hc_seq <|
          hc_block <|
          hc_seq <|
          hc_region <| ?_
        refine hl_val (ov_move rfl) rfl rfl rfl <|
          hl_val (ov_move rfl) rfl rfl rfl <|
          hl_val (ov_idxS rfl (by assumption) rfl _ rfl (by omega)) rfl rfl rfl <|
          hl_val (ov_idxPc rfl rfl rfl rfl rfl) rfl rfl rfl <| ?_
        refine hl_val (ov_load rfl hc) rfl rfl rfl ?_
        refine hl_val (ov_eql rfl rfl) rfl rfl rfl <|
          hl_val (ov_move rfl) rfl rfl rfl <|
          hl_val (ov_eql rfl rfl) rfl rfl rfl <|
          hl_val (ov_neqB rfl rfl) rfl rfl rfl <|
          hl_val (ov_move rfl) rfl rfl rfl <| ?_
        refine hl_partF (t := 56) rfl ((by by_cases h0 : i = 0 <;> simp [h0])) ?_
        refine hl_on rfl rfl <| hl_val (ov_move rfl) rfl rfl rfl <|
          hl_on rfl rfl <| hl_val (ov_move rfl) rfl rfl rfl <|
          hl_on rfl rfl <| hl_val (ov_idxS rfl (by assumption) rfl _ rfl (by omega)) rfl rfl rfl <|
          hl_on rfl rfl <| hl_val (ov_idxPc rfl rfl rfl rfl rfl) rfl rfl rfl <| ?_
        refine hl_on rfl rfl <| hl_val (ov_load rfl hc) rfl rfl rfl ?_
        refine hl_on rfl rfl <| hl_val (ov_eql rfl rfl) rfl rfl rfl <|
          hl_on rfl rfl <| hl_val (ov_move rfl) rfl rfl rfl <|
          hl_on rfl rfl <| hl_val (ov_gtr rfl rfl) rfl rfl rfl <|
          hl_on rfl rfl <| hl_val (ov_neqB rfl rfl) rfl rfl rfl <|
          hl_val (ov_pickF rfl rfl) rfl rfl rfl <|
          hl_nil <| ?_
        refine hx_then_normal <| ?_
        refine hc_cond_F rfl ((by by_cases h0 : i = 0 <;> simp [h0] <;> omega)) ?_
        refine hc_skip <|
          hx_block_normal <|
          hx_then_normal <|
          hc_region <|
          hl_val (ov_move rfl) rfl rfl rfl <|
          hl_val (ov_add rfl rfl (by first | exact wrap_i64 (by omega) | rfl)) rfl rfl rfl <| ?_
        refine hl_val (ov_assign rfl) rfl rfl rfl <|
          hl_nil <| ?_
        refine hx_next hK1 (i + 1) (by omega) (by omega) (by repeat (first | exact Slots.sub_nil _ | refine Slots.sub_cons rfl ?_)) (by first | assumption | exact Ent.refl _ | exact Ent.nil _ | (repeat (first | exact Ent.refl _ | exact Ent.nil _ | refine Ent.pick ?_)))
      · have hie : i = S.length := by omega
        refine hc_exit <|
          hx_then_exit <|
          hx_then_exit <|
          hx_block_out <|
          hx_then_normal <|
          hc_seq <| ?_
        refine hc_region <|
          hl_new (on_buildSliceN rfl rfl rfl) rfl rfl rfl fun b68 =>  ?_
        refine HL.ent (Ent.blk_row 64 0 rfl (by decide)) ?_
        refine hl_val (ov_move rfl) rfl rfl rfl <| ?_
        refine hl_new (on_appendR (A := some ⟨b68, 0, none⟩) (news := S.flatMap secC) rfl rfl (SrcIs.rowR (A := q.1) (fun _ => hA)) (secs_len S) (secs_one _) (by decide) (by omega)) rfl rfl rfl (fun q1 => ?_)
        refine hl_val (ov_move rfl) rfl rfl rfl <| ?_
        refine hl_new (on_appendR (A := q1.1) (news := rest.flatMap secC) rfl rfl (SrcIs.old HS) (secs_len rest) (secs_one _) (by decide) (by omega)) rfl rfl rfl (fun q2 => ?_)
        refine hl_call (σ := Option Addr × Nat) Try.call30 rfl rfl (fun w1 H1 => Own.callx0 H1 fun D' hold hin H2 => Decode_some D' w1 _ (S ++ rest) e S.length hdec (hin _ fun h hs ho => rep_row (A := q2.1) hs (S ++ rest) (by simp) (repL_secs.2 (by simp)))) ?_
        intro q3
        try rw [List.nil_append]
        refine hl_val (ov_move rfl) rfl rfl rfl <|
          hl_val (ov_extract rfl rfl) rfl rfl rfl <|
          hl_val (ov_extract rfl rfl) rfl rfl rfl <|
          hl_val (ov_extract rfl rfl) rfl rfl rfl <|
          hl_new (on_alloc) rfl rfl rfl fun b8 =>  ?_
        refine hl_u0 (on_storeW (vs := [.int .i64 e.1, .int .u32 e.2.1, .int .u32 e.2.2.1, .slice q3.1 e.2.2.2.length q3.2]) rfl rfl (by simp) (by simp) (by simp [Value.oneCell'])) rfl rfl ?_
        refine hl_val (ov_assign rfl) rfl rfl rfl <|
          hl_val (ov_assign rfl) rfl rfl rfl <|
          hl_nil <|
          hx_then_normal <|
          hc_seq <|
          hc_region <| ?_
        refine hl_val (ov_move rfl) rfl rfl rfl <|
          hl_val (ov_eql rfl rfl) rfl rfl rfl <|
          hl_val (ov_move rfl) rfl rfl rfl <| ?_
        refine hl_partT (t := 79) rfl (rfl) ?_
        refine hl_on rfl rfl <| hl_val (ov_move rfl) rfl rfl rfl <|
          hl_on rfl rfl <| hl_val (ov_move rfl) rfl rfl rfl <|
          hl_on rfl rfl <| hl_val (by first | exact ov_len rfl | exact ov_lenS rfl) rfl rfl rfl <| ?_
        refine hl_on rfl rfl <| hl_val (ov_eql rfl rfl) rfl rfl rfl <|
          hl_val (ov_pickT rfl rfl) rfl rfl rfl <|
          hl_val (ov_move rfl) rfl rfl rfl <| ?_
        refine hl_partT (t := 85) rfl (rfl) ?_
        refine hl_on rfl rfl <| hl_val (ov_fieldA rfl) rfl rfl rfl <|
          hl_on rfl rfl <| hl_val (ov_load rfl (CellIs.blk rfl)) rfl rfl rfl <|
          hl_on rfl rfl <| hl_val (ov_fieldA rfl) rfl rfl rfl <|
          hl_on rfl rfl <| hl_val (ov_load rfl (CellIs.blk rfl)) rfl rfl rfl <|
          hl_on rfl rfl <| hl_val (ov_eql rfl rfl) rfl rfl rfl <|
          hl_val (ov_pickT rfl rfl) rfl rfl rfl <| ?_
        refine hl_val (ov_move rfl) rfl rfl rfl <| ?_
        refine hl_partT (t := 92) rfl (rfl) ?_
        refine hl_on rfl rfl <| hl_val (ov_fieldA rfl) rfl rfl rfl <|
          hl_on rfl rfl <| hl_val (ov_load rfl (CellIs.blk rfl)) rfl rfl rfl <|
          hl_on rfl rfl <| hl_val (ov_fieldA rfl) rfl rfl rfl <|
          hl_on rfl rfl <| hl_val (ov_load rfl (CellIs.blk rfl)) rfl rfl rfl <|
          hl_on rfl rfl <| hl_val (ov_eql rfl rfl) rfl rfl rfl <|
          hl_val (ov_pickT rfl rfl) rfl rfl rfl <| ?_
        refine hl_val (ov_move rfl) rfl rfl rfl <| ?_
        refine hl_partT (t := 99) rfl (rfl) ?_
        refine hl_on rfl rfl <| hl_val (ov_fieldA rfl) rfl rfl rfl <|
          hl_on rfl rfl <| hl_val (ov_load rfl (CellIs.blk rfl)) rfl rfl rfl <|
          hl_on rfl rfl <| hl_val (ov_fieldA rfl) rfl rfl rfl <|
          hl_on rfl rfl <| hl_val (ov_load rfl (CellIs.blk rfl)) rfl rfl rfl <|
          hl_on rfl rfl <| hl_val (ov_eql rfl rfl) rfl rfl rfl <|
          hl_val (ov_pickT rfl rfl) rfl rfl rfl <| ?_
        refine hl_val (ov_move rfl) rfl rfl rfl <| ?_
        refine hl_partT (t := 106) rfl (rfl) ?_
        refine hl_on rfl rfl <| hl_val (ov_fieldA rfl) rfl rfl rfl <|
          hl_on rfl rfl <| hl_val (ov_load rfl (CellIs.blk rfl)) rfl rfl rfl <|
          hl_on rfl rfl <| hl_val (ov_fieldA rfl) rfl rfl rfl <|
          hl_on rfl rfl <| hl_val (ov_load rfl (CellIs.blk rfl)) rfl rfl rfl <| ?_
        refine hl_on rfl rfl <| hl_c Try.call31 rfl rfl (fun w1 H1 => Own.calln H1 fun D' hold hin H2 => Bytes_spec D' w1 _ _ e.2.2.2 e.2.2.2 (hin _ fun h hs ho => rep_row (A := q3.1) hs e.2.2.2 rfl (repL_bytes.2 rfl)) (hold _ hx)) ?_
        refine hl_val (ov_pickT rfl rfl) rfl rfl rfl <|
          hl_val (ov_move rfl) rfl rfl rfl <| ?_
        refine hl_partT (t := 113) rfl (rfl) ?_
        refine hl_on rfl rfl <| hl_c Try.call27 rfl rfl (fun w1 H1 => Own.calln H1 fun D' hold hin H2 => wakes_spec D' w1) ?_
        refine hl_val (ov_pickT rfl rfl) rfl rfl rfl <|
          hl_val (ov_assign rfl) rfl rfl rfl <|
          hl_nil <|
          hx_then_normal <|
          hc_ret <| ?_
        exact results_1 (.inr rfl) rfl rfl fun w' H' => ⟨rfl, H'.ent (Ent.nil _)⟩
end Go.Proofs.Ytnnhopjnpplfcaa
