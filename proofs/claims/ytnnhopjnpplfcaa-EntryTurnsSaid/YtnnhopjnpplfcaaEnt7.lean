import Derived.Test.YtnnhopjnpplfcaaEntP
import Derived.Test.YtnnhopjnpplfcaaKBytes
set_option linter.unusedVariables false
set_option linter.unusedSimpArgs false
namespace Go.Proofs.Ytnnhopjnpplfcaa
open Slk
def entV (x : EntT) (q : Option Addr × Nat) : List Value := [.int .i64 x.1, .int .u32 x.2.1, .int .u32 x.2.2.1, .slice q.1 x.2.2.2.length q.2]
theorem Decode_some (D : Nat → Prop) (w : World) (v : Value) (S : List Sec) (x : EntT) (n : Nat) (h : decS S = some (x, n)) (HA : Old D w (Rep.rep S [v])) :
    Calls Try.prog 30 #[v] w fun e w' => ∃ q : Option Addr × Nat, e = .returned (.tuple #[.agg (entV x q).toArray, .int .i64 n, .int .i64 0]) ∧ Own D w w' [row q.1 5 1 x.2.2.2.length q.2 (x.2.2.2.map u8v)] :=
  (Decode_spec D w v S HA).mono fun e w' hp => by
    rcases hp with ⟨h1, _⟩ | ⟨x', n', q, h1, he, H'⟩
    · rw [h] at h1; cases h1
    · rw [h] at h1; cases h1; exact ⟨q, he, H'⟩
theorem Decode_none (D : Nat → Prop) (w : World) (v : Value) (S : List Sec) (h : decS S = none) (HA : Old D w (Rep.rep S [v])) :
    Calls Try.prog 30 #[v] w fun e w' => e = .returned (.tuple #[.agg #[.int .i64 0, .int .u32 0, .int .u32 0, .slice none 0 0], .int .i64 0, .int .i64 11]) ∧ Own D w w' [] :=
  (Decode_spec D w v S HA).mono fun e w' hp => by
    rcases hp with ⟨_, he, H'⟩ | ⟨x', n', q, h1, _⟩
    · exact ⟨he, H'⟩
    · rw [h] at h1; cases h1
/-- A byte of a sector of one's own. -/
theorem CellIs.sec {D : Nat → Prop} {w0 : World} {l r : List HProp} {A : Option Addr} {t : TypeId} {n cap : Nat} {S : List Sec} [h : PickR l A t 64 n cap (S.flatMap secC) r] (hA : Slk.isA A) {k j : Nat} (hk : k < S.length) (hj : j < 64) : CellIs D w0 l (ab A) (ao A + k * 64 + j) (.int .u8 ((S[k])[j].toNat : Int)) :=
  (CellsAre.flat (f := secC) (A := A) secC_len hA hk).cell (i := j) (secC_at S[k] hj)
def wakeE : EntT := (1, 2, 3, [97, 98, 99])
def wakeS : Sec := secOf (fullB 1 2 3 [97, 98, 99]) 0
theorem wake_enc : encS (fullB 1 2 3 [97, 98, 99]) = [wakeS] := rfl
theorem wake_0 : (wakeS)[0].toNat = 87 := by decide +kernel
theorem wake_12 : (wakeS)[12].toNat = 97 := by decide +kernel
theorem wake_19 : (wakeS)[19].toNat = 0 := by decide +kernel
def nineS : Sec := ⟨(9 :: List.replicate 63 0).toArray, by simp⟩
theorem wake_dec : decS [wakeS, nineS] = some (wakeE, 1) := decS_enc wakeE ⟨by decide, by decide, by decide, by decide⟩ [nineS]
theorem wakeI0 : ((wakeS)[0].toNat : Int) = 87 := by rw [wake_0]; rfl
theorem wakeI12 : ((wakeS)[12].toNat : Int) = 97 := by rw [wake_12]; rfl
theorem wakeI19 : ((wakeS)[19].toNat : Int) = 0 := by rw [wake_19]; rfl
theorem secs_one (S : List Sec) : ∀ v ∈ S.flatMap secC, v.oneCell' = true := fun v hv => by
  obtain ⟨s, _, h⟩ := List.mem_flatMap.1 hv
  exact secC_one s v h
theorem secs_len (S : List Sec) : (S.flatMap secC).length = S.length * 64 := flat_len secC_len S
theorem secs_ne {S : List Sec} (h : 0 < S.length) : S.flatMap secC ≠ [] := fun e => by
  have := congrArg List.length e
  rw [secs_len] at this
  simp at this
  omega
theorem wakes_spec (D : Nat → Prop) (w : World) : Calls Try.prog 27 #[] w fun e w' => e = .returned (.bool true) ∧ Own D w w' [] := by
  refine hc_enter (vs := []) Try.func27 rfl _ Try.ntmps27 rfl (Own.start D w) ?_
  simp only [argSlots, Nat.zero_add]
  refine hc_seq <|
    hc_region <|
    hl_val (ov_assign rfl) rfl rfl rfl <|
    hl_nil <|
    hx_then_normal <|
    hc_seq <| ?_
  refine hc_region <|
    hl_new (on_buildSliceN rfl rfl rfl) rfl rfl rfl fun b7 => 
    hl_u (on_mark rfl) rfl rfl rfl <|
    hl_val (ov_buildSN rfl rfl) rfl rfl rfl <| ?_
  refine hl_call (σ := Option Addr × Nat) Try.call28 rfl rfl (fun w1 H1 => Own.callx0 H1 fun D' hold hin H2 => (Encode_ok D' w1 1 2 3 _ [97, 98, 99] (by decide) (by decide) (by decide) (by decide) (hin _ fun h hs ho => rep_bytes (b := b7) hs [97, 98, 99] rfl (by decide))).mono fun e w' ⟨q, he, H'⟩ => ⟨q, (show e = Ending.returned (.tuple #[.slice q.1 1 q.2, .int .i64 0]) from he), (by rw [wake_enc] at H'; exact H' : Own D' w1 w' [row q.1 30 64 1 q.2 ([wakeS].flatMap secC)])⟩) ?_
  intro q
  try rw [List.nil_append]
  refine HL.fact (fun w H => Own.factR q.1 H) ?_
  rintro ⟨_, hqc, _, hqA⟩
  have hA : isA q.1 := hqA (secs_ne (by decide))
  refine hl_val (ov_move rfl) rfl rfl rfl <|
    hl_val (ov_extract rfl rfl) rfl rfl rfl <|
    hl_val (ov_extract rfl rfl) rfl rfl rfl <|
    hl_val (ov_assign rfl) rfl rfl rfl <|
    hl_val (ov_assign rfl) rfl rfl rfl <|
    hl_nil <| ?_
  refine hx_then_normal <|
    hc_seq <|
    hc_seq <|
    hc_region <|
    hl_val (ov_move rfl) rfl rfl rfl <|
    hl_val (ov_neq rfl rfl) rfl rfl rfl <| ?_
  refine hl_val (ov_move rfl) rfl rfl rfl <| ?_
  refine hl_partF (t := 15) rfl ((by simp)) ?_
  refine hl_on rfl rfl <| hl_val (ov_move rfl) rfl rfl rfl <|
    hl_on rfl rfl <| hl_val (by first | exact ov_len rfl | exact ov_lenS rfl) rfl rfl rfl <| ?_
  refine hl_on rfl rfl <| hl_val (ov_neq rfl rfl) rfl rfl rfl <|
    hl_val (ov_pickF rfl rfl) rfl rfl rfl <|
    hl_val (ov_move rfl) rfl rfl rfl <| ?_
  refine hl_partF (t := 20) rfl ((by simp)) ?_
  refine hl_on rfl rfl <| hl_val (ov_move rfl) rfl rfl rfl <|
    hl_on rfl rfl <| hl_val (ov_idxSc rfl (by assumption) rfl rfl (by omega)) rfl rfl rfl <|
    hl_on rfl rfl <| hl_val (ov_idxPc rfl rfl rfl rfl rfl) rfl rfl rfl <| ?_
  refine hl_on rfl rfl <| hl_val (ov_load rfl (CellIs.sec (A := q.1) (S := [wakeS]) hA (k := 0) (j := 0) (by decide) (by decide))) rfl rfl rfl ?_
  refine hl_on rfl rfl <| hl_val (ov_neq rfl rfl) rfl rfl rfl <|
    hl_val (ov_pickF rfl rfl) rfl rfl rfl <|
    hl_val (ov_move rfl) rfl rfl rfl <| ?_
  refine hl_partF (t := 27) rfl (fun h => h wakeI0) ?_
  refine hl_on rfl rfl <| hl_val (ov_move rfl) rfl rfl rfl <|
    hl_on rfl rfl <| hl_val (ov_idxSc rfl (by assumption) rfl rfl (by omega)) rfl rfl rfl <|
    hl_on rfl rfl <| hl_val (ov_idxPc rfl rfl rfl rfl rfl) rfl rfl rfl <| ?_
  refine hl_on rfl rfl <| hl_val (ov_load rfl (CellIs.sec (A := q.1) (S := [wakeS]) hA (k := 0) (j := 12) (by decide) (by decide))) rfl rfl rfl ?_
  refine hl_on rfl rfl <| hl_val (ov_neq rfl rfl) rfl rfl rfl <|
    hl_val (ov_pickF rfl rfl) rfl rfl rfl <|
    hl_val (ov_move rfl) rfl rfl rfl <| ?_
  refine hl_partF (t := 34) rfl (fun h => h wakeI12) ?_
  refine hl_on rfl rfl <| hl_val (ov_move rfl) rfl rfl rfl <|
    hl_on rfl rfl <| hl_val (ov_idxSc rfl (by assumption) rfl rfl (by omega)) rfl rfl rfl <|
    hl_on rfl rfl <| hl_val (ov_idxPc rfl rfl rfl rfl rfl) rfl rfl rfl <| ?_
  refine hl_on rfl rfl <| hl_val (ov_load rfl (CellIs.sec (A := q.1) (S := [wakeS]) hA (k := 0) (j := 19) (by decide) (by decide))) rfl rfl rfl ?_
  refine hl_on rfl rfl <| hl_val (ov_neq rfl rfl) rfl rfl rfl <|
    hl_val (ov_pickF rfl rfl) rfl rfl rfl <|
    hl_nil <|
    hx_then_normal <| ?_
  refine hc_cond_F rfl (fun h => h wakeI19) ?_
  refine hc_skip <|
    hx_then_normal <|
    hc_seq <|
    hc_region <|
    hl_new (on_buildSliceN rfl rfl rfl) rfl rfl rfl fun b42 =>  ?_
  refine HL.ent (Ent.blk_row 64 0 rfl (by decide)) ?_
  refine hl_val (ov_move rfl) rfl rfl rfl <| ?_
  refine hl_new (on_appendR (A := some ⟨b42, 0, none⟩) (news := [wakeS].flatMap secC) rfl rfl (SrcIs.rowR (A := q.1) (fun _ => hA)) (by rw [secs_len]; rfl) (secs_one _) (by decide) (by decide)) rfl rfl rfl (fun q1 => ?_)
  refine hl_val (ov_buildA (res := secC nineS) rfl rfl) rfl rfl rfl ?_
  refine hl_new (on_buildSlice (res := secC nineS) rfl rfl (fill_sec1 _)) rfl rfl rfl (fun b46 => ?_)
  refine hl_new (on_appendR (A := q1.1) (news := secC nineS) rfl rfl (SrcIs.blk (b := b46)) (by rw [secC_len]) (secC_one _) (by decide) (by decide)) rfl rfl rfl (fun q2 => ?_)
  refine hl_call (σ := Option Addr × Nat) Try.call30 rfl rfl (fun w1 H1 => Own.callx0 H1 fun D' hold hin H2 => Decode_some D' w1 _ [wakeS, nineS] wakeE 1 wake_dec (hin _ fun h hs ho => rep_row (A := q2.1) hs [wakeS, nineS] rfl (repL_secs.2 (by simp)))) ?_
  intro q3
  try rw [List.nil_append]
  refine HL.fact (fun w H => Own.factR q3.1 H) ?_
  rintro ⟨_, _, _, hA3⟩
  have hA3 : isA q3.1 := hA3 (by decide)
  refine hl_val (ov_move rfl) rfl rfl rfl <|
    hl_val (ov_extract rfl rfl) rfl rfl rfl <|
    hl_val (ov_extract rfl rfl) rfl rfl rfl <|
    hl_val (ov_extract rfl rfl) rfl rfl rfl <|
    hl_new (on_alloc) rfl rfl rfl fun b3 =>  ?_
  refine hl_u0 (on_storeW (vs := [.int .i64 1, .int .u32 2, .int .u32 3, .slice q3.1 3 q3.2]) rfl rfl (by simp) (by simp) (by simp [Value.oneCell'])) rfl rfl ?_
  refine hl_val (ov_assign rfl) rfl rfl rfl <|
    hl_val (ov_assign rfl) rfl rfl rfl <|
    hl_nil <|
    hx_then_normal <|
    hc_seq <|
    hc_region <| ?_
  refine hl_val (ov_move rfl) rfl rfl rfl <|
    hl_val (ov_eql rfl rfl) rfl rfl rfl <|
    hl_val (ov_move rfl) rfl rfl rfl <| ?_
  refine hl_partT (t := 54) rfl (rfl) ?_
  refine hl_on rfl rfl <| hl_val (ov_move rfl) rfl rfl rfl <|
    hl_on rfl rfl <| hl_val (ov_eql rfl rfl) rfl rfl rfl <|
    hl_val (ov_pickT rfl rfl) rfl rfl rfl <|
    hl_val (ov_move rfl) rfl rfl rfl <| ?_
  refine hl_partT (t := 58) rfl (rfl) ?_
  refine hl_on rfl rfl <| hl_val (ov_fieldA rfl) rfl rfl rfl <|
    hl_on rfl rfl <| hl_val (ov_load rfl (CellIs.blk rfl)) rfl rfl rfl <|
    hl_on rfl rfl <| hl_val (ov_eql rfl rfl) rfl rfl rfl <|
    hl_val (ov_pickT rfl rfl) rfl rfl rfl <|
    hl_val (ov_move rfl) rfl rfl rfl <| ?_
  refine hl_partT (t := 63) rfl (rfl) ?_
  refine hl_on rfl rfl <| hl_val (ov_fieldA rfl) rfl rfl rfl <|
    hl_on rfl rfl <| hl_val (ov_load rfl (CellIs.blk rfl)) rfl rfl rfl <|
    hl_on rfl rfl <| hl_val (ov_eql rfl rfl) rfl rfl rfl <|
    hl_val (ov_pickT rfl rfl) rfl rfl rfl <|
    hl_val (ov_move rfl) rfl rfl rfl <| ?_
  refine hl_partT (t := 68) rfl (rfl) ?_
  refine hl_on rfl rfl <| hl_val (ov_fieldA rfl) rfl rfl rfl <|
    hl_on rfl rfl <| hl_val (ov_load rfl (CellIs.blk rfl)) rfl rfl rfl <|
    hl_on rfl rfl <| hl_val (ov_eql rfl rfl) rfl rfl rfl <|
    hl_val (ov_pickT rfl rfl) rfl rfl rfl <|
    hl_val (ov_move rfl) rfl rfl rfl <| ?_
  refine hl_partT (t := 73) rfl (rfl) ?_
  refine hl_on rfl rfl <| hl_val (ov_fieldA rfl) rfl rfl rfl <|
    hl_on rfl rfl <| hl_val (ov_load rfl (CellIs.blk rfl)) rfl rfl rfl <| ?_
  refine hl_on rfl rfl <| hl_val (ov_string (xs := [97, 98, 99]) rfl (SrcIs.rowR (A := q3.1) (fun _ => hA3))) rfl rfl rfl ?_
  refine hl_on rfl rfl <| hl_val (by first | exact ov_eqlV rfl rfl | exact ov_eqlS rfl rfl) rfl rfl rfl <| ?_
  refine hl_val (ov_pickT rfl rfl) rfl rfl rfl <|
    hl_val (ov_move rfl) rfl rfl rfl <| ?_
  refine hl_partT (t := 79) rfl (rfl) ?_
  refine hl_on rfl rfl <| hl_c Try.call29 rfl rfl (fun w1 H1 => Own.calln H1 fun D' hold hin H2 => Need_nat D' w1 48 1 rfl) ?_
  refine hl_on rfl rfl <| hl_val (ov_eql rfl rfl) rfl rfl rfl <|
    hl_val (ov_pickT rfl rfl) rfl rfl rfl <|
    hl_val (ov_move rfl) rfl rfl rfl <| ?_
  refine hl_partT (t := 83) rfl (rfl) ?_
  refine hl_on rfl rfl <| hl_c Try.call29 rfl rfl (fun w1 H1 => Own.calln H1 fun D' hold hin H2 => Need_nat D' w1 49 2 rfl) ?_
  refine hl_on rfl rfl <| hl_val (ov_eql rfl rfl) rfl rfl rfl <|
    hl_val (ov_pickT rfl rfl) rfl rfl rfl <|
    hl_val (ov_assign rfl) rfl rfl rfl <|
    hl_nil <|
    hx_then_normal <|
    hc_ret <| ?_
  exact results_1 (.inr rfl) rfl rfl fun w' H' => ⟨rfl, H'.ent (Ent.nil _)⟩
theorem EntryNeeds_walk (W : World) (v0 : Value) (n : Int) (h0 : Old none' W (Rep.rep n [v0])) :
    Calls Try.prog 10 #[v0] W fun e w' => e = .returned (.bool true) ∧ Own none' W w' [] := by
  obtain ⟨h, _, e0, hn⟩ := h0
  obtain rfl : v0 = .int .i64 n := by simpa using e0
  obtain ⟨n1, hn1⟩ : ∃ m, IntKind.i64.wrap (n + 1) = m := ⟨_, rfl⟩
  refine hc_enter (vs := [.int .i64 n]) Try.func10 rfl _ Try.ntmps10 rfl (Own.start none' W) ?_
  simp only [argSlots, Nat.zero_add]
  refine hc_seq <|
    hc_region <|
    hl_val (ov_assign rfl) rfl rfl rfl <|
    hl_nil <|
    hx_then_normal <|
    hc_seq <| ?_
  refine hc_region <|
    hl_val (ov_move rfl) rfl rfl rfl <| ?_
  refine hl_c Try.call29 rfl rfl (fun w1 H1 => Own.calln H1 fun D' hold hin H2 => (Need_spec D' w1 n)) ?_
  refine hl_val (ov_move rfl) rfl rfl rfl <| ?_
  refine hl_val (ov_add rfl rfl hn1) rfl rfl rfl ?_
  refine hl_c Try.call29 rfl rfl (fun w1 H1 => Own.calln H1 fun D' hold hin H2 => (Need_spec D' w1 n1)) ?_
  refine hl_val (ov_assign rfl) rfl rfl rfl <|
    hl_val (ov_assign rfl) rfl rfl rfl <|
    hl_nil <|
    hx_then_normal <|
    hc_seq <|
    hc_seq <| ?_
  refine hc_region <|
    hl_val (ov_move rfl) rfl rfl rfl <|
    hl_val (ov_lss rfl rfl) rfl rfl rfl <|
    hl_val (ov_move rfl) rfl rfl rfl <| ?_
  refine hl_part (t := 12) rfl (fun h1 => ?_) (fun h1 => ?_)
  · have hz : needN n = 0 := by unfold needN; rw [if_pos (.inl h1)]
    refine hl_off rfl rfl rfl rfl rfl rfl <|
      hl_off rfl rfl rfl rfl rfl rfl <|
      hl_val (ov_pickT rfl rfl) rfl rfl rfl <|
      hl_nil <|
      hx_then_normal <|
      hc_cond_true rfl <| ?_
    refine hc_seq <|
      hc_region <|
      hl_val (ov_move rfl) rfl rfl rfl <|
      hl_val (ov_eql rfl rfl) rfl rfl rfl <|
      hl_val (ov_move rfl) rfl rfl rfl <| ?_
    refine hl_partT (t := 18) rfl (hz) ?_
    refine hl_on rfl rfl <| hl_c Try.call27 rfl rfl (fun w1 H1 => Own.calln H1 fun D' hold hin H2 => wakes_spec D' w1) ?_
    refine hl_val (ov_pickT rfl rfl) rfl rfl rfl <|
      hl_val (ov_assign rfl) rfl rfl rfl <|
      hl_nil <|
      hx_then_normal <|
      hc_ret <|
      hx_then_ret <| ?_
    exact results_1 (.inr rfl) rfl rfl fun w' H' => ⟨rfl, H'.ent (Ent.nil _)⟩
  · refine hl_on rfl rfl <| hl_val (ov_move rfl) rfl rfl rfl <|
      hl_on rfl rfl <| hl_val (ov_gtr rfl rfl) rfl rfl rfl <|
      hl_val (ov_pickF rfl rfl) rfl rfl rfl <|
      hl_nil <|
      hx_then_normal <| ?_
    refine hc_cond rfl (fun h2 => ?_) (fun h2 => ?_)
    · have hz : needN n = 0 := by unfold needN; rw [if_pos (.inr h2)]
      refine hc_seq <|
        hc_region <|
        hl_val (ov_move rfl) rfl rfl rfl <|
        hl_val (ov_eql rfl rfl) rfl rfl rfl <|
        hl_val (ov_move rfl) rfl rfl rfl <| ?_
      refine hl_partT (t := 18) rfl (hz) ?_
      refine hl_on rfl rfl <| hl_c Try.call27 rfl rfl (fun w1 H1 => Own.calln H1 fun D' hold hin H2 => wakes_spec D' w1) ?_
      refine hl_val (ov_pickT rfl rfl) rfl rfl rfl <|
        hl_val (ov_assign rfl) rfl rfl rfl <|
        hl_nil <|
        hx_then_normal <|
        hc_ret <|
        hx_then_ret <| ?_
      exact results_1 (.inr rfl) rfl rfl fun w' H' => ⟨rfl, H'.ent (Ent.nil _)⟩
    · have ha : needN n = (n + 77) / 63 := by unfold needN; rw [if_neg (by omega)]
      obtain ⟨a, haa⟩ : ∃ a, needN n = a := ⟨_, rfl⟩
      obtain ⟨b, hbb⟩ : ∃ b, needN n1 = b := ⟨_, rfl⟩
      rw [haa] at ha
      rw [haa, hbb]
      refine hc_skip <|
        hx_then_normal <|
        hc_seq <|
        hc_seq <|
        hc_region <|
        hl_val (ov_move rfl) rfl rfl rfl <| ?_
      refine hl_val (ov_lss rfl rfl) rfl rfl rfl <|
        hl_val (ov_move rfl) rfl rfl rfl <| ?_
      refine hl_part (t := 23) rfl (fun h3 => ?_) (fun h3 => ?_)
      · have hb : b = (n + 78) / 63 := by
          have e1 : n1 = n + 1 := by rw [← hn1]; exact wrap_i64 (by omega)
          rw [← hbb, e1]; unfold needN; rw [if_neg (by omega)]; omega
        refine hl_on rfl rfl <| hl_val (ov_move rfl) rfl rfl rfl <|
          hl_on rfl rfl <| hl_val (ov_move rfl) rfl rfl rfl <|
          hl_on rfl rfl <| hl_val (ov_neq rfl rfl) rfl rfl rfl <|
          hl_val (ov_pickT rfl rfl) rfl rfl rfl <|
          hl_val (ov_move rfl) rfl rfl rfl <| ?_
        refine hl_part (t := 28) rfl (fun h4 => ?_) (fun h4 => ?_)
        · refine hl_on rfl rfl <| hl_val (ov_move rfl) rfl rfl rfl <|
            hl_on rfl rfl <| hl_val (ov_move rfl) rfl rfl rfl <|
            hl_on rfl rfl <| hl_val (ov_add rfl rfl (by first | exact wrap_i64 (by omega) | rfl)) rfl rfl rfl <| ?_
          refine hl_on rfl rfl <| hl_val (ov_neq rfl rfl) rfl rfl rfl <|
            hl_val (ov_pickT rfl rfl) rfl rfl rfl <|
            hl_nil <|
            hx_then_normal <| ?_
          refine hc_cond_F rfl (by omega) ?_
          refine hc_skip <|
            hx_then_normal <|
            hc_seq <|
            hc_region <|
            hl_val (ov_move rfl) rfl rfl rfl <|
            hl_val (ov_mul rfl rfl (by first | exact wrap_i64 (by omega) | rfl)) rfl rfl rfl <| ?_
          refine hl_val (ov_move rfl) rfl rfl rfl <|
            hl_val (ov_add rfl rfl (by first | exact wrap_i64 (by omega) | rfl)) rfl rfl rfl <| ?_
          refine hl_val (ov_geq rfl rfl) rfl rfl rfl <|
            hl_val (ov_move rfl) rfl rfl rfl <| ?_
          refine hl_partT (t := 39) rfl (by omega) ?_
          refine hl_on rfl rfl <| hl_val (ov_move rfl) rfl rfl rfl <|
            hl_on rfl rfl <| hl_val (ov_sub rfl rfl (by first | exact wrap_i64 (by omega) | rfl)) rfl rfl rfl <| ?_
          refine hl_on rfl rfl <| hl_val (ov_mul rfl rfl (by first | exact wrap_i64 (by omega) | rfl)) rfl rfl rfl <| ?_
          refine hl_on rfl rfl <| hl_val (ov_move rfl) rfl rfl rfl <|
            hl_on rfl rfl <| hl_val (ov_add rfl rfl (by first | exact wrap_i64 (by omega) | rfl)) rfl rfl rfl <| ?_
          refine hl_on rfl rfl <| hl_val (ov_lss rfl rfl) rfl rfl rfl <|
            hl_val (ov_pickT rfl rfl) rfl rfl rfl <|
            hl_val (ov_move rfl) rfl rfl rfl <| ?_
          refine hl_partT (t := 47) rfl (by omega) ?_
          refine hl_on rfl rfl <| hl_c Try.call27 rfl rfl (fun w1 H1 => Own.calln H1 fun D' hold hin H2 => wakes_spec D' w1) ?_
          refine hl_val (ov_pickT rfl rfl) rfl rfl rfl <|
            hl_val (ov_assign rfl) rfl rfl rfl <|
            hl_nil <|
            hx_then_normal <|
            hc_ret <| ?_
          exact results_1 (.inr rfl) rfl rfl fun w' H' => ⟨rfl, H'.ent (Ent.nil _)⟩
        · refine hl_off rfl rfl rfl rfl rfl rfl <|
            hl_off rfl rfl rfl rfl rfl rfl <|
            hl_off rfl rfl rfl rfl rfl rfl <|
            hl_off rfl rfl rfl rfl rfl rfl <|
            hl_val (ov_pickF rfl rfl) rfl rfl rfl <|
            hl_nil <| ?_
          refine hx_then_normal <|
            hc_cond_false rfl <|
            hc_skip <|
            hx_then_normal <|
            hc_seq <|
            hc_region <| ?_
          refine hl_val (ov_move rfl) rfl rfl rfl <|
            hl_val (ov_mul rfl rfl (by first | exact wrap_i64 (by omega) | rfl)) rfl rfl rfl <| ?_
          refine hl_val (ov_move rfl) rfl rfl rfl <|
            hl_val (ov_add rfl rfl (by first | exact wrap_i64 (by omega) | rfl)) rfl rfl rfl <| ?_
          refine hl_val (ov_geq rfl rfl) rfl rfl rfl <|
            hl_val (ov_move rfl) rfl rfl rfl <| ?_
          refine hl_partT (t := 39) rfl (by omega) ?_
          refine hl_on rfl rfl <| hl_val (ov_move rfl) rfl rfl rfl <|
            hl_on rfl rfl <| hl_val (ov_sub rfl rfl (by first | exact wrap_i64 (by omega) | rfl)) rfl rfl rfl <| ?_
          refine hl_on rfl rfl <| hl_val (ov_mul rfl rfl (by first | exact wrap_i64 (by omega) | rfl)) rfl rfl rfl <| ?_
          refine hl_on rfl rfl <| hl_val (ov_move rfl) rfl rfl rfl <|
            hl_on rfl rfl <| hl_val (ov_add rfl rfl (by first | exact wrap_i64 (by omega) | rfl)) rfl rfl rfl <| ?_
          refine hl_on rfl rfl <| hl_val (ov_lss rfl rfl) rfl rfl rfl <|
            hl_val (ov_pickT rfl rfl) rfl rfl rfl <|
            hl_val (ov_move rfl) rfl rfl rfl <| ?_
          refine hl_partT (t := 47) rfl (by omega) ?_
          refine hl_on rfl rfl <| hl_c Try.call27 rfl rfl (fun w1 H1 => Own.calln H1 fun D' hold hin H2 => wakes_spec D' w1) ?_
          refine hl_val (ov_pickT rfl rfl) rfl rfl rfl <|
            hl_val (ov_assign rfl) rfl rfl rfl <|
            hl_nil <|
            hx_then_normal <|
            hc_ret <| ?_
          exact results_1 (.inr rfl) rfl rfl fun w' H' => ⟨rfl, H'.ent (Ent.nil _)⟩
      · refine hl_off rfl rfl rfl rfl rfl rfl <|
          hl_off rfl rfl rfl rfl rfl rfl <|
          hl_off rfl rfl rfl rfl rfl rfl <|
          hl_val (ov_pickF rfl rfl) rfl rfl rfl <|
          hl_val (ov_move rfl) rfl rfl rfl <|
          hl_off rfl rfl rfl rfl rfl rfl <| ?_
        refine hl_off rfl rfl rfl rfl rfl rfl <|
          hl_off rfl rfl rfl rfl rfl rfl <|
          hl_off rfl rfl rfl rfl rfl rfl <|
          hl_val (ov_pickF rfl rfl) rfl rfl rfl <|
          hl_nil <|
          hx_then_normal <| ?_
        refine hc_cond_false rfl <|
          hc_skip <|
          hx_then_normal <|
          hc_seq <|
          hc_region <|
          hl_val (ov_move rfl) rfl rfl rfl <| ?_
        refine hl_val (ov_mul rfl rfl (by first | exact wrap_i64 (by omega) | rfl)) rfl rfl rfl <| ?_
        refine hl_val (ov_move rfl) rfl rfl rfl <|
          hl_val (ov_add rfl rfl (by first | exact wrap_i64 (by omega) | rfl)) rfl rfl rfl <| ?_
        refine hl_val (ov_geq rfl rfl) rfl rfl rfl <|
          hl_val (ov_move rfl) rfl rfl rfl <| ?_
        refine hl_partT (t := 39) rfl (by omega) ?_
        refine hl_on rfl rfl <| hl_val (ov_move rfl) rfl rfl rfl <|
          hl_on rfl rfl <| hl_val (ov_sub rfl rfl (by first | exact wrap_i64 (by omega) | rfl)) rfl rfl rfl <| ?_
        refine hl_on rfl rfl <| hl_val (ov_mul rfl rfl (by first | exact wrap_i64 (by omega) | rfl)) rfl rfl rfl <| ?_
        refine hl_on rfl rfl <| hl_val (ov_move rfl) rfl rfl rfl <|
          hl_on rfl rfl <| hl_val (ov_add rfl rfl (by first | exact wrap_i64 (by omega) | rfl)) rfl rfl rfl <| ?_
        refine hl_on rfl rfl <| hl_val (ov_lss rfl rfl) rfl rfl rfl <|
          hl_val (ov_pickT rfl rfl) rfl rfl rfl <|
          hl_val (ov_move rfl) rfl rfl rfl <| ?_
        refine hl_partT (t := 47) rfl (by omega) ?_
        refine hl_on rfl rfl <| hl_c Try.call27 rfl rfl (fun w1 H1 => Own.calln H1 fun D' hold hin H2 => wakes_spec D' w1) ?_
        refine hl_val (ov_pickT rfl rfl) rfl rfl rfl <|
          hl_val (ov_assign rfl) rfl rfl rfl <|
          hl_nil <|
          hx_then_normal <|
          hc_ret <| ?_
        exact results_1 (.inr rfl) rfl rfl fun w' H' => ⟨rfl, H'.ent (Ent.nil _)⟩
end Go.Proofs.Ytnnhopjnpplfcaa
