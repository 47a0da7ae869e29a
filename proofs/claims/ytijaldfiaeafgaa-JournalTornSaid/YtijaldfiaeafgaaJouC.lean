import Derived.Test.YtijaldfiaeafgaaJouB
set_option linter.unusedVariables false
set_option linter.unusedSimpArgs false
namespace Go.Proofs.Ytijaldfiaeafgaa
open Slk
abbrev LLb := List (List UInt8)
abbrev TornT := LLb × List UInt8 × Bool × List Bool × LLb
instance : ReadsAs Try.prog 94 TornT := ReadsAs.structG 0 (by kernel_rfl) rfl (ReadsG.cons 0 (ReadsG.cons 1 (ReadsG.cons 2 (ReadsG.cons 3 (ReadsG.last 4 (by decide))))))
theorem torn_args {D : Nat → Prop} {w0 : World} {x : TornT} {cs : List Value} (k : Old D w0 (Rep.rep x cs)) : ∃ v1 v2 v4 v5 : Value, cs = [v1, v2, .bool x.2.2.1, v4, v5] ∧ Old D w0 (Rep.rep x.1 [v1]) ∧ Old D w0 (Rep.rep x.2.1 [v2]) ∧ Old D w0 (Rep.rep x.2.2.2.1 [v4]) ∧ Old D w0 (Rep.rep x.2.2.2.2 [v5]) := by
  obtain ⟨h, hh, c1, c2, rfl, r1, c3, c4, rfl, r2, c5, c6, rfl, r3, c7, c8, rfl, r4, r5⟩ := k
  have r3 : c5 = [.bool x.2.2.1] := r3
  subst r3
  obtain ⟨A1, k1, rfl, q1⟩ := r1
  obtain ⟨A2, k2, rfl, q2⟩ := r2
  obtain ⟨A4, k4, rfl, q4⟩ := r4
  obtain ⟨A5, k5, rfl, q5⟩ := r5
  exact ⟨_, _, _, _, rfl, ⟨h, hh, A1, k1, rfl, q1⟩, ⟨h, hh, A2, k2, rfl, q2⟩, ⟨h, hh, A4, k4, rfl, q4⟩, ⟨h, hh, A5, k5, rfl, q5⟩⟩
theorem ll_open {D : Nat → Prop} {w0 : World} {xs : LLb} {v : Value} (k : Old D w0 (Rep.rep xs [v])) : ∃ A cap, v = .slice A xs.length cap ∧ ∀ i (hi : i < xs.length), isA A ∧ ∃ B cb, Old D w0 (Rep.rep xs[i] [.slice B xs[i].length cb]) ∧ ∀ l, CellIs D w0 l (ab A) (ao A + i * 1) (.slice B xs[i].length cb) := by
  obtain ⟨A, cap, rfl, _, _, hel⟩ := k.openX (by decide)
  refine ⟨A, cap, rfl, fun i hi => ?_⟩
  obtain ⟨hA, cs, hxo, hcs⟩ := hel i hi
  obtain ⟨B, cb, rfl, hxo⟩ := bytes_open hxo
  exact ⟨hA, B, cb, hxo, fun l => hcs 0 _ rfl l⟩
set_option maxHeartbeats 8000000 in
theorem JournalTorn_walk (W : World) (c0 : List Value) (v1 : Value) (x : TornT) (old : LLb) (h0 : Old none' W (Rep.rep x c0)) (h1 : Old none' W (Rep.rep old [v1])) :
    Calls Try.prog 12 #[.agg c0.toArray, v1] W fun e w' => e = .returned (.bool true) ∧ Own none' W w' [] := by
  obtain ⟨va, vc, vk, vt, rfl, hoa, hoc, hok, hot⟩ := torn_args h0
  obtain ⟨ahead, cut, half, keep, thn⟩ := x
  dsimp only at hoa hoc hok hot h0 ⊢
  obtain ⟨A1, cap1, rfl, hahead⟩ := ll_open hoa
  obtain ⟨A2, cap2, rfl, hthen⟩ := ll_open hot
  obtain ⟨A3, cap3, rfl, hold3⟩ := ll_open h1
  obtain ⟨C, capC, rfl, _, _, _⟩ := hoc.openB
  obtain ⟨K, capK, ks, rfl, _, _, HSk, hskl, honek, hrepk, hkel⟩ := hok.openES rfl
  obtain ⟨S0, hS0⟩ : ∃ S, S = List.replicate 140 zeroSec := ⟨_, rfl⟩
  have hl0 : S0.length = 140 := by rw [hS0]; exact List.length_replicate
  have hT : ∀ S : List Sec, S.length = 140 → S = (S.drop 0).take 140 := fun S h => by rw [List.drop_zero, List.take_of_length_le (by omega)]
  have hop : ∀ (ep : Nat) (S : List Sec) (L : LLb) (k : Nat), S.length = 140 → JI S ep L k → ep < 4294967296 → entsF ep 140 0 S = (L, k) := fun ep S L k h hj he => by
    have := hj.open he (by omega)
    rw [h] at this; exact this
  have hJ0 : JI S0 1 [] 0 := by rw [hS0]; exact JI.begin noHead_zero
  have e0 := hop 1 S0 [] 0 hl0 hJ0 (by decide)
  have hf0 : noHead 2 S0 := by rw [hS0]; exact noHead_zero
  refine hc_enter (vs := [.agg #[.slice A1 ahead.length cap1, .slice C cut.length capC, .bool half, .slice K keep.length capK, .slice A2 thn.length cap2], .slice A3 old.length cap3]) Try.func12 rfl _ Try.ntmps12 rfl (Own.start none' W) ?_
  simp only [argSlots, Nat.zero_add]
  refine hc_seq <| hc_region <| ?_
  refine hl_new (on_boxG (cs := [.slice A1 ahead.length cap1, .slice C cut.length capC, .bool half, .slice K keep.length capK, .slice A2 thn.length cap2]) rfl) rfl rfl rfl (fun b2 => ?_)
  obtain ⟨TC, hTC⟩ : ∃ TC : List Value, TC = [.slice A1 ahead.length cap1, .slice C cut.length capC, .bool half, .slice K keep.length capK, .slice A2 thn.length cap2] := ⟨_, rfl⟩
  refine hl_v (ov_assign rfl) rfl <| hl_nil <| hx_then_normal <| hc_seq <| hc_seq <| hc_region <| ?_
  refine hl_v (ov_fieldA rfl) rfl <| hl_v (ov_load rfl (CellIs.blk rfl)) rfl <| hl_v (by first | exact ov_len rfl | exact ov_lenS rfl) rfl <| ?_
  refine hl_v (ov_gtr rfl rfl) rfl <| hl_v (ov_move rfl) rfl <| ?_
  refine hl_part (t := 33) rfl (fun a1 => ?_) (fun a1 => ?_)
  · refine hl_off rfl rfl rfl rfl rfl rfl <| hl_off rfl rfl rfl rfl rfl rfl <| hl_off rfl rfl rfl rfl rfl rfl <| hl_off rfl rfl rfl rfl rfl rfl <| hl_v (ov_pickT rfl rfl) rfl <| hl_v (ov_move rfl) rfl <| ?_
    refine hl_off rfl rfl rfl rfl rfl rfl <| hl_off rfl rfl rfl rfl rfl rfl <| hl_off rfl rfl rfl rfl rfl rfl <| hl_v (ov_pickT rfl rfl) rfl <| hl_v (ov_move rfl) rfl <| hl_off rfl rfl rfl rfl rfl rfl <| ?_
    refine hl_off rfl rfl rfl rfl rfl rfl <| hl_off rfl rfl rfl rfl rfl rfl <| hl_off rfl rfl rfl rfl rfl rfl <| hl_v (ov_pickT rfl rfl) rfl <| hl_v (ov_move rfl) rfl <| hl_off rfl rfl rfl rfl rfl rfl <| ?_
    refine hl_off rfl rfl rfl rfl rfl rfl <| hl_off rfl rfl rfl rfl rfl rfl <| hl_off rfl rfl rfl rfl rfl rfl <| hl_v (ov_pickT rfl rfl) rfl <| hl_nil <| hx_then_normal <| ?_
    refine hc_cond_true rfl <| hc_seq <| hc_region <| ?_
    refine hl_c Try.call29 rfl rfl (fun w1 H1 => Own.calln H1 fun D' hold hin H2 => wakes4_spec D' w1) ?_
    refine hl_v (ov_assign rfl) rfl <| hl_nil <| hx_then_normal <| hc_ret <| hx_then_ret <| ?_
    exact results_1 (.inr rfl) rfl rfl fun w' H' => ⟨rfl, H'.ent (Ent.nil _)⟩
  refine hl_on rfl rfl <| hl_v (ov_fieldA rfl) rfl <| hl_on rfl rfl <| hl_v (ov_load rfl (CellIs.blk rfl)) rfl <| hl_on rfl rfl <| hl_v (by first | exact ov_len rfl | exact ov_lenS rfl) rfl <| ?_
  refine hl_on rfl rfl <| hl_v (ov_gtr rfl rfl) rfl <| hl_v (ov_pickF rfl rfl) rfl <| hl_v (ov_move rfl) rfl <| ?_
  refine hl_part (t := 39) rfl (fun a2 => ?_) (fun a2 => ?_)
  · refine hl_off rfl rfl rfl rfl rfl rfl <| hl_off rfl rfl rfl rfl rfl rfl <| hl_off rfl rfl rfl rfl rfl rfl <| hl_v (ov_pickT rfl rfl) rfl <| hl_v (ov_move rfl) rfl <| hl_off rfl rfl rfl rfl rfl rfl <| ?_
    refine hl_off rfl rfl rfl rfl rfl rfl <| hl_off rfl rfl rfl rfl rfl rfl <| hl_off rfl rfl rfl rfl rfl rfl <| hl_v (ov_pickT rfl rfl) rfl <| hl_v (ov_move rfl) rfl <| hl_off rfl rfl rfl rfl rfl rfl <| ?_
    refine hl_off rfl rfl rfl rfl rfl rfl <| hl_off rfl rfl rfl rfl rfl rfl <| hl_off rfl rfl rfl rfl rfl rfl <| hl_v (ov_pickT rfl rfl) rfl <| hl_nil <| hx_then_normal <| ?_
    refine hc_cond_true rfl <| hc_seq <| hc_region <| ?_
    refine hl_c Try.call29 rfl rfl (fun w1 H1 => Own.calln H1 fun D' hold hin H2 => wakes4_spec D' w1) ?_
    refine hl_v (ov_assign rfl) rfl <| hl_nil <| hx_then_normal <| hc_ret <| hx_then_ret <| ?_
    exact results_1 (.inr rfl) rfl rfl fun w' H' => ⟨rfl, H'.ent (Ent.nil _)⟩
  refine hl_on rfl rfl <| hl_v (ov_move rfl) rfl <| hl_on rfl rfl <| hl_v (by first | exact ov_len rfl | exact ov_lenS rfl) rfl <| ?_
  refine hl_on rfl rfl <| hl_v (ov_gtr rfl rfl) rfl <| hl_v (ov_pickF rfl rfl) rfl <| hl_v (ov_move rfl) rfl <| ?_
  refine hl_part (t := 44) rfl (fun a3 => ?_) (fun a3 => ?_)
  · refine hl_off rfl rfl rfl rfl rfl rfl <| hl_off rfl rfl rfl rfl rfl rfl <| hl_off rfl rfl rfl rfl rfl rfl <| hl_off rfl rfl rfl rfl rfl rfl <| hl_v (ov_pickT rfl rfl) rfl <| hl_v (ov_move rfl) rfl <| ?_
    refine hl_off rfl rfl rfl rfl rfl rfl <| hl_off rfl rfl rfl rfl rfl rfl <| hl_off rfl rfl rfl rfl rfl rfl <| hl_off rfl rfl rfl rfl rfl rfl <| hl_v (ov_pickT rfl rfl) rfl <| hl_nil <| ?_
    refine hx_then_normal <| hc_cond_true rfl <| hc_seq <| hc_region <| ?_
    refine hl_c Try.call29 rfl rfl (fun w1 H1 => Own.calln H1 fun D' hold hin H2 => wakes4_spec D' w1) ?_
    refine hl_v (ov_assign rfl) rfl <| hl_nil <| hx_then_normal <| hc_ret <| hx_then_ret <| ?_
    exact results_1 (.inr rfl) rfl rfl fun w' H' => ⟨rfl, H'.ent (Ent.nil _)⟩
  refine hl_on rfl rfl <| hl_v (ov_fieldA rfl) rfl <| hl_on rfl rfl <| hl_v (ov_load rfl (CellIs.blk rfl)) rfl <| hl_on rfl rfl <| hl_v (by first | exact ov_len rfl | exact ov_lenS rfl) rfl <| ?_
  refine hl_on rfl rfl <| hl_v (ov_gtr rfl rfl) rfl <| hl_v (ov_pickF rfl rfl) rfl <| hl_v (ov_move rfl) rfl <| ?_
  refine hl_part (t := 50) rfl (fun a4 => ?_) (fun a4 => ?_)
  · refine hl_off rfl rfl rfl rfl rfl rfl <| hl_off rfl rfl rfl rfl rfl rfl <| hl_off rfl rfl rfl rfl rfl rfl <| hl_off rfl rfl rfl rfl rfl rfl <| hl_v (ov_pickT rfl rfl) rfl <| hl_nil <| ?_
    refine hx_then_normal <| hc_cond_true rfl <| hc_seq <| hc_region <| ?_
    refine hl_c Try.call29 rfl rfl (fun w1 H1 => Own.calln H1 fun D' hold hin H2 => wakes4_spec D' w1) ?_
    refine hl_v (ov_assign rfl) rfl <| hl_nil <| hx_then_normal <| hc_ret <| hx_then_ret <| ?_
    exact results_1 (.inr rfl) rfl rfl fun w' H' => ⟨rfl, H'.ent (Ent.nil _)⟩
  refine hl_on rfl rfl <| hl_v (ov_fieldA rfl) rfl <| hl_on rfl rfl <| hl_v (ov_load rfl (CellIs.blk rfl)) rfl <| hl_on rfl rfl <| hl_v (by first | exact ov_len rfl | exact ov_lenS rfl) rfl <| ?_
  refine hl_on rfl rfl <| hl_v (ov_gtr rfl rfl) rfl <| hl_v (ov_pickF rfl rfl) rfl <| hl_nil <| hx_then_normal <| ?_
  refine hc_cond rfl (fun a5 => ?_) (fun a5 => ?_)
  · refine hc_seq <| hc_region <| ?_
    refine hl_c Try.call29 rfl rfl (fun w1 H1 => Own.calln H1 fun D' hold hin H2 => wakes4_spec D' w1) ?_
    refine hl_v (ov_assign rfl) rfl <| hl_nil <| hx_then_normal <| hc_ret <| hx_then_ret <| ?_
    exact results_1 (.inr rfl) rfl rfl fun w' H' => ⟨rfl, H'.ent (Ent.nil _)⟩
  refine hc_skip <| hx_then_normal <| hc_seq <| hc_seq <| hc_region <| hl_v (ov_assign rfl) rfl <| ?_
  refine hl_nil <| hx_then_normal <| hc_block <| ?_
  refine hc_loops1 (σ := Nat) [1, 2] rfl 5 (fun i => .int .i64 (i : Int)) (fun i => i ≤ 6 ∧ (∀ x ∈ ahead.take i, x.length ≤ 300) ∧ (∀ x ∈ thn.take i, x.length ≤ 300) ∧ (∀ x ∈ old.take i, x.length ≤ 300)) (fun i => 6 - i) (0) (⟨Nat.zero_le _, (fun x hx => by simp at hx), (fun x hx => by simp at hx), (fun x hx => by simp at hx)⟩) rfl ?_
  rintro i ⟨hi6, s1, s2, s3⟩ K1 hK1
  refine hc_seq <| hc_seq <| hc_region <| hl_v (ov_move rfl) rfl <| hl_v (ov_lss rfl rfl) rfl <| hl_nil <| ?_
  refine hx_then_normal <| ?_
  refine hc_cond rfl (fun hlt => ?_) (fun hlt => ?_)
  · have hlt : i < 6 := by omega
    refine hc_skip <| hx_then_normal <| hc_seq <| hc_block <| hc_seq <| hc_region <| ?_
    refine hl_v (ov_move rfl) rfl <| hl_v (ov_fieldA rfl) rfl <| hl_v (ov_load rfl (CellIs.blk rfl)) rfl <| hl_v (by first | exact ov_len rfl | exact ov_lenS rfl) rfl <| ?_
    refine hl_v (ov_lss rfl rfl) rfl <| hl_v (ov_move rfl) rfl <| ?_
    refine hl_part (t := 66) rfl (fun p1 => ?_) (fun p1 => ?_)
    · obtain ⟨hA1, B1, cb1, _, hcell1⟩ := hahead i (by omega)
      refine hl_on rfl rfl <| hl_v (ov_fieldA rfl) rfl <| hl_on rfl rfl <| hl_v (ov_load rfl (CellIs.blk rfl)) rfl <| hl_on rfl rfl <| hl_v (ov_move rfl) rfl <| ?_
      refine hl_on rfl rfl <| hl_v (ov_idxS rfl hA1 rfl i rfl (by omega)) rfl ?_
      refine hl_on rfl rfl <| hl_v (ov_load rfl (hcell1 _)) rfl ?_
      refine hl_on rfl rfl <| hl_v (by first | exact ov_len rfl | exact ov_lenS rfl) rfl <| ?_
      refine hl_on rfl rfl <| hl_v (ov_gtr rfl rfl) rfl <| hl_v (ov_pickT rfl rfl) rfl <| hl_v (ov_move rfl) rfl <| ?_
      refine hl_part (t := 75) rfl (fun q1 => ?_) (fun q1 => ?_)
      · refine hl_off rfl rfl rfl rfl rfl rfl <| hl_off rfl rfl rfl rfl rfl rfl <| hl_off rfl rfl rfl rfl rfl rfl <| hl_off rfl rfl rfl rfl rfl rfl <| hl_off rfl rfl rfl rfl rfl rfl <| hl_off rfl rfl rfl rfl rfl rfl <| ?_
        refine hl_offU rfl rfl rfl rfl rfl <| hl_offU rfl rfl rfl rfl rfl <| hl_offU rfl rfl rfl rfl rfl <| hl_offU rfl rfl rfl rfl rfl <| hl_offU rfl rfl rfl rfl rfl <| hl_offU rfl rfl rfl rfl rfl <| ?_
        refine hl_offU rfl rfl rfl rfl rfl <| hl_off rfl rfl rfl rfl rfl rfl <| hl_v (ov_pickT rfl rfl) rfl <| hl_v (ov_move rfl) rfl <| hl_off rfl rfl rfl rfl rfl rfl <| hl_off rfl rfl rfl rfl rfl rfl <| ?_
        refine hl_off rfl rfl rfl rfl rfl rfl <| hl_off rfl rfl rfl rfl rfl rfl <| hl_off rfl rfl rfl rfl rfl rfl <| hl_offU rfl rfl rfl rfl rfl <| hl_offU rfl rfl rfl rfl rfl <| hl_offU rfl rfl rfl rfl rfl <| ?_
        refine hl_offU rfl rfl rfl rfl rfl <| hl_offU rfl rfl rfl rfl rfl <| hl_offU rfl rfl rfl rfl rfl <| hl_off rfl rfl rfl rfl rfl rfl <| hl_v (ov_pickT rfl rfl) rfl <| hl_nil <| ?_
        refine hx_then_normal <| hc_cond_true rfl <| hc_seq <| hc_region <| ?_
        refine hl_c Try.call29 rfl rfl (fun w1 H1 => Own.calln H1 fun D' hold hin H2 => wakes4_spec D' w1) ?_
        refine hl_v (ov_assign rfl) rfl <| hl_nil <| hx_then_normal <| hc_ret <| hx_block_ret <| hx_then_ret <| ?_
        refine hx_then_ret <| hx_block_ret <| hx_then_ret <| ?_
        exact results_1 (.inr rfl) rfl rfl fun w' H' => ⟨rfl, H'.ent (Ent.nil _)⟩
      have h1x : ∀ hi : i < ahead.length, ahead[i].length ≤ 300 := fun _ => by omega
      refine hl_on rfl rfl <| hl_v (ov_move rfl) rfl <| hl_on rfl rfl <| hl_v (ov_fieldA rfl) rfl <| hl_on rfl rfl <| hl_v (ov_load rfl (CellIs.blk rfl)) rfl <| hl_on rfl rfl <| hl_v (by first | exact ov_len rfl | exact ov_lenS rfl) rfl <| ?_
      refine hl_on rfl rfl <| hl_v (ov_lss rfl rfl) rfl <| hl_on rfl rfl <| hl_v (ov_move rfl) rfl <| ?_
      refine hl_part (t := 81) rfl (fun p2 => ?_) (fun p2 => ?_)
      · obtain ⟨hA2, B2, cb2, _, hcell2⟩ := hthen i (by omega)
        refine hl_on rfl rfl <| hl_v (ov_fieldA rfl) rfl <| hl_on rfl rfl <| hl_v (ov_load rfl (CellIs.blk rfl)) rfl <| hl_on rfl rfl <| hl_v (ov_move rfl) rfl <| ?_
        refine hl_on rfl rfl <| hl_v (ov_idxS rfl hA2 rfl i rfl (by omega)) rfl ?_
        refine hl_on rfl rfl <| hl_v (ov_load rfl (hcell2 _)) rfl ?_
        refine hl_on rfl rfl <| hl_v (by first | exact ov_len rfl | exact ov_lenS rfl) rfl <| ?_
        refine hl_on rfl rfl <| hl_v (ov_gtr rfl rfl) rfl <| hl_on rfl rfl <| hl_v (ov_pickT rfl rfl) rfl <| hl_v (ov_pickF rfl rfl) rfl <| hl_v (ov_move rfl) rfl <| ?_
        refine hl_part (t := 91) rfl (fun q2 => ?_) (fun q2 => ?_)
        · refine hl_off rfl rfl rfl rfl rfl rfl <| hl_off rfl rfl rfl rfl rfl rfl <| hl_off rfl rfl rfl rfl rfl rfl <| hl_off rfl rfl rfl rfl rfl rfl <| hl_off rfl rfl rfl rfl rfl rfl <| hl_offU rfl rfl rfl rfl rfl <| ?_
          refine hl_offU rfl rfl rfl rfl rfl <| hl_offU rfl rfl rfl rfl rfl <| hl_offU rfl rfl rfl rfl rfl <| hl_offU rfl rfl rfl rfl rfl <| hl_offU rfl rfl rfl rfl rfl <| hl_off rfl rfl rfl rfl rfl rfl <| ?_
          refine hl_v (ov_pickT rfl rfl) rfl <| hl_nil <| hx_then_normal <| hc_cond_true rfl <| hc_seq <| hc_region <| ?_
          refine hl_c Try.call29 rfl rfl (fun w1 H1 => Own.calln H1 fun D' hold hin H2 => wakes4_spec D' w1) ?_
          refine hl_v (ov_assign rfl) rfl <| hl_nil <| hx_then_normal <| hc_ret <| hx_block_ret <| hx_then_ret <| ?_
          refine hx_then_ret <| hx_block_ret <| hx_then_ret <| ?_
          exact results_1 (.inr rfl) rfl rfl fun w' H' => ⟨rfl, H'.ent (Ent.nil _)⟩
        have h2x : ∀ hi : i < thn.length, thn[i].length ≤ 300 := fun _ => by omega
        refine hl_on rfl rfl <| hl_v (ov_move rfl) rfl <| hl_on rfl rfl <| hl_v (ov_move rfl) rfl <| hl_on rfl rfl <| hl_v (by first | exact ov_len rfl | exact ov_lenS rfl) rfl <| ?_
        refine hl_on rfl rfl <| hl_v (ov_lss rfl rfl) rfl <| hl_on rfl rfl <| hl_v (ov_move rfl) rfl <| ?_
        refine hl_part (t := 96) rfl (fun p3 => ?_) (fun p3 => ?_)
        · obtain ⟨hA3, B3, cb3, _, hcell3⟩ := hold3 i (by omega)
          refine hl_on rfl rfl <| hl_v (ov_move rfl) rfl <| hl_on rfl rfl <| hl_v (ov_move rfl) rfl <| ?_
          refine hl_on rfl rfl <| hl_v (ov_idxS rfl hA3 rfl i rfl (by omega)) rfl ?_
          refine hl_on rfl rfl <| hl_v (ov_load rfl (hcell3 _)) rfl ?_
          refine hl_on rfl rfl <| hl_v (by first | exact ov_len rfl | exact ov_lenS rfl) rfl <| ?_
          refine hl_on rfl rfl <| hl_v (ov_gtr rfl rfl) rfl <| hl_on rfl rfl <| hl_v (ov_pickT rfl rfl) rfl <| hl_v (ov_pickF rfl rfl) rfl <| hl_nil <| hx_then_normal <| ?_
          refine hc_cond rfl (fun q3 => ?_) (fun q3 => ?_)
          · refine hc_seq <| hc_region <| ?_
            refine hl_c Try.call29 rfl rfl (fun w1 H1 => Own.calln H1 fun D' hold hin H2 => wakes4_spec D' w1) ?_
            refine hl_v (ov_assign rfl) rfl <| hl_nil <| hx_then_normal <| hc_ret <| hx_block_ret <| hx_then_ret <| ?_
            refine hx_then_ret <| hx_block_ret <| hx_then_ret <| ?_
            exact results_1 (.inr rfl) rfl rfl fun w' H' => ⟨rfl, H'.ent (Ent.nil _)⟩
          refine hc_skip <| hx_block_normal <| hx_then_normal <| hc_region <| hl_v (ov_move rfl) rfl <| hl_v (ov_add rfl rfl (by first | exact wrap_i64 (by omega) | rfl)) rfl <| ?_
          refine hl_v (ov_assign rfl) rfl <| hl_nil <| ?_
          refine hx_next hK1 (i + 1) (⟨by omega, small_next s1 h1x, small_next s2 h2x, small_next s3 (fun _ => by omega)⟩) (by omega) (by repeat (first | exact Slots.sub_nil _ | refine Slots.sub_cons rfl ?_)) (by first | assumption | exact Ent.refl _ | exact Ent.nil _ | (repeat (first | exact Ent.refl _ | exact Ent.nil _ | refine Ent.pick ?_)))
        refine hl_off rfl rfl rfl rfl rfl rfl <| hl_off rfl rfl rfl rfl rfl rfl <| hl_off rfl rfl rfl rfl rfl rfl <| hl_off rfl rfl rfl rfl rfl rfl <| hl_off rfl rfl rfl rfl rfl rfl <| hl_off rfl rfl rfl rfl rfl rfl <| ?_
        refine hl_on rfl rfl <| hl_v (ov_pickF rfl rfl) rfl <| hl_v (ov_pickF rfl rfl) rfl <| hl_nil <| hx_then_normal <| hc_cond_false rfl <| hc_skip <| ?_
        refine hx_block_normal <| hx_then_normal <| hc_region <| hl_v (ov_move rfl) rfl <| hl_v (ov_add rfl rfl (by first | exact wrap_i64 (by omega) | rfl)) rfl <| ?_
        refine hl_v (ov_assign rfl) rfl <| hl_nil <| ?_
        refine hx_next hK1 (i + 1) (⟨by omega, small_next s1 h1x, small_next s2 h2x, small_next s3 (fun h => absurd h (by omega))⟩) (by omega) (by repeat (first | exact Slots.sub_nil _ | refine Slots.sub_cons rfl ?_)) (by first | assumption | exact Ent.refl _ | exact Ent.nil _ | (repeat (first | exact Ent.refl _ | exact Ent.nil _ | refine Ent.pick ?_)))
      have h2x : ∀ hi : i < thn.length, thn[i].length ≤ 300 := fun h => absurd h (by omega)
      refine hl_off rfl rfl rfl rfl rfl rfl <| hl_off rfl rfl rfl rfl rfl rfl <| hl_off rfl rfl rfl rfl rfl rfl <| hl_off rfl rfl rfl rfl rfl rfl <| hl_off rfl rfl rfl rfl rfl rfl <| hl_off rfl rfl rfl rfl rfl rfl <| ?_
      refine hl_off rfl rfl rfl rfl rfl rfl <| hl_on rfl rfl <| hl_v (ov_pickF rfl rfl) rfl <| hl_v (ov_pickF rfl rfl) rfl <| hl_v (ov_move rfl) rfl <| hl_on rfl rfl <| hl_v (ov_move rfl) rfl <| hl_on rfl rfl <| hl_v (ov_move rfl) rfl <| ?_
      refine hl_on rfl rfl <| hl_v (by first | exact ov_len rfl | exact ov_lenS rfl) rfl <| ?_
      refine hl_on rfl rfl <| hl_v (ov_lss rfl rfl) rfl <| hl_on rfl rfl <| hl_v (ov_move rfl) rfl <| ?_
      refine hl_part (t := 96) rfl (fun p3 => ?_) (fun p3 => ?_)
      · obtain ⟨hA3, B3, cb3, _, hcell3⟩ := hold3 i (by omega)
        refine hl_on rfl rfl <| hl_v (ov_move rfl) rfl <| hl_on rfl rfl <| hl_v (ov_move rfl) rfl <| ?_
        refine hl_on rfl rfl <| hl_v (ov_idxS rfl hA3 rfl i rfl (by omega)) rfl ?_
        refine hl_on rfl rfl <| hl_v (ov_load rfl (hcell3 _)) rfl ?_
        refine hl_on rfl rfl <| hl_v (by first | exact ov_len rfl | exact ov_lenS rfl) rfl <| ?_
        refine hl_on rfl rfl <| hl_v (ov_gtr rfl rfl) rfl <| hl_on rfl rfl <| hl_v (ov_pickT rfl rfl) rfl <| hl_v (ov_pickF rfl rfl) rfl <| hl_nil <| hx_then_normal <| ?_
        refine hc_cond rfl (fun q3 => ?_) (fun q3 => ?_)
        · refine hc_seq <| hc_region <| ?_
          refine hl_c Try.call29 rfl rfl (fun w1 H1 => Own.calln H1 fun D' hold hin H2 => wakes4_spec D' w1) ?_
          refine hl_v (ov_assign rfl) rfl <| hl_nil <| hx_then_normal <| hc_ret <| hx_block_ret <| hx_then_ret <| ?_
          refine hx_then_ret <| hx_block_ret <| hx_then_ret <| ?_
          exact results_1 (.inr rfl) rfl rfl fun w' H' => ⟨rfl, H'.ent (Ent.nil _)⟩
        refine hc_skip <| hx_block_normal <| hx_then_normal <| hc_region <| hl_v (ov_move rfl) rfl <| hl_v (ov_add rfl rfl (by first | exact wrap_i64 (by omega) | rfl)) rfl <| ?_
        refine hl_v (ov_assign rfl) rfl <| hl_nil <| ?_
        refine hx_next hK1 (i + 1) (⟨by omega, small_next s1 h1x, small_next s2 h2x, small_next s3 (fun _ => by omega)⟩) (by omega) (by repeat (first | exact Slots.sub_nil _ | refine Slots.sub_cons rfl ?_)) (by first | assumption | exact Ent.refl _ | exact Ent.nil _ | (repeat (first | exact Ent.refl _ | exact Ent.nil _ | refine Ent.pick ?_)))
      refine hl_off rfl rfl rfl rfl rfl rfl <| hl_off rfl rfl rfl rfl rfl rfl <| hl_off rfl rfl rfl rfl rfl rfl <| hl_off rfl rfl rfl rfl rfl rfl <| hl_off rfl rfl rfl rfl rfl rfl <| hl_off rfl rfl rfl rfl rfl rfl <| ?_
      refine hl_on rfl rfl <| hl_v (ov_pickF rfl rfl) rfl <| hl_v (ov_pickF rfl rfl) rfl <| hl_nil <| hx_then_normal <| hc_cond_false rfl <| hc_skip <| ?_
      refine hx_block_normal <| hx_then_normal <| hc_region <| hl_v (ov_move rfl) rfl <| hl_v (ov_add rfl rfl (by first | exact wrap_i64 (by omega) | rfl)) rfl <| ?_
      refine hl_v (ov_assign rfl) rfl <| hl_nil <| ?_
      refine hx_next hK1 (i + 1) (⟨by omega, small_next s1 h1x, small_next s2 h2x, small_next s3 (fun h => absurd h (by omega))⟩) (by omega) (by repeat (first | exact Slots.sub_nil _ | refine Slots.sub_cons rfl ?_)) (by first | assumption | exact Ent.refl _ | exact Ent.nil _ | (repeat (first | exact Ent.refl _ | exact Ent.nil _ | refine Ent.pick ?_)))
    have h1x : ∀ hi : i < ahead.length, ahead[i].length ≤ 300 := fun h => absurd h (by omega)
    refine hl_off rfl rfl rfl rfl rfl rfl <| hl_off rfl rfl rfl rfl rfl rfl <| hl_off rfl rfl rfl rfl rfl rfl <| hl_off rfl rfl rfl rfl rfl rfl <| hl_off rfl rfl rfl rfl rfl rfl <| hl_off rfl rfl rfl rfl rfl rfl <| ?_
    refine hl_off rfl rfl rfl rfl rfl rfl <| hl_v (ov_pickF rfl rfl) rfl <| hl_v (ov_move rfl) rfl <| hl_on rfl rfl <| hl_v (ov_move rfl) rfl <| hl_on rfl rfl <| hl_v (ov_fieldA rfl) rfl <| hl_on rfl rfl <| hl_v (ov_load rfl (CellIs.blk rfl)) rfl <| ?_
    refine hl_on rfl rfl <| hl_v (by first | exact ov_len rfl | exact ov_lenS rfl) rfl <| ?_
    refine hl_on rfl rfl <| hl_v (ov_lss rfl rfl) rfl <| hl_on rfl rfl <| hl_v (ov_move rfl) rfl <| ?_
    refine hl_part (t := 81) rfl (fun p2 => ?_) (fun p2 => ?_)
    · obtain ⟨hA2, B2, cb2, _, hcell2⟩ := hthen i (by omega)
      refine hl_on rfl rfl <| hl_v (ov_fieldA rfl) rfl <| hl_on rfl rfl <| hl_v (ov_load rfl (CellIs.blk rfl)) rfl <| hl_on rfl rfl <| hl_v (ov_move rfl) rfl <| ?_
      refine hl_on rfl rfl <| hl_v (ov_idxS rfl hA2 rfl i rfl (by omega)) rfl ?_
      refine hl_on rfl rfl <| hl_v (ov_load rfl (hcell2 _)) rfl ?_
      refine hl_on rfl rfl <| hl_v (by first | exact ov_len rfl | exact ov_lenS rfl) rfl <| ?_
      refine hl_on rfl rfl <| hl_v (ov_gtr rfl rfl) rfl <| hl_on rfl rfl <| hl_v (ov_pickT rfl rfl) rfl <| hl_v (ov_pickF rfl rfl) rfl <| hl_v (ov_move rfl) rfl <| ?_
      refine hl_part (t := 91) rfl (fun q2 => ?_) (fun q2 => ?_)
      · refine hl_off rfl rfl rfl rfl rfl rfl <| hl_off rfl rfl rfl rfl rfl rfl <| hl_off rfl rfl rfl rfl rfl rfl <| hl_off rfl rfl rfl rfl rfl rfl <| hl_off rfl rfl rfl rfl rfl rfl <| hl_offU rfl rfl rfl rfl rfl <| ?_
        refine hl_offU rfl rfl rfl rfl rfl <| hl_offU rfl rfl rfl rfl rfl <| hl_offU rfl rfl rfl rfl rfl <| hl_offU rfl rfl rfl rfl rfl <| hl_offU rfl rfl rfl rfl rfl <| hl_off rfl rfl rfl rfl rfl rfl <| ?_
        refine hl_v (ov_pickT rfl rfl) rfl <| hl_nil <| hx_then_normal <| hc_cond_true rfl <| hc_seq <| hc_region <| ?_
        refine hl_c Try.call29 rfl rfl (fun w1 H1 => Own.calln H1 fun D' hold hin H2 => wakes4_spec D' w1) ?_
        refine hl_v (ov_assign rfl) rfl <| hl_nil <| hx_then_normal <| hc_ret <| hx_block_ret <| hx_then_ret <| ?_
        refine hx_then_ret <| hx_block_ret <| hx_then_ret <| ?_
        exact results_1 (.inr rfl) rfl rfl fun w' H' => ⟨rfl, H'.ent (Ent.nil _)⟩
      have h2x : ∀ hi : i < thn.length, thn[i].length ≤ 300 := fun _ => by omega
      refine hl_on rfl rfl <| hl_v (ov_move rfl) rfl <| hl_on rfl rfl <| hl_v (ov_move rfl) rfl <| hl_on rfl rfl <| hl_v (by first | exact ov_len rfl | exact ov_lenS rfl) rfl <| ?_
      refine hl_on rfl rfl <| hl_v (ov_lss rfl rfl) rfl <| hl_on rfl rfl <| hl_v (ov_move rfl) rfl <| ?_
      refine hl_part (t := 96) rfl (fun p3 => ?_) (fun p3 => ?_)
      · obtain ⟨hA3, B3, cb3, _, hcell3⟩ := hold3 i (by omega)
        refine hl_on rfl rfl <| hl_v (ov_move rfl) rfl <| hl_on rfl rfl <| hl_v (ov_move rfl) rfl <| ?_
        refine hl_on rfl rfl <| hl_v (ov_idxS rfl hA3 rfl i rfl (by omega)) rfl ?_
        refine hl_on rfl rfl <| hl_v (ov_load rfl (hcell3 _)) rfl ?_
        refine hl_on rfl rfl <| hl_v (by first | exact ov_len rfl | exact ov_lenS rfl) rfl <| ?_
        refine hl_on rfl rfl <| hl_v (ov_gtr rfl rfl) rfl <| hl_on rfl rfl <| hl_v (ov_pickT rfl rfl) rfl <| hl_v (ov_pickF rfl rfl) rfl <| hl_nil <| hx_then_normal <| ?_
        refine hc_cond rfl (fun q3 => ?_) (fun q3 => ?_)
        · refine hc_seq <| hc_region <| ?_
          refine hl_c Try.call29 rfl rfl (fun w1 H1 => Own.calln H1 fun D' hold hin H2 => wakes4_spec D' w1) ?_
          refine hl_v (ov_assign rfl) rfl <| hl_nil <| hx_then_normal <| hc_ret <| hx_block_ret <| hx_then_ret <| ?_
          refine hx_then_ret <| hx_block_ret <| hx_then_ret <| ?_
          exact results_1 (.inr rfl) rfl rfl fun w' H' => ⟨rfl, H'.ent (Ent.nil _)⟩
        refine hc_skip <| hx_block_normal <| hx_then_normal <| hc_region <| hl_v (ov_move rfl) rfl <| hl_v (ov_add rfl rfl (by first | exact wrap_i64 (by omega) | rfl)) rfl <| ?_
        refine hl_v (ov_assign rfl) rfl <| hl_nil <| ?_
        refine hx_next hK1 (i + 1) (⟨by omega, small_next s1 h1x, small_next s2 h2x, small_next s3 (fun _ => by omega)⟩) (by omega) (by repeat (first | exact Slots.sub_nil _ | refine Slots.sub_cons rfl ?_)) (by first | assumption | exact Ent.refl _ | exact Ent.nil _ | (repeat (first | exact Ent.refl _ | exact Ent.nil _ | refine Ent.pick ?_)))
      refine hl_off rfl rfl rfl rfl rfl rfl <| hl_off rfl rfl rfl rfl rfl rfl <| hl_off rfl rfl rfl rfl rfl rfl <| hl_off rfl rfl rfl rfl rfl rfl <| hl_off rfl rfl rfl rfl rfl rfl <| hl_off rfl rfl rfl rfl rfl rfl <| ?_
      refine hl_on rfl rfl <| hl_v (ov_pickF rfl rfl) rfl <| hl_v (ov_pickF rfl rfl) rfl <| hl_nil <| hx_then_normal <| hc_cond_false rfl <| hc_skip <| ?_
      refine hx_block_normal <| hx_then_normal <| hc_region <| hl_v (ov_move rfl) rfl <| hl_v (ov_add rfl rfl (by first | exact wrap_i64 (by omega) | rfl)) rfl <| ?_
      refine hl_v (ov_assign rfl) rfl <| hl_nil <| ?_
      refine hx_next hK1 (i + 1) (⟨by omega, small_next s1 h1x, small_next s2 h2x, small_next s3 (fun h => absurd h (by omega))⟩) (by omega) (by repeat (first | exact Slots.sub_nil _ | refine Slots.sub_cons rfl ?_)) (by first | assumption | exact Ent.refl _ | exact Ent.nil _ | (repeat (first | exact Ent.refl _ | exact Ent.nil _ | refine Ent.pick ?_)))
    have h2x : ∀ hi : i < thn.length, thn[i].length ≤ 300 := fun h => absurd h (by omega)
    refine hl_off rfl rfl rfl rfl rfl rfl <| hl_off rfl rfl rfl rfl rfl rfl <| hl_off rfl rfl rfl rfl rfl rfl <| hl_off rfl rfl rfl rfl rfl rfl <| hl_off rfl rfl rfl rfl rfl rfl <| hl_off rfl rfl rfl rfl rfl rfl <| ?_
    refine hl_off rfl rfl rfl rfl rfl rfl <| hl_on rfl rfl <| hl_v (ov_pickF rfl rfl) rfl <| hl_v (ov_pickF rfl rfl) rfl <| hl_v (ov_move rfl) rfl <| hl_on rfl rfl <| hl_v (ov_move rfl) rfl <| hl_on rfl rfl <| hl_v (ov_move rfl) rfl <| ?_
    refine hl_on rfl rfl <| hl_v (by first | exact ov_len rfl | exact ov_lenS rfl) rfl <| ?_
    refine hl_on rfl rfl <| hl_v (ov_lss rfl rfl) rfl <| hl_on rfl rfl <| hl_v (ov_move rfl) rfl <| ?_
    refine hl_part (t := 96) rfl (fun p3 => ?_) (fun p3 => ?_)
    · obtain ⟨hA3, B3, cb3, _, hcell3⟩ := hold3 i (by omega)
      refine hl_on rfl rfl <| hl_v (ov_move rfl) rfl <| hl_on rfl rfl <| hl_v (ov_move rfl) rfl <| ?_
      refine hl_on rfl rfl <| hl_v (ov_idxS rfl hA3 rfl i rfl (by omega)) rfl ?_
      refine hl_on rfl rfl <| hl_v (ov_load rfl (hcell3 _)) rfl ?_
      refine hl_on rfl rfl <| hl_v (by first | exact ov_len rfl | exact ov_lenS rfl) rfl <| ?_
      refine hl_on rfl rfl <| hl_v (ov_gtr rfl rfl) rfl <| hl_on rfl rfl <| hl_v (ov_pickT rfl rfl) rfl <| hl_v (ov_pickF rfl rfl) rfl <| hl_nil <| hx_then_normal <| ?_
      refine hc_cond rfl (fun q3 => ?_) (fun q3 => ?_)
      · refine hc_seq <| hc_region <| ?_
        refine hl_c Try.call29 rfl rfl (fun w1 H1 => Own.calln H1 fun D' hold hin H2 => wakes4_spec D' w1) ?_
        refine hl_v (ov_assign rfl) rfl <| hl_nil <| hx_then_normal <| hc_ret <| hx_block_ret <| hx_then_ret <| ?_
        refine hx_then_ret <| hx_block_ret <| hx_then_ret <| ?_
        exact results_1 (.inr rfl) rfl rfl fun w' H' => ⟨rfl, H'.ent (Ent.nil _)⟩
      refine hc_skip <| hx_block_normal <| hx_then_normal <| hc_region <| hl_v (ov_move rfl) rfl <| hl_v (ov_add rfl rfl (by first | exact wrap_i64 (by omega) | rfl)) rfl <| ?_
      refine hl_v (ov_assign rfl) rfl <| hl_nil <| ?_
      refine hx_next hK1 (i + 1) (⟨by omega, small_next s1 h1x, small_next s2 h2x, small_next s3 (fun _ => by omega)⟩) (by omega) (by repeat (first | exact Slots.sub_nil _ | refine Slots.sub_cons rfl ?_)) (by first | assumption | exact Ent.refl _ | exact Ent.nil _ | (repeat (first | exact Ent.refl _ | exact Ent.nil _ | refine Ent.pick ?_)))
    refine hl_off rfl rfl rfl rfl rfl rfl <| hl_off rfl rfl rfl rfl rfl rfl <| hl_off rfl rfl rfl rfl rfl rfl <| hl_off rfl rfl rfl rfl rfl rfl <| hl_off rfl rfl rfl rfl rfl rfl <| hl_off rfl rfl rfl rfl rfl rfl <| ?_
    refine hl_on rfl rfl <| hl_v (ov_pickF rfl rfl) rfl <| hl_v (ov_pickF rfl rfl) rfl <| hl_nil <| hx_then_normal <| hc_cond_false rfl <| hc_skip <| ?_
    refine hx_block_normal <| hx_then_normal <| hc_region <| hl_v (ov_move rfl) rfl <| hl_v (ov_add rfl rfl (by first | exact wrap_i64 (by omega) | rfl)) rfl <| ?_
    refine hl_v (ov_assign rfl) rfl <| hl_nil <| ?_
    refine hx_next hK1 (i + 1) (⟨by omega, small_next s1 h1x, small_next s2 h2x, small_next s3 (fun h => absurd h (by omega))⟩) (by omega) (by repeat (first | exact Slots.sub_nil _ | refine Slots.sub_cons rfl ?_)) (by first | assumption | exact Ent.refl _ | exact Ent.nil _ | (repeat (first | exact Ent.refl _ | exact Ent.nil _ | refine Ent.pick ?_)))
  obtain rfl : i = 6 := by omega
  rw [List.take_of_length_le (by omega)] at s1 s2 s3
  obtain ⟨F1, f10, f1s, f1a⟩ := run_exists (ep := 1) (by decide) s3 hJ0 hl0 (by omega)
  obtain ⟨j1, l1, r1, n1⟩ := f1a old.length (Nat.le_refl _)
  have n1 := n1 2 (by decide) hf0
  obtain ⟨S1, hS1⟩ : ∃ S1, S1 = (F1 old.length).1 := ⟨_, rfl⟩
  rw [← hS1] at n1 l1
  obtain ⟨F2, f20, f2s, f2a⟩ := run_exists (ep := 2) (by decide) s1 (JI.begin n1) l1 (by omega)
  simp only [List.nil_append] at f1s f1a f2s f2a
  obtain ⟨j2, l2, r2, _⟩ := f2a ahead.length (Nat.le_refl _)
  obtain ⟨S2, hS2⟩ : ∃ S2, S2 = (F2 ahead.length).1 := ⟨_, rfl⟩
  obtain ⟨k2, hk2⟩ : ∃ k2, k2 = (F2 ahead.length).2 := ⟨_, rfl⟩
  rw [← hS2] at j2 l2
  rw [← hk2] at j2 r2
  rw [List.take_length] at j2
  obtain ⟨E, hE⟩ : ∃ E, E = encE (jouE 2 ahead.length cut) := ⟨_, rfl⟩
  obtain ⟨n, hn⟩ : ∃ n, needM cut.length = n := ⟨_, rfl⟩
  have hn8 : n ≤ 8 ∧ 1 ≤ n := by rw [← hn]; unfold needM; rw [if_neg (by omega)]; omega
  have hEl : E.length = n := by rw [hE, encE_len _ (show cut.length ≤ 4000 by omega)]; exact hn
  obtain ⟨x0, r, hEr⟩ : ∃ x r, E = x :: r := by
    cases E with
    | nil => simp at hEl; omega
    | cons x r => exact ⟨x, r, rfl⟩
  have hrl : r.length + 1 = n := by rw [← hEl, hEr]; rfl
  have hE0 : 0 < E.length := by omega
  have hE00 : E[0] = x0 := by simp only [hEr, List.getElem_cons_zero]
  refine hc_exit <| hx_then_exit <| hx_then_exit <| hx_block_out <| hx_then_normal <| hc_seq <| ?_
  refine hc_region <| ?_
  refine hl_call (σ := Nat) Try.call14 rfl rfl (fun w1 H1 => Own.callx0 H1 fun D' hold hin H2 => (New_ok D' w1 140 (by decide) (by decide)).mono fun e w' ⟨g, he, H'⟩ => ⟨g, he, show Own D' w1 w' [dsk g S0 []] by rw [hS0]; exact H'⟩) ?_
  intro g
  try rw [List.nil_append]
  refine hl_v (ov_move rfl) rfl <| hl_v (ov_extract rfl rfl) rfl <| hl_v (ov_extract rfl rfl) rfl <| hl_v (ov_assign rfl) rfl <| hl_v (ov_assign rfl) rfl <| hl_nil <| ?_
  refine hx_then_normal <| hc_seq <| hc_region <| ?_
  refine hl_call (σ := Nat) Try.call20 rfl rfl (fun w1 H1 => Own.callx0 H1 fun D' hold hin H2 => (RNew_ok D' w1 140 (by decide) (by decide)).mono fun e w' ⟨g, he, H'⟩ => ⟨g, he, show Own D' w1 w' [rdsk g S0 []] by rw [hS0]; exact H'⟩) ?_
  intro q
  try rw [List.nil_append]
  refine hl_v (ov_move rfl) rfl <| hl_v (ov_extract rfl rfl) rfl <| hl_v (ov_extract rfl rfl) rfl <| hl_v (ov_assign rfl) rfl <| hl_v (ov_assign rfl) rfl <| hl_nil <| ?_
  refine hx_then_normal <| hc_seq <| hc_region <| hl_v (ov_move rfl) rfl <| ?_
  refine hl_call (σ := Nat) Try.call30 rfl rfl (fun w1 H1 => Own.callpx (dsk g S0 []) H1 fun D' hold hin H2 => JOpen_is D' w1 g S0 0 140 140 S0 1 [] 0 0 e0 rfl (by omega) (by omega) rfl (by decide) (hT S0 hl0) H2) ?_
  intro jb
  rw [← hTC]
  refine hl_v (ov_move rfl) rfl <| hl_v (ov_extract rfl rfl) rfl <| hl_v (ov_extract rfl rfl) rfl <| hl_v (ov_assign rfl) rfl <| hl_v (ov_assign rfl) rfl <| hl_nil <| ?_
  refine hx_then_normal <| hc_seq <| hc_seq <| hc_region <| hl_v (ov_move rfl) rfl <| hl_v (ov_neq rfl rfl) rfl <| ?_
  refine hl_v (ov_move rfl) rfl <| ?_
  refine hl_partF (t := 121) rfl ((fun h => h rfl)) ?_
  refine hl_on rfl rfl <| hl_v (ov_move rfl) rfl <| hl_on rfl rfl <| hl_v (ov_neq rfl rfl) rfl <| hl_v (ov_pickF rfl rfl) rfl <| hl_v (ov_move rfl) rfl <| ?_
  refine hl_partF (t := 125) rfl ((fun h => h rfl)) ?_
  refine hl_on rfl rfl <| hl_v (ov_move rfl) rfl <| hl_on rfl rfl <| hl_v (ov_eqlP rfl rfl) rfl <| hl_v (ov_pickF rfl rfl) rfl <| hl_nil <| hx_then_normal <| ?_
  refine hc_cond_false rfl ?_
  refine HC.ent (show Ent _ [jou jb g 0 140 1 0 [], dsk g S0 [], rdsk q S0 [], blk b2 94 TC] from (by first | assumption | exact Ent.refl _ | exact Ent.nil _ | exact Ent.row_any (Ent.refl _) | (repeat (first | exact Ent.refl _ | exact Ent.nil _ | refine Ent.pick ?_)))) ?_
  refine hc_skip <| hx_then_normal <| hc_seq <| hc_seq <| hc_region <| hl_v (ov_assign rfl) rfl <| ?_
  refine hl_nil <| hx_then_normal <| hc_block <| ?_
  refine hc_loopK1 (σ := Nat) [1, 2, 6, 8, 10] rfl 12 (fun i => .int .i64 (i : Int)) (fun i => [jou jb g 0 140 1 (F1 i).2 (old.take i), dsk g (F1 i).1 [], rdsk q S0 [], blk b2 94 TC]) (fun i => i ≤ old.length) (fun i => old.length - i) (0) (Nat.zero_le _) rfl ((by rw [f10]; exact Ent.refl _)) ?_
  rintro i hi K2 hK2
  dsimp only [List.getElem_toArray, List.getElem_cons_zero, List.getElem_cons_succ]
  refine hc_seq <| hc_seq <| hc_region <| hl_v (ov_move rfl) rfl <| hl_v (ov_move rfl) rfl <| hl_v (by first | exact ov_len rfl | exact ov_lenS rfl) rfl <| ?_
  refine hl_v (ov_lss rfl rfl) rfl <| hl_nil <| hx_then_normal <| ?_
  refine hc_cond rfl (fun b1 => ?_) (fun b1 => ?_)
  · have hlt : i < old.length := by omega
    obtain ⟨hA, B, cb, hxo, hcell⟩ := hold3 i hlt
    obtain ⟨fe1, fe2⟩ := f1s i hlt
    obtain ⟨_, lS, rS, _⟩ := f1a i hi
    have hx3 := s3 _ (List.getElem_mem hlt)
    have hnd := need300 hx3
    have hts := List.take_succ_eq_append_getElem hlt
    generalize old[i] = y at *
    refine hc_skip <| hx_then_normal <| hc_seq <| hc_block <| hc_seq <| hc_region <| ?_
    refine hl_v (ov_move rfl) rfl <| hl_v (ov_move rfl) rfl <| hl_v (ov_move rfl) rfl <| ?_
    refine hl_v (ov_idxS rfl hA rfl i rfl hlt) rfl ?_
    refine hl_v (ov_load rfl (hcell _)) rfl ?_
    refine hl_new (on_buildSliceN rfl rfl rfl) rfl rfl rfl fun b140 =>  ?_
    refine hl_c Try.call31 rfl rfl (fun w1 H1 => Own.callp2 (jou jb g 0 140 1 (F1 i).2 (old.take i)) (dsk g (F1 i).1 []) H1 fun D' hold hin H2 => Append_is D' w1 jb g 0 140 1 (F1 i).2 (old.take i) [y] _ (F1 i).1 y (needM y.length) (F1 (i + 1)).2 (old.take (i + 1)) (F1 (i + 1)).1 (by simp) rfl fe2 hts fe1 (by omega) (by omega) (by omega) (by omega) (by omega) (by decide) (by rw [List.length_take]; omega) (hin _ fun h hs ho => rep_lits (b := b140) hs [y] ⟨[_], [], rfl, rep_old ho hxo, rfl⟩ (by simp)) H2) ?_
    refine hl_v (ov_neq rfl rfl) rfl <| hl_nil <| hx_then_normal <| ?_
    refine hc_cond_F rfl ((fun h => h rfl)) ?_
    refine hc_skip <| hx_block_normal <| hx_then_normal <| hc_region <| hl_v (ov_move rfl) rfl <| hl_v (ov_add rfl rfl (by first | exact wrap_i64 (by omega) | rfl)) rfl <| ?_
    refine hl_v (ov_assign rfl) rfl <| hl_nil <| ?_
    refine hx_next hK2 (i + 1) (hlt) (by omega) (by repeat (first | exact Slots.sub_nil _ | refine Slots.sub_cons rfl ?_)) (by first | assumption | exact Ent.refl _ | exact Ent.nil _ | (repeat (first | exact Ent.refl _ | exact Ent.nil _ | refine Ent.pick ?_)))
  have hil : i = old.length := by omega
  rw [hil, List.take_length, ← hS1]
  refine hc_exit <| hx_then_exit <| hx_then_exit <| hx_block_out <| hx_then_normal <| hc_seq <| ?_
  refine hc_region <| hl_v (ov_move rfl) rfl <| ?_
  refine hl_c Try.call36 rfl rfl (fun w1 H1 => Own.callp (jou jb g 0 140 1 (F1 old.length).2 old) H1 fun D' hold hin H2 => Next_spec D' w1 jb g 0 140 1 _ old 2 H2) ?_
  refine HL.ent (show Ent _ [jou jb g 0 140 2 0 [], dsk g S1 [], rdsk q S0 [], blk b2 94 TC] from (by first | assumption | exact Ent.refl _ | exact Ent.nil _ | exact Ent.row_any (Ent.refl _) | (repeat (first | exact Ent.refl _ | exact Ent.nil _ | refine Ent.pick ?_)))) ?_
  refine hl_nil <| hx_then_normal <| hc_seq <| hc_seq <| hc_region <| hl_v (ov_assign rfl) rfl <| ?_
  refine hl_nil <| hx_then_normal <| hc_block <| ?_
  refine hc_loopK1 (σ := Nat) [1, 2, 6, 8, 10] rfl 13 (fun i => .int .i64 (i : Int)) (fun i => [jou jb g 0 140 2 (F2 i).2 (ahead.take i), dsk g (F2 i).1 [], rdsk q S0 [], blk b2 94 TC]) (fun i => i ≤ ahead.length) (fun i => ahead.length - i) (0) (Nat.zero_le _) rfl ((by rw [f20]; exact Ent.refl _)) ?_
  rintro i hi2 K3 hK3
  subst hTC
  refine hc_seq <| hc_seq <| hc_region <| hl_v (ov_move rfl) rfl <| hl_v (ov_fieldA rfl) rfl <| hl_v (ov_load rfl (CellIs.blk rfl)) rfl <| ?_
  refine hl_v (by first | exact ov_len rfl | exact ov_lenS rfl) rfl <| ?_
  refine hl_v (ov_lss rfl rfl) rfl <| hl_nil <| hx_then_normal <| ?_
  refine hc_cond rfl (fun b2x => ?_) (fun b2x => ?_)
  · have hlt : i < ahead.length := by omega
    obtain ⟨hA, B, cb, hxo, hcell⟩ := hahead i hlt
    obtain ⟨fe1, fe2⟩ := f2s i hlt
    obtain ⟨_, lS, rS, _⟩ := f2a i hi2
    have hx3 := s1 _ (List.getElem_mem hlt)
    have hnd := need300 hx3
    have hts := List.take_succ_eq_append_getElem hlt
    generalize ahead[i] = y at *
    refine hc_skip <| hx_then_normal <| hc_seq <| hc_block <| hc_seq <| hc_region <| ?_
    refine hl_v (ov_move rfl) rfl <| hl_v (ov_fieldA rfl) rfl <| hl_v (ov_load rfl (CellIs.blk rfl)) rfl <| hl_v (ov_move rfl) rfl <| ?_
    refine hl_v (ov_idxS rfl hA rfl i rfl hlt) rfl ?_
    refine hl_v (ov_load rfl (hcell _)) rfl ?_
    refine hl_new (on_buildSliceN rfl rfl rfl) rfl rfl rfl fun b158 =>  ?_
    refine hl_c Try.call31 rfl rfl (fun w1 H1 => Own.callp2 (jou jb g 0 140 2 (F2 i).2 (ahead.take i)) (dsk g (F2 i).1 []) H1 fun D' hold hin H2 => Append_is D' w1 jb g 0 140 2 (F2 i).2 (ahead.take i) [y] _ (F2 i).1 y (needM y.length) (F2 (i + 1)).2 (ahead.take (i + 1)) (F2 (i + 1)).1 (by simp) rfl fe2 hts fe1 (by omega) (by omega) (by omega) (by omega) (by omega) (by decide) (by rw [List.length_take]; omega) (hin _ fun h hs ho => rep_lits (b := b158) hs [y] ⟨[_], [], rfl, rep_old ho hxo, rfl⟩ (by simp)) H2) ?_
    refine hl_v (ov_neq rfl rfl) rfl <| hl_nil <| hx_then_normal <| ?_
    refine hc_cond_F rfl ((fun h => h rfl)) ?_
    refine hc_skip <| hx_block_normal <| hx_then_normal <| hc_region <| hl_v (ov_move rfl) rfl <| hl_v (ov_add rfl rfl (by first | exact wrap_i64 (by omega) | rfl)) rfl <| ?_
    refine hl_v (ov_assign rfl) rfl <| hl_nil <| ?_
    refine hx_next hK3 (i + 1) (hlt) (by omega) (by repeat (first | exact Slots.sub_nil _ | refine Slots.sub_cons rfl ?_)) (by first | assumption | exact Ent.refl _ | exact Ent.nil _ | (repeat (first | exact Ent.refl _ | exact Ent.nil _ | refine Ent.pick ?_)))
  have hil : i = ahead.length := by omega
  rw [hil, List.take_length, ← hS2]
  obtain ⟨TC, hTC⟩ : ∃ TC : List Value, TC = [.slice A1 ahead.length cap1, .slice C cut.length capC, .bool half, .slice K keep.length capK, .slice A2 thn.length cap2] := ⟨_, rfl⟩
  rw [← hTC]
  refine hc_exit <| hx_then_exit <| hx_then_exit <| hx_block_out <| hx_then_normal <| hc_seq <| ?_
  refine hc_region <| hl_v (ov_move rfl) rfl <| ?_
  refine hl_call (σ := Nat) Try.call37 rfl rfl (fun w1 H1 => Own.callpx (rdsk q S0 []) H1 fun D' hold hin H2 => ROpen_is D' w1 q S0 0 140 140 S0 1 [] 0 0 e0 rfl (by omega) (by omega) rfl (by decide) (hT S0 hl0) H2) ?_
  intro pb
  refine HL.ent (show Ent _ [rjou pb q 0 140 1 0 [], rdsk q S0 [], dsk g S2 [], blk b2 94 TC] from (by first | assumption | exact Ent.refl _ | exact Ent.nil _ | exact Ent.row_any (Ent.refl _) | (repeat (first | exact Ent.refl _ | exact Ent.nil _ | refine Ent.pick ?_)))) ?_
  refine hl_v (ov_move rfl) rfl <| hl_v (ov_extract rfl rfl) rfl <| hl_v (ov_extract rfl rfl) rfl <| hl_v (ov_assign rfl) rfl <| hl_v (ov_assign rfl) rfl <| hl_nil <| ?_
  refine hx_then_normal <| hc_seq <| hc_seq <| hc_region <| hl_v (ov_assign rfl) rfl <| hl_nil <| ?_
  refine hx_then_normal <| hc_block <| ?_
  refine hc_loopK1 (σ := Nat) [1, 2, 6, 14] rfl 16 (fun i => .int .i64 (i : Int)) (fun i => [rjou pb q 0 140 1 (F1 i).2 (old.take i), rdsk q (F1 i).1 [], dsk g S2 [], blk b2 94 TC]) (fun i => i ≤ old.length) (fun i => old.length - i) (0) (Nat.zero_le _) rfl ((by rw [f10]; exact Ent.refl _)) ?_
  rintro i hi3 K4 hK4
  dsimp only [List.getElem_toArray, List.getElem_cons_zero, List.getElem_cons_succ]
  refine hc_seq <| hc_seq <| hc_region <| hl_v (ov_move rfl) rfl <| hl_v (ov_move rfl) rfl <| hl_v (by first | exact ov_len rfl | exact ov_lenS rfl) rfl <| ?_
  refine hl_v (ov_lss rfl rfl) rfl <| hl_nil <| hx_then_normal <| ?_
  refine hc_cond rfl (fun b3x => ?_) (fun b3x => ?_)
  · have hlt : i < old.length := by omega
    obtain ⟨hA, B, cb, hxo, hcell⟩ := hold3 i hlt
    obtain ⟨fe1, fe2⟩ := f1s i hlt
    obtain ⟨_, lS, rS, _⟩ := f1a i hi3
    have hx3 := s3 _ (List.getElem_mem hlt)
    have hnd := need300 hx3
    have hts := List.take_succ_eq_append_getElem hlt
    generalize old[i] = y at *
    refine hc_skip <| hx_then_normal <| hc_seq <| hc_block <| hc_region <| hl_v (ov_move rfl) rfl <| ?_
    refine hl_v (ov_move rfl) rfl <| hl_v (ov_move rfl) rfl <| ?_
    refine hl_v (ov_idxS rfl hA rfl i rfl hlt) rfl ?_
    refine hl_v (ov_load rfl (hcell _)) rfl ?_
    refine hl_c Try.call38 rfl rfl (fun w1 H1 => Own.callp2 (rjou pb q 0 140 1 (F1 i).2 (old.take i)) (rdsk q (F1 i).1 []) H1 fun D' hold hin H2 => RAppend_ok D' w1 pb q 0 140 1 (F1 i).2 (old.take i) _ (F1 i).1 y (needM y.length) (F1 (i + 1)).2 (old.take (i + 1)) (F1 (i + 1)).1 rfl fe2 hts fe1 (by omega) (by omega) (by omega) (by omega) (by omega) (by decide) (by rw [List.length_take]; omega) (hold _ hxo) H2) ?_
    refine hl_nil <| hx_block_normal <| hx_then_normal <| hc_region <| hl_v (ov_move rfl) rfl <| hl_v (ov_add rfl rfl (by first | exact wrap_i64 (by omega) | rfl)) rfl <| ?_
    refine hl_v (ov_assign rfl) rfl <| hl_nil <| ?_
    refine hx_next hK4 (i + 1) (hlt) (by omega) (by repeat (first | exact Slots.sub_nil _ | refine Slots.sub_cons rfl ?_)) (by first | assumption | exact Ent.refl _ | exact Ent.nil _ | (repeat (first | exact Ent.refl _ | exact Ent.nil _ | refine Ent.pick ?_)))
  have hil : i = old.length := by omega
  rw [hil, List.take_length, ← hS1]
  refine hc_exit <| hx_then_exit <| hx_then_exit <| hx_block_out <| hx_then_normal <| hc_seq <| ?_
  refine hc_region <| hl_v (ov_move rfl) rfl <| ?_
  refine hl_c Try.call40 rfl rfl (fun w1 H1 => Own.callp (rjou pb q 0 140 1 (F1 old.length).2 old) H1 fun D' hold hin H2 => RNext_spec D' w1 pb q 0 140 1 _ old 2 H2) ?_
  refine HL.ent (show Ent _ [rjou pb q 0 140 2 0 [], rdsk q S1 [], dsk g S2 [], blk b2 94 TC] from (by first | assumption | exact Ent.refl _ | exact Ent.nil _ | exact Ent.row_any (Ent.refl _) | (repeat (first | exact Ent.refl _ | exact Ent.nil _ | refine Ent.pick ?_)))) ?_
  refine hl_nil <| hx_then_normal <| hc_seq <| hc_seq <| hc_region <| hl_v (ov_assign rfl) rfl <| ?_
  refine hl_nil <| hx_then_normal <| hc_block <| ?_
  refine hc_loopK1 (σ := Nat) [2, 6, 14] rfl 17 (fun i => .int .i64 (i : Int)) (fun i => [rjou pb q 0 140 2 (F2 i).2 (ahead.take i), rdsk q (F2 i).1 [], dsk g S2 [], blk b2 94 TC]) (fun i => i ≤ ahead.length) (fun i => ahead.length - i) (0) (Nat.zero_le _) rfl ((by rw [f20]; exact Ent.refl _)) ?_
  rintro i hi4 K5 hK5
  subst hTC
  refine hc_seq <| hc_seq <| hc_region <| hl_v (ov_move rfl) rfl <| hl_v (ov_fieldA rfl) rfl <| hl_v (ov_load rfl (CellIs.blk rfl)) rfl <| ?_
  refine hl_v (by first | exact ov_len rfl | exact ov_lenS rfl) rfl <| ?_
  refine hl_v (ov_lss rfl rfl) rfl <| hl_nil <| hx_then_normal <| ?_
  refine hc_cond rfl (fun b4x => ?_) (fun b4x => ?_)
  · have hlt : i < ahead.length := by omega
    obtain ⟨hA, B, cb, hxo, hcell⟩ := hahead i hlt
    obtain ⟨fe1, fe2⟩ := f2s i hlt
    obtain ⟨_, lS, rS, _⟩ := f2a i hi4
    have hx3 := s1 _ (List.getElem_mem hlt)
    have hnd := need300 hx3
    have hts := List.take_succ_eq_append_getElem hlt
    generalize ahead[i] = y at *
    refine hc_skip <| hx_then_normal <| hc_seq <| hc_block <| hc_region <| hl_v (ov_move rfl) rfl <| ?_
    refine hl_v (ov_fieldA rfl) rfl <| hl_v (ov_load rfl (CellIs.blk rfl)) rfl <| hl_v (ov_move rfl) rfl <| ?_
    refine hl_v (ov_idxS rfl hA rfl i rfl hlt) rfl ?_
    refine hl_v (ov_load rfl (hcell _)) rfl ?_
    refine hl_c Try.call38 rfl rfl (fun w1 H1 => Own.callp2 (rjou pb q 0 140 2 (F2 i).2 (ahead.take i)) (rdsk q (F2 i).1 []) H1 fun D' hold hin H2 => RAppend_ok D' w1 pb q 0 140 2 (F2 i).2 (ahead.take i) _ (F2 i).1 y (needM y.length) (F2 (i + 1)).2 (ahead.take (i + 1)) (F2 (i + 1)).1 rfl fe2 hts fe1 (by omega) (by omega) (by omega) (by omega) (by omega) (by decide) (by rw [List.length_take]; omega) (hold _ hxo) H2) ?_
    refine hl_nil <| hx_block_normal <| hx_then_normal <| hc_region <| hl_v (ov_move rfl) rfl <| hl_v (ov_add rfl rfl (by first | exact wrap_i64 (by omega) | rfl)) rfl <| ?_
    refine hl_v (ov_assign rfl) rfl <| hl_nil <| ?_
    refine hx_next hK5 (i + 1) (hlt) (by omega) (by repeat (first | exact Slots.sub_nil _ | refine Slots.sub_cons rfl ?_)) (by first | assumption | exact Ent.refl _ | exact Ent.nil _ | (repeat (first | exact Ent.refl _ | exact Ent.nil _ | refine Ent.pick ?_)))
  have hil : i = ahead.length := by omega
  rw [hil, List.take_length, ← hk2]
  refine HC.ent (show Ent _ [rjou pb q 0 140 2 k2 ahead, dsk g S2 [], blk b2 94 [.slice A1 ahead.length cap1, .slice C cut.length capC, .bool half, .slice K keep.length capK, .slice A2 thn.length cap2]] from (by first | assumption | exact Ent.refl _ | exact Ent.nil _ | exact Ent.row_any (Ent.refl _) | (repeat (first | exact Ent.refl _ | exact Ent.nil _ | refine Ent.pick ?_)))) ?_
  refine hc_exit <| hx_then_exit <| hx_then_exit <| hx_block_out <| hx_then_normal <| hc_seq <| ?_
  refine hc_region <| hl_v (ov_move rfl) rfl <| hl_v (ov_fieldA rfl) rfl <| hl_v (ov_load rfl (CellIs.blk rfl)) rfl <| ?_
  refine hl_call (σ := Option Addr × Nat) Try.call44 rfl rfl (fun w1 H1 => Own.callpx (rjou pb q 0 140 2 k2 ahead) H1 fun D' hold hin H2 => RSectors_ok D' w1 pb q 0 140 2 k2 ahead _ cut (by omega) n hn E hE (by omega) (by omega) (by omega) (by decide) (by omega) (hold _ hoc) H2) ?_
  intro qe
  refine HL.fact (fun w H => Own.factR qe.1 H) ?_
  rintro ⟨_, _, _, hAe'⟩
  have hAe : isA qe.1 := hAe' (by intro h; have := congrArg List.length h; rw [flat_len secC_len] at this; simp only [List.length_nil] at this; omega)
  refine hl_v (ov_move rfl) rfl <| hl_v (ov_extract rfl rfl) rfl <| hl_v (ov_extract rfl rfl) rfl <| hl_v (ov_assign rfl) rfl <| hl_v (ov_assign rfl) rfl <| hl_nil <| ?_
  refine hx_then_normal <| hc_seq <| hc_seq <| hc_region <| hl_v (ov_move rfl) rfl <| hl_v (ov_neq rfl rfl) rfl <| ?_
  refine hl_nil <| hx_then_normal <| ?_
  refine hc_cond_F rfl ((fun h => h rfl)) ?_
  refine hc_skip <| hx_then_normal <| hc_seq <| hc_seq <| ?_
  refine HC.exs ?_
  rintro ⟨A5, cap5, cs5⟩
  refine HC.ent (l' := rjouB pb q 0 140 2 k2 ahead.length (A5, cap5) :: row A5 23 1 ahead.length cap5 cs5 :: rowsB 5 ahead cs5 :: [row qe.1 34 64 n qe.2 (E.flatMap secC), dsk g S2 [], blk b2 94 [.slice A1 ahead.length cap1, .slice C cut.length capC, .bool half, .slice K keep.length capK, .slice A2 thn.length cap2]]) (fun _ h => h) ?_
  refine HC.ent (show Ent _ [rjouB pb q 0 140 2 k2 ahead.length (A5, cap5), row qe.1 34 64 n qe.2 (E.flatMap secC), dsk g S2 [], blk b2 94 [.slice A1 ahead.length cap1, .slice C cut.length capC, .bool half, .slice K keep.length capK, .slice A2 thn.length cap2]] from (by first | assumption | exact Ent.refl _ | exact Ent.nil _ | exact Ent.row_any (Ent.refl _) | (repeat (first | exact Ent.refl _ | exact Ent.nil _ | refine Ent.pick ?_)))) ?_
  refine hc_region <| hl_v (ov_assign rfl) rfl <| hl_nil <| hx_then_normal <| hc_block <| ?_
  refine hc_loopK1 (σ := Nat) [2, 6, 14, 18] rfl 20 (fun j => .int .i64 ((j + 1 : Nat) : Int)) (fun j => [dsk g S2 (PW (k2 + 1) r j), rjouB pb q 0 140 2 k2 ahead.length (A5, cap5), row qe.1 34 64 n qe.2 (E.flatMap secC), blk b2 94 [.slice A1 ahead.length cap1, .slice C cut.length capC, .bool half, .slice K keep.length capK, .slice A2 thn.length cap2]]) (fun j => j ≤ r.length) (fun j => r.length - j) (0) (Nat.zero_le _) rfl (show Ent _ [dsk g S2 [], rjouB pb q 0 140 2 k2 ahead.length (A5, cap5), row qe.1 34 64 n qe.2 (E.flatMap secC), blk b2 94 [.slice A1 ahead.length cap1, .slice C cut.length capC, .bool half, .slice K keep.length capK, .slice A2 thn.length cap2]] from (by first | assumption | exact Ent.refl _ | exact Ent.nil _ | exact Ent.row_any (Ent.refl _) | (repeat (first | exact Ent.refl _ | exact Ent.nil _ | refine Ent.pick ?_)))) ?_
  rintro j hj K6 hK6
  try dsimp only [List.getElem_toArray, List.getElem_cons_zero, List.getElem_cons_succ]
  refine hc_seq <| hc_seq <| hc_region <| hl_v (ov_move rfl) rfl <| hl_v (ov_move rfl) rfl <| hl_v (by first | exact ov_len rfl | exact ov_lenS rfl) rfl <| ?_
  refine hl_v (ov_lss rfl rfl) rfl <| hl_nil <| hx_then_normal <| ?_
  refine hc_cond rfl (fun hjl => ?_) (fun hjl => ?_)
  · have hjr : j < r.length := by omega
    have hjE : j + 1 < E.length := by omega
    have hEj : E[j + 1] = r[j] := by simp only [hEr, List.getElem_cons_succ]
    refine hc_skip <| hx_then_normal <| hc_seq <| hc_block <| ?_
    refine hc_tail 11 mixed (by kernel_rfl) ?_
    refine ht_v (ov_move rfl) rfl <| ht_v (ov_move rfl) rfl <| ht_v (ov_nil rfl) rfl <| ht_v (ov_fieldA rfl) rfl <| ht_v (ov_load rfl (CellIs.blk rfl)) rfl <| ht_v (ov_move rfl) rfl <| ?_
    refine ht_v (ov_add (m := ((k2 + 1 + j : Nat) : Int)) rfl rfl ((wrap_i64 (by omega)).trans (by omega))) rfl ?_
    refine ht_v (ov_move rfl) rfl <| ht_v (ov_move rfl) rfl <| ?_
    refine ht_v (ov_idxS rfl hAe rfl (j + 1) rfl (by omega)) rfl ?_
    refine ht_v (ov_loadG (cs := secC r[j]) rfl (secC_len _) (by rw [← hEj]; exact CellsAre.flat (f := secC) (A := qe.1) secC_len hAe (i := j + 1) hjE)) rfl ?_
    refine ht_nil <| ?_
    refine hl_c Try.call23 rfl rfl (fun w1 H1 => Own.callp (dsk g S2 (PW (k2 + 1) r j)) H1 fun D' hold hin H2 => Write_ok D' w1 g (k2 + 1 + j) r[j] S2 (PW (k2 + 1) r j) (by omega) (by have := PW_len (at_ := k2 + 1) (l := r) (i := j); omega) H2) ?_
    rw [← PW_succ hjr]
    refine hl_nil <| hx_block_normal <| hx_then_normal <| hc_region <| hl_v (ov_move rfl) rfl <| ?_
    refine hl_v (ov_add (m := ((j + 1 + 1 : Nat) : Int)) rfl rfl ((wrap_i64 (by omega)).trans (by omega))) rfl ?_
    refine hl_v (ov_assign rfl) rfl <| hl_nil <| ?_
    refine hx_next hK6 (j + 1) (hjr) (by omega) (by repeat (first | exact Slots.sub_nil _ | refine Slots.sub_cons rfl ?_)) (by first | assumption | exact Ent.refl _ | exact Ent.nil _ | (repeat (first | exact Ent.refl _ | exact Ent.nil _ | refine Ent.pick ?_)))
  have hje : j = r.length := by omega
  rw [hje]
  refine hc_exit <| hx_then_exit <| hx_then_exit <| hx_block_out <| hx_then_normal <| hc_seq <| ?_
  refine hc_cutK0 (σ := List Sec × List (Nat × Sec)) [2, 6] rfl  (fun s => [pureP (TornP S2 k2 x0 r half s), dsk g s.1 s.2, blk b2 94 [.slice A1 ahead.length cap1, .slice C cut.length capC, .bool half, .slice K keep.length capK, .slice A2 thn.length cap2]]) (fun K7 hK7 => ?_) (fun s => ?_)
  · cases half
    · refine hc_seq <| hc_region <| hl_v (ov_fieldA rfl) rfl <| hl_v (ov_load rfl (CellIs.blk rfl)) rfl <| hl_nil <| hx_then_normal <| ?_
      refine hc_cond_false rfl ?_
      refine hc_skip <| ?_
      exact hx_cut hK7 ((S2, PW (k2 + 1) r r.length)) (by repeat (first | exact Slots.sub_nil _ | refine Slots.sub_cons rfl ?_)) (Ent.pure_cons ⟨fun _ => rfl, fun h => by cases h⟩ (by first | assumption | exact Ent.refl _ | exact Ent.nil _ | exact Ent.row_any (Ent.refl _) | (repeat (first | exact Ent.refl _ | exact Ent.nil _ | refine Ent.pick ?_))))
    refine hc_seq <| hc_region <| hl_v (ov_fieldA rfl) rfl <| hl_v (ov_load rfl (CellIs.blk rfl)) rfl <| hl_nil <| hx_then_normal <| ?_
    refine hc_cond_true rfl ?_
    have hpl2 : (putS S2 (k2 + 1) r).length = S2.length := putS_len (by omega)
    refine hc_seq <| hc_region <| hl_v (ov_move rfl) rfl <| ?_
    refine hl_c Try.call24 rfl rfl (fun w1 H1 => Own.callp (dsk g S2 (PW (k2 + 1) r r.length)) H1 fun D' hold hin H2 => (Flush_spec D' w1 g S2 (PW (k2 + 1) r r.length) (PW_lt (by omega)) H2)) ?_
    rw [PW_done (by omega)]
    refine hl_nil <| hx_then_normal <| ?_
    refine hc_tail 8 mixed (by kernel_rfl) ?_
    refine ht_v (ov_move rfl) rfl <| ht_v (ov_move rfl) rfl <| ht_v (ov_nil rfl) rfl <| ht_v (ov_fieldA rfl) rfl <| ht_v (ov_load rfl (CellIs.blk rfl)) rfl <| ht_v (ov_move rfl) rfl <| ?_
    refine ht_v (ov_idxSc rfl hAe rfl rfl (by omega)) rfl ?_
    refine ht_v (ov_loadG (cs := secC x0) rfl (secC_len _) (by rw [← hE00]; exact CellsAre.flat (f := secC) (A := qe.1) secC_len hAe (i := 0) hE0)) rfl ?_
    refine ht_nil <| ?_
    refine hl_c Try.call23 rfl rfl (fun w1 H1 => Own.callp (dsk g (putS S2 (k2 + 1) r) []) H1 fun D' hold hin H2 => Write_ok D' w1 g k2 x0 (putS S2 (k2 + 1) r) [] (by omega) (by decide) H2) ?_
    refine hl_nil <| ?_
    exact hx_cut hK7 ((putS S2 (k2 + 1) r, [(k2, x0)])) (by repeat (first | exact Slots.sub_nil _ | refine Slots.sub_cons rfl ?_)) (Ent.pure_cons ⟨fun h => (by cases h), fun _ => rfl⟩ (show Ent _ [dsk g (putS S2 (k2 + 1) r) ([] ++ [(k2, x0)]), blk b2 94 _] from (by first | assumption | exact Ent.refl _ | exact Ent.nil _ | exact Ent.row_any (Ent.refl _) | (repeat (first | exact Ent.refl _ | exact Ent.nil _ | refine Ent.pick ?_)))))
  obtain ⟨T, P⟩ := s
  refine HX.pure fun hTs => ?_
  dsimp only at hTs ⊢
  obtain ⟨wh, hwh⟩ : ∃ wh, wh = (half && keep.getD 0 false) := ⟨_, rfl⟩
  obtain ⟨S3, hS3⟩ : ∃ S3, S3 = settleL (fun i => keep.getD i false) 0 T P := ⟨_, rfl⟩
  obtain ⟨l3, j3⟩ := torn_open j2 (show cut.length ≤ 4000 by omega) (by rw [← hE]; exact hEr) (by omega) hTs hS3 hwh
  rw [l2] at l3
  have hTP : ∀ p ∈ P, p.1 < T.length := by
    cases half
    · obtain ⟨rfl, rfl⟩ := Prod.mk.inj (hTs.1 rfl)
      exact PW_lt (by omega)
    · obtain ⟨rfl, rfl⟩ := Prod.mk.inj (hTs.2 rfl)
      intro p hp
      obtain rfl := List.mem_singleton.1 hp
      rw [putS_len (by omega)]; show k2 < _; omega
  obtain ⟨now, hnow⟩ : ∃ now, now = if wh then ahead ++ [cut] else ahead := ⟨_, rfl⟩
  obtain ⟨k3, hk3⟩ : ∃ k3, k3 = if wh then k2 + (r.length + 1) else k2 := ⟨_, rfl⟩
  rw [← hnow, ← hk3] at j3
  have hk3' : k3 ≤ k2 + n := by rw [hk3]; split <;> omega
  have e3 := hop 2 S3 now k3 l3 j3 (by decide)
  have hnl : now.length = if wh then ahead.length + 1 else ahead.length := by rw [hnow]; split <;> simp
  have hnl7 : now.length ≤ 7 := by rw [hnl]; split <;> omega
  have hnsm : ∀ x ∈ now, x.length ≤ 400 := fun y hy => by
    rw [hnow] at hy
    split at hy
    · rcases List.mem_append.1 hy with hy | hy
      · have := s1 y hy; omega
      · obtain rfl := List.mem_singleton.1 hy; omega
    · have := s1 y hy; omega
  obtain ⟨F3, f30, f3s, f3a⟩ := run_exists (ep := 2) (by decide) s2 j3 l3 (by omega)
  obtain ⟨j4, l4, r4, _⟩ := f3a thn.length (Nat.le_refl _)
  rw [List.take_length] at j4
  have e4 := hop 2 _ _ _ l4 j4 (by decide)
  refine hx_then_normal <| hc_seq <| hc_region <| hl_v (ov_move rfl) rfl <| ?_
  refine hl_new (on_buildSliceN rfl rfl rfl) rfl rfl rfl (fun b236 => ?_)
  refine HL.ent (Ent.blk_row (b := b236) 1 0 rfl (by decide)) ?_
  refine hl_v (ov_fieldA rfl) rfl <| hl_v (ov_load rfl (CellIs.blk rfl)) rfl <| ?_
  refine hl_new (on_appendR (A := some ⟨b236, 0, none⟩) (news := ks) rfl rfl (SrcIs.old HSk) (by omega) honek (by decide) (by omega)) rfl rfl rfl ?_
  rintro ⟨Ck, capCk⟩
  dsimp only
  simp only [Nat.zero_add, List.nil_append]
  refine hl_c Try.call27 rfl rfl (fun w1 H1 => Own.callp (dsk g T P) H1 fun D' hold hin H2 => Crash_spec D' w1 g T P _ keep hTP (hin _ fun h hs' ho => rep_row (A := Ck) hs' keep rfl (repL_of_old ho hrepk)) H2) ?_
  rw [← hS3]
  refine HL.ent (show Ent _ [dsk g S3 [], blk b2 94 [.slice A1 ahead.length cap1, .slice C cut.length capC, .bool half, .slice K keep.length capK, .slice A2 thn.length cap2]] from (by first | assumption | exact Ent.refl _ | exact Ent.nil _ | exact Ent.row_any (Ent.refl _) | (repeat (first | exact Ent.refl _ | exact Ent.nil _ | refine Ent.pick ?_)))) ?_
  refine hl_nil <| hx_then_normal <| hc_seq <| hc_region <| hl_v (ov_move rfl) rfl <| ?_
  refine hl_call (σ := Nat) Try.call30 rfl rfl (fun w1 H1 => Own.callpx (dsk g S3 []) H1 fun D' hold hin H2 => JOpen_is D' w1 g S3 0 140 140 S3 2 now k3 k3 e3 (Nat.zero_add _).symm (by omega) (by omega) rfl (by decide) (hT S3 l3) H2) ?_
  intro kb
  refine hl_v (ov_move rfl) rfl <| hl_v (ov_extract rfl rfl) rfl <| hl_v (ov_extract rfl rfl) rfl <| hl_v (ov_assign rfl) rfl <| hl_v (ov_assign rfl) rfl <| hl_nil <| ?_
  refine hx_then_normal <| hc_seq <| hc_seq <| hc_region <| hl_v (ov_move rfl) rfl <| hl_v (ov_neq rfl rfl) rfl <| ?_
  refine hl_v (ov_move rfl) rfl <| ?_
  refine hl_partF (t := 248) rfl ((fun h => h rfl)) ?_
  refine hl_on rfl rfl <| hl_v (ov_move rfl) rfl <| hl_on rfl rfl <| hl_v (ov_eqlP rfl rfl) rfl <| hl_v (ov_pickF rfl rfl) rfl <| hl_nil <| hx_then_normal <| ?_
  refine hc_cond_false rfl ?_
  refine hc_skip <| hx_then_normal <| hc_seq <| hc_region <| hl_v (ov_move rfl) rfl <| ?_
  refine hl_call (σ := Option Addr × Nat × List Value) Try.call32 rfl rfl (fun w1 H1 => Own.callpx (jou kb g 0 140 2 k3 now) H1 fun D' hold hin H2 => All_spec D' w1 kb g 0 140 2 k3 now (by omega) (fun y hy => by have := hnsm y hy; omega) H2) ?_
  intro q7
  obtain ⟨A7, cap7, cs7⟩ := q7
  dsimp only
  refine HL.fact (fun w H => Own.factR A7 H) ?_
  rintro ⟨hc7, hcap7, hcap72, hA7'⟩
  refine HL.fact (fun w H => rowsB_one (t := 5) (xs := now) (cs := cs7) H) ?_
  intro hone7
  rw [Nat.mul_one] at hc7
  refine hl_v (ov_assign rfl) rfl <| hl_nil <| hx_then_normal <| hc_seq <| ?_
  refine hc_cutK1 (σ := Unit) [2, 6, 21, 23] rfl 24 (fun _u => .bool wh) (fun _u => [row A7 23 1 now.length cap7 cs7, rowsB 5 now cs7, jou kb g 0 140 2 k3 now, dsk g S3 [], blk b2 94 [.slice A1 ahead.length cap1, .slice C cut.length capC, .bool half, .slice K keep.length capK, .slice A2 thn.length cap2]]) (fun K8 hK8 => ?_) (fun _u => ?_)
  · cases wh
    · have hnl : now.length = ahead.length := hnl
      refine hc_any [row A7 23 1 now.length cap7 cs7, blk b2 94 [.slice A1 ahead.length cap1, .slice C cut.length capC, .bool half, .slice K keep.length capK, .slice A2 thn.length cap2]] mixed 19 rfl ?_
      refine ha_v 0 rfl (ov_move rfl) rfl <| ?_
      refine ha_v 1 rfl (by first | exact ov_len rfl | exact ov_lenS rfl) rfl <| ?_
      refine ha_v 2 rfl (ov_fieldA rfl) rfl <| ?_
      refine ha_v 3 rfl (ov_load rfl (CellIs.blk rfl)) rfl <| ?_
      refine ha_v 4 rfl (by first | exact ov_len rfl | exact ov_lenS rfl) rfl <| ?_
      refine ha_v 5 rfl (ov_add rfl rfl (by first | exact wrap_i64 (by omega) | rfl)) rfl <| ?_
      refine ha_v 6 rfl (ov_eql rfl rfl) rfl <| ?_
      refine ha_v 7 rfl (ov_move rfl) rfl <| ?_
      refine ha_partF (t := 261) rfl ((by omega)) ?_
      refine ha_x 8 rfl rfl <| ?_
      refine ha_x 9 rfl rfl <| ?_
      refine ha_x 10 rfl rfl <| ?_
      refine ha_x 11 rfl rfl <| ?_
      refine ha_x 12 rfl rfl <| ?_
      refine ha_x 13 rfl rfl <| ?_
      refine ha_x 14 rfl rfl <| ?_
      refine ha_x 15 rfl rfl <| ?_
      refine ha_one 16 (by kernel_rfl) <| ho_x rfl rfl <| ?_
      refine ha_v 17 rfl (ov_pickF rfl rfl) rfl <| ?_
      refine ha_v 18 rfl (ov_assign rfl) rfl <| ?_
      refine ha_done (by kernel_rfl) <| ?_
      refine hx_cut hK8 (()) (by repeat (first | exact Slots.sub_nil _ | refine Slots.sub_cons rfl ?_)) (by first | assumption | exact Ent.refl _ | exact Ent.nil _ | (repeat (first | exact Ent.refl _ | exact Ent.nil _ | refine Ent.pick ?_)))
    have hnl : now.length = ahead.length + 1 := hnl
    have hnow : now = ahead ++ [cut] := hnow
    have hA7 : isA A7 := hA7' (by intro h; rw [h] at hc7; simp only [List.length_nil] at hc7; omega)
    have hlt2 : ahead.length < cs7.length := by omega
    have hlt1 : ahead.length < now.length := by omega
    have hlast : now[ahead.length] = cut := by simp only [hnow]; rw [List.getElem_append_right (Nat.le_refl _)]; simp
    have hcell7 : ∀ (l' r' : List HProp), [PickR l' A7 23 1 now.length cap7 cs7 r'] → CellIs none' W l' (ab A7) (ao A7 + ahead.length * 1) cs7[ahead.length] := fun l' r' _ => by
      rw [Nat.mul_one]; exact CellIs.row (A := A7) hA7 (List.getElem?_eq_getElem hlt2)
    refine hc_any [row A7 23 1 now.length cap7 cs7, blk b2 94 [.slice A1 ahead.length cap1, .slice C cut.length capC, .bool half, .slice K keep.length capK, .slice A2 thn.length cap2]] mixed 19 rfl ?_
    refine ha_v 0 rfl (ov_move rfl) rfl <| ?_
    refine ha_v 1 rfl (by first | exact ov_len rfl | exact ov_lenS rfl) rfl <| ?_
    refine ha_v 2 rfl (ov_fieldA rfl) rfl <| ?_
    refine ha_v 3 rfl (ov_load rfl (CellIs.blk rfl)) rfl <| ?_
    refine ha_v 4 rfl (by first | exact ov_len rfl | exact ov_lenS rfl) rfl <| ?_
    refine ha_v 5 rfl (ov_add rfl rfl (by first | exact wrap_i64 (by omega) | rfl)) rfl <| ?_
    refine ha_v 6 rfl (ov_eql rfl rfl) rfl <| ?_
    refine ha_v 7 rfl (ov_move rfl) rfl <| ?_
    refine ha_partT (t := 261) rfl ((by omega)) ?_
    refine ha_v 8 rfl (ov_move rfl) rfl <| ?_
    refine ha_v 9 rfl (ov_move rfl) rfl <| ?_
    refine ha_v 10 rfl (by first | exact ov_len rfl | exact ov_lenS rfl) rfl <| ?_
    refine ha_v 14 rfl (ov_fieldA rfl) rfl <| ?_
    refine ha_v 15 rfl (ov_load rfl (CellIs.blk rfl)) rfl <| ?_
    refine ha_one 11 (by kernel_rfl) <| ?_
    refine ho_v rfl (ov_sub (m := ((ahead.length : Nat) : Int)) rfl rfl ((wrap_i64 (by omega)).trans (by omega))) rfl ?_
    refine ha_one 12 (by kernel_rfl) <| ?_
    refine ho_v rfl (ov_idxS rfl hA7 rfl ahead.length rfl (by omega)) rfl ?_
    refine ha_one 13 (by kernel_rfl) <| ?_
    refine ho_v rfl (ov_load rfl (hcell7 _ _)) rfl ?_
    refine ha_one 16 (by kernel_rfl) <| ?_
    refine ho_k rfl Try.call18 rfl (fun w1 H1 => Own.calln H1 fun D' hold hin H2 => Bytes_spec D' w1 _ _ cut cut (hin _ fun h hs ho => hlast ▸ repL_get (stars_rowsB (t := 5) (xs := now) (cs := cs7) hs) rfl ahead.length hlt1 hlt2) (hold _ hoc)) ?_
    rw [decide_eq_true (rfl : cut = cut)]
    refine ha_v 17 rfl (ov_pickT rfl rfl) rfl <| ?_
    refine ha_v 18 rfl (ov_assign rfl) rfl <| ?_
    refine ha_done (by kernel_rfl) <| ?_
    refine hx_cut hK8 (()) (by repeat (first | exact Slots.sub_nil _ | refine Slots.sub_cons rfl ?_)) (by first | assumption | exact Ent.refl _ | exact Ent.nil _ | (repeat (first | exact Ent.refl _ | exact Ent.nil _ | refine Ent.pick ?_)))
  refine hx_then_normal <| hc_seq <| ?_
  refine hc_cutK0 (σ := Unit) [2, 6, 21, 23] rfl  (fun _u => [row A7 23 1 now.length cap7 cs7, rowsB 5 now cs7, jou kb g 0 140 2 k3 now, dsk g S3 [], blk b2 94 [.slice A1 ahead.length cap1, .slice C cut.length capC, .bool half, .slice K keep.length capK, .slice A2 thn.length cap2]]) (fun K9 hK9 => ?_) (fun _u => ?_)
  · cases wh
    · have hnl : now.length = ahead.length := hnl
      refine hc_seq <| hc_region <| hl_v (ov_move rfl) rfl <| hl_v (by first | exact ov_notd rfl | exact ov_not rfl) rfl <| ?_
      refine hl_v (ov_move rfl) rfl <| ?_
      refine hl_on rfl rfl <| hl_v (ov_move rfl) rfl <| hl_on rfl rfl <| hl_v (by first | exact ov_len rfl | exact ov_lenS rfl) rfl <| ?_
      refine hl_on rfl rfl <| hl_v (ov_fieldA rfl) rfl <| hl_on rfl rfl <| hl_v (ov_load rfl (CellIs.blk rfl)) rfl <| hl_on rfl rfl <| hl_v (by first | exact ov_len rfl | exact ov_lenS rfl) rfl <| ?_
      refine hl_on rfl rfl <| hl_v (ov_neq rfl rfl) rfl <| hl_v (ov_pickT rfl rfl) rfl <| hl_v (ov_move rfl) rfl <| ?_
      refine hl_partF (t := 282) rfl ((by omega)) ?_
      cases half
      · refine hl_on rfl rfl <| hl_v (ov_move rfl) rfl <| hl_on rfl rfl <| hl_v (ov_fieldA rfl) rfl <| hl_on rfl rfl <| hl_v (ov_load rfl (CellIs.blk rfl)) rfl <| hl_on rfl rfl <| hl_v (ov_move rfl) rfl <| ?_
        refine hl_off rfl rfl rfl rfl rfl rfl <| hl_off rfl rfl rfl rfl rfl rfl <| hl_off rfl rfl rfl rfl rfl rfl <| hl_off rfl rfl rfl rfl rfl rfl <| hl_on rfl rfl <| hl_v (ov_pickF rfl rfl) rfl <| hl_on rfl rfl <| hl_v (ov_move rfl) rfl <| ?_
        refine hl_off rfl rfl rfl rfl rfl rfl <| hl_off rfl rfl rfl rfl rfl rfl <| hl_off rfl rfl rfl rfl rfl rfl <| hl_off rfl rfl rfl rfl rfl rfl <| hl_on rfl rfl <| hl_v (ov_pickF rfl rfl) rfl <| hl_on rfl rfl <| hl_v (ov_neqB rfl rfl) rfl <| ?_
        refine hl_v (ov_pickF rfl rfl) rfl <| hl_nil <| hx_then_normal <| ?_
        refine hc_cond_F rfl ((by decide)) ?_
        refine hc_skip <| ?_
        refine hx_cut hK9 (()) (by repeat (first | exact Slots.sub_nil _ | refine Slots.sub_cons rfl ?_)) (by first | assumption | exact Ent.refl _ | exact Ent.nil _ | (repeat (first | exact Ent.refl _ | exact Ent.nil _ | refine Ent.pick ?_)))
      rcases hkk : keep with _ | ⟨k0, kr⟩
      · rw [← hkk]
        have hkl : keep.length = 0 := by rw [hkk]; rfl
        refine hl_on rfl rfl <| hl_v (ov_move rfl) rfl <| hl_on rfl rfl <| hl_v (ov_fieldA rfl) rfl <| hl_on rfl rfl <| hl_v (ov_load rfl (CellIs.blk rfl)) rfl <| hl_on rfl rfl <| hl_v (ov_move rfl) rfl <| ?_
        refine hl_on rfl rfl <| hl_v (ov_fieldA rfl) rfl <| hl_on rfl rfl <| hl_v (ov_load rfl (CellIs.blk rfl)) rfl <| hl_on rfl rfl <| hl_v (by first | exact ov_len rfl | exact ov_lenS rfl) rfl <| ?_
        refine hl_on rfl rfl <| hl_v (ov_gtr rfl rfl) rfl <| hl_on rfl rfl <| hl_v (ov_pickT rfl rfl) rfl <| hl_on rfl rfl <| hl_v (ov_move rfl) rfl <| ?_
        refine hl_partF (t := 292) rfl ((by omega)) ?_
        refine hl_off rfl rfl rfl rfl rfl rfl <| hl_off rfl rfl rfl rfl rfl rfl <| hl_off rfl rfl rfl rfl rfl rfl <| hl_off rfl rfl rfl rfl rfl rfl <| hl_on rfl rfl <| hl_v (ov_pickF rfl rfl) rfl <| hl_on rfl rfl <| hl_v (ov_neqB rfl rfl) rfl <| ?_
        refine hl_v (ov_pickF rfl rfl) rfl <| hl_nil <| hx_then_normal <| ?_
        refine hc_cond_F rfl ((by decide)) ?_
        refine hc_skip <| ?_
        refine hx_cut hK9 (()) (by repeat (first | exact Slots.sub_nil _ | refine Slots.sub_cons rfl ?_)) (by first | assumption | exact Ent.refl _ | exact Ent.nil _ | (repeat (first | exact Ent.refl _ | exact Ent.nil _ | refine Ent.pick ?_)))
      rw [← hkk]
      have hkl : 0 < keep.length := by rw [hkk]; simp
      obtain ⟨hAK, u, hu, hcl0⟩ := hkel 0 hkl
      have hu := hu.pure
      simp only [List.cons.injEq, and_true] at hu
      subst hu
      have hk0 : keep[0] = k0 := by simp only [hkk, List.getElem_cons_zero]
      rw [hk0] at hcl0
      have hk0f : k0 = false := by rw [hkk] at hwh; exact hwh.symm
      subst hk0f
      refine hl_on rfl rfl <| hl_v (ov_move rfl) rfl <| hl_on rfl rfl <| hl_v (ov_fieldA rfl) rfl <| hl_on rfl rfl <| hl_v (ov_load rfl (CellIs.blk rfl)) rfl <| hl_on rfl rfl <| hl_v (ov_move rfl) rfl <| ?_
      refine hl_on rfl rfl <| hl_v (ov_fieldA rfl) rfl <| hl_on rfl rfl <| hl_v (ov_load rfl (CellIs.blk rfl)) rfl <| hl_on rfl rfl <| hl_v (by first | exact ov_len rfl | exact ov_lenS rfl) rfl <| ?_
      refine hl_on rfl rfl <| hl_v (ov_gtr rfl rfl) rfl <| hl_on rfl rfl <| hl_v (ov_pickT rfl rfl) rfl <| hl_on rfl rfl <| hl_v (ov_move rfl) rfl <| ?_
      refine hl_partT (t := 292) rfl ((by omega)) ?_
      refine hl_on rfl rfl <| hl_v (ov_fieldA rfl) rfl <| hl_on rfl rfl <| hl_v (ov_load rfl (CellIs.blk rfl)) rfl <| ?_
      refine hl_on rfl rfl <| hl_v (ov_idxSc rfl hAK rfl rfl (by omega)) rfl ?_
      refine hl_on rfl rfl <| hl_v (ov_load rfl (hcl0 _)) rfl ?_
      refine hl_on rfl rfl <| hl_v (ov_pickT rfl rfl) rfl <| hl_on rfl rfl <| hl_v (ov_neqB rfl rfl) rfl <| hl_v (ov_pickF rfl rfl) rfl <| hl_nil <| hx_then_normal <| ?_
      refine hc_cond_F rfl ((by decide)) ?_
      refine hc_skip <| ?_
      refine hx_cut hK9 (()) (by repeat (first | exact Slots.sub_nil _ | refine Slots.sub_cons rfl ?_)) (by first | assumption | exact Ent.refl _ | exact Ent.nil _ | (repeat (first | exact Ent.refl _ | exact Ent.nil _ | refine Ent.pick ?_)))
    have hh : half = true ∧ keep.getD 0 false = true := by
      have := hwh.symm
      rwa [Bool.and_eq_true] at this
    obtain ⟨hh1, hh2⟩ := hh
    subst hh1
    rcases hkk : keep with _ | ⟨k0, kr⟩
    · rw [hkk] at hh2; cases hh2
    rw [← hkk]
    have hkl : 0 < keep.length := by rw [hkk]; simp
    obtain ⟨hAK, u, hu, hcl0⟩ := hkel 0 hkl
    have hu := hu.pure
    simp only [List.cons.injEq, and_true] at hu
    subst hu
    have hk0 : keep[0] = k0 := by simp only [hkk, List.getElem_cons_zero]
    rw [hk0] at hcl0
    have hk0f : k0 = true := by rw [hkk] at hh2; exact hh2
    subst hk0f
    refine hc_seq <| hc_region <| hl_v (ov_move rfl) rfl <| hl_v (by first | exact ov_notd rfl | exact ov_not rfl) rfl <| ?_
    refine hl_v (ov_move rfl) rfl <| ?_
    refine hl_off rfl rfl rfl rfl rfl rfl <| hl_off rfl rfl rfl rfl rfl rfl <| hl_off rfl rfl rfl rfl rfl rfl <| hl_off rfl rfl rfl rfl rfl rfl <| hl_off rfl rfl rfl rfl rfl rfl <| hl_off rfl rfl rfl rfl rfl rfl <| ?_
    refine hl_v (ov_pickF rfl rfl) rfl <| hl_v (ov_move rfl) rfl <| hl_on rfl rfl <| hl_v (ov_move rfl) rfl <| hl_on rfl rfl <| hl_v (ov_fieldA rfl) rfl <| hl_on rfl rfl <| hl_v (ov_load rfl (CellIs.blk rfl)) rfl <| hl_on rfl rfl <| hl_v (ov_move rfl) rfl <| ?_
    refine hl_on rfl rfl <| hl_v (ov_fieldA rfl) rfl <| hl_on rfl rfl <| hl_v (ov_load rfl (CellIs.blk rfl)) rfl <| hl_on rfl rfl <| hl_v (by first | exact ov_len rfl | exact ov_lenS rfl) rfl <| ?_
    refine hl_on rfl rfl <| hl_v (ov_gtr rfl rfl) rfl <| hl_on rfl rfl <| hl_v (ov_pickT rfl rfl) rfl <| hl_on rfl rfl <| hl_v (ov_move rfl) rfl <| ?_
    refine hl_partT (t := 292) rfl ((by omega)) ?_
    refine hl_on rfl rfl <| hl_v (ov_fieldA rfl) rfl <| hl_on rfl rfl <| hl_v (ov_load rfl (CellIs.blk rfl)) rfl <| ?_
    refine hl_on rfl rfl <| hl_v (ov_idxSc rfl hAK rfl rfl (by omega)) rfl ?_
    refine hl_on rfl rfl <| hl_v (ov_load rfl (hcl0 _)) rfl ?_
    refine hl_on rfl rfl <| hl_v (ov_pickT rfl rfl) rfl <| hl_on rfl rfl <| hl_v (ov_neqB rfl rfl) rfl <| hl_v (ov_pickF rfl rfl) rfl <| hl_nil <| hx_then_normal <| ?_
    refine hc_cond_F rfl ((by decide)) ?_
    refine hc_skip <| ?_
    refine hx_cut hK9 (()) (by repeat (first | exact Slots.sub_nil _ | refine Slots.sub_cons rfl ?_)) (by first | assumption | exact Ent.refl _ | exact Ent.nil _ | (repeat (first | exact Ent.refl _ | exact Ent.nil _ | refine Ent.pick ?_)))
  have hge : ahead.length ≤ now.length := by rw [hnl]; split <;> omega
  have hni : ∀ i (h : i < ahead.length), now[i]'(by omega) = ahead[i] := fun i h => by
    cases wh
    · simp only [hnow]; rfl
    · simp only [hnow, if_true]; exact List.getElem_append_left h
  refine hx_then_normal <| hc_seq <| hc_seq <| hc_region <| hl_v (ov_assign rfl) rfl <| hl_nil <| ?_
  refine hx_then_normal <| hc_block <| ?_
  refine hc_loops1 (σ := Nat) [2, 6, 21, 23] rfl 25 (fun i => .int .i64 (i : Int)) (fun i => i ≤ ahead.length) (fun i => ahead.length - i) (0) (Nat.zero_le _) rfl ?_
  rintro i hi5 K10 hK10
  refine hc_seq <| hc_seq <| hc_region <| hl_v (ov_move rfl) rfl <| hl_v (ov_fieldA rfl) rfl <| hl_v (ov_load rfl (CellIs.blk rfl)) rfl <| ?_
  refine hl_v (by first | exact ov_len rfl | exact ov_lenS rfl) rfl <| ?_
  refine hl_v (ov_lss rfl rfl) rfl <| hl_nil <| hx_then_normal <| ?_
  refine hc_cond rfl (fun c5 => ?_) (fun c5 => ?_)
  · have hlt : i < ahead.length := by omega
    obtain ⟨hAa, B, cb, hxo, hcl⟩ := hahead i hlt
    have hA7 : isA A7 := hA7' (by intro h; rw [h] at hc7; simp only [List.length_nil] at hc7; omega)
    have hlt1 : i < now.length := by omega
    have hlt2 : i < cs7.length := by omega
    have hcell7 : ∀ (l' : List HProp) {r' : List HProp} [PickR l' A7 23 1 now.length cap7 cs7 r'], CellIs none' W l' (ab A7) (ao A7 + i * 1) cs7[i] := fun l' r' _ => by
      rw [Nat.mul_one]; exact CellIs.row (A := A7) hA7 (List.getElem?_eq_getElem hlt2)
    have hnii := hni i hlt
    refine hc_skip <| hx_then_normal <| hc_seq <| hc_block <| hc_seq <| ?_
    refine hc_any [row A7 23 1 now.length cap7 cs7, blk b2 94 [.slice A1 ahead.length cap1, .slice C cut.length capC, .bool half, .slice K keep.length capK, .slice A2 thn.length cap2]] mixed 11 rfl ?_
    refine ha_v 0 rfl (ov_move rfl) rfl <| ?_
    refine ha_v 1 rfl (ov_move rfl) rfl <| ?_
    refine ha_v 4 rfl (ov_fieldA rfl) rfl <| ?_
    refine ha_v 5 rfl (ov_load rfl (CellIs.blk rfl)) rfl <| ?_
    refine ha_v 6 rfl (ov_move rfl) rfl <| ?_
    refine ha_v 7 rfl (ov_idxS rfl (by assumption) rfl _ rfl (by omega)) rfl <| ?_
    refine ha_v 8 rfl (by first | exact ov_load rfl (by assumption) | exact ov_load rfl (hcl _) | exact ov_load rfl (hcl2 _) | exact ov_load rfl (hcl3 _) | exact ov_load rfl (CellIs.blk rfl)) rfl <| ?_
    refine ha_one 2 (by kernel_rfl) <| ?_
    refine ho_v rfl (ov_idxS rfl hA7 rfl i rfl (by omega)) rfl ?_
    refine ha_one 3 (by kernel_rfl) <| ?_
    refine ho_v rfl (ov_load rfl (hcell7 _)) rfl ?_
    refine ha_one 9 (by kernel_rfl) <| ?_
    refine ho_k rfl Try.call18 rfl (fun w1 H1 => Own.calln H1 fun D' hold hin H2 => Bytes_spec D' w1 _ _ ahead[i] ahead[i] (hin _ fun h hs ho => hnii ▸ repL_get (stars_rowsB (t := 5) (xs := now) (cs := cs7) hs) rfl i hlt1 hlt2) (hold _ hxo)) ?_
    rw [decide_eq_true (rfl : ahead[i] = ahead[i])]
    refine ha_v 10 rfl (by first | exact ov_notd rfl | exact ov_not rfl) rfl <| ?_
    refine ha_done (by kernel_rfl) <| hx_then_normal <| ?_
    refine hc_cond_false rfl ?_
    refine hc_skip <| hx_block_normal <| hx_then_normal <| hc_region <| hl_v (ov_move rfl) rfl <| hl_v (ov_add rfl rfl (by first | exact wrap_i64 (by omega) | rfl)) rfl <| ?_
    refine hl_v (ov_assign rfl) rfl <| hl_nil <| ?_
    refine hx_next hK10 (i + 1) (hlt) (by omega) (by repeat (first | exact Slots.sub_nil _ | refine Slots.sub_cons rfl ?_)) (by first | assumption | exact Ent.refl _ | exact Ent.nil _ | (repeat (first | exact Ent.refl _ | exact Ent.nil _ | refine Ent.pick ?_)))
  refine hc_exit <| hx_then_exit <| hx_then_exit <| hx_block_out <| hx_then_normal <| hc_seq <| ?_
  refine hc_seq <| hc_region <| hl_v (ov_assign rfl) rfl <| hl_nil <| hx_then_normal <| hc_block <| ?_
  refine hc_loopK1 (σ := Nat) [2, 6, 21, 23] rfl 26 (fun i => .int .i64 (i : Int)) (fun i => [jou kb g 0 140 2 (F3 i).2 (now ++ thn.take i), dsk g (F3 i).1 [], row A7 23 1 now.length cap7 cs7, rowsB 5 now cs7, blk b2 94 [.slice A1 ahead.length cap1, .slice C cut.length capC, .bool half, .slice K keep.length capK, .slice A2 thn.length cap2]]) (fun i => i ≤ thn.length) (fun i => thn.length - i) (0) (Nat.zero_le _) rfl ((by rw [f30, List.take_zero, List.append_nil]; exact (by first | assumption | exact Ent.refl _ | exact Ent.nil _ | exact Ent.row_any (Ent.refl _) | (repeat (first | exact Ent.refl _ | exact Ent.nil _ | refine Ent.pick ?_))))) ?_
  rintro i hi6x K11 hK11
  try dsimp only [List.getElem_toArray, List.getElem_cons_zero, List.getElem_cons_succ]
  refine hc_seq <| hc_seq <| hc_region <| hl_v (ov_move rfl) rfl <| hl_v (ov_fieldA rfl) rfl <| hl_v (ov_load rfl (CellIs.blk rfl)) rfl <| ?_
  refine hl_v (by first | exact ov_len rfl | exact ov_lenS rfl) rfl <| ?_
  refine hl_v (ov_lss rfl rfl) rfl <| hl_nil <| hx_then_normal <| ?_
  refine hc_cond rfl (fun c6 => ?_) (fun c6 => ?_)
  · have hlt : i < thn.length := by omega
    obtain ⟨hA, B, cb, hxo, hcell⟩ := hthen i hlt
    obtain ⟨fe1, fe2⟩ := f3s i hlt
    obtain ⟨_, lS, rS, _⟩ := f3a i hi6x
    have hx3 := s2 _ (List.getElem_mem hlt)
    have hnd := need300 hx3
    have hts : now ++ thn.take (i + 1) = now ++ thn.take i ++ [thn[i]] := by rw [List.take_succ_eq_append_getElem hlt, List.append_assoc]
    generalize thn[i] = y at *
    refine hc_skip <| hx_then_normal <| hc_seq <| hc_block <| hc_seq <| hc_region <| ?_
    refine hl_v (ov_move rfl) rfl <| hl_v (ov_fieldA rfl) rfl <| hl_v (ov_load rfl (CellIs.blk rfl)) rfl <| hl_v (ov_move rfl) rfl <| ?_
    refine hl_v (ov_idxS rfl hA rfl i rfl hlt) rfl ?_
    refine hl_v (ov_load rfl (hcell _)) rfl ?_
    refine hl_new (on_buildSliceN rfl rfl rfl) rfl rfl rfl fun b331 =>  ?_
    refine hl_c Try.call31 rfl rfl (fun w1 H1 => Own.callp2 (jou kb g 0 140 2 (F3 i).2 (now ++ thn.take i)) (dsk g (F3 i).1 []) H1 fun D' hold hin H2 => Append_is D' w1 kb g 0 140 2 (F3 i).2 (now ++ thn.take i) [y] _ (F3 i).1 y (needM y.length) (F3 (i + 1)).2 (now ++ thn.take (i + 1)) (F3 (i + 1)).1 (by simp) rfl fe2 hts fe1 (by omega) (by omega) (by omega) (by omega) (by omega) (by decide) (by rw [List.length_append, List.length_take]; omega) (hin _ fun h hs ho => rep_lits (b := b331) hs [y] ⟨[_], [], rfl, rep_old ho hxo, rfl⟩ (by simp)) H2) ?_
    refine hl_v (ov_neq rfl rfl) rfl <| hl_nil <| hx_then_normal <| ?_
    refine hc_cond_F rfl ((fun h => h rfl)) ?_
    refine hc_skip <| hx_block_normal <| hx_then_normal <| hc_region <| hl_v (ov_move rfl) rfl <| hl_v (ov_add rfl rfl (by first | exact wrap_i64 (by omega) | rfl)) rfl <| ?_
    refine hl_v (ov_assign rfl) rfl <| hl_nil <| ?_
    refine hx_next hK11 (i + 1) (hlt) (by omega) (by repeat (first | exact Slots.sub_nil _ | refine Slots.sub_cons rfl ?_)) (by first | assumption | exact Ent.refl _ | exact Ent.nil _ | (repeat (first | exact Ent.refl _ | exact Ent.nil _ | refine Ent.pick ?_)))
  have hil : i = thn.length := by omega
  rw [hil, List.take_length]
  obtain ⟨S4, hS4⟩ : ∃ S4, S4 = (F3 thn.length).1 := ⟨_, rfl⟩
  obtain ⟨k4, hk4⟩ : ∃ k4, k4 = (F3 thn.length).2 := ⟨_, rfl⟩
  rw [← hS4] at l4 e4
  rw [← hk4] at r4 e4
  rw [← hS4, ← hk4]
  have hnt : (now ++ thn).length ≤ 100 := by rw [List.length_append]; omega
  have hntx : ∀ x ∈ now ++ thn, x.length ≤ 1000000 := fun y hy => by
    rcases List.mem_append.1 hy with hy | hy
    · have := hnsm y hy; omega
    · have := s2 y hy; omega
  obtain ⟨_, _, ts, e9, _, _, HS2, hl2t, hone2, hrep2, _⟩ := hot.openES rfl
  simp only [Value.slice.injEq] at e9
  obtain ⟨rfl, _, rfl⟩ := e9
  refine hc_exit <| hx_then_exit <| hx_then_exit <| hx_block_out <| hx_then_normal <| hc_seq <| ?_
  refine hc_region <| hl_v (ov_move rfl) rfl <| ?_
  refine hl_call (σ := Nat) Try.call30 rfl rfl (fun w1 H1 => Own.callpx (dsk g S4 []) H1 fun D' hold hin H2 => JOpen_is D' w1 g S4 0 140 140 S4 2 (now ++ thn) k4 k4 e4 (Nat.zero_add _).symm (by omega) (by omega) rfl (by decide) (hT S4 l4) H2) ?_
  intro mb
  refine hl_v (ov_move rfl) rfl <| hl_v (ov_extract rfl rfl) rfl <| hl_v (ov_extract rfl rfl) rfl <| hl_v (ov_assign rfl) rfl <| hl_v (ov_assign rfl) rfl <| hl_nil <| ?_
  refine hx_then_normal <| hc_seq <| hc_seq <| hc_region <| hl_v (ov_move rfl) rfl <| hl_v (ov_neq rfl rfl) rfl <| ?_
  refine hl_v (ov_move rfl) rfl <| ?_
  refine hl_partF (t := 341) rfl ((fun h => h rfl)) ?_
  refine hl_on rfl rfl <| hl_v (ov_move rfl) rfl <| hl_on rfl rfl <| hl_v (ov_eqlP rfl rfl) rfl <| hl_v (ov_pickF rfl rfl) rfl <| hl_nil <| hx_then_normal <| ?_
  refine hc_cond_false rfl ?_
  refine HC.ent (show Ent _ [jou mb g 0 140 2 k4 (now ++ thn), row A7 23 1 now.length cap7 cs7, rowsB 5 now cs7, blk b2 94 [.slice A1 ahead.length cap1, .slice C cut.length capC, .bool half, .slice K keep.length capK, .slice A2 thn.length cap2]] from (by first | assumption | exact Ent.refl _ | exact Ent.nil _ | exact Ent.row_any (Ent.refl _) | (repeat (first | exact Ent.refl _ | exact Ent.nil _ | refine Ent.pick ?_)))) ?_
  refine hc_skip <| hx_then_normal <| hc_seq <| ?_
  refine hc_any [blk b2 94 [.slice A1 ahead.length cap1, .slice C cut.length capC, .bool half, .slice K keep.length capK, .slice A2 thn.length cap2]] mixed 13 rfl ?_
  refine ha_v 0 rfl (ov_move rfl) rfl <| ?_
  refine ha_v 3 rfl (ov_move rfl) rfl <| ?_
  refine ha_v 5 rfl (ov_fieldA rfl) rfl <| ?_
  refine ha_v 6 rfl (ov_load rfl (CellIs.blk rfl)) rfl <| ?_
  refine ha_two 1 2 (by kernel_rfl) ?_ ?_
  · skip
    refine ho_kx (σ := Option Addr × Nat × List Value) rfl Try.call32 rfl (fun w1 H1 => Own.callpx (jou mb g 0 140 2 k4 (now ++ thn)) H1 fun D' hold hin H2 => All_spec D' w1 mb g 0 140 2 k4 (now ++ thn) (by omega) hntx H2) ?_
    rintro ⟨A8, cap8, cs8⟩
    refine ha_one 2 (by kernel_rfl) <| ?_
    refine ho_n rfl (on_buildSliceN rfl rfl rfl) rfl (fun b347 => ?_)
    refine ha_ent (Ent.blk_row (b := b347) 1 0 rfl (by decide)) ?_
    refine ha_one 4 (by kernel_rfl) <| ?_
    refine ho_n rfl (on_appendR (A := some ⟨b347, 0, none⟩) (news := cs7) rfl rfl (SrcIs.rowR (A := A7) hA7') (by omega) hone7 (by decide) (by omega)) rfl ?_
    rintro ⟨A9, cap9⟩
    dsimp only
    simp only [Nat.zero_add, List.nil_append]
    refine ha_one 7 (by kernel_rfl) <| ?_
    refine ho_n rfl (on_appendR (A := A9) (news := ts) rfl rfl (SrcIs.old HS2) (by omega) hone2 (by decide) (by omega)) rfl ?_
    rintro ⟨AX, capX⟩
    dsimp only
    refine ha_one 8 (by kernel_rfl) <| ?_
    refine ho_k rfl Try.call34 rfl (fun w1 H1 => Own.calln H1 fun D' hold hin H2 => Lists_spec D' w1 _ _ (now ++ thn) (now ++ thn) (hin _ fun h hs ho => rep_row (A := A8) hs (now ++ thn) rfl (stars_rowsB (t := 5) (xs := now ++ thn) (cs := cs8) hs)) (hin _ fun h hs ho => rep_row (A := AX) hs (now ++ thn) (by simp) (repL_append (stars_rowsB (t := 5) (xs := now) (cs := cs7) hs) (repL_of_old ho hrep2)))) ?_
    rw [decide_eq_true (rfl : now ++ thn = now ++ thn)]
    refine ha_v 9 rfl (ov_move rfl) rfl <| ?_
    refine ha_one 10 (by kernel_rfl) <| ?_
    refine ho_k rfl Try.call29 rfl (fun w1 H1 => Own.calln H1 fun D' hold hin H2 => wakes4_spec D' w1) ?_
    refine ha_v 11 rfl (ov_pickT rfl rfl) rfl <| ?_
    refine ha_v 12 rfl (ov_assign rfl) rfl <| ?_
    refine ha_done (by kernel_rfl) <| hx_then_normal <| hc_ret <| ?_
    exact results_1 (.inr rfl) rfl rfl fun w' H' => ⟨rfl, H'.ent (Ent.nil _)⟩
  skip
  refine ho_n rfl (on_buildSliceN rfl rfl rfl) rfl (fun b347 => ?_)
  refine ha_ent (Ent.blk_row (b := b347) 1 0 rfl (by decide)) ?_
  refine ha_one 1 (by kernel_rfl) <| ?_
  refine ho_kx (σ := Option Addr × Nat × List Value) rfl Try.call32 rfl (fun w1 H1 => Own.callpx (jou mb g 0 140 2 k4 (now ++ thn)) H1 fun D' hold hin H2 => All_spec D' w1 mb g 0 140 2 k4 (now ++ thn) (by omega) hntx H2) ?_
  rintro ⟨A8, cap8, cs8⟩
  refine ha_one 4 (by kernel_rfl) <| ?_
  refine ho_n rfl (on_appendR (A := some ⟨b347, 0, none⟩) (news := cs7) rfl rfl (SrcIs.rowR (A := A7) hA7') (by omega) hone7 (by decide) (by omega)) rfl ?_
  rintro ⟨A9, cap9⟩
  dsimp only
  simp only [Nat.zero_add, List.nil_append]
  refine ha_one 7 (by kernel_rfl) <| ?_
  refine ho_n rfl (on_appendR (A := A9) (news := ts) rfl rfl (SrcIs.old HS2) (by omega) hone2 (by decide) (by omega)) rfl ?_
  rintro ⟨AX, capX⟩
  dsimp only
  refine ha_one 8 (by kernel_rfl) <| ?_
  refine ho_k rfl Try.call34 rfl (fun w1 H1 => Own.calln H1 fun D' hold hin H2 => Lists_spec D' w1 _ _ (now ++ thn) (now ++ thn) (hin _ fun h hs ho => rep_row (A := A8) hs (now ++ thn) rfl (stars_rowsB (t := 5) (xs := now ++ thn) (cs := cs8) hs)) (hin _ fun h hs ho => rep_row (A := AX) hs (now ++ thn) (by simp) (repL_append (stars_rowsB (t := 5) (xs := now) (cs := cs7) hs) (repL_of_old ho hrep2)))) ?_
  rw [decide_eq_true (rfl : now ++ thn = now ++ thn)]
  refine ha_v 9 rfl (ov_move rfl) rfl <| ?_
  refine ha_one 10 (by kernel_rfl) <| ?_
  refine ho_k rfl Try.call29 rfl (fun w1 H1 => Own.calln H1 fun D' hold hin H2 => wakes4_spec D' w1) ?_
  refine ha_v 11 rfl (ov_pickT rfl rfl) rfl <| ?_
  refine ha_v 12 rfl (ov_assign rfl) rfl <| ?_
  refine ha_done (by kernel_rfl) <| hx_then_normal <| hc_ret <| ?_
  exact results_1 (.inr rfl) rfl rfl fun w' H' => ⟨rfl, H'.ent (Ent.nil _)⟩
end Go.Proofs.Ytijaldfiaeafgaa
