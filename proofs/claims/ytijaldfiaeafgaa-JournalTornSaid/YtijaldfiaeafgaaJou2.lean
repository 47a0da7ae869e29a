import Derived.Test.YtijaldfiaeafgaaJou1
import Derived.Test.YtijaldfiaeafgaaSec2
set_option linter.unusedVariables false
set_option linter.unusedSimpArgs false
namespace Go.Proofs.Ytijaldfiaeafgaa
open Slk
abbrev plcC (g from_ to_ : Nat) : List Value := [.pointer (some ⟨g, 0, none⟩), .int .i64 (from_ : Int), .int .i64 (to_ : Int)]
theorem sectors_spec (D : Nat → Prop) (w : World) (g from_ to_ at_ N : Nat) (S T : List Sec) (hto : to_ ≤ S.length) (hS : S.length ≤ 100000) (hN : at_ + N = to_) (hT : T = (S.drop at_).take N) (H : Own D w w [dsk g S []]) :
    Calls Try.prog 56 #[.agg (plcC g from_ to_).toArray, .int .i64 (at_ : Int)] w fun e w' => ∃ q : Option Addr × Nat, e = .returned (.slice q.1 N q.2) ∧ Own D w w' [row q.1 34 64 N q.2 (T.flatMap secC), dsk g S []] := by
  refine hc_enter (vs := [.agg (plcC g from_ to_).toArray, .int .i64 (at_ : Int)]) Try.func56 rfl _ Try.ntmps56 rfl H ?_
  simp only [argSlots, Nat.zero_add]
  refine hc_seq <| hc_region <| ?_
  refine hl_new (on_boxG (cs := plcC g from_ to_) rfl) rfl rfl rfl (fun b2 => ?_)
  refine hl_v (ov_assign rfl) rfl <| hl_nil <| hx_then_normal <| hc_seq <| hc_region <| hl_v (ov_assign rfl) rfl <| ?_
  refine hl_nil <| hx_then_normal <| hc_seq <| hc_block <| ?_
  refine hc_loopK2 (σ := Nat × Option Addr × Nat) [2] rfl 1 (fun s => .int .i64 ((at_ + s.1 : Nat) : Int)) 5 (fun s => .slice s.2.1 s.1 s.2.2) (fun s => [row s.2.1 34 64 s.1 s.2.2 (((S.drop at_).take s.1).flatMap secC), dsk g S [], blk b2 120 (plcC g from_ to_)]) (fun s => s.1 ≤ N) (fun s => N - s.1) ((0, none, 0)) (Nat.zero_le _) rfl rfl (Ent.trans (Ent.nil_row 34 64) (by simp only [List.take_zero, List.flatMap_nil]; exact (by first | assumption | exact Ent.refl _ | exact Ent.nil _ | exact Ent.row_any (Ent.refl _) | (repeat (first | exact Ent.refl _ | exact Ent.nil _ | refine Ent.pick ?_))))) ?_
  rintro ⟨k, ql⟩ hkN K1 hK1
  dsimp only at hkN ⊢
  refine hc_seq <| hc_seq <| hc_region <| hl_v (ov_move rfl) rfl <| hl_v (ov_fieldA rfl) rfl <| hl_v (ov_load rfl (CellIs.blk rfl)) rfl <| ?_
  refine hl_v (ov_lss rfl rfl) rfl <| hl_nil <| hx_then_normal <| ?_
  refine hc_cond rfl (fun h2 => ?_) (fun h2 => ?_)
  · have hk : k < N := by omega
    have hi : at_ + k < S.length := by omega
    have hst : (S.drop at_).take (k + 1) = (S.drop at_).take k ++ [S[at_ + k]] := by
      rw [List.take_succ_eq_append_getElem (by rw [List.length_drop]; omega), List.getElem_drop]
    obtain ⟨s, hs⟩ : ∃ s, s = S[at_ + k] := ⟨_, rfl⟩
    rw [← hs] at hst
    refine hc_skip <| hx_then_normal <| hc_seq <| hc_block <| hc_seq <| hc_region <| ?_
    refine hl_v (ov_fieldA rfl) rfl <| hl_v (ov_load rfl (CellIs.blk rfl)) rfl <| hl_v (ov_move rfl) rfl <| ?_
    refine hl_c Try.call17 rfl rfl (fun w1 H1 => Own.callp (dsk g S []) H1 fun D' hold hin H2 => (Read_ok D' w1 g (at_ + k) S [] hi H2).mono fun e w' ⟨he, H'⟩ => ⟨show e = Ending.returned (.tuple #[.agg (secC s).toArray, .int .i64 0]) by rw [he, hs]; rfl, H'⟩) ?_
    refine hl_v (ov_move rfl) rfl <| hl_v (ov_extract rfl rfl) rfl <| hl_v (ov_extract rfl rfl) rfl <| hl_new (on_alloc) rfl rfl rfl fun b6 =>  ?_
    refine hl_u0 (on_storeW (vs := secC s) rfl rfl (by simp [secC_len]) (by simp [secC_len]) (secC_one s)) rfl rfl ?_
    refine hl_v (ov_assign rfl) rfl <| hl_nil <| hx_then_normal <| hc_seq <| hc_seq <| hc_region <| ?_
    refine hl_v (ov_move rfl) rfl <| hl_v (ov_neq rfl rfl) rfl <| hl_nil <| hx_then_normal <| ?_
    refine hc_cond_F rfl ((fun h => h rfl)) ?_
    refine hc_skip <| hx_then_normal <| hc_region <| hl_v (ov_move rfl) rfl <| ?_
    refine hl_v (ov_loadW rfl (secC_len s)) rfl ?_
    refine hl_new (on_buildSlice (res := secC s) rfl rfl (fill_sec1 _)) rfl rfl rfl (fun b37 => ?_)
    refine hl_new (on_appendR (A := ql.1) (news := secC s) rfl rfl (SrcIs.blk (b := b37)) (by rw [secC_len]) (secC_one _) (by decide) (by omega)) rfl rfl rfl (fun qm => ?_)
    rw [show ((S.drop at_).take k).flatMap secC ++ secC s = ((S.drop at_).take (k + 1)).flatMap secC by rw [hst, List.flatMap_append, List.flatMap_singleton]]
    refine hl_v (ov_assign rfl) rfl <| hl_nil <| hx_block_normal <| hx_then_normal <| hc_region <| hl_v (ov_move rfl) rfl <| ?_
    refine hl_v (ov_add (m := ((at_ + (k + 1) : Nat) : Int)) rfl rfl ((wrap_i64 (by omega)).trans (by omega))) rfl ?_
    refine hl_v (ov_assign rfl) rfl <| hl_nil <| ?_
    refine hx_next hK1 ((k + 1, qm)) (hk) (by omega) (by repeat (first | exact Slots.sub_nil _ | refine Slots.sub_cons rfl ?_)) (by first | assumption | exact Ent.refl _ | exact Ent.nil _ | (repeat (first | exact Ent.refl _ | exact Ent.nil _ | refine Ent.pick ?_)))
  obtain rfl : k = N := by omega
  rw [← hT]
  refine hc_exit <| hx_then_exit <| hx_then_exit <| hx_block_out <| hx_then_normal <| hc_seq <| ?_
  refine hc_region <| hl_v (ov_move rfl) rfl <| hl_v (ov_assign rfl) rfl <| hl_nil <| hx_then_normal <| hc_ret <| ?_
  exact results_1 (.inr rfl) rfl rfl fun w' H' => ⟨ql, rfl, H'.ent (by first | assumption | exact Ent.refl _ | exact Ent.nil _ | exact Ent.row_any (Ent.refl _) | (repeat (first | exact Ent.refl _ | exact Ent.nil _ | refine Ent.pick ?_)))⟩
set_option maxHeartbeats 1000000 in
theorem put_spec (D : Nat → Prop) (w : World) (g from_ to_ at_ n : Nat) (S L : List Sec) (v : Value) (hS : S.length ≤ 100000) (hl0 : 0 < L.length) (hn : n = L.length) (hfit : at_ + L.length ≤ S.length) (HA : Old D w (Rep.rep L [v])) (H : Own D w w [dsk g S []]) :
    Calls Try.prog 60 #[.agg (plcC g from_ to_).toArray, .int .i64 (at_ : Int), v] w fun e w' => e = .returned (.int .i64 0) ∧ Own D w w' [dsk g (putS S at_ L) []] := by
  obtain ⟨A, cap, rfl, hA1, hA2, HS, HR⟩ := HA.openS
  obtain ⟨x0, r, hLr⟩ : ∃ x r, L = x :: r := by
    cases L with
    | nil => simp at hl0
    | cons x r => exact ⟨x, r, rfl⟩
  have hrl : r.length = L.length - 1 := by rw [hLr, List.length_cons]; omega
  have hA := flat_isA HS (k := 0) hl0
  have hL0 : L[0] = x0 := by simp only [hLr, List.getElem_cons_zero]
  obtain ⟨ba, off, rfl⟩ : ∃ b off, A = some ⟨b, off, none⟩ := ⟨_, _, hA⟩
  obtain ⟨A1, hAe⟩ : ∃ A1 : Option Addr, A1 = if cap = 1 then some ⟨ba, off, none⟩ else (some ⟨ba, off, none⟩ : Option Addr).map (·.add (1 * 64)) := ⟨_, rfl⟩
  refine hc_enter (vs := [.agg (plcC g from_ to_).toArray, .int .i64 (at_ : Int), .slice (some ⟨ba, off, none⟩) L.length cap]) Try.func60 rfl _ Try.ntmps60 rfl H ?_
  simp only [argSlots, Nat.zero_add]
  refine hc_seq <| hc_region <| ?_
  refine hl_new (on_boxG (cs := plcC g from_ to_) rfl) rfl rfl rfl (fun b3 => ?_)
  refine hl_v (ov_assign rfl) rfl <| hl_nil <| hx_then_normal <| hc_seq <| hc_seq <| hc_region <| ?_
  refine hl_v (ov_move rfl) rfl <| ?_
  refine hl_v (ov_sl (.slice A1 (L.length - 1) (cap - 1)) rfl 1 L.length (.inr ⟨_, _, rfl, rfl⟩) (.inl ⟨rfl, rfl⟩) (by omega) (by omega) (by rw [hAe])) rfl ?_
  refine hl_v (by first | exact ov_len rfl | exact ov_lenS rfl) rfl <| ?_
  refine hl_v (ov_move rfl) rfl <| hl_nil <| hx_then_normal <| hc_block <| ?_
  refine hc_loopK1 (σ := Nat) [1, 2, 3, 13, 14] rfl 15 (fun i => .int .i64 (i : Int)) (fun i => [dsk g S (PW (at_ + 1) r i), blk b3 120 (plcC g from_ to_)]) (fun i => i ≤ r.length) (fun i => r.length - i) (0) (Nat.zero_le _) rfl (show Ent _ [dsk g S [], blk b3 120 (plcC g from_ to_)] from (by first | assumption | exact Ent.refl _ | exact Ent.nil _ | exact Ent.row_any (Ent.refl _) | (repeat (first | exact Ent.refl _ | exact Ent.nil _ | refine Ent.pick ?_)))) ?_
  rintro i hi K1 hK1
  refine hc_seq <| hc_region <| hl_v (ov_lss rfl rfl) rfl <| hl_nil <| hx_then_normal <| hc_seq <| ?_
  refine hc_cond rfl (fun h => ?_) (fun h => ?_)
  · have hir : i < r.length := by omega
    have hli : i + 1 < L.length := by omega
    have hLi : L[i + 1] = r[i] := by simp only [hLr, List.getElem_cons_succ]
    have hAv : A1 = some ⟨ba, off + 1 * 64, none⟩ := by rw [hAe, if_neg (by omega)]; rfl
    have hA1i : isA A1 := by rw [hAv]; rfl
    have hcx : ∀ l', CellsAre D w l' (ab A1) (ao A1 + i * 64) (secC r[i]) := fun l' => by
      have := cells_sec HS hli l'
      rw [hLi] at this
      rw [hAv]
      show CellsAre D w l' ba (off + 1 * 64 + i * 64) _
      rw [show off + 1 * 64 + i * 64 = off + (i + 1) * 64 by omega]
      exact this
    refine hc_skip <| hx_then_normal <| hc_seq <| hc_block <| hc_seq <| hc_region <| ?_
    refine hl_v (ov_move rfl) rfl <| ?_
    refine hl_v (ov_idxS (A := A1) rfl hA1i rfl i rfl (by omega)) rfl ?_
    refine hl_v (ov_loadG (cs := secC r[i]) rfl (secC_len _) (hcx _)) rfl ?_
    refine hl_new (on_alloc) rfl rfl rfl fun b8 => 
      hl_v (ov_assign rfl) rfl <| ?_
    refine hl_u0 (on_storeW (vs := secC r[i]) rfl rfl (by simp [secC_len]) (by simp [secC_len]) (secC_one _)) rfl rfl ?_
    refine hl_nil <| hx_then_normal <| hc_seq <| hc_region <| hl_v (ov_fieldA rfl) rfl <| hl_v (ov_load rfl (CellIs.blk rfl)) rfl <| ?_
    refine hl_v (ov_move rfl) rfl <| hl_v (ov_add rfl rfl (by first | exact wrap_i64 (by omega) | rfl)) rfl <| ?_
    refine hl_v (ov_move rfl) rfl <| ?_
    refine hl_v (ov_add (m := ((at_ + 1 + i : Nat) : Int)) rfl rfl ((wrap_i64 (by omega)).trans (by omega))) rfl ?_
    refine hl_v (ov_loadW rfl (secC_len _)) rfl ?_
    refine hl_c Try.call23 rfl rfl (fun w1 H1 => Own.callp (dsk g S (PW (at_ + 1) r i)) H1 fun D' hold hin H2 => Write_ok D' w1 g (at_ + 1 + i) r[i] S (PW (at_ + 1) r i) (by omega) (by have := PW_len (at_ := at_ + 1) (l := r) (i := i); omega) H2) ?_
    rw [← PW_succ hir]
    refine hl_v (ov_assign rfl) rfl <| hl_nil <| hx_then_normal <| hc_seq <| hc_region <| hl_v (ov_move rfl) rfl <| ?_
    refine hl_v (ov_neq rfl rfl) rfl <| hl_nil <| hx_then_normal <| ?_
    refine hc_cond_F rfl ((fun h => h rfl)) ?_
    refine hc_skip <| hx_block_normal <| hx_then_normal <| hc_region <| hl_v (ov_add rfl rfl (by first | exact wrap_i64 (by omega) | rfl)) rfl <| ?_
    refine hl_v (ov_move rfl) rfl <| hl_nil <| ?_
    refine hx_next hK1 (i + 1) (hir) (by omega) (by repeat (first | exact Slots.sub_nil _ | refine Slots.sub_cons rfl ?_)) (by first | assumption | exact Ent.refl _ | exact Ent.nil _ | (repeat (first | exact Ent.refl _ | exact Ent.nil _ | refine Ent.pick ?_)))
  obtain rfl : i = r.length := by omega
  refine hc_exit <| hx_then_exit <| hx_then_exit <| hx_block_out <| hx_then_normal <| hc_seq <| ?_
  refine hc_seq <| hc_region <| hl_v (ov_fieldA rfl) rfl <| hl_v (ov_load rfl (CellIs.blk rfl)) rfl <| ?_
  refine hl_c Try.call24 rfl rfl (fun w1 H1 => Own.callp (dsk g S (PW (at_ + 1) r r.length)) H1 fun D' hold hin H2 => (Flush_spec D' w1 g S (PW (at_ + 1) r r.length) (PW_lt (by omega)) H2)) ?_
  rw [PW_done (by omega)]
  have hpl2 : (putS S (at_ + 1) r).length = S.length := putS_len (by omega)
  refine hl_v (ov_assign rfl) rfl <| hl_nil <| hx_then_normal <| hc_seq <| hc_region <| hl_v (ov_move rfl) rfl <| ?_
  refine hl_v (ov_neq rfl rfl) rfl <| hl_nil <| hx_then_normal <| ?_
  refine hc_cond_F rfl ((fun h => h rfl)) ?_
  refine hc_skip <| hx_then_normal <| hc_seq <| hc_seq <| ?_
  refine hc_tail 6 mixed (by kernel_rfl) ?_
  refine ht_v (ov_fieldA rfl) rfl <| ht_v (ov_load rfl (CellIs.blk rfl)) rfl <| ht_v (ov_move rfl) rfl <| ht_v (ov_move rfl) rfl <| ?_
  refine ht_v (ov_idxSc rfl hA rfl rfl (by omega)) rfl ?_
  refine ht_v (ov_loadG (cs := secC x0) rfl (secC_len _) (by rw [← hL0]; exact cells_sec HS hl0 _)) rfl ?_
  refine ht_nil <| ?_
  refine hl_c Try.call23 rfl rfl (fun w1 H1 => Own.callp (dsk g (putS S (at_ + 1) r) []) H1 fun D' hold hin H2 => Write_ok D' w1 g at_ x0 (putS S (at_ + 1) r) [] (by omega) (by decide) H2) ?_
  refine hl_v (ov_assign rfl) rfl <| hl_nil <| hx_then_normal <| hc_seq <| hc_region <| hl_v (ov_move rfl) rfl <| ?_
  refine hl_v (ov_neq rfl rfl) rfl <| hl_nil <| hx_then_normal <| ?_
  refine hc_cond_F rfl ((fun h => h rfl)) ?_
  refine hc_skip <| hx_then_normal <| hc_seq <| hc_region <| hl_v (ov_fieldA rfl) rfl <| hl_v (ov_load rfl (CellIs.blk rfl)) rfl <| ?_
  have hfin : settleL (fun _ => true) 0 (putS S (at_ + 1) r) [(at_, x0)] = putS S at_ L := by
    rw [hLr, ← put_first (by rw [← hLr]; exact hfit)]; rfl
  rw [List.nil_append]
  refine hl_c Try.call24 rfl rfl (fun w1 H1 => Own.callp (dsk g (putS S (at_ + 1) r) [(at_, x0)]) H1 fun D' hold hin H2 => Flush_spec D' w1 g (putS S (at_ + 1) r) [(at_, x0)] (fun p hp => by obtain rfl := List.mem_singleton.1 hp; show at_ < _; omega) H2) ?_
  rw [hfin]
  refine hl_v (ov_assign rfl) rfl <| hl_nil <| hx_then_normal <| hc_ret <| ?_
  exact results_1 (.inr rfl) rfl rfl fun w' H' => ⟨rfl, H'.ent (by first | assumption | exact Ent.refl _ | exact Ent.nil _ | exact Ent.row_any (Ent.refl _) | (repeat (first | exact Ent.refl _ | exact Ent.nil _ | refine Ent.pick ?_)))⟩
end Go.Proofs.Ytijaldfiaeafgaa
