import Derived.Test.YtijaldfiaeafgaaRJo1
set_option linter.unusedVariables false
set_option linter.unusedSimpArgs false
namespace Go.Proofs.Ytijaldfiaeafgaa
open Slk
theorem needM_le (m : Nat) : needM m ≤ 64 := by unfold needM; split <;> omega
/-- An entry is found in the first 70 sectors, or not at all. -/
theorem decS_take (l : List Sec) : decS (l.take 70) = decS l := by
  cases l with
  | nil => rfl
  | cons s r =>
    rw [List.take_succ_cons]
    have hn := needM_le (numAt s 10 2)
    have ht : ∀ k, k ≤ 64 → (s :: r.take 69).take k = (s :: r).take k := fun k hk => by
      rw [← List.take_succ_cons, List.take_take, Nat.min_eq_left (by omega)]
    have hc : candE (s :: r.take 69) s = candE (s :: r) s := by unfold candE; rw [ht _ hn]
    have hl : needM (numAt s 10 2) ≤ (s :: r.take 69).length ↔ needM (numAt s 10 2) ≤ (s :: r).length := by
      simp only [List.length_cons, List.length_take]; omega
    show (if _ then _ else _) = (if _ then _ else _)
    rw [hc, ht _ hn]
    simp only [hl]
theorem decS_seq {l : List Sec} {e : EntT} {n : Nat} (h : decS l = some (e, n)) : e.2.2.1 < 4294967296 := by
  cases l with
  | nil => cases h
  | cons s r =>
    have h' : (if s[0].toNat = 87 ∧ needM (numAt s 10 2) ≠ 0 ∧ needM (numAt s 10 2) ≤ (s :: r).length ∧ encE (candE (s :: r) s) = (s :: r).take (needM (numAt s 10 2)) then some (candE (s :: r) s, needM (numAt s 10 2)) else none) = some (e, n) := h
    by_cases hh : s[0].toNat = 87 ∧ needM (numAt s 10 2) ≠ 0 ∧ needM (numAt s 10 2) ≤ (s :: r).length ∧ encE (candE (s :: r) s) = (s :: r).take (needM (numAt s 10 2))
    · rw [if_pos hh] at h'
      injection h' with h'
      injection h' with h1 h2
      subst h1
      exact numAt_lt4 s 6 (by decide)
    · rw [if_neg hh] at h'; cases h'
theorem ROpen_nil (D : Nat → Prop) (w : World) (from_ to_ : Int) (ep : Nat) : Calls Try.prog 37 #[.pointer none, .int .i64 from_, .int .i64 to_, .int .u32 (ep : Int)] w fun e w' => e = .returned (.tuple #[.pointer none, .int .i64 1]) ∧ Own D w w' [] := by
  refine hc_enter (vs := [.pointer none, .int .i64 from_, .int .i64 to_, .int .u32 (ep : Int)]) Try.func37 rfl _ Try.ntmps37 rfl (Own.start D w) ?_
  simp only [argSlots, Nat.zero_add]
  refine hc_seq <| hc_region <| hl_v (ov_assign rfl) rfl <| hl_v (ov_assign rfl) rfl <| hl_nil <| hx_then_normal <| ?_
  refine hc_seq <| hc_seq <| hc_region <| hl_v (ov_move rfl) rfl <| hl_v (ov_eqlP rfl rfl) rfl <| hl_v (ov_move rfl) rfl <| ?_
  refine hl_off rfl rfl rfl rfl rfl rfl <| hl_off rfl rfl rfl rfl rfl rfl <| hl_v (ov_pickT rfl rfl) rfl <| hl_v (ov_move rfl) rfl <| hl_off rfl rfl rfl rfl rfl rfl <| hl_off rfl rfl rfl rfl rfl rfl <| ?_
  refine hl_off rfl rfl rfl rfl rfl rfl <| hl_v (ov_pickT rfl rfl) rfl <| hl_v (ov_move rfl) rfl <| hl_off rfl rfl rfl rfl rfl rfl <| hl_off rfl rfl rfl rfl rfl rfl <| hl_off rfl rfl rfl rfl rfl rfl <| ?_
  refine hl_off rfl rfl rfl rfl rfl rfl <| hl_off rfl rfl rfl rfl rfl rfl <| hl_off rfl rfl rfl rfl rfl rfl <| hl_off rfl rfl rfl rfl rfl rfl <| hl_v (ov_pickT rfl rfl) rfl <| hl_nil <| ?_
  refine hx_then_normal <| hc_cond_true rfl <| hc_seq <| hc_region <| hl_v (ov_assign rfl) rfl <| hl_v (ov_assign rfl) rfl <| ?_
  refine hl_nil <| hx_then_normal <| hc_ret <| hx_then_ret <| ?_
  exact results_2 (.inr rfl) rfl rfl rfl fun w' H' => ⟨rfl, H'⟩
theorem ROpen_no (D : Nat → Prop) (w : World) (g : Nat) (S : List Sec) (from_ to_ : Int) (ep : Nat) (hbad : from_ < 0 ∨ to_ ≤ from_ ∨ (S.length : Int) < to_) (H : Own D w w [rdsk g S []]) : Calls Try.prog 37 #[.pointer (some ⟨g, 0, none⟩), .int .i64 from_, .int .i64 to_, .int .u32 (ep : Int)] w fun e w' => e = .returned (.tuple #[.pointer none, .int .i64 1]) ∧ Own D w w' [rdsk g S []] := by
  refine hc_enter (vs := [.pointer (some ⟨g, 0, none⟩), .int .i64 from_, .int .i64 to_, .int .u32 (ep : Int)]) Try.func37 rfl _ Try.ntmps37 rfl H ?_
  simp only [argSlots, Nat.zero_add]
  refine HC.exs ?_
  rintro ⟨⟨A0, c0⟩, A1, c1⟩
  refine HC.ent (l' := [blk g 59 [.slice A0 S.length c0, .slice A1 0 c1], row A0 34 64 S.length c0 (S.flatMap secC), row A1 116 65 0 c1 []]) (fun _ h => h) ?_
  refine hc_seq <| hc_region <| hl_v (ov_assign rfl) rfl <| hl_v (ov_assign rfl) rfl <| hl_nil <| hx_then_normal <| ?_
  refine hc_seq <| hc_seq <| hc_region <| hl_v (ov_move rfl) rfl <| hl_v (ov_eqlP rfl rfl) rfl <| hl_v (ov_move rfl) rfl <| ?_
  refine hl_on rfl rfl <| hl_v (ov_move rfl) rfl <| hl_on rfl rfl <| hl_v (ov_lss rfl rfl) rfl <| hl_v (ov_pickF rfl rfl) rfl <| hl_v (ov_move rfl) rfl <| ?_
  refine hl_part (t := 22) rfl (fun c1 => ?_) (fun c1 => ?_)
  · refine hl_off rfl rfl rfl rfl rfl rfl <| hl_off rfl rfl rfl rfl rfl rfl <| hl_off rfl rfl rfl rfl rfl rfl <| hl_v (ov_pickT rfl rfl) rfl <| hl_v (ov_move rfl) rfl <| hl_off rfl rfl rfl rfl rfl rfl <| ?_
    refine hl_off rfl rfl rfl rfl rfl rfl <| hl_off rfl rfl rfl rfl rfl rfl <| hl_off rfl rfl rfl rfl rfl rfl <| hl_off rfl rfl rfl rfl rfl rfl <| hl_off rfl rfl rfl rfl rfl rfl <| hl_off rfl rfl rfl rfl rfl rfl <| ?_
    refine hl_v (ov_pickT rfl rfl) rfl <| hl_nil <| hx_then_normal <| hc_cond_true rfl <| hc_seq <| hc_region <| ?_
    refine hl_v (ov_assign rfl) rfl <| hl_v (ov_assign rfl) rfl <| hl_nil <| hx_then_normal <| hc_ret <| hx_then_ret <| ?_
    exact results_2 (.inr rfl) rfl rfl rfl fun w' H' => ⟨rfl, H'.ent (dsk_mk (P := []))⟩
  refine hl_on rfl rfl <| hl_v (ov_move rfl) rfl <| hl_on rfl rfl <| hl_v (ov_move rfl) rfl <| hl_on rfl rfl <| hl_v (ov_geq rfl rfl) rfl <| hl_v (ov_pickF rfl rfl) rfl <| hl_v (ov_move rfl) rfl <| ?_
  refine hl_part (t := 27) rfl (fun c2 => ?_) (fun c2 => ?_)
  · refine hl_off rfl rfl rfl rfl rfl rfl <| hl_off rfl rfl rfl rfl rfl rfl <| hl_off rfl rfl rfl rfl rfl rfl <| hl_off rfl rfl rfl rfl rfl rfl <| hl_off rfl rfl rfl rfl rfl rfl <| hl_off rfl rfl rfl rfl rfl rfl <| ?_
    refine hl_off rfl rfl rfl rfl rfl rfl <| hl_v (ov_pickT rfl rfl) rfl <| hl_nil <| hx_then_normal <| hc_cond_true rfl <| hc_seq <| ?_
    refine hc_region <| hl_v (ov_assign rfl) rfl <| hl_v (ov_assign rfl) rfl <| hl_nil <| hx_then_normal <| hc_ret <| ?_
    refine hx_then_ret <| ?_
    exact results_2 (.inr rfl) rfl rfl rfl fun w' H' => ⟨rfl, H'.ent (dsk_mk (P := []))⟩
  refine hl_on rfl rfl <| hl_v (ov_move rfl) rfl <| hl_on rfl rfl <| hl_v (ov_move rfl) rfl <| hl_on rfl rfl <| hl_v (ov_nil rfl) rfl <| hl_on rfl rfl <| hl_v (ov_fieldA rfl) rfl <| hl_on rfl rfl <| hl_v (ov_load rfl (CellIs.blk rfl)) rfl <| hl_on rfl rfl <| hl_v (by first | exact ov_len rfl | exact ov_lenS rfl) rfl <| ?_
  refine hl_on rfl rfl <| hl_v (ov_gtr rfl rfl) rfl <| hl_v (ov_pickF rfl rfl) rfl <| hl_nil <| hx_then_normal <| ?_
  refine hc_cond_T rfl ((by omega)) ?_
  refine hc_seq <| hc_region <| hl_v (ov_assign rfl) rfl <| hl_v (ov_assign rfl) rfl <| hl_nil <| hx_then_normal <| ?_
  refine hc_ret <| hx_then_ret <| ?_
  exact results_2 (.inr rfl) rfl rfl rfl fun w' H' => ⟨rfl, H'.ent (dsk_mk (P := []))⟩
set_option maxHeartbeats 2000000 in
theorem ROpen_ok (D : Nat → Prop) (w : World) (g : Nat) (S : List Sec) (from_ to_ N : Nat) (T : List Sec) (ep : Nat) (hto : to_ ≤ S.length) (hS : S.length ≤ 100000) (hN : from_ + N = to_) (hN0 : 0 < N) (hT : T = (S.drop from_).take N) (H : Own D w w [rdsk g S []]) :
    Calls Try.prog 37 #[.pointer (some ⟨g, 0, none⟩), .int .i64 (from_ : Int), .int .i64 (to_ : Int), .int .u32 (ep : Int)] w fun e w' => ∃ jb : Nat, e = .returned (.tuple #[.pointer (some ⟨jb, 0, none⟩), .int .i64 0]) ∧ Own D w w' [rjou jb g from_ to_ ep (from_ + (entsF ep N 0 T).2) (entsF ep N 0 T).1, rdsk g S []] := by
  have hTl : T.length = N := by rw [hT, List.length_take, List.length_drop]; omega
  have hTk : ∀ k (h : k < N), ∃ h2 : k < T.length, T[k] = S[from_ + k]'(by omega) := fun k h => by
    refine ⟨by omega, ?_⟩
    have : T[k]? = S[from_ + k]? := by rw [hT, List.getElem?_take_of_lt h, List.getElem?_drop]
    rw [List.getElem?_eq_getElem (by omega), List.getElem?_eq_getElem (by omega)] at this
    simpa using this
  refine hc_enter (vs := [.pointer (some ⟨g, 0, none⟩), .int .i64 (from_ : Int), .int .i64 (to_ : Int), .int .u32 (ep : Int)]) Try.func37 rfl _ Try.ntmps37 rfl H ?_
  simp only [argSlots, Nat.zero_add]
  refine HC.exs ?_
  rintro ⟨⟨A0, c0⟩, A1, c1⟩
  refine HC.ent (l' := [blk g 59 [.slice A0 S.length c0, .slice A1 0 c1], row A0 34 64 S.length c0 (S.flatMap secC), row A1 116 65 0 c1 []]) (fun _ h => h) ?_
  refine hc_seq <| hc_region <| hl_v (ov_assign rfl) rfl <| hl_v (ov_assign rfl) rfl <| hl_nil <| hx_then_normal <| ?_
  refine hc_seq <| hc_seq <| hc_region <| hl_v (ov_move rfl) rfl <| hl_v (ov_eqlP rfl rfl) rfl <| hl_v (ov_move rfl) rfl <| ?_
  refine hl_on rfl rfl <| hl_v (ov_move rfl) rfl <| hl_on rfl rfl <| hl_v (ov_lss rfl rfl) rfl <| hl_v (ov_pickF rfl rfl) rfl <| hl_v (ov_move rfl) rfl <| ?_
  refine hl_partF (t := 22) rfl ((by omega)) ?_
  refine hl_on rfl rfl <| hl_v (ov_move rfl) rfl <| hl_on rfl rfl <| hl_v (ov_move rfl) rfl <| hl_on rfl rfl <| hl_v (ov_geq rfl rfl) rfl <| hl_v (ov_pickF rfl rfl) rfl <| hl_v (ov_move rfl) rfl <| ?_
  refine hl_partF (t := 27) rfl ((by omega)) ?_
  refine hl_on rfl rfl <| hl_v (ov_move rfl) rfl <| hl_on rfl rfl <| hl_v (ov_move rfl) rfl <| hl_on rfl rfl <| hl_v (ov_nil rfl) rfl <| hl_on rfl rfl <| hl_v (ov_fieldA rfl) rfl <| hl_on rfl rfl <| hl_v (ov_load rfl (CellIs.blk rfl)) rfl <| hl_on rfl rfl <| hl_v (by first | exact ov_len rfl | exact ov_lenS rfl) rfl <| ?_
  refine hl_on rfl rfl <| hl_v (ov_gtr rfl rfl) rfl <| hl_v (ov_pickF rfl rfl) rfl <| hl_nil <| hx_then_normal <| ?_
  refine hc_cond_F rfl ((by omega)) ?_
  refine HC.ent (dsk_mk (P := [])) ?_
  refine hc_skip <| hx_then_normal <| hc_seq <| hc_region <| hl_v (ov_move rfl) rfl <| hl_v (ov_move rfl) rfl <| ?_
  refine hl_v (ov_move rfl) rfl <| hl_v (ov_move rfl) rfl <| hl_v (ov_move rfl) rfl <| hl_v (ov_buildSN rfl rfl) rfl <| ?_
  refine hl_new (on_boxN rfl rfl) rfl rfl rfl fun b42 =>  ?_
  refine hl_v (ov_assign rfl) rfl <| hl_nil <| hx_then_normal <| hc_block <| ?_
  refine hc_loopK0 (σ := Nat × List (List UInt8) × (Option Addr × Nat × List Value)) [0, 2, 3, 10] rfl  (fun s => [rjouB b42 g from_ to_ ep (from_ + s.1) s.2.1.length (s.2.2.1, s.2.2.2.1), row s.2.2.1 23 1 s.2.1.length s.2.2.2.1 s.2.2.2.2, rowsB 5 s.2.1 s.2.2.2.2, rdsk g S []]) (fun s => s.1 ≤ N ∧ s.2.1.length ≤ s.1 ∧ entsF ep N 0 T = (s.2.1 ++ (entsF ep (N - s.2.1.length) s.2.1.length (T.drop s.1)).1, s.1 + (entsF ep (N - s.2.1.length) s.2.1.length (T.drop s.1)).2)) (fun s => N - s.1) ((0, [], (none, 0, []))) (⟨Nat.zero_le _, Nat.le_refl _, by simp⟩)  (Ent.trans (b := rjouB b42 g from_ to_ ep from_ 0 (none, 0) :: [rdsk g S []]) (by first | assumption | exact Ent.refl _ | exact Ent.nil _ | exact Ent.row_any (Ent.refl _) | (repeat (first | exact Ent.refl _ | exact Ent.nil _ | refine Ent.pick ?_))) (Ent.cons (rowsB_nil.trans (Ent.nil_row 23 1)))) ?_
  rintro ⟨k, LL, ⟨qa, qc, ds⟩⟩ hj_ K1 hK1
  dsimp only at hj_ ⊢
  obtain ⟨hkN, hLk, hent⟩ := hj_
  obtain ⟨U, hU⟩ : ∃ U, U = (T.drop k).take 70 := ⟨_, rfl⟩
  obtain ⟨M, hM⟩ : ∃ M, M = U.length := ⟨_, rfl⟩
  have hMe : M = min 70 (N - k) := by rw [hM, hU, List.length_take, List.length_drop, hTl]
  refine hc_block <| hc_seq <| hc_region <| hl_v (ov_assign rfl) rfl <| hl_nil <| hx_then_normal <| ?_
  refine hc_seq <| hc_seq <| hc_region <| hl_v (ov_move rfl) rfl <| hl_v (ov_nil rfl) rfl <| hl_v (ov_fieldA rfl) rfl <| ?_
  refine hl_v (ov_load rfl (CellIs.blk rfl)) rfl <| hl_v (ov_assign rfl) rfl <| hl_nil <| hx_then_normal <| ?_
  refine hc_cutK1 (σ := Option Addr × Nat) [0, 2, 3, 10] rfl 11 (fun q => .slice q.1 M q.2) (fun q => [row q.1 34 64 M q.2 (U.flatMap secC), rjouB b42 g from_ to_ ep (from_ + k) LL.length (qa, qc), row qa 23 1 LL.length qc ds, rowsB 5 LL ds, rdsk g S []]) (fun K2 hK2 => ?_) (fun q => ?_)
  · refine hc_block <| ?_
    refine hc_loopK2 (σ := Nat × Option Addr × Nat) [0, 2, 3, 10] rfl 11 (fun t => .slice t.2.1 t.1 t.2.2) 12 (fun t => .int .i64 ((from_ + k + t.1 : Nat) : Int)) (fun t => [row t.2.1 34 64 t.1 t.2.2 (((T.drop k).take t.1).flatMap secC), rjouB b42 g from_ to_ ep (from_ + k) LL.length (qa, qc), row qa 23 1 LL.length qc ds, rowsB 5 LL ds, rdsk g S []]) (fun t => t.1 ≤ M) (fun t => M - t.1) ((0, none, 0)) (Nat.zero_le _) rfl rfl (Ent.trans (Ent.nil_row 34 64) (by simp only [List.take_zero, List.flatMap_nil]; exact (by first | assumption | exact Ent.refl _ | exact Ent.nil _ | exact Ent.row_any (Ent.refl _) | (repeat (first | exact Ent.refl _ | exact Ent.nil _ | refine Ent.pick ?_))))) ?_
    rintro ⟨m, ql⟩ hmM K3 hK3
    dsimp only at hmM ⊢
    refine hc_seq <| hc_seq <| hc_region <| hl_v (ov_move rfl) rfl <| hl_v (ov_move rfl) rfl <| hl_v (ov_lss rfl rfl) rfl <| ?_
    refine hl_v (ov_move rfl) rfl <| ?_
    refine hl_part (t := 50) rfl (fun c1 => ?_) (fun c1 => ?_)
    · refine hl_on rfl rfl <| hl_v (ov_move rfl) rfl <| hl_on rfl rfl <| hl_v (by first | exact ov_len rfl | exact ov_lenS rfl) rfl <| ?_
      refine hl_on rfl rfl <| hl_v (ov_lss rfl rfl) rfl <| hl_v (ov_pickT rfl rfl) rfl <| hl_nil <| hx_then_normal <| ?_
      refine hc_cond rfl (fun c2 => ?_) (fun c2 => ?_)
      · have hmk : k + m < N := by omega
        have hm70 : m < M := by omega
        obtain ⟨hkt, hTs⟩ := hTk (k + m) hmk
        have hst : (T.drop k).take (m + 1) = (T.drop k).take m ++ [T[k + m]] := by
          rw [List.take_succ_eq_append_getElem (by rw [List.length_drop]; omega), List.getElem_drop]
        obtain ⟨s, hs⟩ : ∃ s, s = T[k + m] := ⟨_, rfl⟩
        rw [← hs] at hst hTs
        refine hc_skip <| hx_then_normal <| hc_seq <| hc_block <| hc_seq <| hc_region <| ?_
        refine hl_v (ov_move rfl) rfl <| hl_v (ov_move rfl) rfl <| ?_
        refine hl_c Try.call62 rfl rfl (fun w1 H1 => Own.callp (rdsk g S []) H1 fun D' hold hin H2 => (RRead_ok D' w1 g (from_ + k + m) S [] (by omega) H2).mono fun e w' ⟨he, H'⟩ => ⟨show e = Ending.returned (.tuple #[.agg (secC s).toArray, .int .i64 0]) by rw [he, hTs]; simp only [Nat.add_assoc]; rfl, H'⟩) ?_
        refine hl_v (ov_move rfl) rfl <| hl_v (ov_extract rfl rfl) rfl <| hl_v (ov_extract rfl rfl) rfl <| hl_new (on_alloc) rfl rfl rfl fun b13 =>  ?_
        refine hl_u0 (on_storeW (vs := secC s) rfl rfl (by simp [secC_len]) (by simp [secC_len]) (secC_one s)) rfl rfl ?_
        refine hl_v (ov_assign rfl) rfl <| hl_nil <| hx_then_normal <| hc_region <| hl_v (ov_move rfl) rfl <| ?_
        refine hl_v (ov_loadW rfl (secC_len s)) rfl ?_
        refine hl_new (on_buildSlice (res := secC s) rfl rfl (fill_sec1 _)) rfl rfl rfl (fun b37 => ?_)
        refine hl_new (on_appendR (A := ql.1) (news := secC s) rfl rfl (SrcIs.blk (b := b37)) (by rw [secC_len]) (secC_one _) (by decide) (by omega)) rfl rfl rfl (fun qm => ?_)
        rw [show ((T.drop k).take m).flatMap secC ++ secC s = ((T.drop k).take (m + 1)).flatMap secC by rw [hst, List.flatMap_append, List.flatMap_singleton]]
        refine hl_v (ov_assign rfl) rfl <| hl_nil <| hx_block_normal <| hx_then_normal <| hc_region <| hl_v (ov_move rfl) rfl <| ?_
        refine hl_v (ov_add (m := ((from_ + k + (m + 1) : Nat) : Int)) rfl rfl ((wrap_i64 (by omega)).trans (by omega))) rfl ?_
        refine hl_v (ov_assign rfl) rfl <| hl_nil <| ?_
        refine hx_next hK3 ((m + 1, qm)) (hm70) (by omega) (by repeat (first | exact Slots.sub_nil _ | refine Slots.sub_cons rfl ?_)) (by first | assumption | exact Ent.refl _ | exact Ent.nil _ | (repeat (first | exact Ent.refl _ | exact Ent.nil _ | refine Ent.pick ?_)))
      have hmm : m = M := by omega
      subst hmm
      rw [show (T.drop k).take m = U by rw [hU]; rw [show m = 70 by omega]]
      refine hc_exit <| hx_then_exit <| hx_then_exit <| hx_block_out <| ?_
      refine hx_cut hK2 (ql) (by repeat (first | exact Slots.sub_nil _ | refine Slots.sub_cons rfl ?_)) (by first | assumption | exact Ent.refl _ | exact Ent.nil _ | (repeat (first | exact Ent.refl _ | exact Ent.nil _ | refine Ent.pick ?_)))
    have hmm : m = M := by omega
    subst hmm
    rw [show (T.drop k).take m = U by rw [hU, List.take_of_length_le (by rw [List.length_drop]; omega), List.take_of_length_le (by rw [List.length_drop]; omega)]]
    refine hl_off rfl rfl rfl rfl rfl rfl <| hl_off rfl rfl rfl rfl rfl rfl <| hl_off rfl rfl rfl rfl rfl rfl <| hl_v (ov_pickF rfl rfl) rfl <| hl_nil <| hx_then_normal <| ?_
    refine hc_cond_false rfl <| hc_exit <| hx_then_exit <| hx_then_exit <| hx_block_out <| ?_
    refine hx_cut hK2 (ql) (by repeat (first | exact Slots.sub_nil _ | refine Slots.sub_cons rfl ?_)) (by first | assumption | exact Ent.refl _ | exact Ent.nil _ | (repeat (first | exact Ent.refl _ | exact Ent.nil _ | refine Ent.pick ?_)))
  have hdU : decS U = decS (T.drop k) := by rw [hU]; exact decS_take _
  rcases hd : decS (T.drop k) with _ | ⟨x, n⟩
  · have hfin : entsF ep N 0 T = (LL, k) := by
      rw [hent]
      cases N - LL.length with
      | zero => simp [entsF]
      | succ f => rw [entsF, hd]; simp
    refine hx_then_normal <| hc_seq <| hc_region <| hl_v (ov_move rfl) rfl <| ?_
    refine hl_c Try.call63 rfl rfl (fun w1 H1 => Own.calln H1 fun D' hold hin H2 => RDec_none D' w1 _ U (hdU.trans hd) (by omega) (hin _ fun h hs ho => rep_row (A := q.1) hs U hM (repL_secs.2 rfl))) ?_
    refine hl_new (on_alloc) rfl rfl rfl fun b15 =>  ?_
    refine hl_u0 (on_storeW (vs := [.int .i64 0, .int .u32 0, .int .u32 0, .slice none 0 0, .int .i64 0, .int .i64 11]) rfl rfl (by simp) (by simp) (by simp [Value.oneCell'])) rfl rfl ?_
    refine hl_nil <| hx_then_normal <| hc_seq <| hc_seq <| hc_quiet mixed (by kernel_rfl) <| hq_v (ov_fieldA rfl) rfl <| ?_
    refine hq_v (ov_load rfl (CellIs.blk rfl)) rfl <| hq_v (ov_neq rfl rfl) rfl <| hq_v (ov_move rfl) rfl <| ?_
    refine hq_partT (t := 72) rfl ((by decide)) ?_
    refine hq_off rfl rfl rfl rfl rfl rfl <| hq_off rfl rfl rfl rfl rfl rfl <| hq_off rfl rfl rfl rfl rfl rfl <| hq_off rfl rfl rfl rfl rfl rfl <| hq_v (ov_pickT rfl rfl) rfl <| hq_v (ov_move rfl) rfl <| ?_
    refine hq_off rfl rfl rfl rfl rfl rfl <| hq_off rfl rfl rfl rfl rfl rfl <| hq_off rfl rfl rfl rfl rfl rfl <| hq_off rfl rfl rfl rfl rfl rfl <| hq_off rfl rfl rfl rfl rfl rfl <| hq_v (ov_pickT rfl rfl) rfl <| ?_
    refine hq_v (ov_move rfl) rfl <| hq_off rfl rfl rfl rfl rfl rfl <| hq_off rfl rfl rfl rfl rfl rfl <| hq_off rfl rfl rfl rfl rfl rfl <| hq_off rfl rfl rfl rfl rfl rfl <| hq_off rfl rfl rfl rfl rfl rfl <| ?_
    refine hq_off rfl rfl rfl rfl rfl rfl <| hq_off rfl rfl rfl rfl rfl rfl <| hq_off rfl rfl rfl rfl rfl rfl <| hq_off rfl rfl rfl rfl rfl rfl <| hq_off rfl rfl rfl rfl rfl rfl <| hq_v (ov_pickT rfl rfl) rfl <| ?_
    refine hq_nil <| hx_then_normal <| hc_cond_true rfl <| hc_seq <| hc_region <| hl_v (ov_move rfl) rfl <| ?_
    refine hl_v (ov_assign rfl) rfl <| hl_v (ov_assign rfl) rfl <| hl_nil <| hx_then_normal <| hc_ret <| hx_then_ret <| ?_
    refine hx_block_ret <| hx_then_ret <| hx_block_ret <| ?_
    exact results_2 (.inr rfl) rfl rfl rfl fun w' H' => ⟨b42, rfl, H'.ent (Ent.trans (b := rjouB b42 g from_ to_ ep (from_ + k) LL.length (qa, qc) :: row qa 23 1 LL.length qc ds :: rowsB 5 LL ds :: [rdsk g S []]) (by first | assumption | exact Ent.refl _ | exact Ent.nil _ | exact Ent.row_any (Ent.refl _) | (repeat (first | exact Ent.refl _ | exact Ent.nil _ | refine Ent.pick ?_))) (by rw [hfin]; exact rjou_mk))⟩
  have hkN2 : k < N := by
    rcases Nat.lt_or_ge k N with h | h
    · exact h
    · rw [List.drop_of_length_le (by omega)] at hd; cases hd
  obtain ⟨f, hf⟩ : ∃ f, N - LL.length = f + 1 := ⟨N - LL.length - 1, by omega⟩
  rw [hf] at hent
  rw [entsF, hd] at hent
  dsimp only at hent
  have hsq := decS_seq hd
  have hnk : 1 ≤ n ∧ n ≤ (T.drop k).length := by
    rcases hTk : T.drop k with _ | ⟨s, r⟩
    · have := congrArg List.length hTk
      rw [List.length_drop, List.length_nil] at this; omega
    · rw [hTk] at hd; exact (decS_head hd).2
  rw [List.length_drop] at hnk
  refine hx_then_normal <| hc_seq <| hc_region <| hl_v (ov_move rfl) rfl <| ?_
  refine hl_call (σ := Option Addr × Nat) Try.call63 rfl rfl (fun w1 H1 => Own.callx0 H1 fun D' hold hin H2 => RDec_some D' w1 _ U x n (hdU.trans hd) (by omega) (hin _ fun h hs ho => rep_row (A := q.1) hs U hM (repL_secs.2 rfl))) ?_
  intro qx
  try rw [List.nil_append]
  refine hl_new (on_alloc) rfl rfl rfl fun b15 =>  ?_
  refine hl_u0 (on_storeW (vs := [.int .i64 x.1, .int .u32 x.2.1, .int .u32 x.2.2.1, .slice qx.1 x.2.2.2.length qx.2, .int .i64 n, .int .i64 0]) rfl rfl (by simp) (by simp) (by simp [Value.oneCell'])) rfl rfl ?_
  refine hl_nil <| hx_then_normal <| hc_seq <| hc_seq <| hc_quiet mixed (by kernel_rfl) <| hq_v (ov_fieldA rfl) rfl <| ?_
  refine hq_v (ov_load rfl (CellIs.blk rfl)) rfl <| hq_v (ov_neq rfl rfl) rfl <| hq_v (ov_move rfl) rfl <| ?_
  refine hq_partF (t := 72) rfl ((fun h => h rfl)) ?_
  refine hq_on rfl rfl <| hq_v (ov_fieldA rfl) rfl <| hq_on rfl rfl <| hq_v (ov_fieldA rfl) rfl <| hq_on rfl rfl <| hq_v (ov_load rfl (CellIs.blk rfl)) rfl <| hq_on rfl rfl <| hq_v (ov_neq rfl rfl) rfl <| hq_v (ov_pickF rfl rfl) rfl <| hq_v (ov_move rfl) rfl <| ?_
  refine hq_part (t := 78) rfl (fun c1 => ?_) (fun c1 => ?_)
  · have hfin : entsF ep N 0 T = (LL, k) := by rw [hent, if_neg (by omega)]; simp
    refine hq_off rfl rfl rfl rfl rfl rfl <| hq_off rfl rfl rfl rfl rfl rfl <| hq_off rfl rfl rfl rfl rfl rfl <| hq_off rfl rfl rfl rfl rfl rfl <| hq_off rfl rfl rfl rfl rfl rfl <| hq_v (ov_pickT rfl rfl) rfl <| ?_
    refine hq_v (ov_move rfl) rfl <| hq_off rfl rfl rfl rfl rfl rfl <| hq_off rfl rfl rfl rfl rfl rfl <| hq_off rfl rfl rfl rfl rfl rfl <| hq_off rfl rfl rfl rfl rfl rfl <| hq_off rfl rfl rfl rfl rfl rfl <| ?_
    refine hq_off rfl rfl rfl rfl rfl rfl <| hq_off rfl rfl rfl rfl rfl rfl <| hq_off rfl rfl rfl rfl rfl rfl <| hq_off rfl rfl rfl rfl rfl rfl <| hq_off rfl rfl rfl rfl rfl rfl <| hq_v (ov_pickT rfl rfl) rfl <| ?_
    refine hq_nil <| hx_then_normal <| hc_cond_true rfl <| hc_seq <| hc_region <| hl_v (ov_move rfl) rfl <| ?_
    refine hl_v (ov_assign rfl) rfl <| hl_v (ov_assign rfl) rfl <| hl_nil <| hx_then_normal <| hc_ret <| hx_then_ret <| ?_
    refine hx_block_ret <| hx_then_ret <| hx_block_ret <| ?_
    exact results_2 (.inr rfl) rfl rfl rfl fun w' H' => ⟨b42, rfl, H'.ent (Ent.trans (b := rjouB b42 g from_ to_ ep (from_ + k) LL.length (qa, qc) :: row qa 23 1 LL.length qc ds :: rowsB 5 LL ds :: [rdsk g S []]) (by first | assumption | exact Ent.refl _ | exact Ent.nil _ | exact Ent.row_any (Ent.refl _) | (repeat (first | exact Ent.refl _ | exact Ent.nil _ | refine Ent.pick ?_))) (by rw [hfin]; exact rjou_mk))⟩
  refine hq_on rfl rfl <| hq_v (ov_fieldA rfl) rfl <| hq_on rfl rfl <| hq_v (ov_fieldA rfl) rfl <| hq_on rfl rfl <| hq_v (ov_load rfl (CellIs.blk rfl)) rfl <| hq_on rfl rfl <| hq_v (ov_move rfl) rfl <| hq_on rfl rfl <| hq_v (ov_neq rfl rfl) rfl <| hq_v (ov_pickF rfl rfl) rfl <| ?_
  refine hq_v (ov_move rfl) rfl <| ?_
  refine hq_part (t := 85) rfl (fun c2 => ?_) (fun c2 => ?_)
  · have hfin : entsF ep N 0 T = (LL, k) := by rw [hent, if_neg (by omega)]; simp
    refine hq_off rfl rfl rfl rfl rfl rfl <| hq_off rfl rfl rfl rfl rfl rfl <| hq_off rfl rfl rfl rfl rfl rfl <| hq_off rfl rfl rfl rfl rfl rfl <| hq_off rfl rfl rfl rfl rfl rfl <| hq_off rfl rfl rfl rfl rfl rfl <| ?_
    refine hq_off rfl rfl rfl rfl rfl rfl <| hq_off rfl rfl rfl rfl rfl rfl <| hq_off rfl rfl rfl rfl rfl rfl <| hq_off rfl rfl rfl rfl rfl rfl <| hq_v (ov_pickT rfl rfl) rfl <| hq_nil <| ?_
    refine hx_then_normal <| hc_cond_true rfl <| hc_seq <| hc_region <| hl_v (ov_move rfl) rfl <| hl_v (ov_assign rfl) rfl <| ?_
    refine hl_v (ov_assign rfl) rfl <| hl_nil <| hx_then_normal <| hc_ret <| hx_then_ret <| hx_block_ret <| ?_
    refine hx_then_ret <| hx_block_ret <| ?_
    exact results_2 (.inr rfl) rfl rfl rfl fun w' H' => ⟨b42, rfl, H'.ent (Ent.trans (b := rjouB b42 g from_ to_ ep (from_ + k) LL.length (qa, qc) :: row qa 23 1 LL.length qc ds :: rowsB 5 LL ds :: [rdsk g S []]) (by first | assumption | exact Ent.refl _ | exact Ent.nil _ | exact Ent.row_any (Ent.refl _) | (repeat (first | exact Ent.refl _ | exact Ent.nil _ | refine Ent.pick ?_))) (by rw [hfin]; exact rjou_mk))⟩
  refine hq_on rfl rfl <| hq_v (ov_fieldA rfl) rfl <| hq_on rfl rfl <| hq_v (ov_fieldA rfl) rfl <| hq_on rfl rfl <| hq_v (ov_load rfl (CellIs.blk rfl)) rfl <| hq_on rfl rfl <| hq_v (ov_conv rfl (by first | exact wrap_i64 (by omega) | rfl)) rfl <| ?_
  refine hq_on rfl rfl <| hq_v (ov_move rfl) rfl <| hq_on rfl rfl <| hq_v (ov_nil rfl) rfl <| hq_on rfl rfl <| hq_v (ov_fieldA rfl) rfl <| hq_on rfl rfl <| hq_v (ov_load rfl (CellIs.blk rfl)) rfl <| hq_on rfl rfl <| hq_v (by first | exact ov_len rfl | exact ov_lenS rfl) rfl <| ?_
  refine hq_on rfl rfl <| hq_v (ov_neq rfl rfl) rfl <| hq_v (ov_pickF rfl rfl) rfl <| hq_nil <| hx_then_normal <| ?_
  refine hc_cond rfl (fun c3 => ?_) (fun c3 => ?_)
  · have hfin : entsF ep N 0 T = (LL, k) := by rw [hent, if_neg (by omega)]; simp
    refine hc_seq <| hc_region <| hl_v (ov_move rfl) rfl <| hl_v (ov_assign rfl) rfl <| hl_v (ov_assign rfl) rfl <| hl_nil <| ?_
    refine hx_then_normal <| hc_ret <| hx_then_ret <| hx_block_ret <| hx_then_ret <| hx_block_ret <| ?_
    exact results_2 (.inr rfl) rfl rfl rfl fun w' H' => ⟨b42, rfl, H'.ent (Ent.trans (b := rjouB b42 g from_ to_ ep (from_ + k) LL.length (qa, qc) :: row qa 23 1 LL.length qc ds :: rowsB 5 LL ds :: [rdsk g S []]) (by first | assumption | exact Ent.refl _ | exact Ent.nil _ | exact Ent.row_any (Ent.refl _) | (repeat (first | exact Ent.refl _ | exact Ent.nil _ | refine Ent.pick ?_))) (by rw [hfin]; exact rjou_mk))⟩
  rw [if_pos ⟨by omega, by omega, by omega⟩] at hent
  have hLx : (LL ++ [x.2.2.2]).length = LL.length + 1 := by simp
  have hent2 : entsF ep N 0 T = ((LL ++ [x.2.2.2]) ++ (entsF ep (N - (LL ++ [x.2.2.2]).length) (LL ++ [x.2.2.2]).length (T.drop (k + n))).1, (k + n) + (entsF ep (N - (LL ++ [x.2.2.2]).length) (LL ++ [x.2.2.2]).length (T.drop (k + n))).2) := by
    rw [hent, hLx, show N - (LL.length + 1) = f by omega, List.drop_drop, List.append_assoc, Nat.add_assoc]; rfl
  refine hc_skip <| hx_then_normal <| hc_seq <| ?_
  refine hc_any [blk b15 133 [.int .i64 x.1, .int .u32 x.2.1, .int .u32 x.2.2.1, .slice qx.1 x.2.2.2.length qx.2, .int .i64 n, .int .i64 0]] mixed 13 rfl ?_
  refine ha_v 0 rfl (ov_move rfl) rfl <| ?_
  refine ha_v 1 rfl (ov_move rfl) rfl <| ?_
  refine ha_v 2 rfl (ov_nil rfl) rfl <| ?_
  refine ha_v 3 rfl (ov_fieldA rfl) rfl <| ?_
  refine ha_v 5 rfl (ov_fieldA rfl) rfl <| ?_
  refine ha_v 6 rfl (ov_fieldA rfl) rfl <| ?_
  refine ha_v 7 rfl (ov_load rfl (CellIs.blk rfl)) rfl <| ?_
  refine ha_two 4 8 (by kernel_rfl) ?_ ?_
  · skip
    refine ho_v rfl (ov_load rfl (CellIs.blk rfl)) rfl ?_
    refine ha_one 8 (by kernel_rfl) <| ?_
    refine ho_n rfl (on_buildSliceN rfl rfl rfl) rfl (fun b106 => ?_)
    refine ha_one 9 (by kernel_rfl) <| ?_
    refine ho_n rfl (on_appendR (A := qa) (news := [.slice qx.1 x.2.2.2.length qx.2]) rfl rfl (SrcIs.blk (b := b106)) rfl (by simp [Value.oneCell']) (by decide) (by omega)) rfl ?_
    rintro ⟨A', cap'⟩
    dsimp only
    refine ha_v 10 rfl (ov_nil rfl) rfl <| ?_
    refine ha_v 11 rfl (ov_fieldA rfl) rfl <| ?_
    refine ha_one 12 (by kernel_rfl) <| ?_
    refine ho_w0 rfl (on_storeN rfl rfl rfl rfl rfl) rfl ?_
    refine ha_done (by kernel_rfl) <| ?_
    refine hx_then_normal <| ?_
    refine hc_tail 9 mixed (by kernel_rfl) ?_
    refine ht_v (ov_move rfl) rfl <| ht_v (ov_nil rfl) rfl <| ht_v (ov_fieldA rfl) rfl <| ht_v (ov_load rfl (CellIs.blk rfl)) rfl <| ht_v (ov_fieldA rfl) rfl <| ht_v (ov_load rfl (CellIs.blk rfl)) rfl <| ?_
    refine ht_v (ov_add (m := ((from_ + (k + n) : Nat) : Int)) rfl rfl ((wrap_i64 (by omega)).trans (by omega))) rfl ?_
    refine ht_v (ov_nil rfl) rfl <| ht_v (ov_fieldA rfl) rfl <| ht_nil <| hl_u0 (on_storeN rfl rfl rfl rfl rfl) rfl rfl <| hl_nil <| hx_block_normal <| ?_
    exact hx_next hK1 ((k + n, LL ++ [x.2.2.2], (A', cap', ds ++ [.slice qx.1 x.2.2.2.length qx.2]))) (⟨by show k + n ≤ N; omega, by show (LL ++ [x.2.2.2]).length ≤ k + n; omega, hent2⟩) (by show N - (k + n) < N - k; omega) (by repeat (first | exact Slots.sub_nil _ | refine Slots.sub_cons rfl ?_)) (Ent.trans (b := rowsB 5 LL ds :: row qx.1 5 1 x.2.2.2.length qx.2 (x.2.2.2.map u8v) :: [rjouB b42 g from_ to_ ep (from_ + (k + n)) (LL.length + 1) (A', cap'), row A' 23 1 (LL.length + 1) cap' (ds ++ [.slice qx.1 x.2.2.2.length qx.2]), rdsk g S []]) (by first | assumption | exact Ent.refl _ | exact Ent.nil _ | exact Ent.row_any (Ent.refl _) | (repeat (first | exact Ent.refl _ | exact Ent.nil _ | refine Ent.pick ?_))) (Ent.trans rowsB_snoc (by dsimp only; rw [hLx]; exact (by first | assumption | exact Ent.refl _ | exact Ent.nil _ | exact Ent.row_any (Ent.refl _) | (repeat (first | exact Ent.refl _ | exact Ent.nil _ | refine Ent.pick ?_))))))
  skip
  refine ho_n rfl (on_buildSliceN rfl rfl rfl) rfl (fun b106 => ?_)
  refine ha_one 4 (by kernel_rfl) <| ?_
  refine ho_v rfl (ov_load rfl (CellIs.blk rfl)) rfl ?_
  refine ha_one 9 (by kernel_rfl) <| ?_
  refine ho_n rfl (on_appendR (A := qa) (news := [.slice qx.1 x.2.2.2.length qx.2]) rfl rfl (SrcIs.blk (b := b106)) rfl (by simp [Value.oneCell']) (by decide) (by omega)) rfl ?_
  rintro ⟨A', cap'⟩
  dsimp only
  refine ha_v 10 rfl (ov_nil rfl) rfl <| ?_
  refine ha_v 11 rfl (ov_fieldA rfl) rfl <| ?_
  refine ha_one 12 (by kernel_rfl) <| ?_
  refine ho_w0 rfl (on_storeN rfl rfl rfl rfl rfl) rfl ?_
  refine ha_done (by kernel_rfl) <| ?_
  refine hx_then_normal <| ?_
  refine hc_tail 9 mixed (by kernel_rfl) ?_
  refine ht_v (ov_move rfl) rfl <| ht_v (ov_nil rfl) rfl <| ht_v (ov_fieldA rfl) rfl <| ht_v (ov_load rfl (CellIs.blk rfl)) rfl <| ht_v (ov_fieldA rfl) rfl <| ht_v (ov_load rfl (CellIs.blk rfl)) rfl <| ?_
  refine ht_v (ov_add (m := ((from_ + (k + n) : Nat) : Int)) rfl rfl ((wrap_i64 (by omega)).trans (by omega))) rfl ?_
  refine ht_v (ov_nil rfl) rfl <| ht_v (ov_fieldA rfl) rfl <| ht_nil <| hl_u0 (on_storeN rfl rfl rfl rfl rfl) rfl rfl <| hl_nil <| hx_block_normal <| ?_
  exact hx_next hK1 ((k + n, LL ++ [x.2.2.2], (A', cap', ds ++ [.slice qx.1 x.2.2.2.length qx.2]))) (⟨by show k + n ≤ N; omega, by show (LL ++ [x.2.2.2]).length ≤ k + n; omega, hent2⟩) (by show N - (k + n) < N - k; omega) (by repeat (first | exact Slots.sub_nil _ | refine Slots.sub_cons rfl ?_)) (Ent.trans (b := rowsB 5 LL ds :: row qx.1 5 1 x.2.2.2.length qx.2 (x.2.2.2.map u8v) :: [rjouB b42 g from_ to_ ep (from_ + (k + n)) (LL.length + 1) (A', cap'), row A' 23 1 (LL.length + 1) cap' (ds ++ [.slice qx.1 x.2.2.2.length qx.2]), rdsk g S []]) (by first | assumption | exact Ent.refl _ | exact Ent.nil _ | exact Ent.row_any (Ent.refl _) | (repeat (first | exact Ent.refl _ | exact Ent.nil _ | refine Ent.pick ?_))) (Ent.trans rowsB_snoc (by dsimp only; rw [hLx]; exact (by first | assumption | exact Ent.refl _ | exact Ent.nil _ | exact Ent.row_any (Ent.refl _) | (repeat (first | exact Ent.refl _ | exact Ent.nil _ | refine Ent.pick ?_))))))
end Go.Proofs.Ytijaldfiaeafgaa
