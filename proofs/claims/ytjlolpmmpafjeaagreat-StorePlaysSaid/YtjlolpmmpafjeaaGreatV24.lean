import Derived.Test.YtjlolpmmpafjeaaGreatV23
set_option linter.unusedVariables false
set_option linter.unusedSimpArgs false
namespace Go.Proofs.YtjlolpmmpafjeaaGreat
open Slk
variable (D : Nat → Prop) (w : World)
theorem needM_le (m : Nat) : needM m ≤ 64 := by unfold needM; split <;> omega
theorem decS_take (l : List Sec) : decS (l.take 70) = decS l := by
 cases l with
 | nil => rfl
 | cons s r =>
  rw [List.take_succ_cons]
  have hn := needM_le (numAt s 10 2)
  have ht : ∀ k, k ≤ 64 → (s :: r.take 69).take k = (s :: r).take k := fun k hk => by
   rw [← List.take_succ_cons, List.take_take, Nat.min_eq_left Z64]
  have hc : candE (s :: r.take 69) s = candE (s :: r) s := by unfold candE; rw [ht _ hn]
  have hl : needM (numAt s 10 2) ≤ (s :: r.take 69).length ↔ needM (numAt s 10 2) ≤ (s :: r).length := by
   simp only [List.length_cons, List.length_take]; omega
  show (if _ then _ else _) = (if _ then _ else _)
  rw [hc, ht _ hn]
  simp only [hl]
theorem decS_seq {l : List Sec} {e : EntT} {n : Nat} (h : decS l = some (e, n)) : e.2.2.1 < 4294967296 := by
 cases l with
 | nil => cases h
 | cons s r =>
  have h' : (if s[0].toNat = 87 ∧ needM (numAt s 10 2) ≠ 0 ∧ needM (numAt s 10 2) ≤ (s :: r).length ∧ encE (candE (s :: r) s) = (s :: r).take (needM (numAt s 10 2)) then some (candE (s :: r) s, needM (numAt s 10 2)) else none) = some (e, n) := h
  by_cases hh : s[0].toNat = 87 ∧ needM (numAt s 10 2) ≠ 0 ∧ needM (numAt s 10 2) ≤ (s :: r).length ∧ encE (candE (s :: r) s) = (s :: r).take (needM (numAt s 10 2))
  ·rw [if_pos hh] at h'
   injection h' with h'
   injection h' with h1 h2
   subst h1
   exact numAt_lt4 s 6 Z63
  ·rw [if_neg hh] at h'; cases h'
set_option maxHeartbeats 2000000 in
theorem ROpen_ok (g : Nat) (S : List Sec) (from_ to_ N : Nat) (T : List Sec) (ep : Nat) (hto : to_ ≤ S.length) (hS : S.length ≤ 100000) (hN : from_ + N = to_) (hN0 : 0 < N) (hT : T = (S.drop from_).take N) (H : Own D w w [rdsk g S []]) :
  Calls Tryz.prog 54 #[.pointer (some ⟨g, 0, none⟩), .int .i64 (from_ : Int), .int .i64 (to_ : Int), .int .u32 (ep : Int)] w fun e w' => ∃ jb : Nat, e = .returned (.tuple #[.pointer (some ⟨jb, 0, none⟩), .int .i64 0]) ∧ Own D w w' [rjou jb g from_ to_ ep (from_ + (entsF ep N 0 T).2) (entsF ep N 0 T).1, rdsk g S []] := by
 have hTl : T.length = N := by rw [hT, List.length_take, List.length_drop]; omega
 have hTk : ∀ k (h : k < N), ∃ h2 : k < T.length, T[k] = S[from_ + k]'(by omega) := fun k h => by
  refine ⟨by omega, ?_⟩
  have : T[k]? = S[from_ + k]? := by rw [hT, List.getElem?_take_of_lt h, List.getElem?_drop]
  rw [List.getElem?_eq_getElem Z64, List.getElem?_eq_getElem Z64] at this
  simpa using this
 refine hc_enter (vs := [.pointer (some ⟨g, 0, none⟩), .int .i64 (from_ : Int), .int .i64 (to_ : Int), .int .u32 (ep : Int)]) Tryz.func54 rfl _ Tryz.ntmps54 rfl H ?_
 simp only [argSlots, Nat.zero_add]
 refine HC.exs ?_
 rintro ⟨⟨A0, c0⟩, A1, c1⟩
 refine HC.ent (l' := [blk g 56 [.slice A0 S.length c0, .slice A1 0 c1], row A0 61 64 S.length c0 (S.flatMap secC), row A1 63 65 0 c1 []]) (fun _ h => h) ?_
 refine zg <| zs rfl <| zs rfl <| zn <| hc_seq <| zg <| zm rfl <| zv (ov_eqlP rfl rfl) <| zm rfl <| hl_on rfl rfl <| zm rfl <| hl_on rfl rfl <| zv (ov_lss rfl rfl) <| zv (ov_pickF rfl rfl) <| zm rfl <| hl_partF (t := 22) rfl (Z64) ?_
 refine hl_on rfl rfl <| zm rfl <| hl_on rfl rfl <| zm rfl <| hl_on rfl rfl <| zv (ov_geq rfl rfl) <| zv (ov_pickF rfl rfl) <| zm rfl <| hl_partF (t := 27) rfl (Z64) ?_
 refine hl_on rfl rfl <| zm rfl <| hl_on rfl rfl <| zm rfl <| hl_on rfl rfl <| zv (ov_nil rfl) <| hl_on rfl rfl <| zf rfl <| hl_on rfl rfl <| zl rfl rfl <| hl_on rfl rfl <| zv Z25 <| ?_
 refine hl_on rfl rfl <| zv (ov_gtr rfl rfl) <| zv (ov_pickF rfl rfl) <| zn <| hc_cond_F rfl (Z64) ?_
 refine HC.ent (dsk_mk (P := [])) ?_
 refine zk <| zg <| zm rfl <| zm rfl <| zm rfl <| zm rfl <| zm rfl <| zv (ov_buildSN rfl rfl) <| ?_
 refine hl_new (on_boxN rfl rfl) rfl rfl rfl fun b42 =>  ?_
 refine zs rfl <| zn <| hc_block <| hc_loopK0 (σ := Nat × List (List UInt8) × (Option Addr × Nat × List Value)) [0, 2, 3, 10] rfl  (fun s => [rjouB b42 g from_ to_ ep (from_ + s.1) s.2.1.length (s.2.2.1, s.2.2.2.1), row s.2.2.1 108 1 s.2.1.length s.2.2.2.1 s.2.2.2.2, rowsB 5 s.2.1 s.2.2.2.2, rdsk g S []]) (fun s => s.1 ≤ N ∧ s.2.1.length ≤ s.1 ∧ entsF ep N 0 T = (s.2.1 ++ (entsF ep (N - s.2.1.length) s.2.1.length (T.drop s.1)).1, s.1 + (entsF ep (N - s.2.1.length) s.2.1.length (T.drop s.1)).2)) (fun s => N - s.1) ((0, [], (none, 0, []))) (⟨Nat.zero_le _, Nat.le_refl _, by simp⟩)  (Ent.trans (b := rjouB b42 g from_ to_ ep from_ 0 (none, 0) :: [rdsk g S []]) Z8 (Ent.cons (rowsB_nil.trans (Ent.nil_row 108 1)))) ?_
 rintro ⟨k, LL, ⟨qa, qc, ds⟩⟩ hj_ K1 hK1
 dsimp only at hj_ ⊢
 obtain ⟨hkN, hLk, hent⟩ := hj_
 obtain ⟨U, hU⟩ : ∃ U, U = (T.drop k).take 70 := ⟨_, rfl⟩
 obtain ⟨M, hM⟩ : ∃ M, M = U.length := ⟨_, rfl⟩
 have hMe : M = min 70 (N - k) := by rw [hM, hU, List.length_take, List.length_drop, hTl]
 refine hc_block <| zg <| zs rfl <| zn <| hc_seq <| zg <| zm rfl <| zv (ov_nil rfl) <| zf rfl <| ?_
 refine zl rfl rfl <| zs rfl <| zn <| hc_cutK1 (σ := Option Addr × Nat) [0, 2, 3, 10] rfl 11 (fun q => .slice q.1 M q.2) (fun q => [row q.1 61 64 M q.2 (U.flatMap secC), rjouB b42 g from_ to_ ep (from_ + k) LL.length (qa, qc), row qa 108 1 LL.length qc ds, rowsB 5 LL ds, rdsk g S []]) (fun K2 hK2 => ?_) (fun q => ?_)
 ·refine hc_block <| hc_loopK2 (σ := Nat × Option Addr × Nat) [0, 2, 3, 10] rfl 11 (fun t => .slice t.2.1 t.1 t.2.2) 12 (fun t => .int .i64 ((from_ + k + t.1 : Nat) : Int)) (fun t => [row t.2.1 61 64 t.1 t.2.2 (((T.drop k).take t.1).flatMap secC), rjouB b42 g from_ to_ ep (from_ + k) LL.length (qa, qc), row qa 108 1 LL.length qc ds, rowsB 5 LL ds, rdsk g S []]) (fun t => t.1 ≤ M) (fun t => M - t.1) ((0, none, 0)) (Nat.zero_le _) rfl rfl (Ent.trans (Ent.nil_row 61 64) Z3) ?_
  rintro ⟨m, ql⟩ hmM K3 hK3
  dsimp only at hmM ⊢
  refine hc_seq <| zg <| zm rfl <| zm rfl <| zv (ov_lss rfl rfl) <| zm rfl <| hl_part (t := 50) rfl (fun c1 => ?_) (fun c1 => ?_)
  ·refine hl_on rfl rfl <| zm rfl <| hl_on rfl rfl <| zv Z25 <| ?_
   refine hl_on rfl rfl <| zv (ov_lss rfl rfl) <| zv (ov_pickT rfl rfl) <| zn <| hc_cond rfl (fun c2 => ?_) (fun c2 => ?_)
   ·have hmk : k + m < N := by omega
    have hm70 : m < M := by omega
    obtain ⟨hkt, hTs⟩ := hTk (k + m) hmk
    have hst : (T.drop k).take (m + 1) = (T.drop k).take m ++ [T[k + m]] := by
     rw [List.take_succ_eq_append_getElem Z40, List.getElem_drop]
    obtain ⟨s, hs⟩ : ∃ s, s = T[k + m] := ⟨_, rfl⟩
    rw [← hs] at hst hTs
    refine zk <| hc_seq <| hc_block <| zg <| zm rfl <| zm rfl <| hl_c Tryz.call90 rfl rfl (fun w1 => zp (rdsk g S []) fun D' _ _ H2 => (RRead_ok D' w1 g (from_ + k + m) S [] Z64 H2).mono fun e w' ⟨he, H'⟩ => ⟨show e = Ending.returned (.tuple #[.agg (secC s).toArray, .int .i64 0]) by rw [he, hTs]; simp only [Nat.add_assoc]; rfl, H'⟩) ?_
    refine zm rfl <| zx rfl rfl <| zx rfl rfl <| hl_new (on_alloc) rfl rfl rfl fun b13 =>  ?_
    refine hl_u0 (on_storeW (vs := secC s) rfl rfl Z56 Z56 (secC_one s)) rfl rfl ?_
    refine zs rfl <| zn <| hc_region <| zm rfl <| hl_v (ov_loadW rfl (secC_len s)) rfl <| hl_new (on_buildSlice (res := secC s) rfl rfl (fill_sec1 _)) rfl rfl rfl (fun b37 => ?_)
    refine hl_new (on_appendR (A := ql.1) (news := secC s) rfl rfl (SrcIs.blk (b := b37)) Z57 (secC_one _) Z63 Z64) rfl rfl rfl (fun qm => ?_)
    rw [show ((T.drop k).take m).flatMap secC ++ secC s = ((T.drop k).take (m + 1)).flatMap secC by rw [hst, List.flatMap_append, List.flatMap_singleton]]
    refine zs rfl <| hl_nil <| zb <| zt <| hc_region <| zm rfl <| hl_v (ov_add (m := ((from_ + k + (m + 1) : Nat) : Int)) rfl rfl ((wrap_i64 Z64).trans Z64)) rfl ?_
    refine zs rfl <| hl_nil <| hx_next hK3 ((m + 1, qm)) (hm70) Z64 Z16 Z10
   have hmm : m = M := by omega
   subst hmm
   rw [show (T.drop k).take m = U by rw [hU]; rw [show m = 70 by omega]]
   refine hc_exit <| ze <| ze <| hx_block_out <| hx_cut hK2 (ql) Z16 Z10
  have hmm : m = M := by omega
  subst hmm
  rw [show (T.drop k).take m = U by rw [hU, List.take_of_length_le Z40, List.take_of_length_le Z40]]
  refine zo rfl rfl <| zo rfl rfl <| zo rfl rfl <| zv (ov_pickF rfl rfl) <| zn <| hc_cond_false rfl <| hc_exit <| ze <| ze <| hx_block_out <| hx_cut hK2 (ql) Z16 Z10
 have hdU : decS U = decS (T.drop k) := by rw [hU]; exact decS_take _
 rcases hd : decS (T.drop k) with _ | ⟨x, n⟩
 ·have hfin : entsF ep N 0 T = (LL, k) := by
   rw [hent]
   cases N - LL.length with
   | zero => simp [entsF]
   | succ f => rw [entsF, hd]; simp
  refine zt <| zg <| zm rfl <| hl_c Tryz.call91 rfl rfl (fun w1 => zun fun D' _ hin _ => RDec_none D' w1 _ U (hdU.trans hd) Z64 (hin _ fun h hs ho => rep_row (A := q.1) hs U hM (repL_secs.2 rfl))) ?_
  refine hl_new (on_alloc) rfl rfl rfl fun b15 =>  ?_
  refine hl_u0 (on_storeW (vs := [.int .i64 0, .int .u32 0, .int .u32 0, .slice none 0 0, .int .i64 0, .int .i64 11]) rfl rfl (by simp) (by simp) Z49) rfl rfl ?_
  refine zn <| hc_seq <| hc_seq <| hc_quiet mixed Z61 <| hq_v (ov_fieldA rfl) rfl <| ?_
  refine hq_v (zw rfl rfl) rfl <| hq_v (ov_neq rfl rfl) rfl <| hq_v (ov_move rfl) rfl <| ?_
  refine hq_partT (t := 72) rfl (Z63) ?_
  refine hq_off rfl rfl rfl rfl rfl rfl <| hq_off rfl rfl rfl rfl rfl rfl <| hq_off rfl rfl rfl rfl rfl rfl <| hq_off rfl rfl rfl rfl rfl rfl <| hq_v (ov_pickT rfl rfl) rfl <| hq_v (ov_move rfl) rfl <| ?_
  refine hq_off rfl rfl rfl rfl rfl rfl <| hq_off rfl rfl rfl rfl rfl rfl <| hq_off rfl rfl rfl rfl rfl rfl <| hq_off rfl rfl rfl rfl rfl rfl <| hq_off rfl rfl rfl rfl rfl rfl <| hq_v (ov_pickT rfl rfl) rfl <| ?_
  refine hq_v (ov_move rfl) rfl <| hq_off rfl rfl rfl rfl rfl rfl <| hq_off rfl rfl rfl rfl rfl rfl <| hq_off rfl rfl rfl rfl rfl rfl <| hq_off rfl rfl rfl rfl rfl rfl <| hq_off rfl rfl rfl rfl rfl rfl <| ?_
  refine hq_off rfl rfl rfl rfl rfl rfl <| hq_off rfl rfl rfl rfl rfl rfl <| hq_off rfl rfl rfl rfl rfl rfl <| hq_off rfl rfl rfl rfl rfl rfl <| hq_off rfl rfl rfl rfl rfl rfl <| hq_v (ov_pickT rfl rfl) rfl <| ?_
  refine hq_nil <| zt <| hc_cond_true rfl <| zg <| zm rfl <| ?_
  refine zs rfl <| zs rfl <| zn <| zq <| zr <| hx_block_ret <| zr <| hx_block_ret <| ?_
  exact results_2 (.inr rfl) rfl rfl rfl fun w' H' => ⟨b42, rfl, H'.ent (Ent.trans (b := rjouB b42 g from_ to_ ep (from_ + k) LL.length (qa, qc) :: row qa 108 1 LL.length qc ds :: rowsB 5 LL ds :: [rdsk g S []]) Z8 Z46)⟩
 have hkN2 : k < N := by
  rcases Nat.lt_or_ge k N with h | h
  ·exact h
  ·rw [List.drop_of_length_le Z64] at hd; cases hd
 obtain ⟨f, hf⟩ : ∃ f, N - LL.length = f + 1 := ⟨N - LL.length - 1, by omega⟩
 rw [hf] at hent
 rw [entsF, hd] at hent
 dsimp only at hent
 have hsq := decS_seq hd
 have hnk : 1 ≤ n ∧ n ≤ (T.drop k).length := by
  rcases hTk : T.drop k with _ | ⟨s, r⟩
  ·have := congrArg List.length hTk
   rw [List.length_drop, List.length_nil] at this; omega
  ·rw [hTk] at hd; exact (decS_head hd).2
 rw [List.length_drop] at hnk
 refine zt <| zg <| zm rfl <| hl_call (σ := Option Addr × Nat) Tryz.call91 rfl rfl (fun w1 => zu fun D' _ hin _ => RDec_some D' w1 _ U x n (hdU.trans hd) Z64 (hin _ fun h hs ho => rep_row (A := q.1) hs U hM (repL_secs.2 rfl))) ?_
 intro qx
 try rw [List.nil_append]
 refine hl_new (on_alloc) rfl rfl rfl fun b15 =>  ?_
 refine hl_u0 (on_storeW (vs := [.int .i64 x.1, .int .u32 x.2.1, .int .u32 x.2.2.1, .slice qx.1 x.2.2.2.length qx.2, .int .i64 n, .int .i64 0]) rfl rfl (by simp) (by simp) Z49) rfl rfl ?_
 refine zn <| hc_seq <| hc_seq <| hc_quiet mixed Z61 <| hq_v (ov_fieldA rfl) rfl <| ?_
 refine hq_v (zw rfl rfl) rfl <| hq_v (ov_neq rfl rfl) rfl <| hq_v (ov_move rfl) rfl <| ?_
 refine hq_partF (t := 72) rfl ((fun h => h rfl)) ?_
 refine hq_on rfl rfl <| hq_v (ov_fieldA rfl) rfl <| hq_on rfl rfl <| hq_v (ov_fieldA rfl) rfl <| hq_on rfl rfl <| hq_v (zw rfl rfl) rfl <| hq_on rfl rfl <| hq_v (ov_neq rfl rfl) rfl <| hq_v (ov_pickF rfl rfl) rfl <| hq_v (ov_move rfl) rfl <| ?_
 refine hq_part (t := 78) rfl (fun c1 => ?_) (fun c1 => ?_)
 ·have hfin : entsF ep N 0 T = (LL, k) := by rw [hent, if_neg Z64]; simp
  refine hq_off rfl rfl rfl rfl rfl rfl <| hq_off rfl rfl rfl rfl rfl rfl <| hq_off rfl rfl rfl rfl rfl rfl <| hq_off rfl rfl rfl rfl rfl rfl <| hq_off rfl rfl rfl rfl rfl rfl <| hq_v (ov_pickT rfl rfl) rfl <| ?_
  refine hq_v (ov_move rfl) rfl <| hq_off rfl rfl rfl rfl rfl rfl <| hq_off rfl rfl rfl rfl rfl rfl <| hq_off rfl rfl rfl rfl rfl rfl <| hq_off rfl rfl rfl rfl rfl rfl <| hq_off rfl rfl rfl rfl rfl rfl <| ?_
  refine hq_off rfl rfl rfl rfl rfl rfl <| hq_off rfl rfl rfl rfl rfl rfl <| hq_off rfl rfl rfl rfl rfl rfl <| hq_off rfl rfl rfl rfl rfl rfl <| hq_off rfl rfl rfl rfl rfl rfl <| hq_v (ov_pickT rfl rfl) rfl <| ?_
  refine hq_nil <| zt <| hc_cond_true rfl <| zg <| zm rfl <| ?_
  refine zs rfl <| zs rfl <| zn <| zq <| zr <| hx_block_ret <| zr <| hx_block_ret <| ?_
  exact results_2 (.inr rfl) rfl rfl rfl fun w' H' => ⟨b42, rfl, H'.ent (Ent.trans (b := rjouB b42 g from_ to_ ep (from_ + k) LL.length (qa, qc) :: row qa 108 1 LL.length qc ds :: rowsB 5 LL ds :: [rdsk g S []]) Z8 Z46)⟩
 refine hq_on rfl rfl <| hq_v (ov_fieldA rfl) rfl <| hq_on rfl rfl <| hq_v (ov_fieldA rfl) rfl <| hq_on rfl rfl <| hq_v (zw rfl rfl) rfl <| hq_on rfl rfl <| hq_v (ov_move rfl) rfl <| hq_on rfl rfl <| hq_v (ov_neq rfl rfl) rfl <| hq_v (ov_pickF rfl rfl) rfl <| ?_
 refine hq_v (ov_move rfl) rfl <| ?_
 refine hq_part (t := 85) rfl (fun c2 => ?_) (fun c2 => ?_)
 ·have hfin : entsF ep N 0 T = (LL, k) := by rw [hent, if_neg Z64]; simp
  refine hq_off rfl rfl rfl rfl rfl rfl <| hq_off rfl rfl rfl rfl rfl rfl <| hq_off rfl rfl rfl rfl rfl rfl <| hq_off rfl rfl rfl rfl rfl rfl <| hq_off rfl rfl rfl rfl rfl rfl <| hq_off rfl rfl rfl rfl rfl rfl <| ?_
  refine hq_off rfl rfl rfl rfl rfl rfl <| hq_off rfl rfl rfl rfl rfl rfl <| hq_off rfl rfl rfl rfl rfl rfl <| hq_off rfl rfl rfl rfl rfl rfl <| hq_v (ov_pickT rfl rfl) rfl <| hq_nil <| ?_
  refine zt <| hc_cond_true rfl <| zg <| zm rfl <| zs rfl <| zs rfl <| zn <| zq <| zr <| hx_block_ret <| zr <| hx_block_ret <| ?_
  exact results_2 (.inr rfl) rfl rfl rfl fun w' H' => ⟨b42, rfl, H'.ent (Ent.trans (b := rjouB b42 g from_ to_ ep (from_ + k) LL.length (qa, qc) :: row qa 108 1 LL.length qc ds :: rowsB 5 LL ds :: [rdsk g S []]) Z8 Z46)⟩
 refine hq_on rfl rfl <| hq_v (ov_fieldA rfl) rfl <| hq_on rfl rfl <| hq_v (ov_fieldA rfl) rfl <| hq_on rfl rfl <| hq_v (zw rfl rfl) rfl <| hq_on rfl rfl <| hq_v (ov_conv rfl Z28) rfl <| ?_
 refine hq_on rfl rfl <| hq_v (ov_move rfl) rfl <| hq_on rfl rfl <| hq_v (ov_nil rfl) rfl <| hq_on rfl rfl <| hq_v (ov_fieldA rfl) rfl <| hq_on rfl rfl <| hq_v (zw rfl rfl) rfl <| hq_on rfl rfl <| hq_v Z25 rfl <| ?_
 refine hq_on rfl rfl <| hq_v (ov_neq rfl rfl) rfl <| hq_v (ov_pickF rfl rfl) rfl <| hq_nil <| zt <| ?_
 refine hc_cond rfl (fun c3 => ?_) (fun c3 => ?_)
 ·have hfin : entsF ep N 0 T = (LL, k) := by rw [hent, if_neg Z64]; simp
  refine zg <| zm rfl <| zs rfl <| zs rfl <| hl_nil <| zt <| zq <| zr <| hx_block_ret <| zr <| hx_block_ret <| ?_
  exact results_2 (.inr rfl) rfl rfl rfl fun w' H' => ⟨b42, rfl, H'.ent (Ent.trans (b := rjouB b42 g from_ to_ ep (from_ + k) LL.length (qa, qc) :: row qa 108 1 LL.length qc ds :: rowsB 5 LL ds :: [rdsk g S []]) Z8 Z46)⟩
 rw [if_pos ⟨by omega, by omega, by omega⟩] at hent
 have hLx : (LL ++ [x.2.2.2]).length = LL.length + 1 := by simp
 have hent2 : entsF ep N 0 T = ((LL ++ [x.2.2.2]) ++ (entsF ep (N - (LL ++ [x.2.2.2]).length) (LL ++ [x.2.2.2]).length (T.drop (k + n))).1, (k + n) + (entsF ep (N - (LL ++ [x.2.2.2]).length) (LL ++ [x.2.2.2]).length (T.drop (k + n))).2) := by
  rw [hent, hLx, show N - (LL.length + 1) = f by omega, List.drop_drop, List.append_assoc, Nat.add_assoc]; rfl
 refine zk <| hc_seq <| hc_any [blk b15 194 [.int .i64 x.1, .int .u32 x.2.1, .int .u32 x.2.2.1, .slice qx.1 x.2.2.2.length qx.2, .int .i64 n, .int .i64 0]] mixed 13 rfl ?_
 refine ha_v 0 rfl (ov_move rfl) rfl <| ha_v 1 rfl (ov_move rfl) rfl <| ha_v 2 rfl (ov_nil rfl) rfl <| ha_v 3 rfl (ov_fieldA rfl) rfl <| ha_v 5 rfl (ov_fieldA rfl) rfl <| ha_v 6 rfl (ov_fieldA rfl) rfl <| ha_v 7 rfl (zw rfl rfl) rfl <| ha_two 4 8 Z61 ?_ ?_
 ·skip
  refine ho_v rfl (zw rfl rfl) rfl <| ha_one 8 Z61 <| ho_n rfl (on_buildSliceN rfl rfl rfl) rfl (fun b106 => ?_)
  refine ha_one 9 Z61 <| ho_n rfl (on_appendR (A := qa) (news := [.slice qx.1 x.2.2.2.length qx.2]) rfl rfl (SrcIs.blk (b := b106)) rfl Z49 Z63 Z64) rfl ?_
  rintro ⟨A', cap'⟩
  dsimp only
  refine ha_v 10 rfl (ov_nil rfl) rfl <| ha_v 11 rfl (ov_fieldA rfl) rfl <| ha_one 12 Z61 <| ho_w0 rfl (on_storeN rfl rfl rfl rfl rfl) rfl ?_
  refine ha_done Z61 <| ?_
  refine zt <| hc_tail 9 mixed Z61 ?_
  refine ht_v (ov_move rfl) rfl <| ht_v (ov_nil rfl) rfl <| ht_v (ov_fieldA rfl) rfl <| ht_v (zw rfl rfl) rfl <| ht_v (ov_fieldA rfl) rfl <| ht_v (zw rfl rfl) rfl <| ?_
  refine ht_v (ov_add (m := ((from_ + (k + n) : Nat) : Int)) rfl rfl ((wrap_i64 Z64).trans Z64)) rfl ?_
  refine ht_v (ov_nil rfl) rfl <| ht_v (ov_fieldA rfl) rfl <| ht_nil <| hl_u0 (on_storeN rfl rfl rfl rfl rfl) rfl rfl <| hl_nil <| zb <| ?_
  exact hx_next hK1 ((k + n, LL ++ [x.2.2.2], (A', cap', ds ++ [.slice qx.1 x.2.2.2.length qx.2]))) (⟨by show k + n ≤ N; omega, by show (LL ++ [x.2.2.2]).length ≤ k + n; omega, hent2⟩) Z37 Z16 (Ent.trans (b := rowsB 5 LL ds :: row qx.1 5 1 x.2.2.2.length qx.2 (x.2.2.2.map u8v) :: [rjouB b42 g from_ to_ ep (from_ + (k + n)) (LL.length + 1) (A', cap'), row A' 108 1 (LL.length + 1) cap' (ds ++ [.slice qx.1 x.2.2.2.length qx.2]), rdsk g S []]) Z8 (Ent.trans rowsB_snoc Z4))
 skip
 refine ho_n rfl (on_buildSliceN rfl rfl rfl) rfl (fun b106 => ?_)
 refine ha_one 4 Z61 <| ho_v rfl (zw rfl rfl) rfl <| ha_one 9 Z61 <| ho_n rfl (on_appendR (A := qa) (news := [.slice qx.1 x.2.2.2.length qx.2]) rfl rfl (SrcIs.blk (b := b106)) rfl Z49 Z63 Z64) rfl ?_
 rintro ⟨A', cap'⟩
 dsimp only
 refine ha_v 10 rfl (ov_nil rfl) rfl <| ha_v 11 rfl (ov_fieldA rfl) rfl <| ha_one 12 Z61 <| ho_w0 rfl (on_storeN rfl rfl rfl rfl rfl) rfl ?_
 refine ha_done Z61 <| ?_
 refine zt <| hc_tail 9 mixed Z61 ?_
 refine ht_v (ov_move rfl) rfl <| ht_v (ov_nil rfl) rfl <| ht_v (ov_fieldA rfl) rfl <| ht_v (zw rfl rfl) rfl <| ht_v (ov_fieldA rfl) rfl <| ht_v (zw rfl rfl) rfl <| ?_
 refine ht_v (ov_add (m := ((from_ + (k + n) : Nat) : Int)) rfl rfl ((wrap_i64 Z64).trans Z64)) rfl ?_
 refine ht_v (ov_nil rfl) rfl <| ht_v (ov_fieldA rfl) rfl <| ht_nil <| hl_u0 (on_storeN rfl rfl rfl rfl rfl) rfl rfl <| hl_nil <| zb <| ?_
 exact hx_next hK1 ((k + n, LL ++ [x.2.2.2], (A', cap', ds ++ [.slice qx.1 x.2.2.2.length qx.2]))) (⟨by show k + n ≤ N; omega, by show (LL ++ [x.2.2.2]).length ≤ k + n; omega, hent2⟩) Z37 Z16 (Ent.trans (b := rowsB 5 LL ds :: row qx.1 5 1 x.2.2.2.length qx.2 (x.2.2.2.map u8v) :: [rjouB b42 g from_ to_ ep (from_ + (k + n)) (LL.length + 1) (A', cap'), row A' 108 1 (LL.length + 1) cap' (ds ++ [.slice qx.1 x.2.2.2.length qx.2]), rdsk g S []]) Z8 (Ent.trans rowsB_snoc Z4))
theorem flag_spec (b : Bool) : Calls Tryz.prog 85 #[.bool b] w fun e w' => e = .returned (.int .u8 ((if b then 1 else 0 : Nat) : Int)) ∧ Own D w w' [] := by
 refine hc_enter (vs := [.bool b]) Tryz.func85 rfl _ Tryz.ntmps85 rfl (Own.start D w) ?_
 simp only [argSlots, Nat.zero_add]
 refine zg <| zs rfl <| zn <| hc_seq <| zg <| zm rfl <| zn <| hc_cond_bool rfl (fun h => ?_) (fun h => ?_)
 ·subst h
  refine zg <| zs rfl <| zn <| zq <| zr <| ?_
  exact zz rfl rfl fun w' H' => ⟨rfl, H'⟩
 subst h
 refine zk <| zg <| zs rfl <| hl_nil <| zt <| zq <| ?_
 exact zz rfl rfl fun w' H' => ⟨rfl, H'⟩
theorem RConfig_res (c : ConfC) (vp vv vs : Value) (H : ConfOld D w c vp vv vs) :
  Calls Tryz.prog 51 #[.agg (cfgV c vp vv vs).toArray] w fun e w' => ∃ s : ResT (goodP c) (cfgB c) (fun e => e = 14), e = .returned (.tuple #[.slice s.1.1.1 s.1.2.1.length s.1.1.2, .int .i64 s.1.2.2]) ∧ Own D w w' [row s.1.1.1 5 1 s.1.2.1.length s.1.1.2 (s.1.2.1.map u8v)] := by
 have H0 := H
 obtain ⟨Ap, capp, rfl, _, _, HSp, _⟩ := H.p.openF
 have HSp : OldS D w Ap (c.2.2.2.1.flatMap portV) := HSp
 obtain ⟨Av, capv, rfl, _, _, HSv, _⟩ := H.v.openF
 have HSv : OldS D w Av (c.2.2.2.2.1.flatMap vlanV) := HSv
 obtain ⟨As, caps, rfl, _, _, HSs, _⟩ := H.s.openF
 have HSs : OldS D w As (c.2.2.2.2.2.flatMap statV) := HSs
 clear H
 have hcB : cfgB c = ((headB c ++ beB c.2.2.2.1.length 1) ++ c.2.2.2.1.flatMap portB) ++ (beB c.2.2.2.2.1.length 1 ++ c.2.2.2.2.1.flatMap vlanB) ++ (beB c.2.2.2.2.2.length 1 ++ c.2.2.2.2.2.flatMap statB) := by
  unfold cfgB; simp only [List.append_assoc]
 have hwok : goodP c → Wok c := goodP.wok
 obtain ⟨P, hP⟩ : ∃ l, c.2.2.2.1 = l := ⟨_, rfl⟩
 obtain ⟨V, hV⟩ : ∃ l, c.2.2.2.2.1 = l := ⟨_, rfl⟩
 obtain ⟨S, hS⟩ : ∃ l, c.2.2.2.2.2 = l := ⟨_, rfl⟩
 have hwP : goodP c → (0 ≤ c.1 ∧ c.1 ≤ 61440) ∧ (0 ≤ c.2.1 ∧ c.2.1 ≤ 40) ∧ (0 ≤ c.2.2.1 ∧ c.2.2.1 ≤ 30) ∧ P.length ≤ 8 ∧ V.length ≤ 16 ∧ S.length ≤ 16 ∧ (∀ i (h : i < P.length), 0 ≤ P[i].2.2 ∧ P[i].2.2 ≤ 4094) ∧ (∀ i (h : i < V.length), 0 ≤ V[i].1 ∧ V[i].1 ≤ 4094) ∧ (∀ i (h : i < S.length), (0 ≤ S[i].2.1 ∧ S[i].2.1 ≤ 4094) ∧ 0 ≤ S[i].2.2 ∧ S[i].2.2 < 8 ∧ S[i].1.toNat < 281474976710656) := fun h => by
  subst hP; subst hV; subst hS
  obtain ⟨a, b, d, lp, lv, ls, p, v, s⟩ := hwok h
  exact ⟨a, b, d, lp, lv, ls, p, v, s⟩
 rw [hP] at HSp hcB ⊢
 rw [hV] at HSv hcB ⊢
 rw [hS] at HSs hcB ⊢
 rw [hP, hV, hS] at H0
 refine hc_enter (vs := [.agg (cfgV c (.slice Ap P.length capp) (.slice Av V.length capv) (.slice As S.length caps)).toArray]) Tryz.func51 rfl _ Tryz.ntmps51 rfl (Own.start D w) ?_
 simp only [argSlots, Nat.zero_add]
 refine zg <| hl_new (on_boxN rfl rfl) rfl rfl rfl fun b1 =>  ?_
 refine zs rfl <| zs rfl <| zn <| hc_seq <| hc_seq <| hc_region <| zv Z17 <| ?_
 refine hl_call (σ := BIff (goodP c)) Tryz.call66 rfl rfl (fun w1 => zu fun D' hold _ _ => RGood_spec D' w1 c _ _ _ (H0.hold hold)) ?_
 intro g
 try rw [List.nil_append]
 refine zv Z26 <| ?_
 refine zn <| hc_cond_bool rfl (fun a1 => ?_) (fun a1 => ?_)
 ·have hno : ¬ goodP c := fun h => by have := g.2.2 h; rw [this] at a1; cases a1
  refine zg <| zs rfl <| zs rfl <| zn <| zq <| zr <| ?_
  exact results_2 (.inr rfl) rfl rfl rfl fun w' H' => ⟨⟨((none, 0), [], 14), .inl ⟨hno, rfl, by decide, rfl⟩⟩, rfl, H'.ent (Ent.trans (Ent.nil_row 5 1) (Ent.cons (Ent.nil _)))⟩
 have hyes : goodP c := g.2.1 (by simpa using a1)
 obtain ⟨oa, ob', od, olp, olv, ols, op', ov', os'⟩ := hwP hyes
 have hhd : (beB c.1.toNat 2).map u8v ++ [.int .u8 c.2.1, .int .u8 c.2.2.1, .int .u8 (P.length : Int)] = (headB c ++ beB P.length 1).map u8v := by
  have e : [Value.int .u8 c.2.1, .int .u8 c.2.2.1, .int .u8 (P.length : Int)] = [Value.int .u8 c.2.1] ++ ([.int .u8 c.2.2.1] ++ [.int .u8 (P.length : Int)]) := rfl
  rw [e, be1_int Z64 Z64, be1_int Z64 Z64, be1_cells _ Z64, headB]
  simp only [List.map_append, List.append_assoc]
 have hhl : (headB c).length = 4 := by rw [headB]; simp [beB_len]
 refine zk <| hc_seq <| hc_cutK1 (σ := Nat × List Value × Option Addr × Nat) [1] rfl 4 (fun q => .slice q.2.2.1 q.1 q.2.2.2) (fun q => [pureP (q.1 = 5 ∧ q.2.1 = (headB c ++ beB P.length 1).map u8v), row q.2.2.1 5 1 q.1 q.2.2.2 q.2.1, blk b1 49 (cfgV c (.slice Ap P.length capp) (.slice Av V.length capv) (.slice As S.length caps))]) (fun K1 hK1 => ?_) (fun q => ?_)
 ·refine hc_any [blk b1 49 (cfgV c (.slice Ap P.length capp) (.slice Av V.length capv) (.slice As S.length caps))] mixed 17 rfl ?_
  refine ha_v 0 rfl (ov_fieldA rfl) rfl <| ha_v 1 rfl (zw rfl rfl) rfl <| ha_v 4 rfl (ov_fieldA rfl) rfl <| ha_v 5 rfl (zw rfl rfl) rfl <| ha_v 6 rfl (ov_conv rfl Z31) rfl <| ?_
  refine ha_v 7 rfl (ov_fieldA rfl) rfl <| ha_v 8 rfl (zw rfl rfl) rfl <| ha_v 9 rfl (ov_conv rfl Z31) rfl <| ?_
  refine ha_v 10 rfl (ov_fieldA rfl) rfl <| ha_v 11 rfl (zw rfl rfl) rfl <| ha_v 12 rfl Z25 rfl <| ?_
  refine ha_v 13 rfl (ov_conv rfl Z31) rfl <| ?_
  refine ha_v 2 rfl (ov_conv (m := ((c.1.toNat : Nat) : Int)) rfl (convN Z64 Z64)) rfl ?_
  refine ha_two 3 14 Z61 ?_ ?_
  ·skip
   refine ho_kx (σ := { q : Option Addr × Nat // 0 < 2 → isA q.1 }) rfl Tryz.call84 rfl (fun w1 => zu fun D' _ _ _ => big_spec D' w1 c.1.toNat 2 Z64 Z63) ?_
   intro q1
   try rw [List.nil_append]
   refine ha_one 14 Z61 <| ho_n rfl (on_buildSliceN rfl rfl rfl) rfl (fun b28 => ?_)
   refine ha_one 15 Z61 <| ho_n rfl (on_appendR (A := q1.1.1) (news := [.int .u8 c.2.1, .int .u8 c.2.2.1, .int .u8 (P.length : Int)]) rfl rfl (SrcIs.blk (b := b28)) rfl Z49 Z63 Z63) rfl (fun q2 => ?_)
   refine ha_v 16 rfl (ov_assign rfl) rfl <| ha_done Z61 <| ?_
   exact hx_cut hK1 ((2 + 3, (beB c.1.toNat 2).map u8v ++ [.int .u8 c.2.1, .int .u8 c.2.2.1, .int .u8 (P.length : Int)], q2)) Z16 (Ent.trans Z8 (Ent.trans (b := [pureP (2 + 3 = 5 ∧ (beB c.1.toNat 2).map u8v ++ [.int .u8 c.2.1, .int .u8 c.2.2.1, .int .u8 (P.length : Int)] = (headB c ++ beB P.length 1).map u8v), row q2.1 5 1 (2 + 3) q2.2 ((beB c.1.toNat 2).map u8v ++ [.int .u8 c.2.1, .int .u8 c.2.2.1, .int .u8 (P.length : Int)]), blk b1 49 (cfgV c (.slice Ap P.length capp) (.slice Av V.length capv) (.slice As S.length caps))]) (fun h hs => stars_pure.2 ⟨⟨rfl, hhd⟩, hs⟩) (Ent.refl _)))
  skip
  refine ho_n rfl (on_buildSliceN rfl rfl rfl) rfl (fun b28 => ?_)
  refine ha_one 3 Z61 <| ho_kx (σ := { q : Option Addr × Nat // 0 < 2 → isA q.1 }) rfl Tryz.call84 rfl (fun w1 => zu fun D' _ _ _ => big_spec D' w1 c.1.toNat 2 Z64 Z63) ?_
  intro q1
  try rw [List.nil_append]
  refine ha_one 15 Z61 <| ho_n rfl (on_appendR (A := q1.1.1) (news := [.int .u8 c.2.1, .int .u8 c.2.2.1, .int .u8 (P.length : Int)]) rfl rfl (SrcIs.blk (b := b28)) rfl Z49 Z63 Z63) rfl (fun q2 => ?_)
  refine ha_v 16 rfl (ov_assign rfl) rfl <| ha_done Z61 <| ?_
  exact hx_cut hK1 ((2 + 3, (beB c.1.toNat 2).map u8v ++ [.int .u8 c.2.1, .int .u8 c.2.2.1, .int .u8 (P.length : Int)], q2)) Z16 (Ent.trans Z8 (Ent.trans (b := [pureP (2 + 3 = 5 ∧ (beB c.1.toNat 2).map u8v ++ [.int .u8 c.2.1, .int .u8 c.2.2.1, .int .u8 (P.length : Int)] = (headB c ++ beB P.length 1).map u8v), row q2.1 5 1 (2 + 3) q2.2 ((beB c.1.toNat 2).map u8v ++ [.int .u8 c.2.1, .int .u8 c.2.2.1, .int .u8 (P.length : Int)]), blk b1 49 (cfgV c (.slice Ap P.length capp) (.slice Av V.length capv) (.slice As S.length caps))]) (fun h hs => stars_pure.2 ⟨⟨rfl, hhd⟩, hs⟩) (Ent.refl _)))
 obtain ⟨m0, cs0, A0, c0⟩ := q
 refine HX.pure ?_
 rintro ⟨hm0, hcs0⟩
 dsimp only at hm0 hcs0 ⊢
 obtain ⟨P1, hP1⟩ : ∃ B, B = headB c ++ beB P.length 1 := ⟨_, rfl⟩
 rw [← hP1] at hcs0 hcB
 refine zt <| hc_seq <| zg <| zs rfl <| hl_nil <| zt <| hc_block <| hc_loopK2 (σ := Nat × Nat × List Value × Option Addr × Nat) [1] rfl 5 (fun s => .int .i64 (s.1 : Int)) 4 (fun s => .slice s.2.2.2.1 s.2.1 s.2.2.2.2) (fun s => [row s.2.2.2.1 5 1 s.2.1 s.2.2.2.2 s.2.2.1, blk b1 49 (cfgV c (.slice Ap P.length capp) (.slice Av V.length capv) (.slice As S.length caps))]) (fun s => s.1 ≤ P.length ∧ s.2.1 = 5 + 7 * s.1 ∧ s.2.2.1 = (P1 ++ (P.take s.1).flatMap portB).map u8v) (fun s => P.length - s.1) ((0, m0, cs0, A0, c0)) (⟨Nat.zero_le _, hm0, by rw [hcs0]; simp⟩) rfl rfl Z10 ?_
 rintro ⟨i, m, cs, A, d⟩ hj_ K2 hK2
 dsimp only at hj_ ⊢
 obtain ⟨hi, hm, hcs⟩ := hj_
 refine hc_seq <| zg <| zm rfl <| zf rfl <| zl rfl rfl <| ?_
 refine zv Z25 <| ?_
 refine zv (ov_lss rfl rfl) <| zn <| hc_cond rfl (fun h => ?_) (fun h => ?_)
 ·have hlt : i < P.length := by omega
  obtain ⟨hA, _⟩ := OldS.cells_flat (D := D) (w0 := w) (f := portV) (sz := 3) (fun _ => rfl) Z63 HSp hlt []
  have hc := fun l' => (OldS.cells_flat (D := D) (w0 := w) (f := portV) (sz := 3) (fun _ => rfl) Z63 HSp hlt l').2
  have hx := op' i hlt
  have hsn := snocB portB P1 P i hlt
  generalize P[i] = x at *
  have hco := x.2.1.toNat_lt
  obtain ⟨fl, hfl⟩ : ∃ n : Nat, n = (if x.1 = true then 1 else 0) := ⟨_, rfl⟩
  have hfl1 : fl ≤ 1 := by rw [hfl]; split <;> decide
  have hfin : ((cs ++ [.int .u8 (fl : Int)]) ++ (beB x.2.1.toNat 4).map u8v) ++ (beB x.2.2.toNat 2).map u8v = (P1 ++ (P.take (i + 1)).flatMap portB).map u8v := by
   rw [be1_cells fl Z64, hcs, ← hsn, portB, ← hfl]
   simp only [List.map_append, List.append_assoc]
  have hm' : m + 1 + 4 + 2 = 5 + 7 * (i + 1) := by omega
  have hme : P.length - (i + 1) < P.length - i := by omega
  refine zk <| hc_seq <| hc_block <| zg <| zf rfl <| zl rfl rfl <| zm rfl <| zv (ov_idxS rfl Z62 rfl _ rfl Z64) <| ?_
  refine hl_v (ov_loadG (cs := portV x) rfl rfl (hc _)) rfl <| hl_new (on_alloc) rfl rfl rfl fun b6 =>  ?_
  refine hl_u0 (on_storeW (vs := portV x) rfl rfl (by simp) (by simp) Z44) rfl rfl ?_
  refine zn <| hc_any [blk b6 83 (portV x)] mixed 17 rfl ?_
  refine ha_v 0 rfl (ov_move rfl) rfl <| ha_v 1 rfl (ov_fieldA rfl) rfl <| ha_v 2 rfl (zw rfl rfl) rfl <| ha_v 6 rfl (ov_fieldA rfl) rfl <| ha_v 7 rfl (zw rfl rfl) rfl <| ha_v 8 rfl (ov_conv rfl Z29) rfl <| ?_
  refine ha_v 11 rfl (ov_fieldA rfl) rfl <| ha_v 12 rfl (zw rfl rfl) rfl <| ha_v 13 rfl (ov_conv (m := ((x.2.2.toNat : Nat) : Int)) rfl (convN Z64 Z64)) rfl ?_
  refine ha_one 3 Z61 <| ho_k rfl Tryz.call85 rfl (fun w1 => zun fun D' _ _ _ => flag_spec D' w1 x.1) ?_
  rw [← hfl]
  refine ha_one 4 Z61 <| ho_n rfl (on_buildSliceN rfl rfl rfl) rfl fun b46 =>  ?_
  refine ha_one 5 Z61 <| ho_n rfl (on_appendR (A := A) (news := [.int .u8 (fl : Int)]) rfl rfl (SrcIs.blk (b := b46)) rfl Z49 Z63 Z64) rfl (fun q2 => ?_)
  refine ha_one 9 Z61 <| ho_kx (σ := { q : Option Addr × Nat // 0 < 4 → isA q.1 }) rfl Tryz.call84 rfl (fun w1 => zu fun D' _ _ _ => big_spec D' w1 x.2.1.toNat 4 Z64 Z63) ?_
  intro q3
  try rw [List.nil_append]
  refine ha_one 10 Z61 <| ho_n rfl (on_appendR (A := q2.1) (news := (beB x.2.1.toNat 4).map u8v) rfl rfl (SrcIs.rowR (A := q3.1.1) (fun _ => q3.2 Z63)) Z38 (u8_one _) Z63 Z64) rfl (fun q4 => ?_)
  refine ha_one 14 Z61 <| ho_kx (σ := { q : Option Addr × Nat // 0 < 2 → isA q.1 }) rfl Tryz.call84 rfl (fun w1 => zu fun D' _ _ _ => big_spec D' w1 x.2.2.toNat 2 Z64 Z63) ?_
  intro q5
  try rw [List.nil_append]
  refine ha_one 15 Z61 <| ho_n rfl (on_appendR (A := q4.1) (news := (beB x.2.2.toNat 2).map u8v) rfl rfl (SrcIs.rowR (A := q5.1.1) (fun _ => q5.2 Z63)) Z38 (u8_one _) Z63 Z64) rfl (fun q6 => ?_)
  refine ha_v 16 rfl (ov_assign rfl) rfl <| ha_done Z61 <| zb <| zt <| hc_region <| zm rfl <| zv (ov_add rfl rfl Z28) <| ?_
  refine zs rfl <| hl_nil <| hx_next hK2 ((i + 1, m + 1 + 4 + 2, ((cs ++ [.int .u8 (fl : Int)]) ++ (beB x.2.1.toNat 4).map u8v) ++ (beB x.2.2.toNat 2).map u8v, q6)) (⟨hlt, hm', hfin⟩) (hme) Z16 Z10
 have hie : i = P.length := by omega
 subst hie
 rw [List.take_length] at hcs
 obtain ⟨P2, hP2⟩ : ∃ B, B = P1 ++ P.flatMap portB := ⟨_, rfl⟩
 rw [← hP2] at hcs hcB
 refine hc_exit <| ze <| ze <| hx_block_out <| zt <| hc_seq <| hc_region <| zm rfl <| zf rfl <| zl rfl rfl <| zv Z25 <| ?_
 refine zv (ov_conv rfl Z31) <| ?_
 refine hl_new (on_buildSliceN rfl rfl rfl) rfl rfl rfl fun b63 =>  ?_
 refine hl_new (on_appendR (A := A) (news := [.int .u8 (V.length : Int)]) rfl rfl (SrcIs.blk (b := b63)) rfl Z49 Z63 Z64) rfl rfl rfl (fun q2 => ?_)
 have hcs2 : cs ++ [.int .u8 (V.length : Int)] = (P2 ++ beB V.length 1).map u8v := by rw [hcs, be1_cells _ Z64, List.map_append]
 rw [hcs2]
 obtain ⟨P3, hP3⟩ : ∃ B, B = P2 ++ beB V.length 1 := ⟨_, rfl⟩
 rw [← hP3]
 rw [← List.append_assoc P2, ← hP3] at hcB
 obtain ⟨m2, hm2⟩ : ∃ k, k = m + 1 := ⟨_, rfl⟩
 rw [← hm2]
 refine zs rfl <| zn <| hc_seq <| zg <| zs rfl <| zn <| hc_block <| hc_loopK2 (σ := Nat × Nat × List Value × Option Addr × Nat) [1] rfl 7 (fun s => .int .i64 (s.1 : Int)) 4 (fun s => .slice s.2.2.2.1 s.2.1 s.2.2.2.2) (fun s => [row s.2.2.2.1 5 1 s.2.1 s.2.2.2.2 s.2.2.1, blk b1 49 (cfgV c (.slice Ap P.length capp) (.slice Av V.length capv) (.slice As S.length caps))]) (fun s => s.1 ≤ V.length ∧ s.2.1 = m2 + 4 * s.1 ∧ s.2.2.1 = (P3 ++ (V.take s.1).flatMap vlanB).map u8v) (fun s => V.length - s.1) ((0, m2, P3.map u8v, q2.1, q2.2)) (⟨Nat.zero_le _, rfl, by simp⟩) rfl rfl Z10 ?_
 rintro ⟨i, m, cs, A, d⟩ hj_ K3 hK3
 dsimp only at hj_ ⊢
 obtain ⟨hi, hm, hcs⟩ := hj_
 refine hc_seq <| zg <| zm rfl <| zf rfl <| zl rfl rfl <| ?_
 refine zv Z25 <| ?_
 refine zv (ov_lss rfl rfl) <| zn <| hc_cond rfl (fun h2 => ?_) (fun h2 => ?_)
 ·have hlt : i < V.length := by omega
  obtain ⟨hA, _⟩ := OldS.cells_flat (D := D) (w0 := w) (f := vlanV) (sz := 3) (fun _ => rfl) Z63 HSv hlt []
  have hc := fun l' => (OldS.cells_flat (D := D) (w0 := w) (f := vlanV) (sz := 3) (fun _ => rfl) Z63 HSv hlt l').2
  have hx := ov' i hlt
  have hsn := snocB vlanB P3 V i hlt
  generalize V[i] = x at *
  have hfin : (cs ++ (beB x.1.toNat 2).map u8v) ++ [u8v x.2.1, u8v x.2.2] = (P3 ++ (V.take (i + 1)).flatMap vlanB).map u8v := by
   have e : [u8v x.2.1, u8v x.2.2] = (beB x.2.1.toNat 1).map u8v ++ (beB x.2.2.toNat 1).map u8v := by rw [← be1_u8, ← be1_u8]; rfl
   rw [e, hcs, ← hsn, vlanB]
   simp only [List.map_append, List.append_assoc]
  have hm' : m + 2 + 2 = m2 + 4 * (i + 1) := by omega
  have hme : V.length - (i + 1) < V.length - i := by omega
  refine zk <| hc_seq <| hc_block <| zg <| zf rfl <| zl rfl rfl <| zm rfl <| zv (ov_idxS rfl Z62 rfl _ rfl Z64) <| ?_
  refine hl_v (ov_loadG (cs := vlanV x) rfl rfl (hc _)) rfl <| hl_new (on_alloc) rfl rfl rfl fun b8 =>  ?_
  refine hl_u0 (on_storeW (vs := vlanV x) rfl rfl (by simp) (by simp) Z44) rfl rfl ?_
  refine zn <| hc_any [blk b8 147 (vlanV x)] mixed 13 rfl ?_
  refine ha_v 0 rfl (ov_move rfl) rfl <| ha_v 1 rfl (ov_fieldA rfl) rfl <| ha_v 2 rfl (zw rfl rfl) rfl <| ha_v 6 rfl (ov_fieldA rfl) rfl <| ha_v 7 rfl (zw rfl rfl) rfl <| ha_v 8 rfl (ov_fieldA rfl) rfl <| ha_v 9 rfl (zw rfl rfl) rfl <| ha_v 3 rfl (ov_conv (m := ((x.1.toNat : Nat) : Int)) rfl (convN Z64 Z64)) rfl ?_
  refine ha_two 4 10 Z61 ?_ ?_
  ·skip
   refine ho_kx (σ := { q : Option Addr × Nat // 0 < 2 → isA q.1 }) rfl Tryz.call84 rfl (fun w1 => zu fun D' _ _ _ => big_spec D' w1 x.1.toNat 2 Z64 Z63) ?_
   intro q3
   try rw [List.nil_append]
   refine ha_two 5 10 Z61 ?_ ?_
   ·skip
    refine ho_n rfl (on_appendR (A := A) (news := (beB x.1.toNat 2).map u8v) rfl rfl (SrcIs.rowR (A := q3.1.1) (fun _ => q3.2 Z63)) Z38 (u8_one _) Z63 Z64) rfl (fun q4 => ?_)
    refine ha_one 10 Z61 <| ho_n rfl (on_buildSliceN rfl rfl rfl) rfl (fun b87 => ?_)
    refine ha_one 11 Z61 <| ho_n rfl (on_appendR (A := q4.1) (news := [u8v x.2.1, u8v x.2.2]) rfl rfl (SrcIs.blk (b := b87)) rfl Z44 Z63 Z64) rfl (fun q5 => ?_)
    refine ha_v 12 rfl (ov_assign rfl) rfl <| ha_done Z61 <| zb <| zt <| hc_region <| zm rfl <| zv (ov_add rfl rfl Z28) <| ?_
    refine zs rfl <| hl_nil <| hx_next hK3 ((i + 1, m + 2 + 2, (cs ++ (beB x.1.toNat 2).map u8v) ++ [u8v x.2.1, u8v x.2.2], q5)) (⟨hlt, hm', hfin⟩) (hme) Z16 Z10
   skip
   refine ho_n rfl (on_buildSliceN rfl rfl rfl) rfl (fun b87 => ?_)
   refine ha_one 5 Z61 <| ho_n rfl (on_appendR (A := A) (news := (beB x.1.toNat 2).map u8v) rfl rfl (SrcIs.rowR (A := q3.1.1) (fun _ => q3.2 Z63)) Z38 (u8_one _) Z63 Z64) rfl (fun q4 => ?_)
   refine ha_one 11 Z61 <| ho_n rfl (on_appendR (A := q4.1) (news := [u8v x.2.1, u8v x.2.2]) rfl rfl (SrcIs.blk (b := b87)) rfl Z44 Z63 Z64) rfl (fun q5 => ?_)
   refine ha_v 12 rfl (ov_assign rfl) rfl <| ha_done Z61 <| zb <| zt <| hc_region <| zm rfl <| zv (ov_add rfl rfl Z28) <| ?_
   refine zs rfl <| hl_nil <| hx_next hK3 ((i + 1, m + 2 + 2, (cs ++ (beB x.1.toNat 2).map u8v) ++ [u8v x.2.1, u8v x.2.2], q5)) (⟨hlt, hm', hfin⟩) (hme) Z16 Z10
  skip
  refine ho_n rfl (on_buildSliceN rfl rfl rfl) rfl (fun b87 => ?_)
  refine ha_one 4 Z61 <| ho_kx (σ := { q : Option Addr × Nat // 0 < 2 → isA q.1 }) rfl Tryz.call84 rfl (fun w1 => zu fun D' _ _ _ => big_spec D' w1 x.1.toNat 2 Z64 Z63) ?_
  intro q3
  try rw [List.nil_append]
  refine ha_one 5 Z61 <| ho_n rfl (on_appendR (A := A) (news := (beB x.1.toNat 2).map u8v) rfl rfl (SrcIs.rowR (A := q3.1.1) (fun _ => q3.2 Z63)) Z38 (u8_one _) Z63 Z64) rfl (fun q4 => ?_)
  refine ha_one 11 Z61 <| ho_n rfl (on_appendR (A := q4.1) (news := [u8v x.2.1, u8v x.2.2]) rfl rfl (SrcIs.blk (b := b87)) rfl Z44 Z63 Z64) rfl (fun q5 => ?_)
  refine ha_v 12 rfl (ov_assign rfl) rfl <| ha_done Z61 <| zb <| zt <| hc_region <| zm rfl <| zv (ov_add rfl rfl Z28) <| ?_
  refine zs rfl <| hl_nil <| hx_next hK3 ((i + 1, m + 2 + 2, (cs ++ (beB x.1.toNat 2).map u8v) ++ [u8v x.2.1, u8v x.2.2], q5)) (⟨hlt, hm', hfin⟩) (hme) Z16 Z10
 have hie : i = V.length := by omega
 subst hie
 rw [List.take_length] at hcs
 obtain ⟨P4, hP4⟩ : ∃ B, B = P3 ++ V.flatMap vlanB := ⟨_, rfl⟩
 rw [← hP4] at hcs hcB
 refine hc_exit <| ze <| ze <| hx_block_out <| zt <| hc_seq <| hc_region <| zm rfl <| zf rfl <| zl rfl rfl <| zv Z25 <| ?_
 refine zv (ov_conv rfl Z31) <| ?_
 refine hl_new (on_buildSliceN rfl rfl rfl) rfl rfl rfl fun b94 =>  ?_
 refine hl_new (on_appendR (A := A) (news := [.int .u8 (S.length : Int)]) rfl rfl (SrcIs.blk (b := b94)) rfl Z49 Z63 Z64) rfl rfl rfl (fun q3 => ?_)
 have hcs3 : cs ++ [.int .u8 (S.length : Int)] = (P4 ++ beB S.length 1).map u8v := by rw [hcs, be1_cells _ Z64, List.map_append]
 rw [hcs3]
 obtain ⟨P5, hP5⟩ : ∃ B, B = P4 ++ beB S.length 1 := ⟨_, rfl⟩
 rw [← hP5]
 rw [← List.append_assoc P4, ← hP5] at hcB
 obtain ⟨m3, hm3⟩ : ∃ k, k = m + 1 := ⟨_, rfl⟩
 rw [← hm3]
 refine zs rfl <| zn <| hc_seq <| zg <| zs rfl <| zn <| hc_block <| hc_loopK2 (σ := Nat × Nat × List Value × Option Addr × Nat) [1] rfl 9 (fun s => .int .i64 (s.1 : Int)) 4 (fun s => .slice s.2.2.2.1 s.2.1 s.2.2.2.2) (fun s => [row s.2.2.2.1 5 1 s.2.1 s.2.2.2.2 s.2.2.1, blk b1 49 (cfgV c (.slice Ap P.length capp) (.slice Av V.length capv) (.slice As S.length caps))]) (fun s => s.1 ≤ S.length ∧ s.2.1 = m3 + 9 * s.1 ∧ s.2.2.1 = (P5 ++ (S.take s.1).flatMap statB).map u8v) (fun s => S.length - s.1) ((0, m3, P5.map u8v, q3.1, q3.2)) (⟨Nat.zero_le _, rfl, by simp⟩) rfl rfl Z10 ?_
 rintro ⟨i, m, cs, A, d⟩ hj_ K4 hK4
 dsimp only at hj_ ⊢
 obtain ⟨hi, hm, hcs⟩ := hj_
 refine hc_seq <| zg <| zm rfl <| zf rfl <| zl rfl rfl <| ?_
 refine zv Z25 <| ?_
 refine zv (ov_lss rfl rfl) <| zn <| hc_cond rfl (fun h3 => ?_) (fun h3 => ?_)
 ·have hlt : i < S.length := by omega
  obtain ⟨hA, _⟩ := OldS.cells_flat (D := D) (w0 := w) (f := statV) (sz := 3) (fun _ => rfl) Z63 HSs hlt []
  have hc := fun l' => (OldS.cells_flat (D := D) (w0 := w) (f := statV) (sz := 3) (fun _ => rfl) Z63 HSs hlt l').2
  have hx := os' i hlt
  have hsn := snocB statB P5 S i hlt
  generalize S[i] = x at *
  have hfin : ((cs ++ (beB x.1.toNat 6).map u8v) ++ (beB x.2.1.toNat 2).map u8v) ++ [.int .u8 x.2.2] = (P5 ++ (S.take (i + 1)).flatMap statB).map u8v := by
   rw [be1_int Z64 Z64, hcs, ← hsn, statB]
   simp only [List.map_append, List.append_assoc]
  have hm' : m + 6 + 2 + 1 = m3 + 9 * (i + 1) := by omega
  have hme : S.length - (i + 1) < S.length - i := by omega
  refine zk <| hc_seq <| hc_block <| zg <| zf rfl <| zl rfl rfl <| zm rfl <| zv (ov_idxS rfl Z62 rfl _ rfl Z64) <| ?_
  refine hl_v (ov_loadG (cs := statV x) rfl rfl (hc _)) rfl <| hl_new (on_alloc) rfl rfl rfl fun b10 =>  ?_
  refine hl_u0 (on_storeW (vs := statV x) rfl rfl (by simp) (by simp) Z49) rfl rfl ?_
  refine zn <| hc_any [blk b10 149 (statV x)] mixed 16 rfl ?_
  refine ha_v 0 rfl (ov_move rfl) rfl <| ha_v 1 rfl (ov_fieldA rfl) rfl <| ha_v 2 rfl (zw rfl rfl) rfl <| ha_v 5 rfl (ov_fieldA rfl) rfl <| ha_v 6 rfl (zw rfl rfl) rfl <| ha_v 10 rfl (ov_fieldA rfl) rfl <| ha_v 11 rfl (zw rfl rfl) rfl <| ha_v 12 rfl (ov_conv rfl Z31) rfl <| ?_
  refine ha_v 7 rfl (ov_conv (m := ((x.2.1.toNat : Nat) : Int)) rfl (convN Z64 Z64)) rfl ?_
  refine ha_two 3 13 Z61 ?_ ?_
  ·skip
   refine ho_kx (σ := { q : Option Addr × Nat // 0 < 6 → isA q.1 }) rfl Tryz.call84 rfl (fun w1 => zu fun D' _ _ _ => big_spec D' w1 x.1.toNat 6 Z64 Z63) ?_
   intro q3
   try rw [List.nil_append]
   refine ha_two 4 13 Z61 ?_ ?_
   ·skip
    refine ho_n rfl (on_appendR (A := A) (news := (beB x.1.toNat 6).map u8v) rfl rfl (SrcIs.rowR (A := q3.1.1) (fun _ => q3.2 Z63)) Z38 (u8_one _) Z63 Z64) rfl (fun q4 => ?_)
    refine ha_two 8 13 Z61 ?_ ?_
    ·skip
     refine ho_kx (σ := { q : Option Addr × Nat // 0 < 2 → isA q.1 }) rfl Tryz.call84 rfl (fun w1 => zu fun D' _ _ _ => big_spec D' w1 x.2.1.toNat 2 Z64 Z63) ?_
     intro q5
     try rw [List.nil_append]
     refine ha_two 9 13 Z61 ?_ ?_
     ·skip
      refine ho_n rfl (on_appendR (A := q4.1) (news := (beB x.2.1.toNat 2).map u8v) rfl rfl (SrcIs.rowR (A := q5.1.1) (fun _ => q5.2 Z63)) Z38 (u8_one _) Z63 Z64) rfl (fun q6 => ?_)
      refine ha_one 13 Z61 <| ho_n rfl (on_buildSliceN rfl rfl rfl) rfl (fun b121 => ?_)
      refine ha_one 14 Z61 <| ho_n rfl (on_appendR (A := q6.1) (news := [.int .u8 x.2.2]) rfl rfl (SrcIs.blk (b := b121)) rfl Z49 Z63 Z64) rfl (fun q7 => ?_)
      refine ha_v 15 rfl (ov_assign rfl) rfl <| ha_done Z61 <| zb <| zt <| hc_region <| zm rfl <| zv (ov_add rfl rfl Z28) <| ?_
      refine zs rfl <| hl_nil <| hx_next hK4 ((i + 1, m + 6 + 2 + 1, ((cs ++ (beB x.1.toNat 6).map u8v) ++ (beB x.2.1.toNat 2).map u8v) ++ [.int .u8 x.2.2], q7)) (⟨hlt, hm', hfin⟩) (hme) Z16 Z10
     skip
     refine ho_n rfl (on_buildSliceN rfl rfl rfl) rfl (fun b121 => ?_)
     refine ha_one 9 Z61 <| ho_n rfl (on_appendR (A := q4.1) (news := (beB x.2.1.toNat 2).map u8v) rfl rfl (SrcIs.rowR (A := q5.1.1) (fun _ => q5.2 Z63)) Z38 (u8_one _) Z63 Z64) rfl (fun q6 => ?_)
     refine ha_one 14 Z61 <| ho_n rfl (on_appendR (A := q6.1) (news := [.int .u8 x.2.2]) rfl rfl (SrcIs.blk (b := b121)) rfl Z49 Z63 Z64) rfl (fun q7 => ?_)
     refine ha_v 15 rfl (ov_assign rfl) rfl <| ha_done Z61 <| zb <| zt <| hc_region <| zm rfl <| zv (ov_add rfl rfl Z28) <| ?_
     refine zs rfl <| hl_nil <| hx_next hK4 ((i + 1, m + 6 + 2 + 1, ((cs ++ (beB x.1.toNat 6).map u8v) ++ (beB x.2.1.toNat 2).map u8v) ++ [.int .u8 x.2.2], q7)) (⟨hlt, hm', hfin⟩) (hme) Z16 Z10
    skip
    refine ho_n rfl (on_buildSliceN rfl rfl rfl) rfl (fun b121 => ?_)
    refine ha_one 8 Z61 <| ho_kx (σ := { q : Option Addr × Nat // 0 < 2 → isA q.1 }) rfl Tryz.call84 rfl (fun w1 => zu fun D' _ _ _ => big_spec D' w1 x.2.1.toNat 2 Z64 Z63) ?_
    intro q5
    try rw [List.nil_append]
    refine ha_one 9 Z61 <| ho_n rfl (on_appendR (A := q4.1) (news := (beB x.2.1.toNat 2).map u8v) rfl rfl (SrcIs.rowR (A := q5.1.1) (fun _ => q5.2 Z63)) Z38 (u8_one _) Z63 Z64) rfl (fun q6 => ?_)
    refine ha_one 14 Z61 <| ho_n rfl (on_appendR (A := q6.1) (news := [.int .u8 x.2.2]) rfl rfl (SrcIs.blk (b := b121)) rfl Z49 Z63 Z64) rfl (fun q7 => ?_)
    refine ha_v 15 rfl (ov_assign rfl) rfl <| ha_done Z61 <| zb <| zt <| hc_region <| zm rfl <| zv (ov_add rfl rfl Z28) <| ?_
    refine zs rfl <| hl_nil <| hx_next hK4 ((i + 1, m + 6 + 2 + 1, ((cs ++ (beB x.1.toNat 6).map u8v) ++ (beB x.2.1.toNat 2).map u8v) ++ [.int .u8 x.2.2], q7)) (⟨hlt, hm', hfin⟩) (hme) Z16 Z10
   skip
   refine ho_n rfl (on_buildSliceN rfl rfl rfl) rfl (fun b121 => ?_)
   refine ha_one 4 Z61 <| ho_n rfl (on_appendR (A := A) (news := (beB x.1.toNat 6).map u8v) rfl rfl (SrcIs.rowR (A := q3.1.1) (fun _ => q3.2 Z63)) Z38 (u8_one _) Z63 Z64) rfl (fun q4 => ?_)
   refine ha_one 8 Z61 <| ho_kx (σ := { q : Option Addr × Nat // 0 < 2 → isA q.1 }) rfl Tryz.call84 rfl (fun w1 => zu fun D' _ _ _ => big_spec D' w1 x.2.1.toNat 2 Z64 Z63) ?_
   intro q5
   try rw [List.nil_append]
   refine ha_one 9 Z61 <| ho_n rfl (on_appendR (A := q4.1) (news := (beB x.2.1.toNat 2).map u8v) rfl rfl (SrcIs.rowR (A := q5.1.1) (fun _ => q5.2 Z63)) Z38 (u8_one _) Z63 Z64) rfl (fun q6 => ?_)
   refine ha_one 14 Z61 <| ho_n rfl (on_appendR (A := q6.1) (news := [.int .u8 x.2.2]) rfl rfl (SrcIs.blk (b := b121)) rfl Z49 Z63 Z64) rfl (fun q7 => ?_)
   refine ha_v 15 rfl (ov_assign rfl) rfl <| ha_done Z61 <| zb <| zt <| hc_region <| zm rfl <| zv (ov_add rfl rfl Z28) <| ?_
   refine zs rfl <| hl_nil <| hx_next hK4 ((i + 1, m + 6 + 2 + 1, ((cs ++ (beB x.1.toNat 6).map u8v) ++ (beB x.2.1.toNat 2).map u8v) ++ [.int .u8 x.2.2], q7)) (⟨hlt, hm', hfin⟩) (hme) Z16 Z10
  skip
  refine ho_n rfl (on_buildSliceN rfl rfl rfl) rfl (fun b121 => ?_)
  refine ha_one 3 Z61 <| ho_kx (σ := { q : Option Addr × Nat // 0 < 6 → isA q.1 }) rfl Tryz.call84 rfl (fun w1 => zu fun D' _ _ _ => big_spec D' w1 x.1.toNat 6 Z64 Z63) ?_
  intro q3
  try rw [List.nil_append]
  refine ha_one 4 Z61 <| ho_n rfl (on_appendR (A := A) (news := (beB x.1.toNat 6).map u8v) rfl rfl (SrcIs.rowR (A := q3.1.1) (fun _ => q3.2 Z63)) Z38 (u8_one _) Z63 Z64) rfl (fun q4 => ?_)
  refine ha_one 8 Z61 <| ho_kx (σ := { q : Option Addr × Nat // 0 < 2 → isA q.1 }) rfl Tryz.call84 rfl (fun w1 => zu fun D' _ _ _ => big_spec D' w1 x.2.1.toNat 2 Z64 Z63) ?_
  intro q5
  try rw [List.nil_append]
  refine ha_one 9 Z61 <| ho_n rfl (on_appendR (A := q4.1) (news := (beB x.2.1.toNat 2).map u8v) rfl rfl (SrcIs.rowR (A := q5.1.1) (fun _ => q5.2 Z63)) Z38 (u8_one _) Z63 Z64) rfl (fun q6 => ?_)
  refine ha_one 14 Z61 <| ho_n rfl (on_appendR (A := q6.1) (news := [.int .u8 x.2.2]) rfl rfl (SrcIs.blk (b := b121)) rfl Z49 Z63 Z64) rfl (fun q7 => ?_)
  refine ha_v 15 rfl (ov_assign rfl) rfl <| ha_done Z61 <| zb <| zt <| hc_region <| zm rfl <| zv (ov_add rfl rfl Z28) <| ?_
  refine zs rfl <| hl_nil <| hx_next hK4 ((i + 1, m + 6 + 2 + 1, ((cs ++ (beB x.1.toNat 6).map u8v) ++ (beB x.2.1.toNat 2).map u8v) ++ [.int .u8 x.2.2], q7)) (⟨hlt, hm', hfin⟩) (hme) Z16 Z10
 have hie : i = S.length := by omega
 subst hie
 rw [List.take_length] at hcs
 obtain ⟨P6, hP6⟩ : ∃ B, B = P5 ++ S.flatMap statB := ⟨_, rfl⟩
 rw [← hP6] at hcs hcB
 have hm6 : m = (cfgB c).length := by
  rw [hcB, hP6, hP5, hP4, hP3, hP2, hP1]
  simp only [List.length_append, beB_len, hhl, flat_len (f := portB) (sz := 7) portB_len, flat_len (f := vlanB) (sz := 4) vlanB_len, flat_len (f := statB) (sz := 9) statB_len]
  omega
 rw [← hcB] at hcs
 subst hcs; subst hm6
 refine hc_exit <| ze <| ze <| hx_block_out <| zt <| hc_seq <| hc_region <| zm rfl <| zs rfl <| zs rfl <| zn <| zq <| ?_
 exact results_2 (.inr rfl) rfl rfl rfl fun w' H' => ⟨⟨((A, d), cfgB c, 0), .inr ⟨hyes, rfl, rfl⟩⟩, rfl, H'.ent Z8⟩
end Go.Proofs.YtjlolpmmpafjeaaGreat
