import Derived.Test.YtijaldfiaeafgaaREn2
import Derived.Test.YtijaldfiaeafgaaREnP
set_option linter.unusedVariables false
set_option linter.unusedSimpArgs false
namespace Go.Proofs.Ytijaldfiaeafgaa
open Slk
def RDecPost (D : Nat → Prop) (w : World) (S : List Sec) (e : Ending) (w' : World) : Prop :=
  (decS S = none ∧ e = .returned (.agg #[.int .i64 0, .int .u32 0, .int .u32 0, .slice none 0 0, .int .i64 0, .int .i64 11]) ∧ Own D w w' []) ∨
  (∃ (x : EntT) (n : Nat) (q : Option Addr × Nat), decS S = some (x, n) ∧ e = .returned (.agg #[.int .i64 x.1, .int .u32 x.2.1, .int .u32 x.2.2.1, .slice q.1 x.2.2.2.length q.2, .int .i64 n, .int .i64 0]) ∧ Own D w w' [row q.1 5 1 x.2.2.2.length q.2 (x.2.2.2.map u8v)])
abbrev gotZ : List Value := [.int .i64 0, .int .u32 0, .int .u32 0, .slice none 0 0, .int .i64 0, .int .i64 11]
theorem Rnum_at (D : Nat → Prop) (w : World) (v : Value) (B : List UInt8) (lo m N : Nat) (hm : m ≤ 4) (hN : numB ((B.drop lo).take m) = N) (HA : Old D w (Rep.rep ((B.drop lo).take m) [v])) :
    Calls Try.prog 71 #[v] w fun e w' => e = .returned (.int .u32 (N : Int)) ∧ Own D w w' [] := by
  subst hN
  exact Rnum_spec D w v _ (by rw [List.length_take]; omega) HA
theorem RNeed_at (D : Nat → Prop) (w : World) (m N : Nat) (hm : m ≤ 4000) (hN : N = (m + 77) / 63) : Calls Try.prog 72 #[.int .i64 (m : Int)] w fun e w' => e = .returned (.int .i64 (N : Int)) ∧ Own D w w' [] := by
  have h := RNeed_spec D w (m : Int)
  have : needN (m : Int) = (N : Int) := by unfold needN; rw [if_neg (by omega)]; omega
  rw [this] at h
  exact h
theorem REnc_at (D : Nat → Prop) (w : World) (x : EntT) (v : Value) (W : List Sec) (n : Nat) (hW : W = encE x) (hn : n = W.length) (h : okE x) (HA : Old D w (Rep.rep x.2.2.2 [v])) :
    Calls Try.prog 55 #[.agg #[.int .i64 x.1, .int .u32 x.2.1, .int .u32 x.2.2.1, v]] w fun e w' => ∃ q : Option Addr × Nat, e = .returned (.tuple #[.slice q.1 n q.2, .int .i64 0]) ∧ Own D w w' [row q.1 34 64 n q.2 (W.flatMap secC)] := by
  subst hn; subst hW
  have hl : (encE x).length = (15 + x.2.2.2.length + 62) / 63 := by rw [encE, encS_len, fullB_length]
  rw [hl]
  exact REnc_ok D w x.1 x.2.1 x.2.2.1 v x.2.2.2 h.1 h.2.1 h.2.2.1 h.2.2.2 HA
set_option maxHeartbeats 2000000 in
theorem RDec_spec (D : Nat → Prop) (w : World) (v : Value) (S : List Sec) (hS70 : S.length ≤ 100000) (HA : Old D w (Rep.rep S [v])) :
    Calls Try.prog 63 #[v] w fun e w' => RDecPost D w S e w' := by
  obtain ⟨A, cap, rfl, hA1, hA2, HS, HR⟩ := HA.openS
  rcases hSe : S with _ | ⟨s, r⟩
  · have hno : decS [] = none := rfl
    refine hc_enter (vs := [.slice A ([] : List Sec).length cap]) Try.func63 rfl _ Try.ntmps63 rfl (Own.start D w) ?_
    simp only [argSlots, Nat.zero_add]
    refine hc_seq <| hc_region <| hl_new (on_alloc) rfl rfl rfl fun b2 =>
      hl_nil <| hx_then_normal <| hc_seq <| ?_
    refine hc_seq <| hc_region <| hl_v (ov_move rfl) rfl <| hl_v (by first | exact ov_len rfl | exact ov_lenS rfl) rfl <| ?_
    refine hl_v (ov_eql rfl rfl) rfl <| hl_v (ov_move rfl) rfl <| ?_
    refine hl_partT (t := 13) rfl (rfl) ?_
    refine hl_off rfl rfl rfl rfl rfl rfl <| hl_off rfl rfl rfl rfl rfl rfl <| hl_off rfl rfl rfl rfl rfl rfl <| hl_off rfl rfl rfl rfl rfl rfl <| hl_off rfl rfl rfl rfl rfl rfl <| hl_v (ov_pickT rfl rfl) rfl <| ?_
    refine hl_nil <| hx_then_normal <| hc_cond_true rfl <| hc_seq <| hc_region <| hl_v (ov_buildSN rfl rfl) rfl <| ?_
    refine hl_u0 (on_storeW (vs := gotZ) rfl rfl (by simp) (by simp) (by simp [Value.oneCell'])) rfl rfl ?_
    refine hl_nil <| hx_then_normal <| hc_ret <| hx_then_ret <| ?_
    exact results_c (.inr rfl) rfl rfl (by simp) fun w' H' => .inl ⟨hno, rfl, H'.ent (Ent.nil _)⟩
  rw [← hSe]
  have hl0 : 0 < S.length := by rw [hSe]; simp
  have hA := flat_isA HS (k := 0) hl0
  have hs0 : S[0] = s := by simp only [hSe, List.getElem_cons_zero]
  have h00 := fun l => cell_sec HS (k := 0) (j := 0) hl0 (by decide) l
  rw [hs0] at h00
  have hgl := gath_le r
  have hrl : S.length = r.length + 1 := by rw [hSe]; rfl
  obtain ⟨K, hKe⟩ : ∃ K, K = 1 + gathN r := ⟨_, rfl⟩
  refine hc_enter (vs := [.slice A S.length cap]) Try.func63 rfl _ Try.ntmps63 rfl (Own.start D w) ?_
  simp only [argSlots, Nat.zero_add]
  refine hc_seq <| hc_region <| hl_new (on_alloc) rfl rfl rfl fun b2 =>
    hl_nil <| hx_then_normal <| hc_seq <| ?_
  refine hc_seq <| hc_region <| hl_v (ov_move rfl) rfl <| hl_v (by first | exact ov_len rfl | exact ov_lenS rfl) rfl <| ?_
  refine hl_v (ov_eql rfl rfl) rfl <| hl_v (ov_move rfl) rfl <| ?_
  refine hl_partF (t := 13) rfl ((by omega)) ?_
  refine hl_on rfl rfl <| hl_v (ov_move rfl) rfl <| hl_on rfl rfl <| hl_v (ov_idxSc rfl (by assumption) rfl rfl (by omega)) rfl <| hl_on rfl rfl <| hl_v (ov_idxPc rfl rfl rfl rfl rfl) rfl <| ?_
  refine hl_on rfl rfl <| hl_v (ov_load rfl (h00 _)) rfl ?_
  refine hl_on rfl rfl <| hl_v (ov_neq rfl rfl) rfl <| hl_v (ov_pickF rfl rfl) rfl <| hl_nil <| hx_then_normal <| ?_
  refine hc_cond rfl (fun z => ?_) (fun z => ?_)
  · have hno : decS S = none := by rw [hSe]; unfold decS; exact if_neg (fun hh => z (by rw [hh.1]; rfl))
    refine hc_seq <| hc_region <| hl_v (ov_buildSN rfl rfl) rfl <| ?_
    refine hl_u0 (on_storeW (vs := gotZ) rfl rfl (by simp) (by simp) (by simp [Value.oneCell'])) rfl rfl ?_
    refine hl_nil <| hx_then_normal <| hc_ret <| hx_then_ret <| ?_
    exact results_c (.inr rfl) rfl rfl (by simp) fun w' H' => .inl ⟨hno, rfl, H'.ent (Ent.nil _)⟩
  have hs87 : s[0].toNat = 87 := by omega
  refine hc_skip <| hx_then_normal <| hc_seq <| hc_region <| hl_v (ov_assign rfl) rfl <| hl_nil <| ?_
  refine hx_then_normal <| hc_seq <| hc_seq <| hc_region <| hl_v (ov_assign rfl) rfl <| hl_nil <| ?_
  refine hx_then_normal <| ?_
  refine hc_cutK1 (σ := Option Addr × Nat) [0, 2] rfl 3 (fun q => .slice q.1 (63 * K) q.2) (fun q => [row q.1 5 1 (63 * K) q.2 ((bodyS (S.take K)).map u8v), blk b2 133 [.int .i64 0, .int .u32 0, .int .u32 0, .slice none 0 0, .int .i64 0, .int .i64 0]]) (fun K1 hK1 => ?_) (fun q => ?_)
  · refine hc_block <| ?_
    refine hc_loopK2 (σ := Nat × Option Addr × Nat) [0, 2] rfl 4 (fun t => .int .i64 (t.1 : Int)) 3 (fun t => .slice t.2.1 (63 * t.1) t.2.2) (fun t => [row t.2.1 5 1 (63 * t.1) t.2.2 ((bodyS (S.take t.1)).map u8v), blk b2 133 [.int .i64 0, .int .u32 0, .int .u32 0, .slice none 0 0, .int .i64 0, .int .i64 0]]) (fun t => t.1 ≤ S.length ∧ t.1 ≤ K) (fun t => S.length - t.1) ((0, none, 0)) (⟨Nat.zero_le _, Nat.zero_le _⟩) rfl rfl (Ent.trans (Ent.nil_row 5 1) (by first | assumption | exact Ent.refl _ | exact Ent.nil _ | exact Ent.row_any (Ent.refl _) | (repeat (first | exact Ent.refl _ | exact Ent.nil _ | refine Ent.pick ?_)))) ?_
    rintro ⟨k, q⟩ hj_ K2 hK2
    dsimp only at hj_ ⊢
    obtain ⟨hk1, hk2⟩ := hj_
    refine hc_seq <| hc_seq <| hc_region <| hl_v (ov_move rfl) rfl <| hl_v (ov_move rfl) rfl <| hl_v (by first | exact ov_len rfl | exact ov_lenS rfl) rfl <| ?_
    refine hl_v (ov_lss rfl rfl) rfl <| hl_v (ov_move rfl) rfl <| ?_
    refine hl_part (t := 25) rfl (fun c1 => ?_) (fun c1 => ?_)
    · have hk : k < S.length := by omega
      have hsrc : ∀ l', SrcIs D w l' (some ⟨ab A, ao A + k * 64 + 1 * 1, none⟩) ((S[k].toList.drop 1).map u8v) := fun l' => by
        have ho := old_sec_bytes HR (i := k) (lo := 1) (m := 63) (cap := 63) hk (by decide) (by decide) (by decide) (by decide) (A' := some ⟨ab A, ao A + k * 64 + 1, none⟩) rfl
        rw [List.take_of_length_le (by simp)] at ho
        obtain ⟨B, cb, he, _, _, hB⟩ := ho.openB
        injection he with e1 _ _
        rw [← e1] at hB
        exact SrcIs.old hB
      have hsn : bodyS (S.take (k + 1)) = bodyS (S.take k) ++ S[k].toList.drop 1 := by
        rw [List.take_succ_eq_append_getElem hk]; unfold bodyS; rw [List.flatMap_append, List.flatMap_singleton]
      refine hl_on rfl rfl <| hl_v (ov_move rfl) rfl <| hl_on rfl rfl <| hl_v (ov_eql rfl rfl) rfl <| hl_on rfl rfl <| hl_v (ov_move rfl) rfl <| ?_
      refine hl_part (t := 28) rfl (fun c2 => ?_) (fun c2 => ?_)
      · have hg1 : k + 1 ≤ K := by omega
        refine hl_off rfl rfl rfl rfl rfl rfl <| hl_off rfl rfl rfl rfl rfl rfl <| hl_off rfl rfl rfl rfl rfl rfl <| hl_off rfl rfl rfl rfl rfl rfl <| hl_off rfl rfl rfl rfl rfl rfl <| hl_off rfl rfl rfl rfl rfl rfl <| ?_
        refine hl_on rfl rfl <| hl_v (ov_pickT rfl rfl) rfl <| hl_v (ov_pickT rfl rfl) rfl <| hl_nil <| hx_then_normal <| hc_cond_true rfl <| hc_skip <| ?_
        refine hx_then_normal <| hc_seq <| hc_block <| hc_region <| hl_v (ov_move rfl) rfl <| hl_v (ov_move rfl) rfl <| ?_
        refine hl_v (ov_move rfl) rfl <| ?_
        refine hl_v (ov_idxS rfl hA rfl k rfl hk) rfl ?_
        refine hl_v (ov_sliceP rfl 1 64 (.inr ⟨_, _, rfl, rfl⟩) (.inl ⟨rfl, rfl⟩) (by decide) (by decide) (by decide)) rfl ?_
        refine hl_new (on_appendR (A := q.1) (news := (S[k].toList.drop 1).map u8v) rfl rfl (hsrc _) (by simp) (u8_one _) (by decide) (by omega)) rfl rfl rfl (fun q2 => ?_)
        rw [show (bodyS (S.take k)).map u8v ++ (S[k].toList.drop 1).map u8v = (bodyS (S.take (k + 1))).map u8v by rw [hsn, List.map_append], show 63 * k + (64 - 1) = 63 * (k + 1) by omega]
        refine hl_v (ov_assign rfl) rfl <| hl_nil <| hx_block_normal <| hx_then_normal <| hc_region <| hl_v (ov_move rfl) rfl <| ?_
        refine hl_v (ov_add rfl rfl (by first | exact wrap_i64 (by omega) | rfl)) rfl <| ?_
        refine hl_v (ov_assign rfl) rfl <| hl_nil <| ?_
        refine hx_next hK2 ((k + 1, q2)) (⟨by show k + 1 ≤ _; omega, hg1⟩) (by omega) (by repeat (first | exact Slots.sub_nil _ | refine Slots.sub_cons rfl ?_)) (by first | assumption | exact Ent.refl _ | exact Ent.nil _ | (repeat (first | exact Ent.refl _ | exact Ent.nil _ | refine Ent.pick ?_)))
      have hkr : k - 1 < r.length := by omega
      have hSk : S[k] = r[k - 1] := by
        have : S[k]? = some r[k - 1] := by rw [hSe, List.getElem?_cons, if_neg (by omega), List.getElem?_eq_getElem hkr]
        rw [List.getElem?_eq_getElem hk] at this
        simpa using this
      refine hl_on rfl rfl <| hl_v (ov_move rfl) rfl <| hl_on rfl rfl <| hl_v (ov_move rfl) rfl <| ?_
      refine hl_on rfl rfl <| hl_v (ov_idxS rfl hA rfl k rfl hk) rfl ?_
      refine hl_on rfl rfl <| hl_v (ov_idxPc rfl rfl rfl rfl rfl) rfl <| ?_
      refine hl_on rfl rfl <| hl_v (ov_load rfl (cell_sec HS (k := k) (j := 0) hk (by decide) _)) rfl ?_
      refine hl_on rfl rfl <| hl_v (ov_eql rfl rfl) rfl <| hl_on rfl rfl <| hl_v (ov_pickF rfl rfl) rfl <| hl_v (ov_pickT rfl rfl) rfl <| hl_nil <| hx_then_normal <| ?_
      refine hc_cond rfl (fun c3 => ?_) (fun c3 => ?_)
      · have hg1 : k + 1 ≤ K := by
          rcases Nat.lt_or_ge k K with h | h
          · omega
          · exfalso
            have he : k - 1 = gathN r := by omega
            have hst := gath_stop r (by omega)
            apply hst
            have : r[k - 1][0] = 119 := by rw [← hSk]; exact UInt8.toNat_inj.1 (show (S[k])[0].toNat = 119 by omega)
            simp only [he] at this
            exact this
        refine hc_skip <| hx_then_normal <| hc_seq <| hc_block <| hc_region <| hl_v (ov_move rfl) rfl <| ?_
        refine hl_v (ov_move rfl) rfl <| hl_v (ov_move rfl) rfl <| ?_
        refine hl_v (ov_idxS rfl hA rfl k rfl hk) rfl ?_
        refine hl_v (ov_sliceP rfl 1 64 (.inr ⟨_, _, rfl, rfl⟩) (.inl ⟨rfl, rfl⟩) (by decide) (by decide) (by decide)) rfl ?_
        refine hl_new (on_appendR (A := q.1) (news := (S[k].toList.drop 1).map u8v) rfl rfl (hsrc _) (by simp) (u8_one _) (by decide) (by omega)) rfl rfl rfl (fun q2 => ?_)
        rw [show (bodyS (S.take k)).map u8v ++ (S[k].toList.drop 1).map u8v = (bodyS (S.take (k + 1))).map u8v by rw [hsn, List.map_append], show 63 * k + (64 - 1) = 63 * (k + 1) by omega]
        refine hl_v (ov_assign rfl) rfl <| hl_nil <| hx_block_normal <| hx_then_normal <| hc_region <| hl_v (ov_move rfl) rfl <| ?_
        refine hl_v (ov_add rfl rfl (by first | exact wrap_i64 (by omega) | rfl)) rfl <| ?_
        refine hl_v (ov_assign rfl) rfl <| hl_nil <| ?_
        refine hx_next hK2 ((k + 1, q2)) (⟨by show k + 1 ≤ _; omega, hg1⟩) (by omega) (by repeat (first | exact Slots.sub_nil _ | refine Slots.sub_cons rfl ?_)) (by first | assumption | exact Ent.refl _ | exact Ent.nil _ | (repeat (first | exact Ent.refl _ | exact Ent.nil _ | refine Ent.pick ?_)))
      have hm : k = K := by
        rcases Nat.lt_or_ge k K with h | h
        · exfalso
          apply c3
          rw [hSk, gath_all r (k - 1) hkr (by omega)]; rfl
        · omega
      subst hm
      refine hc_exit <| hx_then_exit <| hx_then_exit <| hx_block_out <| ?_
      refine hx_cut hK1 (q) (by repeat (first | exact Slots.sub_nil _ | refine Slots.sub_cons rfl ?_)) (by first | assumption | exact Ent.refl _ | exact Ent.nil _ | (repeat (first | exact Ent.refl _ | exact Ent.nil _ | refine Ent.pick ?_)))
    have hm : k = K := by omega
    subst hm
    refine hl_off rfl rfl rfl rfl rfl rfl <| hl_off rfl rfl rfl rfl rfl rfl <| hl_off rfl rfl rfl rfl rfl rfl <| hl_offU rfl rfl rfl rfl rfl <| hl_offU rfl rfl rfl rfl rfl <| hl_offU rfl rfl rfl rfl rfl <| ?_
    refine hl_offU rfl rfl rfl rfl rfl <| hl_offU rfl rfl rfl rfl rfl <| hl_offU rfl rfl rfl rfl rfl <| hl_off rfl rfl rfl rfl rfl rfl <| hl_v (ov_pickF rfl rfl) rfl <| hl_nil <| ?_
    refine hx_then_normal <| hc_cond_false rfl <| hc_exit <| hx_then_exit <| hx_then_exit <| hx_block_out <| ?_
    refine hx_cut hK1 (q) (by repeat (first | exact Slots.sub_nil _ | refine Slots.sub_cons rfl ?_)) (by first | assumption | exact Ent.refl _ | exact Ent.nil _ | (repeat (first | exact Ent.refl _ | exact Ent.nil _ | refine Ent.pick ?_)))
  obtain ⟨B, hB⟩ : ∃ B, B = bodyS (S.take K) := ⟨_, rfl⟩
  have hBl : B.length = 63 * K := by rw [hB, bodyS_length, List.length_take, Nat.min_eq_left (by omega)]
  have hhead : ∀ lo m, lo + m ≤ 63 → (B.drop lo).take m = (s.toList.drop (lo + 1)).take m := fun lo m h => by
    rw [hB, hSe]; exact head_body s r K lo m (by omega) h
  obtain ⟨size, hsz⟩ : ∃ m, numAt s 10 2 = m := ⟨_, rfl⟩
  obtain ⟨a, hna'⟩ : ∃ m, numAt s 2 4 = m := ⟨_, rfl⟩
  obtain ⟨b, hnb'⟩ : ∃ m, numAt s 6 4 = m := ⟨_, rfl⟩
  obtain ⟨kk, hkk⟩ : ∃ m, m = s[1].toNat := ⟨_, rfl⟩
  have hsz9 : numB ((B.drop 9).take 2) = size := by rw [hhead 9 2 (by decide)]; exact hsz
  have hna : numB ((B.drop 1).take 4) = a := by rw [hhead 1 4 (by decide)]; exact hna'
  have hnb : numB ((B.drop 5).take 4) = b := by rw [hhead 5 4 (by decide)]; exact hnb'
  have hb10 := numAt_lt2 s 10 (by decide)
  have hb2 := numAt_lt4 s 2 (by decide)
  have hb6 := numAt_lt4 s 6 (by decide)
  have hk1 := s[1].toNat_lt
  rw [hsz] at hb10
  rw [hna'] at hb2
  rw [hnb'] at hb6
  rw [← hkk] at hk1
  have hdec : decS S = if s[0].toNat = 87 ∧ needM size ≠ 0 ∧ needM size ≤ S.length ∧ encE (candE S s) = S.take (needM size) then some (candE S s, needM size) else none := by
    rw [← hsz, hSe]; rfl
  rw [← hB]
  refine hx_then_normal <| ?_
  refine HC.fact (fun w H => Own.factR q.1 H) ?_
  rintro ⟨hrl, hnc, hcc, hA1⟩
  have hA1 : isA q.1 := hA1 (by intro h; have := congrArg List.length h; simp [hBl] at this; omega)
  have hB0 : (B.map u8v)[0]? = some (.int .u8 (kk : Int)) := by
    have h1 : (B.drop 0).take 1 = (s.toList.drop 1).take 1 := hhead 0 1 (by decide)
    have h2 : B[0]? = some s[1] := by
      have := congrArg (fun l => l[0]?) h1
      simp only [List.drop_zero] at this
      rw [List.getElem?_take_of_lt (by decide), List.getElem?_take_of_lt (by decide), List.getElem?_drop] at this
      rw [this, Vector.getElem?_toList, Vector.getElem?_eq_getElem (by decide)]
    rw [List.getElem?_map, h2, hkk]; rfl
  refine hc_seq <| hc_region <| hl_v (ov_move rfl) rfl <| hl_v (ov_slice rfl 9 11 (.inr ⟨_, _, rfl, rfl⟩) (.inr ⟨_, _, rfl, rfl⟩) (by omega) (by omega)) rfl <| ?_
  refine hl_c Try.call71 rfl rfl (fun w1 H1 => Own.calln H1 fun D' hold hin H2 => Rnum_at D' w1 _ B 9 2 size (by decide) hsz9 (hin _ fun h hs ho => rep_cut (rep_row (A := q.1) hs B hBl.symm (repL_bytes.2 rfl)) 9 11 (by decide) (by omega))) ?_
  refine hl_v (ov_conv rfl (by first | exact wrap_i64 (by omega) | rfl)) rfl <| ?_
  refine hl_v (ov_assign rfl) rfl <| hl_nil <| hx_then_normal <| hc_seq <| hc_seq <| hc_region <| ?_
  refine hl_v (ov_move rfl) rfl <| hl_v (ov_gtr rfl rfl) rfl <| hl_v (ov_move rfl) rfl <| ?_
  refine hl_part (t := 51) rfl (fun hgt => ?_) (fun hgt => ?_)
  · have hno : decS S = none := by rw [hdec, if_neg]; rintro ⟨_, h, _⟩; apply h; unfold needM; rw [if_pos (by omega)]
    refine hl_off rfl rfl rfl rfl rfl rfl <| hl_off rfl rfl rfl rfl rfl rfl <| hl_off rfl rfl rfl rfl rfl rfl <| hl_off rfl rfl rfl rfl rfl rfl <| hl_off rfl rfl rfl rfl rfl rfl <| hl_off rfl rfl rfl rfl rfl rfl <| ?_
    refine hl_v (ov_pickT rfl rfl) rfl <| hl_nil <| hx_then_normal <| hc_cond_true rfl <| hc_seq <| hc_region <| ?_
    refine hl_v (ov_buildSN rfl rfl) rfl <| ?_
    refine hl_u0 (on_storeW (vs := gotZ) rfl rfl (by simp) (by simp) (by simp [Value.oneCell'])) rfl rfl ?_
    refine hl_nil <| hx_then_normal <| hc_ret <| hx_then_ret <| ?_
    exact results_c (.inr rfl) rfl rfl (by simp) fun w' H' => .inl ⟨hno, rfl, H'.ent (Ent.nil _)⟩
  obtain ⟨n, hn⟩ : ∃ n, n = (size + 77) / 63 := ⟨_, rfl⟩
  have hnM : needM size = n := by unfold needM; rw [if_neg (by omega), hn]
  rw [hnM] at hdec
  refine hl_on rfl rfl <| hl_v (ov_move rfl) rfl <| hl_on rfl rfl <| hl_v (by first | exact ov_len rfl | exact ov_lenS rfl) rfl <| ?_
  refine hl_on rfl rfl <| hl_v (ov_move rfl) rfl <| ?_
  refine hl_on rfl rfl <| hl_c Try.call72 rfl rfl (fun w1 H1 => Own.calln H1 fun D' hold hin H2 => RNeed_at D' w1 size n (by omega) hn) ?_
  refine hl_on rfl rfl <| hl_v (ov_mul rfl rfl (by first | exact wrap_i64 (by omega) | rfl)) rfl <| ?_
  refine hl_on rfl rfl <| hl_v (ov_lss rfl rfl) rfl <| hl_v (ov_pickF rfl rfl) rfl <| hl_nil <| hx_then_normal <| ?_
  refine hc_cond rfl (fun hshort => ?_) (fun hshort => ?_)
  · have hno : decS S = none := by
      rw [hdec, if_neg]
      rintro ⟨_, h1, h2, h3⟩
      have := gath_enc (s := s) (r := r) (x := candE S s) (n := n) (by omega) (by rw [← hSe]; exact h2) (by rw [← hSe]; exact h3)
      omega
    refine hc_seq <| hc_region <| hl_v (ov_buildSN rfl rfl) rfl <| ?_
    refine hl_u0 (on_storeW (vs := gotZ) rfl rfl (by simp) (by simp) (by simp [Value.oneCell'])) rfl rfl ?_
    refine hl_nil <| hx_then_normal <| hc_ret <| hx_then_ret <| ?_
    exact results_c (.inr rfl) rfl rfl (by simp) fun w' H' => .inl ⟨hno, rfl, H'.ent (Ent.nil _)⟩
  have hnK : n ≤ K := by omega
  have hnS : n ≤ S.length := by omega
  obtain ⟨X, hX⟩ : ∃ X, X = (B.drop 11).take size := ⟨_, rfl⟩
  have hXl : X.length = size := by rw [hX, List.length_take, List.length_drop]; omega
  have hXu : X.map u8v = ((B.map u8v).drop (11 * 1)).take (size * 1) := by rw [hX, Nat.mul_one, Nat.mul_one, List.map_take, List.map_drop]
  have hcand : candE S s = (kk, a, b, X) := by
    unfold candE
    rw [hsz, hna', hnb', hnM, ← hkk]
    have : ((bodyS (S.take n)).drop 11).take size = X := by
      rw [body_take S K n hnK (by omega), ← hB, hX, List.drop_take, List.take_take, Nat.min_eq_left (by omega)]
    rw [this]
  rw [hcand] at hdec
  refine hc_skip <| hx_then_normal <| hc_seq <| ?_
  refine hc_cutK1 (σ := Nat × Option Addr × Nat) [0, 2] rfl 6 (fun t => .pointer (some ⟨t.1, 0, none⟩)) (fun t => [blk t.1 118 [.int .i64 (kk : Int), .int .u32 (a : Int), .int .u32 (b : Int), .slice t.2.1 size t.2.2], row t.2.1 5 1 size t.2.2 (X.map u8v), blk b2 133 [.int .i64 0, .int .u32 0, .int .u32 0, .slice none 0 0, .int .i64 0, .int .i64 0]]) (fun K3 hK3 => ?_) (fun t => ?_)
  · refine hc_any [row q.1 5 1 (63 * K) q.2 (B.map u8v)] mixed 19 rfl ?_
    have hc0 : CellIs D w [row q.1 5 1 (63 * K) q.2 (B.map u8v)] (ab q.1) (ao q.1 + 0 * 1) (.int .u8 (kk : Int)) := CellIs.row (A := q.1) (i := 0) hA1 hB0
    refine ha_v 0 rfl (ov_move rfl) rfl <| ?_
    refine ha_v 1 rfl (ov_idxSc rfl (by assumption) rfl rfl (by omega)) rfl <| ?_
    refine ha_v 2 rfl (by first | exact ov_load rfl (by assumption) | exact ov_load rfl (hcl _) | exact ov_load rfl (hcl2 _) | exact ov_load rfl (hcl3 _) | exact ov_load rfl (CellIs.blk rfl)) rfl <| ?_
    refine ha_v 3 rfl (ov_conv rfl (by first | exact wrap_i64 (by omega) | rfl)) rfl <| ?_
    refine ha_v 4 rfl (ov_move rfl) rfl <| ?_
    refine ha_v 5 rfl (ov_slice rfl 1 5 (.inr ⟨_, _, rfl, rfl⟩) (.inr ⟨_, _, rfl, rfl⟩) (by omega) (by omega)) rfl <| ?_
    refine ha_v 7 rfl (ov_move rfl) rfl <| ?_
    refine ha_v 8 rfl (ov_slice rfl 5 9 (.inr ⟨_, _, rfl, rfl⟩) (.inr ⟨_, _, rfl, rfl⟩) (by omega) (by omega)) rfl <| ?_
    refine ha_v 11 rfl (ov_move rfl) rfl <| ?_
    refine ha_v 12 rfl (ov_move rfl) rfl <| ?_
    refine ha_v 13 rfl (ov_add (m := ((11 + size : Nat) : Int)) rfl rfl ((wrap_i64 (by omega)).trans (by omega))) rfl ?_
    refine ha_v 14 rfl (ov_slice rfl 11 (11 + size) (.inr ⟨_, _, rfl, rfl⟩) (.inr ⟨_, _, rfl, rfl⟩) (by omega) (by omega)) rfl ?_
    refine ha_three 6 10 17 (by kernel_rfl) ?_ ?_ ?_
    · skip
      refine ho_k rfl Try.call71 rfl (fun w1 H1 => Own.calln H1 fun D' hold hin H2 => Rnum_at D' w1 _ B 1 4 a (by decide) hna (hin _ fun h hs ho => rep_cut (rep_row (A := q.1) hs B hBl.symm (repL_bytes.2 rfl)) 1 5 (by decide) (by omega))) ?_
      refine ha_three 9 10 17 (by kernel_rfl) ?_ ?_ ?_
      · skip
        refine ho_k rfl Try.call71 rfl (fun w1 H1 => Own.calln H1 fun D' hold hin H2 => Rnum_at D' w1 _ B 5 4 b (by decide) hnb (hin _ fun h hs ho => rep_cut (rep_row (A := q.1) hs B hBl.symm (repL_bytes.2 rfl)) 5 9 (by decide) (by omega))) ?_
        refine ha_two 10 17 (by kernel_rfl) ?_ ?_
        · skip
          refine ho_n rfl (on_buildSliceN rfl rfl rfl) rfl (fun b70 => ?_)
          refine ha_ent (Ent.blk_row (b := b70) 1 0 rfl (by decide)) ?_
          refine ha_two 15 17 (by kernel_rfl) ?_ ?_
          · skip
            refine ho_n rfl (on_appendR (A := some ⟨b70, 0, none⟩) (news := X.map u8v) rfl rfl (SrcIs.rowCut (A := q.1) hA1 11 size (by omega) hrl hnc hXu) (by rw [List.length_map, hXl]; omega) (u8_one _) (by decide) (by omega)) rfl (fun qx => ?_)
            simp only [Nat.zero_add, List.nil_append, Nat.add_sub_cancel_left]
            refine ha_v 16 rfl (ov_buildSN rfl rfl) rfl <| ?_
            refine ha_one 17 (by kernel_rfl) <| ?_
            refine ho_n rfl (on_alloc) rfl (fun b6 => ?_)
            refine ha_one 18 (by kernel_rfl) <| ?_
            refine ho_w0 rfl (on_storeW (vs := [.int .i64 (kk : Int), .int .u32 (a : Int), .int .u32 (b : Int), .slice qx.1 size qx.2]) rfl rfl (by simp) (by simp) (by simp [Value.oneCell'])) rfl ?_
            refine ha_done (by kernel_rfl) <| ?_
            refine hx_cut hK3 ((b6, qx)) (by repeat (first | exact Slots.sub_nil _ | refine Slots.sub_cons rfl ?_)) (by first | assumption | exact Ent.refl _ | exact Ent.nil _ | (repeat (first | exact Ent.refl _ | exact Ent.nil _ | refine Ent.pick ?_)))
          skip
          refine ho_n rfl (on_alloc) rfl (fun b6 => ?_)
          refine ha_one 15 (by kernel_rfl) <| ?_
          refine ho_n rfl (on_appendR (A := some ⟨b70, 0, none⟩) (news := X.map u8v) rfl rfl (SrcIs.rowCut (A := q.1) hA1 11 size (by omega) hrl hnc hXu) (by rw [List.length_map, hXl]; omega) (u8_one _) (by decide) (by omega)) rfl (fun qx => ?_)
          simp only [Nat.zero_add, List.nil_append, Nat.add_sub_cancel_left]
          refine ha_v 16 rfl (ov_buildSN rfl rfl) rfl <| ?_
          refine ha_one 18 (by kernel_rfl) <| ?_
          refine ho_w0 rfl (on_storeW (vs := [.int .i64 (kk : Int), .int .u32 (a : Int), .int .u32 (b : Int), .slice qx.1 size qx.2]) rfl rfl (by simp) (by simp) (by simp [Value.oneCell'])) rfl ?_
          refine ha_done (by kernel_rfl) <| ?_
          refine hx_cut hK3 ((b6, qx)) (by repeat (first | exact Slots.sub_nil _ | refine Slots.sub_cons rfl ?_)) (by first | assumption | exact Ent.refl _ | exact Ent.nil _ | (repeat (first | exact Ent.refl _ | exact Ent.nil _ | refine Ent.pick ?_)))
        skip
        refine ho_n rfl (on_alloc) rfl (fun b6 => ?_)
        refine ha_one 10 (by kernel_rfl) <| ?_
        refine ho_n rfl (on_buildSliceN rfl rfl rfl) rfl (fun b70 => ?_)
        refine ha_ent (Ent.blk_row (b := b70) 1 0 rfl (by decide)) ?_
        refine ha_one 15 (by kernel_rfl) <| ?_
        refine ho_n rfl (on_appendR (A := some ⟨b70, 0, none⟩) (news := X.map u8v) rfl rfl (SrcIs.rowCut (A := q.1) hA1 11 size (by omega) hrl hnc hXu) (by rw [List.length_map, hXl]; omega) (u8_one _) (by decide) (by omega)) rfl (fun qx => ?_)
        simp only [Nat.zero_add, List.nil_append, Nat.add_sub_cancel_left]
        refine ha_v 16 rfl (ov_buildSN rfl rfl) rfl <| ?_
        refine ha_one 18 (by kernel_rfl) <| ?_
        refine ho_w0 rfl (on_storeW (vs := [.int .i64 (kk : Int), .int .u32 (a : Int), .int .u32 (b : Int), .slice qx.1 size qx.2]) rfl rfl (by simp) (by simp) (by simp [Value.oneCell'])) rfl ?_
        refine ha_done (by kernel_rfl) <| ?_
        refine hx_cut hK3 ((b6, qx)) (by repeat (first | exact Slots.sub_nil _ | refine Slots.sub_cons rfl ?_)) (by first | assumption | exact Ent.refl _ | exact Ent.nil _ | (repeat (first | exact Ent.refl _ | exact Ent.nil _ | refine Ent.pick ?_)))
      · skip
        refine ho_n rfl (on_buildSliceN rfl rfl rfl) rfl (fun b70 => ?_)
        refine ha_ent (Ent.blk_row (b := b70) 1 0 rfl (by decide)) ?_
        refine ha_two 9 17 (by kernel_rfl) ?_ ?_
        · skip
          refine ho_k rfl Try.call71 rfl (fun w1 H1 => Own.calln H1 fun D' hold hin H2 => Rnum_at D' w1 _ B 5 4 b (by decide) hnb (hin _ fun h hs ho => rep_cut (rep_row (A := q.1) hs B hBl.symm (repL_bytes.2 rfl)) 5 9 (by decide) (by omega))) ?_
          refine ha_two 15 17 (by kernel_rfl) ?_ ?_
          · skip
            refine ho_n rfl (on_appendR (A := some ⟨b70, 0, none⟩) (news := X.map u8v) rfl rfl (SrcIs.rowCut (A := q.1) hA1 11 size (by omega) hrl hnc hXu) (by rw [List.length_map, hXl]; omega) (u8_one _) (by decide) (by omega)) rfl (fun qx => ?_)
            simp only [Nat.zero_add, List.nil_append, Nat.add_sub_cancel_left]
            refine ha_v 16 rfl (ov_buildSN rfl rfl) rfl <| ?_
            refine ha_one 17 (by kernel_rfl) <| ?_
            refine ho_n rfl (on_alloc) rfl (fun b6 => ?_)
            refine ha_one 18 (by kernel_rfl) <| ?_
            refine ho_w0 rfl (on_storeW (vs := [.int .i64 (kk : Int), .int .u32 (a : Int), .int .u32 (b : Int), .slice qx.1 size qx.2]) rfl rfl (by simp) (by simp) (by simp [Value.oneCell'])) rfl ?_
            refine ha_done (by kernel_rfl) <| ?_
            refine hx_cut hK3 ((b6, qx)) (by repeat (first | exact Slots.sub_nil _ | refine Slots.sub_cons rfl ?_)) (by first | assumption | exact Ent.refl _ | exact Ent.nil _ | (repeat (first | exact Ent.refl _ | exact Ent.nil _ | refine Ent.pick ?_)))
          skip
          refine ho_n rfl (on_alloc) rfl (fun b6 => ?_)
          refine ha_one 15 (by kernel_rfl) <| ?_
          refine ho_n rfl (on_appendR (A := some ⟨b70, 0, none⟩) (news := X.map u8v) rfl rfl (SrcIs.rowCut (A := q.1) hA1 11 size (by omega) hrl hnc hXu) (by rw [List.length_map, hXl]; omega) (u8_one _) (by decide) (by omega)) rfl (fun qx => ?_)
          simp only [Nat.zero_add, List.nil_append, Nat.add_sub_cancel_left]
          refine ha_v 16 rfl (ov_buildSN rfl rfl) rfl <| ?_
          refine ha_one 18 (by kernel_rfl) <| ?_
          refine ho_w0 rfl (on_storeW (vs := [.int .i64 (kk : Int), .int .u32 (a : Int), .int .u32 (b : Int), .slice qx.1 size qx.2]) rfl rfl (by simp) (by simp) (by simp [Value.oneCell'])) rfl ?_
          refine ha_done (by kernel_rfl) <| ?_
          refine hx_cut hK3 ((b6, qx)) (by repeat (first | exact Slots.sub_nil _ | refine Slots.sub_cons rfl ?_)) (by first | assumption | exact Ent.refl _ | exact Ent.nil _ | (repeat (first | exact Ent.refl _ | exact Ent.nil _ | refine Ent.pick ?_)))
        skip
        refine ho_n rfl (on_alloc) rfl (fun b6 => ?_)
        refine ha_one 9 (by kernel_rfl) <| ?_
        refine ho_k rfl Try.call71 rfl (fun w1 H1 => Own.calln H1 fun D' hold hin H2 => Rnum_at D' w1 _ B 5 4 b (by decide) hnb (hin _ fun h hs ho => rep_cut (rep_row (A := q.1) hs B hBl.symm (repL_bytes.2 rfl)) 5 9 (by decide) (by omega))) ?_
        refine ha_one 15 (by kernel_rfl) <| ?_
        refine ho_n rfl (on_appendR (A := some ⟨b70, 0, none⟩) (news := X.map u8v) rfl rfl (SrcIs.rowCut (A := q.1) hA1 11 size (by omega) hrl hnc hXu) (by rw [List.length_map, hXl]; omega) (u8_one _) (by decide) (by omega)) rfl (fun qx => ?_)
        simp only [Nat.zero_add, List.nil_append, Nat.add_sub_cancel_left]
        refine ha_v 16 rfl (ov_buildSN rfl rfl) rfl <| ?_
        refine ha_one 18 (by kernel_rfl) <| ?_
        refine ho_w0 rfl (on_storeW (vs := [.int .i64 (kk : Int), .int .u32 (a : Int), .int .u32 (b : Int), .slice qx.1 size qx.2]) rfl rfl (by simp) (by simp) (by simp [Value.oneCell'])) rfl ?_
        refine ha_done (by kernel_rfl) <| ?_
        refine hx_cut hK3 ((b6, qx)) (by repeat (first | exact Slots.sub_nil _ | refine Slots.sub_cons rfl ?_)) (by first | assumption | exact Ent.refl _ | exact Ent.nil _ | (repeat (first | exact Ent.refl _ | exact Ent.nil _ | refine Ent.pick ?_)))
      skip
      refine ho_n rfl (on_alloc) rfl (fun b6 => ?_)
      refine ha_two 9 10 (by kernel_rfl) ?_ ?_
      · skip
        refine ho_k rfl Try.call71 rfl (fun w1 H1 => Own.calln H1 fun D' hold hin H2 => Rnum_at D' w1 _ B 5 4 b (by decide) hnb (hin _ fun h hs ho => rep_cut (rep_row (A := q.1) hs B hBl.symm (repL_bytes.2 rfl)) 5 9 (by decide) (by omega))) ?_
        refine ha_one 10 (by kernel_rfl) <| ?_
        refine ho_n rfl (on_buildSliceN rfl rfl rfl) rfl (fun b70 => ?_)
        refine ha_ent (Ent.blk_row (b := b70) 1 0 rfl (by decide)) ?_
        refine ha_one 15 (by kernel_rfl) <| ?_
        refine ho_n rfl (on_appendR (A := some ⟨b70, 0, none⟩) (news := X.map u8v) rfl rfl (SrcIs.rowCut (A := q.1) hA1 11 size (by omega) hrl hnc hXu) (by rw [List.length_map, hXl]; omega) (u8_one _) (by decide) (by omega)) rfl (fun qx => ?_)
        simp only [Nat.zero_add, List.nil_append, Nat.add_sub_cancel_left]
        refine ha_v 16 rfl (ov_buildSN rfl rfl) rfl <| ?_
        refine ha_one 18 (by kernel_rfl) <| ?_
        refine ho_w0 rfl (on_storeW (vs := [.int .i64 (kk : Int), .int .u32 (a : Int), .int .u32 (b : Int), .slice qx.1 size qx.2]) rfl rfl (by simp) (by simp) (by simp [Value.oneCell'])) rfl ?_
        refine ha_done (by kernel_rfl) <| ?_
        refine hx_cut hK3 ((b6, qx)) (by repeat (first | exact Slots.sub_nil _ | refine Slots.sub_cons rfl ?_)) (by first | assumption | exact Ent.refl _ | exact Ent.nil _ | (repeat (first | exact Ent.refl _ | exact Ent.nil _ | refine Ent.pick ?_)))
      skip
      refine ho_n rfl (on_buildSliceN rfl rfl rfl) rfl (fun b70 => ?_)
      refine ha_ent (Ent.blk_row (b := b70) 1 0 rfl (by decide)) ?_
      refine ha_one 9 (by kernel_rfl) <| ?_
      refine ho_k rfl Try.call71 rfl (fun w1 H1 => Own.calln H1 fun D' hold hin H2 => Rnum_at D' w1 _ B 5 4 b (by decide) hnb (hin _ fun h hs ho => rep_cut (rep_row (A := q.1) hs B hBl.symm (repL_bytes.2 rfl)) 5 9 (by decide) (by omega))) ?_
      refine ha_one 15 (by kernel_rfl) <| ?_
      refine ho_n rfl (on_appendR (A := some ⟨b70, 0, none⟩) (news := X.map u8v) rfl rfl (SrcIs.rowCut (A := q.1) hA1 11 size (by omega) hrl hnc hXu) (by rw [List.length_map, hXl]; omega) (u8_one _) (by decide) (by omega)) rfl (fun qx => ?_)
      simp only [Nat.zero_add, List.nil_append, Nat.add_sub_cancel_left]
      refine ha_v 16 rfl (ov_buildSN rfl rfl) rfl <| ?_
      refine ha_one 18 (by kernel_rfl) <| ?_
      refine ho_w0 rfl (on_storeW (vs := [.int .i64 (kk : Int), .int .u32 (a : Int), .int .u32 (b : Int), .slice qx.1 size qx.2]) rfl rfl (by simp) (by simp) (by simp [Value.oneCell'])) rfl ?_
      refine ha_done (by kernel_rfl) <| ?_
      refine hx_cut hK3 ((b6, qx)) (by repeat (first | exact Slots.sub_nil _ | refine Slots.sub_cons rfl ?_)) (by first | assumption | exact Ent.refl _ | exact Ent.nil _ | (repeat (first | exact Ent.refl _ | exact Ent.nil _ | refine Ent.pick ?_)))
    · skip
      refine ho_n rfl (on_buildSliceN rfl rfl rfl) rfl (fun b70 => ?_)
      refine ha_ent (Ent.blk_row (b := b70) 1 0 rfl (by decide)) ?_
      refine ha_two 6 17 (by kernel_rfl) ?_ ?_
      · skip
        refine ho_k rfl Try.call71 rfl (fun w1 H1 => Own.calln H1 fun D' hold hin H2 => Rnum_at D' w1 _ B 1 4 a (by decide) hna (hin _ fun h hs ho => rep_cut (rep_row (A := q.1) hs B hBl.symm (repL_bytes.2 rfl)) 1 5 (by decide) (by omega))) ?_
        refine ha_two 9 17 (by kernel_rfl) ?_ ?_
        · skip
          refine ho_k rfl Try.call71 rfl (fun w1 H1 => Own.calln H1 fun D' hold hin H2 => Rnum_at D' w1 _ B 5 4 b (by decide) hnb (hin _ fun h hs ho => rep_cut (rep_row (A := q.1) hs B hBl.symm (repL_bytes.2 rfl)) 5 9 (by decide) (by omega))) ?_
          refine ha_two 15 17 (by kernel_rfl) ?_ ?_
          · skip
            refine ho_n rfl (on_appendR (A := some ⟨b70, 0, none⟩) (news := X.map u8v) rfl rfl (SrcIs.rowCut (A := q.1) hA1 11 size (by omega) hrl hnc hXu) (by rw [List.length_map, hXl]; omega) (u8_one _) (by decide) (by omega)) rfl (fun qx => ?_)
            simp only [Nat.zero_add, List.nil_append, Nat.add_sub_cancel_left]
            refine ha_v 16 rfl (ov_buildSN rfl rfl) rfl <| ?_
            refine ha_one 17 (by kernel_rfl) <| ?_
            refine ho_n rfl (on_alloc) rfl (fun b6 => ?_)
            refine ha_one 18 (by kernel_rfl) <| ?_
            refine ho_w0 rfl (on_storeW (vs := [.int .i64 (kk : Int), .int .u32 (a : Int), .int .u32 (b : Int), .slice qx.1 size qx.2]) rfl rfl (by simp) (by simp) (by simp [Value.oneCell'])) rfl ?_
            refine ha_done (by kernel_rfl) <| ?_
            refine hx_cut hK3 ((b6, qx)) (by repeat (first | exact Slots.sub_nil _ | refine Slots.sub_cons rfl ?_)) (by first | assumption | exact Ent.refl _ | exact Ent.nil _ | (repeat (first | exact Ent.refl _ | exact Ent.nil _ | refine Ent.pick ?_)))
          skip
          refine ho_n rfl (on_alloc) rfl (fun b6 => ?_)
          refine ha_one 15 (by kernel_rfl) <| ?_
          refine ho_n rfl (on_appendR (A := some ⟨b70, 0, none⟩) (news := X.map u8v) rfl rfl (SrcIs.rowCut (A := q.1) hA1 11 size (by omega) hrl hnc hXu) (by rw [List.length_map, hXl]; omega) (u8_one _) (by decide) (by omega)) rfl (fun qx => ?_)
          simp only [Nat.zero_add, List.nil_append, Nat.add_sub_cancel_left]
          refine ha_v 16 rfl (ov_buildSN rfl rfl) rfl <| ?_
          refine ha_one 18 (by kernel_rfl) <| ?_
          refine ho_w0 rfl (on_storeW (vs := [.int .i64 (kk : Int), .int .u32 (a : Int), .int .u32 (b : Int), .slice qx.1 size qx.2]) rfl rfl (by simp) (by simp) (by simp [Value.oneCell'])) rfl ?_
          refine ha_done (by kernel_rfl) <| ?_
          refine hx_cut hK3 ((b6, qx)) (by repeat (first | exact Slots.sub_nil _ | refine Slots.sub_cons rfl ?_)) (by first | assumption | exact Ent.refl _ | exact Ent.nil _ | (repeat (first | exact Ent.refl _ | exact Ent.nil _ | refine Ent.pick ?_)))
        skip
        refine ho_n rfl (on_alloc) rfl (fun b6 => ?_)
        refine ha_one 9 (by kernel_rfl) <| ?_
        refine ho_k rfl Try.call71 rfl (fun w1 H1 => Own.calln H1 fun D' hold hin H2 => Rnum_at D' w1 _ B 5 4 b (by decide) hnb (hin _ fun h hs ho => rep_cut (rep_row (A := q.1) hs B hBl.symm (repL_bytes.2 rfl)) 5 9 (by decide) (by omega))) ?_
        refine ha_one 15 (by kernel_rfl) <| ?_
        refine ho_n rfl (on_appendR (A := some ⟨b70, 0, none⟩) (news := X.map u8v) rfl rfl (SrcIs.rowCut (A := q.1) hA1 11 size (by omega) hrl hnc hXu) (by rw [List.length_map, hXl]; omega) (u8_one _) (by decide) (by omega)) rfl (fun qx => ?_)
        simp only [Nat.zero_add, List.nil_append, Nat.add_sub_cancel_left]
        refine ha_v 16 rfl (ov_buildSN rfl rfl) rfl <| ?_
        refine ha_one 18 (by kernel_rfl) <| ?_
        refine ho_w0 rfl (on_storeW (vs := [.int .i64 (kk : Int), .int .u32 (a : Int), .int .u32 (b : Int), .slice qx.1 size qx.2]) rfl rfl (by simp) (by simp) (by simp [Value.oneCell'])) rfl ?_
        refine ha_done (by kernel_rfl) <| ?_
        refine hx_cut hK3 ((b6, qx)) (by repeat (first | exact Slots.sub_nil _ | refine Slots.sub_cons rfl ?_)) (by first | assumption | exact Ent.refl _ | exact Ent.nil _ | (repeat (first | exact Ent.refl _ | exact Ent.nil _ | refine Ent.pick ?_)))
      skip
      refine ho_n rfl (on_alloc) rfl (fun b6 => ?_)
      refine ha_one 6 (by kernel_rfl) <| ?_
      refine ho_k rfl Try.call71 rfl (fun w1 H1 => Own.calln H1 fun D' hold hin H2 => Rnum_at D' w1 _ B 1 4 a (by decide) hna (hin _ fun h hs ho => rep_cut (rep_row (A := q.1) hs B hBl.symm (repL_bytes.2 rfl)) 1 5 (by decide) (by omega))) ?_
      refine ha_one 9 (by kernel_rfl) <| ?_
      refine ho_k rfl Try.call71 rfl (fun w1 H1 => Own.calln H1 fun D' hold hin H2 => Rnum_at D' w1 _ B 5 4 b (by decide) hnb (hin _ fun h hs ho => rep_cut (rep_row (A := q.1) hs B hBl.symm (repL_bytes.2 rfl)) 5 9 (by decide) (by omega))) ?_
      refine ha_one 15 (by kernel_rfl) <| ?_
      refine ho_n rfl (on_appendR (A := some ⟨b70, 0, none⟩) (news := X.map u8v) rfl rfl (SrcIs.rowCut (A := q.1) hA1 11 size (by omega) hrl hnc hXu) (by rw [List.length_map, hXl]; omega) (u8_one _) (by decide) (by omega)) rfl (fun qx => ?_)
      simp only [Nat.zero_add, List.nil_append, Nat.add_sub_cancel_left]
      refine ha_v 16 rfl (ov_buildSN rfl rfl) rfl <| ?_
      refine ha_one 18 (by kernel_rfl) <| ?_
      refine ho_w0 rfl (on_storeW (vs := [.int .i64 (kk : Int), .int .u32 (a : Int), .int .u32 (b : Int), .slice qx.1 size qx.2]) rfl rfl (by simp) (by simp) (by simp [Value.oneCell'])) rfl ?_
      refine ha_done (by kernel_rfl) <| ?_
      refine hx_cut hK3 ((b6, qx)) (by repeat (first | exact Slots.sub_nil _ | refine Slots.sub_cons rfl ?_)) (by first | assumption | exact Ent.refl _ | exact Ent.nil _ | (repeat (first | exact Ent.refl _ | exact Ent.nil _ | refine Ent.pick ?_)))
    skip
    refine ho_n rfl (on_alloc) rfl (fun b6 => ?_)
    refine ha_two 6 10 (by kernel_rfl) ?_ ?_
    · skip
      refine ho_k rfl Try.call71 rfl (fun w1 H1 => Own.calln H1 fun D' hold hin H2 => Rnum_at D' w1 _ B 1 4 a (by decide) hna (hin _ fun h hs ho => rep_cut (rep_row (A := q.1) hs B hBl.symm (repL_bytes.2 rfl)) 1 5 (by decide) (by omega))) ?_
      refine ha_two 9 10 (by kernel_rfl) ?_ ?_
      · skip
        refine ho_k rfl Try.call71 rfl (fun w1 H1 => Own.calln H1 fun D' hold hin H2 => Rnum_at D' w1 _ B 5 4 b (by decide) hnb (hin _ fun h hs ho => rep_cut (rep_row (A := q.1) hs B hBl.symm (repL_bytes.2 rfl)) 5 9 (by decide) (by omega))) ?_
        refine ha_one 10 (by kernel_rfl) <| ?_
        refine ho_n rfl (on_buildSliceN rfl rfl rfl) rfl (fun b70 => ?_)
        refine ha_ent (Ent.blk_row (b := b70) 1 0 rfl (by decide)) ?_
        refine ha_one 15 (by kernel_rfl) <| ?_
        refine ho_n rfl (on_appendR (A := some ⟨b70, 0, none⟩) (news := X.map u8v) rfl rfl (SrcIs.rowCut (A := q.1) hA1 11 size (by omega) hrl hnc hXu) (by rw [List.length_map, hXl]; omega) (u8_one _) (by decide) (by omega)) rfl (fun qx => ?_)
        simp only [Nat.zero_add, List.nil_append, Nat.add_sub_cancel_left]
        refine ha_v 16 rfl (ov_buildSN rfl rfl) rfl <| ?_
        refine ha_one 18 (by kernel_rfl) <| ?_
        refine ho_w0 rfl (on_storeW (vs := [.int .i64 (kk : Int), .int .u32 (a : Int), .int .u32 (b : Int), .slice qx.1 size qx.2]) rfl rfl (by simp) (by simp) (by simp [Value.oneCell'])) rfl ?_
        refine ha_done (by kernel_rfl) <| ?_
        refine hx_cut hK3 ((b6, qx)) (by repeat (first | exact Slots.sub_nil _ | refine Slots.sub_cons rfl ?_)) (by first | assumption | exact Ent.refl _ | exact Ent.nil _ | (repeat (first | exact Ent.refl _ | exact Ent.nil _ | refine Ent.pick ?_)))
      skip
      refine ho_n rfl (on_buildSliceN rfl rfl rfl) rfl (fun b70 => ?_)
      refine ha_ent (Ent.blk_row (b := b70) 1 0 rfl (by decide)) ?_
      refine ha_one 9 (by kernel_rfl) <| ?_
      refine ho_k rfl Try.call71 rfl (fun w1 H1 => Own.calln H1 fun D' hold hin H2 => Rnum_at D' w1 _ B 5 4 b (by decide) hnb (hin _ fun h hs ho => rep_cut (rep_row (A := q.1) hs B hBl.symm (repL_bytes.2 rfl)) 5 9 (by decide) (by omega))) ?_
      refine ha_one 15 (by kernel_rfl) <| ?_
      refine ho_n rfl (on_appendR (A := some ⟨b70, 0, none⟩) (news := X.map u8v) rfl rfl (SrcIs.rowCut (A := q.1) hA1 11 size (by omega) hrl hnc hXu) (by rw [List.length_map, hXl]; omega) (u8_one _) (by decide) (by omega)) rfl (fun qx => ?_)
      simp only [Nat.zero_add, List.nil_append, Nat.add_sub_cancel_left]
      refine ha_v 16 rfl (ov_buildSN rfl rfl) rfl <| ?_
      refine ha_one 18 (by kernel_rfl) <| ?_
      refine ho_w0 rfl (on_storeW (vs := [.int .i64 (kk : Int), .int .u32 (a : Int), .int .u32 (b : Int), .slice qx.1 size qx.2]) rfl rfl (by simp) (by simp) (by simp [Value.oneCell'])) rfl ?_
      refine ha_done (by kernel_rfl) <| ?_
      refine hx_cut hK3 ((b6, qx)) (by repeat (first | exact Slots.sub_nil _ | refine Slots.sub_cons rfl ?_)) (by first | assumption | exact Ent.refl _ | exact Ent.nil _ | (repeat (first | exact Ent.refl _ | exact Ent.nil _ | refine Ent.pick ?_)))
    skip
    refine ho_n rfl (on_buildSliceN rfl rfl rfl) rfl (fun b70 => ?_)
    refine ha_ent (Ent.blk_row (b := b70) 1 0 rfl (by decide)) ?_
    refine ha_one 6 (by kernel_rfl) <| ?_
    refine ho_k rfl Try.call71 rfl (fun w1 H1 => Own.calln H1 fun D' hold hin H2 => Rnum_at D' w1 _ B 1 4 a (by decide) hna (hin _ fun h hs ho => rep_cut (rep_row (A := q.1) hs B hBl.symm (repL_bytes.2 rfl)) 1 5 (by decide) (by omega))) ?_
    refine ha_one 9 (by kernel_rfl) <| ?_
    refine ho_k rfl Try.call71 rfl (fun w1 H1 => Own.calln H1 fun D' hold hin H2 => Rnum_at D' w1 _ B 5 4 b (by decide) hnb (hin _ fun h hs ho => rep_cut (rep_row (A := q.1) hs B hBl.symm (repL_bytes.2 rfl)) 5 9 (by decide) (by omega))) ?_
    refine ha_one 15 (by kernel_rfl) <| ?_
    refine ho_n rfl (on_appendR (A := some ⟨b70, 0, none⟩) (news := X.map u8v) rfl rfl (SrcIs.rowCut (A := q.1) hA1 11 size (by omega) hrl hnc hXu) (by rw [List.length_map, hXl]; omega) (u8_one _) (by decide) (by omega)) rfl (fun qx => ?_)
    simp only [Nat.zero_add, List.nil_append, Nat.add_sub_cancel_left]
    refine ha_v 16 rfl (ov_buildSN rfl rfl) rfl <| ?_
    refine ha_one 18 (by kernel_rfl) <| ?_
    refine ho_w0 rfl (on_storeW (vs := [.int .i64 (kk : Int), .int .u32 (a : Int), .int .u32 (b : Int), .slice qx.1 size qx.2]) rfl rfl (by simp) (by simp) (by simp [Value.oneCell'])) rfl ?_
    refine ha_done (by kernel_rfl) <| ?_
    refine hx_cut hK3 ((b6, qx)) (by repeat (first | exact Slots.sub_nil _ | refine Slots.sub_cons rfl ?_)) (by first | assumption | exact Ent.refl _ | exact Ent.nil _ | (repeat (first | exact Ent.refl _ | exact Ent.nil _ | refine Ent.pick ?_)))
  obtain ⟨b6, qx⟩ := t
  dsimp only
  obtain ⟨W, hW⟩ : ∃ W, W = encE (kk, a, b, X) := ⟨_, rfl⟩
  rw [← hW] at hdec
  have hWl : W.length = n := by rw [hW, encE, encS_len, fullB_length, hXl]; omega
  refine hx_then_normal <| hc_seq <| hc_region <| hl_v (by first | exact ov_loadW rfl (by simp; done) | exact ov_loadGB rfl rfl) rfl <| ?_
  refine hl_call (σ := Option Addr × Nat) Try.call55 rfl rfl (fun w1 H1 => Own.callx0 H1 fun D' hold hin H2 => REnc_at D' w1 (kk, a, b, X) _ W n hW hWl.symm ⟨by show kk < 256; omega, hb2, hb6, by show X.length ≤ 4000; omega⟩ (hin _ fun h hs ho => rep_row (A := qx.1) hs X hXl.symm (repL_bytes.2 rfl))) ?_
  intro qw
  try rw [List.nil_append]
  refine HL.fact (fun w H => Own.factR qw.1 H) ?_
  rintro ⟨_, _, _, hAw⟩
  have hAw : isA qw.1 := hAw (by intro h; have := congrArg List.length h; rw [flat_len secC_len, hWl] at this; simp only [List.length_nil] at this; omega)
  refine hl_v (ov_move rfl) rfl <| hl_v (ov_extract rfl rfl) rfl <| hl_v (ov_extract rfl rfl) rfl <| hl_v (ov_assign rfl) rfl <| hl_v (ov_assign rfl) rfl <| hl_nil <| ?_
  refine hx_then_normal <| hc_seq <| hc_seq <| hc_region <| hl_v (ov_assign rfl) rfl <| hl_nil <| ?_
  refine hx_then_normal <| hc_block <| ?_
  refine hc_loops1 (σ := Nat) [0, 2, 6, 7] rfl 9 (fun i => .int .i64 (i : Int)) (fun i => i ≤ n ∧ W.take i = S.take i) (fun i => n - i) (0) (⟨Nat.zero_le _, rfl⟩) rfl ?_
  rintro i ⟨hi, heq⟩ K4 hK4
  refine hc_seq <| hc_seq <| hc_region <| hl_v (ov_move rfl) rfl <| hl_v (ov_move rfl) rfl <| hl_v (by first | exact ov_len rfl | exact ov_lenS rfl) rfl <| ?_
  refine hl_v (ov_lss rfl rfl) rfl <| hl_nil <| hx_then_normal <| ?_
  refine hc_cond rfl (fun hlt => ?_) (fun hlt => ?_)
  · have hin2 : i < n := by omega
    have hiW : i < W.length := by omega
    have hiS : i < S.length := by omega
    refine hc_skip <| hx_then_normal <| hc_seq <| hc_block <| hc_seq <| hc_quiet mixed (by kernel_rfl) <| ?_
    refine hq_v (ov_move rfl) rfl <| hq_v (ov_move rfl) rfl <| ?_
    refine hq_v (ov_idxS rfl hAw rfl i rfl hin2) rfl ?_
    refine hq_v (ov_loadG (cs := secC W[i]) rfl (secC_len _) (CellsAre.flat (f := secC) (A := qw.1) secC_len hAw (i := i) hiW)) rfl ?_
    refine hq_v (ov_move rfl) rfl <| hq_v (ov_move rfl) rfl <| ?_
    refine hq_v (ov_idxS rfl hA rfl i rfl hiS) rfl ?_
    refine hq_v (ov_loadG (cs := secC S[i]) rfl (secC_len _) (cells_sec HS hiS _)) rfl ?_
    refine hq_v (ov_neqSec (s := W[i]) (t := S[i]) rfl rfl) rfl ?_
    refine hq_nil <| hx_then_normal <| ?_
    refine hc_cond rfl (fun hne => ?_) (fun hne => ?_)
    · have hno : decS S = none := by
        rw [hdec, if_neg]
        rintro ⟨_, _, _, h⟩
        apply hne
        have : W[i]? = S[i]? := by rw [h, List.getElem?_take_of_lt hin2]
        rw [List.getElem?_eq_getElem hiW, List.getElem?_eq_getElem hiS] at this
        simpa using this
      refine hc_seq <| hc_region <| hl_v (ov_buildSN rfl rfl) rfl <| ?_
      refine hl_u0 (on_storeW (vs := gotZ) rfl rfl (by simp) (by simp) (by simp [Value.oneCell'])) rfl rfl ?_
      refine hl_nil <| hx_then_normal <| hc_ret <| hx_block_ret <| hx_then_ret <| hx_then_ret <| ?_
      refine hx_block_ret <| hx_then_ret <| ?_
      exact results_c (.inr rfl) rfl rfl (by simp) fun w' H' => .inl ⟨hno, rfl, H'.ent (Ent.nil _)⟩
    have hee : W[i] = S[i] := Classical.not_not.1 hne
    have heq2 : W.take (i + 1) = S.take (i + 1) := by
      rw [List.take_succ_eq_append_getElem hiW, List.take_succ_eq_append_getElem hiS, heq, hee]
    refine hc_skip <| hx_block_normal <| hx_then_normal <| hc_region <| hl_v (ov_move rfl) rfl <| hl_v (ov_add rfl rfl (by first | exact wrap_i64 (by omega) | rfl)) rfl <| ?_
    refine hl_v (ov_assign rfl) rfl <| hl_nil <| ?_
    refine hx_next hK4 (i + 1) (⟨hin2, heq2⟩) (by omega) (by repeat (first | exact Slots.sub_nil _ | refine Slots.sub_cons rfl ?_)) (by first | assumption | exact Ent.refl _ | exact Ent.nil _ | (repeat (first | exact Ent.refl _ | exact Ent.nil _ | refine Ent.pick ?_)))
  obtain rfl : i = n := by omega
  have hyes : decS S = some ((kk, a, b, X), i) := by
    rw [hdec, if_pos]
    refine ⟨hs87, by omega, hnS, ?_⟩
    rw [← heq, List.take_of_length_le (by omega)]
  refine hc_exit <| hx_then_exit <| hx_then_exit <| hx_block_out <| hx_then_normal <| hc_seq <| ?_
  refine hc_region <| hl_v (by first | exact ov_loadW rfl (by simp; done) | exact ov_loadGB rfl rfl) rfl <| ?_
  refine hl_v (ov_move rfl) rfl <| hl_v (by first | exact ov_len rfl | exact ov_lenS rfl) rfl <| ?_
  refine hl_v (ov_buildSN rfl rfl) rfl <| ?_
  refine hl_u0 (on_storeW (vs := [.int .i64 (kk : Int), .int .u32 (a : Int), .int .u32 (b : Int), .slice qx.1 size qx.2, .int .i64 (i : Int), .int .i64 0]) rfl rfl (by simp) (by simp) (by simp [Value.oneCell'])) rfl rfl ?_
  refine hl_nil <| hx_then_normal <| hc_ret <| ?_
  exact results_c (.inr rfl) rfl rfl (by simp) fun w' H' => .inr ⟨(kk, a, b, X), i, qx, hyes, (by rw [hXl]), (by rw [hXl]; exact H'.ent (by first | assumption | exact Ent.refl _ | exact Ent.nil _ | exact Ent.row_any (Ent.refl _) | (repeat (first | exact Ent.refl _ | exact Ent.nil _ | refine Ent.pick ?_))))⟩
end Go.Proofs.Ytijaldfiaeafgaa
