import Derived.Test.YtjlolpmmpafjeaaGreatV21
set_option linter.unusedVariables false
set_option linter.unusedSimpArgs false
namespace Go.Proofs.YtjlolpmmpafjeaaGreat
open Slk
variable (D : Nat → Prop) (w : World)
def RDecPost (D : Nat → Prop) (w : World) (S : List Sec) (e : Ending) (w' : World) : Prop :=
 (decS S = none ∧ e = .returned (.agg #[.int .i64 0, .int .u32 0, .int .u32 0, .slice none 0 0, .int .i64 0, .int .i64 11]) ∧ Own D w w' []) ∨
 (∃ (x : EntT) (n : Nat) (q : Option Addr × Nat), decS S = some (x, n) ∧ e = .returned (.agg #[.int .i64 x.1, .int .u32 x.2.1, .int .u32 x.2.2.1, .slice q.1 x.2.2.2.length q.2, .int .i64 n, .int .i64 0]) ∧ Own D w w' [row q.1 5 1 x.2.2.2.length q.2 (x.2.2.2.map u8v)])
abbrev gotZ : List Value := [.int .i64 0, .int .u32 0, .int .u32 0, .slice none 0 0, .int .i64 0, .int .i64 11]
theorem Rnum_at (v : Value) (B : List UInt8) (lo m N : Nat) (hm : m ≤ 4) (hN : numE ((B.drop lo).take m) = N) (HA : Old D w (Rep.rep ((B.drop lo).take m) [v])) :
  Calls Tryz.prog 128 #[v] w fun e w' => e = .returned (.int .u32 (N : Int)) ∧ Own D w w' [] := by
 subst hN
 exact Rnum_spec D w v _ Z39 HA
theorem RNeed_at (m N : Nat) (hm : m ≤ 4000) (hN : N = (m + 77) / 63) : Calls Tryz.prog 129 #[.int .i64 (m : Int)] w fun e w' => e = .returned (.int .i64 (N : Int)) ∧ Own D w w' [] := by
 have h := RNeed_spec D w (m : Int)
 have : needN (m : Int) = (N : Int) := by unfold needN; rw [if_neg Z64]; omega
 rw [this] at h
 exact h
theorem REnc_at (x : EntT) (v : Value) (W : List Sec) (n : Nat) (hW : W = encE x) (hn : n = W.length) (h : okE x) (HA : Old D w (Rep.rep x.2.2.2 [v])) :
  Calls Tryz.prog 126 #[.agg #[.int .i64 x.1, .int .u32 x.2.1, .int .u32 x.2.2.1, v]] w fun e w' => ∃ q : Option Addr × Nat, e = .returned (.tuple #[.slice q.1 n q.2, .int .i64 0]) ∧ Own D w w' [row q.1 61 64 n q.2 (W.flatMap secC)] := by
 subst hn; subst hW
 have hl : (encE x).length = (15 + x.2.2.2.length + 62) / 63 := by rw [encE, encS_len, fullB_length]
 rw [hl]
 exact REnc_ok D w x.1 x.2.1 x.2.2.1 v x.2.2.2 h.1 h.2.1 h.2.2.1 h.2.2.2 HA
set_option maxHeartbeats 2000000 in
theorem RDec_spec (v : Value) (S : List Sec) (hS70 : S.length ≤ 100000) (HA : Old D w (Rep.rep S [v])) :
  Calls Tryz.prog 91 #[v] w fun e w' => RDecPost D w S e w' := by
 obtain ⟨A, cap, rfl, hA1, hA2, HS, HR⟩ := HA.openS
 rcases hSe : S with _ | ⟨s, r⟩
 ·have hno : decS [] = none := rfl
  refine hc_enter (vs := [.slice A ([] : List Sec).length cap]) Tryz.func91 rfl _ Tryz.ntmps91 rfl (Own.start D w) ?_
  simp only [argSlots, Nat.zero_add]
  refine zg <| hl_new (on_alloc) rfl rfl rfl fun b2 =>
   zn <| hc_seq <| ?_
  refine zg <| zm rfl <| zv Z25 <| ?_
  refine zv (ov_eql rfl rfl) <| zm rfl <| hl_partT (t := 13) rfl (rfl) <| zo rfl rfl <| zo rfl rfl <| zo rfl rfl <| zo rfl rfl <| zo rfl rfl <| zv (ov_pickT rfl rfl) <| zn <| hc_cond_true rfl <| zg <| zv (ov_buildSN rfl rfl) <| ?_
  refine hl_u0 (on_storeW (vs := gotZ) rfl rfl (by simp) (by simp) Z49) rfl rfl ?_
  refine zn <| zq <| zr <| ?_
  exact results_c (.inr rfl) rfl rfl (by simp) fun w' H' => .inl ⟨hno, rfl, H'.ent (Ent.nil _)⟩
 rw [← hSe]
 have hl0 : 0 < S.length := by rw [hSe]; simp
 have hA := flat_isA HS (k := 0) hl0
 have hs0 : S[0] = s := by simp only [hSe, List.getElem_cons_zero]
 have h00 := fun l => cell_sec HS (k := 0) (j := 0) hl0 Z63 l
 rw [hs0] at h00
 have hgl := gath_le r
 have hrl : S.length = r.length + 1 := by rw [hSe]; rfl
 obtain ⟨K, hKe⟩ : ∃ K, K = 1 + gathN r := ⟨_, rfl⟩
 refine hc_enter (vs := [.slice A S.length cap]) Tryz.func91 rfl _ Tryz.ntmps91 rfl (Own.start D w) ?_
 simp only [argSlots, Nat.zero_add]
 refine zg <| hl_new (on_alloc) rfl rfl rfl fun b2 =>
  zn <| hc_seq <| ?_
 refine zg <| zm rfl <| zv Z25 <| ?_
 refine zv (ov_eql rfl rfl) <| zm rfl <| hl_partF (t := 13) rfl (Z64) ?_
 refine hl_on rfl rfl <| zm rfl <| hl_on rfl rfl <| zv (ov_idxSc rfl Z62 rfl rfl Z64) <| hl_on rfl rfl <| zv (ov_idxPc rfl rfl rfl rfl rfl) <| ?_
 refine hl_on rfl rfl <| hl_v (ov_load rfl (h00 _)) rfl <| hl_on rfl rfl <| zv (ov_neq rfl rfl) <| zv (ov_pickF rfl rfl) <| zn <| hc_cond rfl (fun z => ?_) (fun z => ?_)
 ·have hno : decS S = none := by rw [hSe]; unfold decS; exact if_neg (fun hh => z (by rw [hh.1]; rfl))
  refine zg <| zv (ov_buildSN rfl rfl) <| ?_
  refine hl_u0 (on_storeW (vs := gotZ) rfl rfl (by simp) (by simp) Z49) rfl rfl ?_
  refine zn <| zq <| zr <| ?_
  exact results_c (.inr rfl) rfl rfl (by simp) fun w' H' => .inl ⟨hno, rfl, H'.ent (Ent.nil _)⟩
 have hs87 : s[0].toNat = 87 := by omega
 refine zk <| zg <| zs rfl <| hl_nil <| zt <| hc_seq <| zg <| zs rfl <| hl_nil <| zt <| hc_cutK1 (σ := Option Addr × Nat) [0, 2] rfl 3 (fun q => .slice q.1 (63 * K) q.2) (fun q => [row q.1 5 1 (63 * K) q.2 ((bodyS (S.take K)).map u8v), blk b2 194 [.int .i64 0, .int .u32 0, .int .u32 0, .slice none 0 0, .int .i64 0, .int .i64 0]]) (fun K1 hK1 => ?_) (fun q => ?_)
 ·refine hc_block <| hc_loopK2 (σ := Nat × Option Addr × Nat) [0, 2] rfl 4 (fun t => .int .i64 (t.1 : Int)) 3 (fun t => .slice t.2.1 (63 * t.1) t.2.2) (fun t => [row t.2.1 5 1 (63 * t.1) t.2.2 ((bodyS (S.take t.1)).map u8v), blk b2 194 [.int .i64 0, .int .u32 0, .int .u32 0, .slice none 0 0, .int .i64 0, .int .i64 0]]) (fun t => t.1 ≤ S.length ∧ t.1 ≤ K) (fun t => S.length - t.1) ((0, none, 0)) (⟨Nat.zero_le _, Nat.zero_le _⟩) rfl rfl (Ent.trans (Ent.nil_row 5 1) Z8) ?_
  rintro ⟨k, q⟩ hj_ K2 hK2
  dsimp only at hj_ ⊢
  obtain ⟨hk1, hk2⟩ := hj_
  refine hc_seq <| zg <| zm rfl <| zm rfl <| zv Z25 <| ?_
  refine zv (ov_lss rfl rfl) <| zm rfl <| hl_part (t := 25) rfl (fun c1 => ?_) (fun c1 => ?_)
  ·have hk : k < S.length := by omega
   have hsrc : ∀ l', SrcIs D w l' (some ⟨ab A, ao A + k * 64 + 1 * 1, none⟩) ((S[k].toList.drop 1).map u8v) := fun l' => by
    have ho := old_sec_bytes HR (i := k) (lo := 1) (m := 63) (cap := 63) hk Z63 Z63 Z63 Z63 (A' := some ⟨ab A, ao A + k * 64 + 1, none⟩) rfl
    rw [List.take_of_length_le (by simp)] at ho
    obtain ⟨B, cb, he, _, _, hB⟩ := ho.openB
    injection he with e1 _ _
    rw [← e1] at hB
    exact SrcIs.old hB
   have hsn : bodyS (S.take (k + 1)) = bodyS (S.take k) ++ S[k].toList.drop 1 := by
    rw [List.take_succ_eq_append_getElem hk]; unfold bodyS; rw [List.flatMap_append, List.flatMap_singleton]
   refine hl_on rfl rfl <| zm rfl <| hl_on rfl rfl <| zv (ov_eql rfl rfl) <| hl_on rfl rfl <| zm rfl <| hl_part (t := 28) rfl (fun c2 => ?_) (fun c2 => ?_)
   ·have hg1 : k + 1 ≤ K := by omega
    refine zo rfl rfl <| zo rfl rfl <| zo rfl rfl <| zo rfl rfl <| zo rfl rfl <| zo rfl rfl <| hl_on rfl rfl <| zv (ov_pickT rfl rfl) <| zv (ov_pickT rfl rfl) <| zn <| hc_cond_true rfl <| hc_skip <| zt <| hc_seq <| hc_block <| hc_region <| zm rfl <| zm rfl <| zm rfl <| hl_v (ov_idxS rfl hA rfl k rfl hk) rfl <| hl_v (ov_sliceP rfl 1 64 (.inr ⟨_, _, rfl, rfl⟩) (.inl ⟨rfl, rfl⟩) Z63 Z63 Z63) rfl ?_
    refine hl_new (on_appendR (A := q.1) (news := (S[k].toList.drop 1).map u8v) rfl rfl (hsrc _) (by simp) (u8_one _) Z63 Z64) rfl rfl rfl (fun q2 => ?_)
    rw [show (bodyS (S.take k)).map u8v ++ (S[k].toList.drop 1).map u8v = (bodyS (S.take (k + 1))).map u8v by rw [hsn, List.map_append], show 63 * k + (64 - 1) = 63 * (k + 1) by omega]
    refine zs rfl <| hl_nil <| zb <| zt <| hc_region <| zm rfl <| zv (ov_add rfl rfl Z28) <| ?_
    refine zs rfl <| hl_nil <| hx_next hK2 ((k + 1, q2)) (⟨by show k + 1 ≤ _; omega, hg1⟩) Z64 Z16 Z10
   have hkr : k - 1 < r.length := by omega
   have hSk : S[k] = r[k - 1] := by
    have : S[k]? = some r[k - 1] := by rw [hSe, List.getElem?_cons, if_neg Z64, List.getElem?_eq_getElem hkr]
    rw [List.getElem?_eq_getElem hk] at this
    simpa using this
   refine hl_on rfl rfl <| zm rfl <| hl_on rfl rfl <| zm rfl <| hl_on rfl rfl <| hl_v (ov_idxS rfl hA rfl k rfl hk) rfl <| hl_on rfl rfl <| zv (ov_idxPc rfl rfl rfl rfl rfl) <| hl_on rfl rfl <| hl_v (ov_load rfl (cell_sec HS (k := k) (j := 0) hk Z63 _)) rfl ?_
   refine hl_on rfl rfl <| zv (ov_eql rfl rfl) <| hl_on rfl rfl <| zv (ov_pickF rfl rfl) <| zv (ov_pickT rfl rfl) <| zn <| hc_cond rfl (fun c3 => ?_) (fun c3 => ?_)
   ·have hg1 : k + 1 ≤ K := by
     rcases Nat.lt_or_ge k K with h | h
     ·omega
     ·exfalso
      have he : k - 1 = gathN r := by omega
      have hst := gath_stop r Z64
      apply hst
      have : r[k - 1][0] = 119 := by rw [← hSk]; exact UInt8.toNat_inj.1 (show (S[k])[0].toNat = 119 by omega)
      simp only [he] at this
      exact this
    refine zk <| hc_seq <| hc_block <| hc_region <| zm rfl <| zm rfl <| zm rfl <| hl_v (ov_idxS rfl hA rfl k rfl hk) rfl <| hl_v (ov_sliceP rfl 1 64 (.inr ⟨_, _, rfl, rfl⟩) (.inl ⟨rfl, rfl⟩) Z63 Z63 Z63) rfl ?_
    refine hl_new (on_appendR (A := q.1) (news := (S[k].toList.drop 1).map u8v) rfl rfl (hsrc _) (by simp) (u8_one _) Z63 Z64) rfl rfl rfl (fun q2 => ?_)
    rw [show (bodyS (S.take k)).map u8v ++ (S[k].toList.drop 1).map u8v = (bodyS (S.take (k + 1))).map u8v by rw [hsn, List.map_append], show 63 * k + (64 - 1) = 63 * (k + 1) by omega]
    refine zs rfl <| hl_nil <| zb <| zt <| hc_region <| zm rfl <| zv (ov_add rfl rfl Z28) <| ?_
    refine zs rfl <| hl_nil <| hx_next hK2 ((k + 1, q2)) (⟨by show k + 1 ≤ _; omega, hg1⟩) Z64 Z16 Z10
   have hm : k = K := by
    rcases Nat.lt_or_ge k K with h | h
    ·exfalso
     apply c3
     rw [hSk, gath_all r (k - 1) hkr Z64]; rfl
    ·omega
   subst hm
   refine hc_exit <| ze <| ze <| hx_block_out <| hx_cut hK1 (q) Z16 Z10
  have hm : k = K := by omega
  subst hm
  refine zo rfl rfl <| zo rfl rfl <| zo rfl rfl <| hl_offU rfl rfl rfl rfl rfl <| hl_offU rfl rfl rfl rfl rfl <| hl_offU rfl rfl rfl rfl rfl <| ?_
  refine hl_offU rfl rfl rfl rfl rfl <| hl_offU rfl rfl rfl rfl rfl <| hl_offU rfl rfl rfl rfl rfl <| zo rfl rfl <| zv (ov_pickF rfl rfl) <| hl_nil <| ?_
  refine zt <| hc_cond_false rfl <| hc_exit <| ze <| ze <| hx_block_out <| hx_cut hK1 (q) Z16 Z10
 obtain ⟨B, hB⟩ : ∃ B, B = bodyS (S.take K) := ⟨_, rfl⟩
 have hBl : B.length = 63 * K := by rw [hB, bodyS_length, List.length_take, Nat.min_eq_left Z64]
 have hhead : ∀ lo m, lo + m ≤ 63 → (B.drop lo).take m = (s.toList.drop (lo + 1)).take m := fun lo m h => by
  rw [hB, hSe]; exact head_body s r K lo m Z64 h
 obtain ⟨size, hsz⟩ : ∃ m, numAt s 10 2 = m := ⟨_, rfl⟩
 obtain ⟨a, hna'⟩ : ∃ m, numAt s 2 4 = m := ⟨_, rfl⟩
 obtain ⟨b, hnb'⟩ : ∃ m, numAt s 6 4 = m := ⟨_, rfl⟩
 obtain ⟨kk, hkk⟩ : ∃ m, m = s[1].toNat := ⟨_, rfl⟩
 have hsz9 : numE ((B.drop 9).take 2) = size := by rw [hhead 9 2 Z63]; exact hsz
 have hna : numE ((B.drop 1).take 4) = a := by rw [hhead 1 4 Z63]; exact hna'
 have hnb : numE ((B.drop 5).take 4) = b := by rw [hhead 5 4 Z63]; exact hnb'
 have hb10 := numAt_lt2 s 10 Z63
 have hb2 := numAt_lt4 s 2 Z63
 have hb6 := numAt_lt4 s 6 Z63
 have hk1 := s[1].toNat_lt
 rw [hsz] at hb10
 rw [hna'] at hb2
 rw [hnb'] at hb6
 rw [← hkk] at hk1
 have hdec : decS S = if s[0].toNat = 87 ∧ needM size ≠ 0 ∧ needM size ≤ S.length ∧ encE (candE S s) = S.take (needM size) then some (candE S s, needM size) else none := by
  rw [← hsz, hSe]; rfl
 rw [← hB]
 refine zt <| HC.fact (fun w H => Own.factR q.1 H) ?_
 rintro ⟨hrl, hnc, hcc, hA1⟩
 have hA1 : isA q.1 := hA1 (by intro h; have := congrArg List.length h; simp [hBl] at this; omega)
 have hB0 : (B.map u8v)[0]? = some (.int .u8 (kk : Int)) := by
  have h1 : (B.drop 0).take 1 = (s.toList.drop 1).take 1 := hhead 0 1 Z63
  have h2 : B[0]? = some s[1] := by
   have := congrArg (fun l => l[0]?) h1
   simp only [List.drop_zero] at this
   rw [List.getElem?_take_of_lt Z63, List.getElem?_take_of_lt Z63, List.getElem?_drop] at this
   rw [this, Vector.getElem?_toList, Vector.getElem?_eq_getElem Z63]
  rw [List.getElem?_map, h2, hkk]; rfl
 refine zg <| zm rfl <| zv (ov_slice rfl 9 11 (.inr ⟨_, _, rfl, rfl⟩) (.inr ⟨_, _, rfl, rfl⟩) Z64 Z64) <| ?_
 refine hl_c Tryz.call128 rfl rfl (fun w1 => zun fun D' _ hin _ => Rnum_at D' w1 _ B 9 2 size Z63 hsz9 (hin _ fun h hs ho => rep_cut (rep_row (A := q.1) hs B hBl.symm (repL_bytes.2 rfl)) 9 11 Z63 Z64)) ?_
 refine zv (ov_conv rfl Z28) <| ?_
 refine zs rfl <| zn <| hc_seq <| zg <| zm rfl <| zv (ov_gtr rfl rfl) <| zm rfl <| hl_part (t := 51) rfl (fun hgt => ?_) (fun hgt => ?_)
 ·have hno : decS S = none := by rw [hdec, if_neg]; rintro ⟨_, h, _⟩; apply h; unfold needM; rw [if_pos Z64]
  refine zo rfl rfl <| zo rfl rfl <| zo rfl rfl <| zo rfl rfl <| zo rfl rfl <| zo rfl rfl <| zv (ov_pickT rfl rfl) <| zn <| hc_cond_true rfl <| zg <| zv (ov_buildSN rfl rfl) <| ?_
  refine hl_u0 (on_storeW (vs := gotZ) rfl rfl (by simp) (by simp) Z49) rfl rfl ?_
  refine zn <| zq <| zr <| ?_
  exact results_c (.inr rfl) rfl rfl (by simp) fun w' H' => .inl ⟨hno, rfl, H'.ent (Ent.nil _)⟩
 obtain ⟨n, hn⟩ : ∃ n, n = (size + 77) / 63 := ⟨_, rfl⟩
 have hnM : needM size = n := by unfold needM; rw [if_neg Z64, hn]
 rw [hnM] at hdec
 refine hl_on rfl rfl <| zm rfl <| hl_on rfl rfl <| zv Z25 <| ?_
 refine hl_on rfl rfl <| zm rfl <| hl_on rfl rfl <| hl_c Tryz.call129 rfl rfl (fun w1 => zun fun D' _ _ _ => RNeed_at D' w1 size n Z64 hn) ?_
 refine hl_on rfl rfl <| zv (ov_mul rfl rfl Z28) <| ?_
 refine hl_on rfl rfl <| zv (ov_lss rfl rfl) <| zv (ov_pickF rfl rfl) <| zn <| hc_cond rfl (fun hshort => ?_) (fun hshort => ?_)
 ·have hno : decS S = none := by
   rw [hdec, if_neg]
   rintro ⟨_, h1, h2, h3⟩
   have := gath_enc (s := s) (r := r) (x := candE S s) (n := n) Z64 (by rw [← hSe]; exact h2) (by rw [← hSe]; exact h3)
   omega
  refine zg <| zv (ov_buildSN rfl rfl) <| ?_
  refine hl_u0 (on_storeW (vs := gotZ) rfl rfl (by simp) (by simp) Z49) rfl rfl ?_
  refine zn <| zq <| zr <| ?_
  exact results_c (.inr rfl) rfl rfl (by simp) fun w' H' => .inl ⟨hno, rfl, H'.ent (Ent.nil _)⟩
 have hnK : n ≤ K := by omega
 have hnS : n ≤ S.length := by omega
 obtain ⟨X, hX⟩ : ∃ X, X = (B.drop 11).take size := ⟨_, rfl⟩
 have hXl : X.length = size := by rw [hX, List.length_take, List.length_drop]; omega
 have hXu : X.map u8v = ((B.map u8v).drop (11 * 1)).take (size * 1) := by rw [hX, Nat.mul_one, Nat.mul_one, List.map_take, List.map_drop]
 have hcand : candE S s = (kk, a, b, X) := by
  unfold candE
  rw [hsz, hna', hnb', hnM, ← hkk]
  have : ((bodyS (S.take n)).drop 11).take size = X := by
   rw [body_take S K n hnK Z64, ← hB, hX, List.drop_take, List.take_take, Nat.min_eq_left Z64]
  rw [this]
 rw [hcand] at hdec
 refine zk <| hc_seq <| hc_cutK1 (σ := Nat × Option Addr × Nat) [0, 2] rfl 6 (fun t => .pointer (some ⟨t.1, 0, none⟩)) (fun t => [blk t.1 192 [.int .i64 (kk : Int), .int .u32 (a : Int), .int .u32 (b : Int), .slice t.2.1 size t.2.2], row t.2.1 5 1 size t.2.2 (X.map u8v), blk b2 194 [.int .i64 0, .int .u32 0, .int .u32 0, .slice none 0 0, .int .i64 0, .int .i64 0]]) (fun K3 hK3 => ?_) (fun t => ?_)
 ·refine hc_any [row q.1 5 1 (63 * K) q.2 (B.map u8v)] mixed 19 rfl ?_
  have hc0 : CellIs D w [row q.1 5 1 (63 * K) q.2 (B.map u8v)] (ab q.1) (ao q.1 + 0 * 1) (.int .u8 (kk : Int)) := CellIs.row (A := q.1) (i := 0) hA1 hB0
  refine ha_v 0 rfl (ov_move rfl) rfl <| ha_v 1 rfl (ov_idxSc rfl Z62 rfl rfl Z64) rfl <| ?_
  refine ha_v 2 rfl Z9 rfl <| ?_
  refine ha_v 3 rfl (ov_conv rfl Z28) rfl <| ?_
  refine ha_v 4 rfl (ov_move rfl) rfl <| ha_v 5 rfl (ov_slice rfl 1 5 (.inr ⟨_, _, rfl, rfl⟩) (.inr ⟨_, _, rfl, rfl⟩) Z64 Z64) rfl <| ?_
  refine ha_v 7 rfl (ov_move rfl) rfl <| ha_v 8 rfl (ov_slice rfl 5 9 (.inr ⟨_, _, rfl, rfl⟩) (.inr ⟨_, _, rfl, rfl⟩) Z64 Z64) rfl <| ?_
  refine ha_v 11 rfl (ov_move rfl) rfl <| ha_v 12 rfl (ov_move rfl) rfl <| ha_v 13 rfl (ov_add (m := ((11 + size : Nat) : Int)) rfl rfl ((wrap_i64 Z64).trans Z64)) rfl ?_
  refine ha_v 14 rfl (ov_slice rfl 11 (11 + size) (.inr ⟨_, _, rfl, rfl⟩) (.inr ⟨_, _, rfl, rfl⟩) Z64 Z64) rfl ?_
  refine ha_three 6 10 17 Z61 ?_ ?_ ?_
  ·skip
   refine ho_k rfl Tryz.call128 rfl (fun w1 => zun fun D' _ hin _ => Rnum_at D' w1 _ B 1 4 a Z63 hna (hin _ fun h hs ho => rep_cut (rep_row (A := q.1) hs B hBl.symm (repL_bytes.2 rfl)) 1 5 Z63 Z64)) ?_
   refine ha_three 9 10 17 Z61 ?_ ?_ ?_
   ·skip
    refine ho_k rfl Tryz.call128 rfl (fun w1 => zun fun D' _ hin _ => Rnum_at D' w1 _ B 5 4 b Z63 hnb (hin _ fun h hs ho => rep_cut (rep_row (A := q.1) hs B hBl.symm (repL_bytes.2 rfl)) 5 9 Z63 Z64)) ?_
    refine ha_two 10 17 Z61 ?_ ?_
    ·skip
     refine ho_n rfl (on_buildSliceN rfl rfl rfl) rfl (fun b70 => ?_)
     refine ha_ent (Ent.blk_row (b := b70) 1 0 rfl Z63) ?_
     refine ha_two 15 17 Z61 ?_ ?_
     ·skip
      refine ho_n rfl (on_appendR (A := some ⟨b70, 0, none⟩) (news := X.map u8v) rfl rfl (SrcIs.rowCut (A := q.1) hA1 11 size Z64 hrl hnc hXu) Z35 (u8_one _) Z63 Z64) rfl (fun qx => ?_)
      simp only [Nat.zero_add, List.nil_append, Nat.add_sub_cancel_left]
      refine ha_v 16 rfl (ov_buildSN rfl rfl) rfl <| ?_
      refine ha_one 17 Z61 <| ho_n rfl (on_alloc) rfl (fun b6 => ?_)
      refine ha_one 18 Z61 <| ho_w0 rfl (on_storeW (vs := [.int .i64 (kk : Int), .int .u32 (a : Int), .int .u32 (b : Int), .slice qx.1 size qx.2]) rfl rfl (by simp) (by simp) Z49) rfl ?_
      refine ha_done Z61 <| ?_
      refine hx_cut hK3 ((b6, qx)) Z16 Z10
     skip
     refine ho_n rfl (on_alloc) rfl (fun b6 => ?_)
     refine ha_one 15 Z61 <| ho_n rfl (on_appendR (A := some ⟨b70, 0, none⟩) (news := X.map u8v) rfl rfl (SrcIs.rowCut (A := q.1) hA1 11 size Z64 hrl hnc hXu) Z35 (u8_one _) Z63 Z64) rfl (fun qx => ?_)
     simp only [Nat.zero_add, List.nil_append, Nat.add_sub_cancel_left]
     refine ha_v 16 rfl (ov_buildSN rfl rfl) rfl <| ?_
     refine ha_one 18 Z61 <| ho_w0 rfl (on_storeW (vs := [.int .i64 (kk : Int), .int .u32 (a : Int), .int .u32 (b : Int), .slice qx.1 size qx.2]) rfl rfl (by simp) (by simp) Z49) rfl ?_
     refine ha_done Z61 <| ?_
     refine hx_cut hK3 ((b6, qx)) Z16 Z10
    skip
    refine ho_n rfl (on_alloc) rfl (fun b6 => ?_)
    refine ha_one 10 Z61 <| ho_n rfl (on_buildSliceN rfl rfl rfl) rfl (fun b70 => ?_)
    refine ha_ent (Ent.blk_row (b := b70) 1 0 rfl Z63) ?_
    refine ha_one 15 Z61 <| ho_n rfl (on_appendR (A := some ⟨b70, 0, none⟩) (news := X.map u8v) rfl rfl (SrcIs.rowCut (A := q.1) hA1 11 size Z64 hrl hnc hXu) Z35 (u8_one _) Z63 Z64) rfl (fun qx => ?_)
    simp only [Nat.zero_add, List.nil_append, Nat.add_sub_cancel_left]
    refine ha_v 16 rfl (ov_buildSN rfl rfl) rfl <| ?_
    refine ha_one 18 Z61 <| ho_w0 rfl (on_storeW (vs := [.int .i64 (kk : Int), .int .u32 (a : Int), .int .u32 (b : Int), .slice qx.1 size qx.2]) rfl rfl (by simp) (by simp) Z49) rfl ?_
    refine ha_done Z61 <| ?_
    refine hx_cut hK3 ((b6, qx)) Z16 Z10
   ·skip
    refine ho_n rfl (on_buildSliceN rfl rfl rfl) rfl (fun b70 => ?_)
    refine ha_ent (Ent.blk_row (b := b70) 1 0 rfl Z63) ?_
    refine ha_two 9 17 Z61 ?_ ?_
    ·skip
     refine ho_k rfl Tryz.call128 rfl (fun w1 => zun fun D' _ hin _ => Rnum_at D' w1 _ B 5 4 b Z63 hnb (hin _ fun h hs ho => rep_cut (rep_row (A := q.1) hs B hBl.symm (repL_bytes.2 rfl)) 5 9 Z63 Z64)) ?_
     refine ha_two 15 17 Z61 ?_ ?_
     ·skip
      refine ho_n rfl (on_appendR (A := some ⟨b70, 0, none⟩) (news := X.map u8v) rfl rfl (SrcIs.rowCut (A := q.1) hA1 11 size Z64 hrl hnc hXu) Z35 (u8_one _) Z63 Z64) rfl (fun qx => ?_)
      simp only [Nat.zero_add, List.nil_append, Nat.add_sub_cancel_left]
      refine ha_v 16 rfl (ov_buildSN rfl rfl) rfl <| ?_
      refine ha_one 17 Z61 <| ho_n rfl (on_alloc) rfl (fun b6 => ?_)
      refine ha_one 18 Z61 <| ho_w0 rfl (on_storeW (vs := [.int .i64 (kk : Int), .int .u32 (a : Int), .int .u32 (b : Int), .slice qx.1 size qx.2]) rfl rfl (by simp) (by simp) Z49) rfl ?_
      refine ha_done Z61 <| ?_
      refine hx_cut hK3 ((b6, qx)) Z16 Z10
     skip
     refine ho_n rfl (on_alloc) rfl (fun b6 => ?_)
     refine ha_one 15 Z61 <| ho_n rfl (on_appendR (A := some ⟨b70, 0, none⟩) (news := X.map u8v) rfl rfl (SrcIs.rowCut (A := q.1) hA1 11 size Z64 hrl hnc hXu) Z35 (u8_one _) Z63 Z64) rfl (fun qx => ?_)
     simp only [Nat.zero_add, List.nil_append, Nat.add_sub_cancel_left]
     refine ha_v 16 rfl (ov_buildSN rfl rfl) rfl <| ?_
     refine ha_one 18 Z61 <| ho_w0 rfl (on_storeW (vs := [.int .i64 (kk : Int), .int .u32 (a : Int), .int .u32 (b : Int), .slice qx.1 size qx.2]) rfl rfl (by simp) (by simp) Z49) rfl ?_
     refine ha_done Z61 <| ?_
     refine hx_cut hK3 ((b6, qx)) Z16 Z10
    skip
    refine ho_n rfl (on_alloc) rfl (fun b6 => ?_)
    refine ha_one 9 Z61 <| ho_k rfl Tryz.call128 rfl (fun w1 => zun fun D' _ hin _ => Rnum_at D' w1 _ B 5 4 b Z63 hnb (hin _ fun h hs ho => rep_cut (rep_row (A := q.1) hs B hBl.symm (repL_bytes.2 rfl)) 5 9 Z63 Z64)) ?_
    refine ha_one 15 Z61 <| ho_n rfl (on_appendR (A := some ⟨b70, 0, none⟩) (news := X.map u8v) rfl rfl (SrcIs.rowCut (A := q.1) hA1 11 size Z64 hrl hnc hXu) Z35 (u8_one _) Z63 Z64) rfl (fun qx => ?_)
    simp only [Nat.zero_add, List.nil_append, Nat.add_sub_cancel_left]
    refine ha_v 16 rfl (ov_buildSN rfl rfl) rfl <| ?_
    refine ha_one 18 Z61 <| ho_w0 rfl (on_storeW (vs := [.int .i64 (kk : Int), .int .u32 (a : Int), .int .u32 (b : Int), .slice qx.1 size qx.2]) rfl rfl (by simp) (by simp) Z49) rfl ?_
    refine ha_done Z61 <| ?_
    refine hx_cut hK3 ((b6, qx)) Z16 Z10
   skip
   refine ho_n rfl (on_alloc) rfl (fun b6 => ?_)
   refine ha_two 9 10 Z61 ?_ ?_
   ·skip
    refine ho_k rfl Tryz.call128 rfl (fun w1 => zun fun D' _ hin _ => Rnum_at D' w1 _ B 5 4 b Z63 hnb (hin _ fun h hs ho => rep_cut (rep_row (A := q.1) hs B hBl.symm (repL_bytes.2 rfl)) 5 9 Z63 Z64)) ?_
    refine ha_one 10 Z61 <| ho_n rfl (on_buildSliceN rfl rfl rfl) rfl (fun b70 => ?_)
    refine ha_ent (Ent.blk_row (b := b70) 1 0 rfl Z63) ?_
    refine ha_one 15 Z61 <| ho_n rfl (on_appendR (A := some ⟨b70, 0, none⟩) (news := X.map u8v) rfl rfl (SrcIs.rowCut (A := q.1) hA1 11 size Z64 hrl hnc hXu) Z35 (u8_one _) Z63 Z64) rfl (fun qx => ?_)
    simp only [Nat.zero_add, List.nil_append, Nat.add_sub_cancel_left]
    refine ha_v 16 rfl (ov_buildSN rfl rfl) rfl <| ?_
    refine ha_one 18 Z61 <| ho_w0 rfl (on_storeW (vs := [.int .i64 (kk : Int), .int .u32 (a : Int), .int .u32 (b : Int), .slice qx.1 size qx.2]) rfl rfl (by simp) (by simp) Z49) rfl ?_
    refine ha_done Z61 <| ?_
    refine hx_cut hK3 ((b6, qx)) Z16 Z10
   skip
   refine ho_n rfl (on_buildSliceN rfl rfl rfl) rfl (fun b70 => ?_)
   refine ha_ent (Ent.blk_row (b := b70) 1 0 rfl Z63) ?_
   refine ha_one 9 Z61 <| ho_k rfl Tryz.call128 rfl (fun w1 => zun fun D' _ hin _ => Rnum_at D' w1 _ B 5 4 b Z63 hnb (hin _ fun h hs ho => rep_cut (rep_row (A := q.1) hs B hBl.symm (repL_bytes.2 rfl)) 5 9 Z63 Z64)) ?_
   refine ha_one 15 Z61 <| ho_n rfl (on_appendR (A := some ⟨b70, 0, none⟩) (news := X.map u8v) rfl rfl (SrcIs.rowCut (A := q.1) hA1 11 size Z64 hrl hnc hXu) Z35 (u8_one _) Z63 Z64) rfl (fun qx => ?_)
   simp only [Nat.zero_add, List.nil_append, Nat.add_sub_cancel_left]
   refine ha_v 16 rfl (ov_buildSN rfl rfl) rfl <| ?_
   refine ha_one 18 Z61 <| ho_w0 rfl (on_storeW (vs := [.int .i64 (kk : Int), .int .u32 (a : Int), .int .u32 (b : Int), .slice qx.1 size qx.2]) rfl rfl (by simp) (by simp) Z49) rfl ?_
   refine ha_done Z61 <| ?_
   refine hx_cut hK3 ((b6, qx)) Z16 Z10
  ·skip
   refine ho_n rfl (on_buildSliceN rfl rfl rfl) rfl (fun b70 => ?_)
   refine ha_ent (Ent.blk_row (b := b70) 1 0 rfl Z63) ?_
   refine ha_two 6 17 Z61 ?_ ?_
   ·skip
    refine ho_k rfl Tryz.call128 rfl (fun w1 => zun fun D' _ hin _ => Rnum_at D' w1 _ B 1 4 a Z63 hna (hin _ fun h hs ho => rep_cut (rep_row (A := q.1) hs B hBl.symm (repL_bytes.2 rfl)) 1 5 Z63 Z64)) ?_
    refine ha_two 9 17 Z61 ?_ ?_
    ·skip
     refine ho_k rfl Tryz.call128 rfl (fun w1 => zun fun D' _ hin _ => Rnum_at D' w1 _ B 5 4 b Z63 hnb (hin _ fun h hs ho => rep_cut (rep_row (A := q.1) hs B hBl.symm (repL_bytes.2 rfl)) 5 9 Z63 Z64)) ?_
     refine ha_two 15 17 Z61 ?_ ?_
     ·skip
      refine ho_n rfl (on_appendR (A := some ⟨b70, 0, none⟩) (news := X.map u8v) rfl rfl (SrcIs.rowCut (A := q.1) hA1 11 size Z64 hrl hnc hXu) Z35 (u8_one _) Z63 Z64) rfl (fun qx => ?_)
      simp only [Nat.zero_add, List.nil_append, Nat.add_sub_cancel_left]
      refine ha_v 16 rfl (ov_buildSN rfl rfl) rfl <| ?_
      refine ha_one 17 Z61 <| ho_n rfl (on_alloc) rfl (fun b6 => ?_)
      refine ha_one 18 Z61 <| ho_w0 rfl (on_storeW (vs := [.int .i64 (kk : Int), .int .u32 (a : Int), .int .u32 (b : Int), .slice qx.1 size qx.2]) rfl rfl (by simp) (by simp) Z49) rfl ?_
      refine ha_done Z61 <| ?_
      refine hx_cut hK3 ((b6, qx)) Z16 Z10
     skip
     refine ho_n rfl (on_alloc) rfl (fun b6 => ?_)
     refine ha_one 15 Z61 <| ho_n rfl (on_appendR (A := some ⟨b70, 0, none⟩) (news := X.map u8v) rfl rfl (SrcIs.rowCut (A := q.1) hA1 11 size Z64 hrl hnc hXu) Z35 (u8_one _) Z63 Z64) rfl (fun qx => ?_)
     simp only [Nat.zero_add, List.nil_append, Nat.add_sub_cancel_left]
     refine ha_v 16 rfl (ov_buildSN rfl rfl) rfl <| ?_
     refine ha_one 18 Z61 <| ho_w0 rfl (on_storeW (vs := [.int .i64 (kk : Int), .int .u32 (a : Int), .int .u32 (b : Int), .slice qx.1 size qx.2]) rfl rfl (by simp) (by simp) Z49) rfl ?_
     refine ha_done Z61 <| ?_
     refine hx_cut hK3 ((b6, qx)) Z16 Z10
    skip
    refine ho_n rfl (on_alloc) rfl (fun b6 => ?_)
    refine ha_one 9 Z61 <| ho_k rfl Tryz.call128 rfl (fun w1 => zun fun D' _ hin _ => Rnum_at D' w1 _ B 5 4 b Z63 hnb (hin _ fun h hs ho => rep_cut (rep_row (A := q.1) hs B hBl.symm (repL_bytes.2 rfl)) 5 9 Z63 Z64)) ?_
    refine ha_one 15 Z61 <| ho_n rfl (on_appendR (A := some ⟨b70, 0, none⟩) (news := X.map u8v) rfl rfl (SrcIs.rowCut (A := q.1) hA1 11 size Z64 hrl hnc hXu) Z35 (u8_one _) Z63 Z64) rfl (fun qx => ?_)
    simp only [Nat.zero_add, List.nil_append, Nat.add_sub_cancel_left]
    refine ha_v 16 rfl (ov_buildSN rfl rfl) rfl <| ?_
    refine ha_one 18 Z61 <| ho_w0 rfl (on_storeW (vs := [.int .i64 (kk : Int), .int .u32 (a : Int), .int .u32 (b : Int), .slice qx.1 size qx.2]) rfl rfl (by simp) (by simp) Z49) rfl ?_
    refine ha_done Z61 <| ?_
    refine hx_cut hK3 ((b6, qx)) Z16 Z10
   skip
   refine ho_n rfl (on_alloc) rfl (fun b6 => ?_)
   refine ha_one 6 Z61 <| ho_k rfl Tryz.call128 rfl (fun w1 => zun fun D' _ hin _ => Rnum_at D' w1 _ B 1 4 a Z63 hna (hin _ fun h hs ho => rep_cut (rep_row (A := q.1) hs B hBl.symm (repL_bytes.2 rfl)) 1 5 Z63 Z64)) ?_
   refine ha_one 9 Z61 <| ho_k rfl Tryz.call128 rfl (fun w1 => zun fun D' _ hin _ => Rnum_at D' w1 _ B 5 4 b Z63 hnb (hin _ fun h hs ho => rep_cut (rep_row (A := q.1) hs B hBl.symm (repL_bytes.2 rfl)) 5 9 Z63 Z64)) ?_
   refine ha_one 15 Z61 <| ho_n rfl (on_appendR (A := some ⟨b70, 0, none⟩) (news := X.map u8v) rfl rfl (SrcIs.rowCut (A := q.1) hA1 11 size Z64 hrl hnc hXu) Z35 (u8_one _) Z63 Z64) rfl (fun qx => ?_)
   simp only [Nat.zero_add, List.nil_append, Nat.add_sub_cancel_left]
   refine ha_v 16 rfl (ov_buildSN rfl rfl) rfl <| ?_
   refine ha_one 18 Z61 <| ho_w0 rfl (on_storeW (vs := [.int .i64 (kk : Int), .int .u32 (a : Int), .int .u32 (b : Int), .slice qx.1 size qx.2]) rfl rfl (by simp) (by simp) Z49) rfl ?_
   refine ha_done Z61 <| ?_
   refine hx_cut hK3 ((b6, qx)) Z16 Z10
  skip
  refine ho_n rfl (on_alloc) rfl (fun b6 => ?_)
  refine ha_two 6 10 Z61 ?_ ?_
  ·skip
   refine ho_k rfl Tryz.call128 rfl (fun w1 => zun fun D' _ hin _ => Rnum_at D' w1 _ B 1 4 a Z63 hna (hin _ fun h hs ho => rep_cut (rep_row (A := q.1) hs B hBl.symm (repL_bytes.2 rfl)) 1 5 Z63 Z64)) ?_
   refine ha_two 9 10 Z61 ?_ ?_
   ·skip
    refine ho_k rfl Tryz.call128 rfl (fun w1 => zun fun D' _ hin _ => Rnum_at D' w1 _ B 5 4 b Z63 hnb (hin _ fun h hs ho => rep_cut (rep_row (A := q.1) hs B hBl.symm (repL_bytes.2 rfl)) 5 9 Z63 Z64)) ?_
    refine ha_one 10 Z61 <| ho_n rfl (on_buildSliceN rfl rfl rfl) rfl (fun b70 => ?_)
    refine ha_ent (Ent.blk_row (b := b70) 1 0 rfl Z63) ?_
    refine ha_one 15 Z61 <| ho_n rfl (on_appendR (A := some ⟨b70, 0, none⟩) (news := X.map u8v) rfl rfl (SrcIs.rowCut (A := q.1) hA1 11 size Z64 hrl hnc hXu) Z35 (u8_one _) Z63 Z64) rfl (fun qx => ?_)
    simp only [Nat.zero_add, List.nil_append, Nat.add_sub_cancel_left]
    refine ha_v 16 rfl (ov_buildSN rfl rfl) rfl <| ?_
    refine ha_one 18 Z61 <| ho_w0 rfl (on_storeW (vs := [.int .i64 (kk : Int), .int .u32 (a : Int), .int .u32 (b : Int), .slice qx.1 size qx.2]) rfl rfl (by simp) (by simp) Z49) rfl ?_
    refine ha_done Z61 <| ?_
    refine hx_cut hK3 ((b6, qx)) Z16 Z10
   skip
   refine ho_n rfl (on_buildSliceN rfl rfl rfl) rfl (fun b70 => ?_)
   refine ha_ent (Ent.blk_row (b := b70) 1 0 rfl Z63) ?_
   refine ha_one 9 Z61 <| ho_k rfl Tryz.call128 rfl (fun w1 => zun fun D' _ hin _ => Rnum_at D' w1 _ B 5 4 b Z63 hnb (hin _ fun h hs ho => rep_cut (rep_row (A := q.1) hs B hBl.symm (repL_bytes.2 rfl)) 5 9 Z63 Z64)) ?_
   refine ha_one 15 Z61 <| ho_n rfl (on_appendR (A := some ⟨b70, 0, none⟩) (news := X.map u8v) rfl rfl (SrcIs.rowCut (A := q.1) hA1 11 size Z64 hrl hnc hXu) Z35 (u8_one _) Z63 Z64) rfl (fun qx => ?_)
   simp only [Nat.zero_add, List.nil_append, Nat.add_sub_cancel_left]
   refine ha_v 16 rfl (ov_buildSN rfl rfl) rfl <| ?_
   refine ha_one 18 Z61 <| ho_w0 rfl (on_storeW (vs := [.int .i64 (kk : Int), .int .u32 (a : Int), .int .u32 (b : Int), .slice qx.1 size qx.2]) rfl rfl (by simp) (by simp) Z49) rfl ?_
   refine ha_done Z61 <| ?_
   refine hx_cut hK3 ((b6, qx)) Z16 Z10
  skip
  refine ho_n rfl (on_buildSliceN rfl rfl rfl) rfl (fun b70 => ?_)
  refine ha_ent (Ent.blk_row (b := b70) 1 0 rfl Z63) ?_
  refine ha_one 6 Z61 <| ho_k rfl Tryz.call128 rfl (fun w1 => zun fun D' _ hin _ => Rnum_at D' w1 _ B 1 4 a Z63 hna (hin _ fun h hs ho => rep_cut (rep_row (A := q.1) hs B hBl.symm (repL_bytes.2 rfl)) 1 5 Z63 Z64)) ?_
  refine ha_one 9 Z61 <| ho_k rfl Tryz.call128 rfl (fun w1 => zun fun D' _ hin _ => Rnum_at D' w1 _ B 5 4 b Z63 hnb (hin _ fun h hs ho => rep_cut (rep_row (A := q.1) hs B hBl.symm (repL_bytes.2 rfl)) 5 9 Z63 Z64)) ?_
  refine ha_one 15 Z61 <| ho_n rfl (on_appendR (A := some ⟨b70, 0, none⟩) (news := X.map u8v) rfl rfl (SrcIs.rowCut (A := q.1) hA1 11 size Z64 hrl hnc hXu) Z35 (u8_one _) Z63 Z64) rfl (fun qx => ?_)
  simp only [Nat.zero_add, List.nil_append, Nat.add_sub_cancel_left]
  refine ha_v 16 rfl (ov_buildSN rfl rfl) rfl <| ?_
  refine ha_one 18 Z61 <| ho_w0 rfl (on_storeW (vs := [.int .i64 (kk : Int), .int .u32 (a : Int), .int .u32 (b : Int), .slice qx.1 size qx.2]) rfl rfl (by simp) (by simp) Z49) rfl ?_
  refine ha_done Z61 <| ?_
  refine hx_cut hK3 ((b6, qx)) Z16 Z10
 obtain ⟨b6, qx⟩ := t
 dsimp only
 obtain ⟨W, hW⟩ : ∃ W, W = encE (kk, a, b, X) := ⟨_, rfl⟩
 rw [← hW] at hdec
 have hWl : W.length = n := by rw [hW, encE, encS_len, fullB_length, hXl]; omega
 refine zt <| zg <| zv Z17 <| ?_
 refine hl_call (σ := Option Addr × Nat) Tryz.call126 rfl rfl (fun w1 => zu fun D' _ hin _ => REnc_at D' w1 (kk, a, b, X) _ W n hW hWl.symm ⟨by show kk < 256; omega, hb2, hb6, by show X.length ≤ 4000; omega⟩ (hin _ fun h hs ho => rep_row (A := qx.1) hs X hXl.symm (repL_bytes.2 rfl))) ?_
 intro qw
 try rw [List.nil_append]
 refine HL.fact (fun w H => Own.factR qw.1 H) ?_
 rintro ⟨_, _, _, hAw⟩
 have hAw : isA qw.1 := hAw (by intro h; have := congrArg List.length h; rw [flat_len secC_len, hWl] at this; simp only [List.length_nil] at this; omega)
 refine zm rfl <| zx rfl rfl <| zx rfl rfl <| zs rfl <| zs rfl <| hl_nil <| zt <| hc_seq <| zg <| zs rfl <| hl_nil <| zt <| hc_block <| hc_loops1 (σ := Nat) [0, 2, 6, 7] rfl 9 (fun i => .int .i64 (i : Int)) (fun i => i ≤ n ∧ W.take i = S.take i) (fun i => n - i) (0) (⟨Nat.zero_le _, rfl⟩) rfl ?_
 rintro i ⟨hi, heq⟩ K4 hK4
 refine hc_seq <| zg <| zm rfl <| zm rfl <| zv Z25 <| ?_
 refine zv (ov_lss rfl rfl) <| zn <| hc_cond rfl (fun hlt => ?_) (fun hlt => ?_)
 ·have hin2 : i < n := by omega
  have hiW : i < W.length := by omega
  have hiS : i < S.length := by omega
  refine zk <| hc_seq <| hc_block <| hc_seq <| hc_quiet mixed Z61 <| ?_
  refine hq_v (ov_move rfl) rfl <| hq_v (ov_move rfl) rfl <| ?_
  refine hq_v (ov_idxS rfl hAw rfl i rfl hin2) rfl ?_
  refine hq_v (ov_loadG (cs := secC W[i]) rfl (secC_len _) (CellsAre.flat (f := secC) (A := qw.1) secC_len hAw (i := i) hiW)) rfl ?_
  refine hq_v (ov_move rfl) rfl <| hq_v (ov_move rfl) rfl <| ?_
  refine hq_v (ov_idxS rfl hA rfl i rfl hiS) rfl ?_
  refine hq_v (ov_loadG (cs := secC S[i]) rfl (secC_len _) (cells_sec HS hiS _)) rfl ?_
  refine hq_v (ov_neqSec (s := W[i]) (t := S[i]) rfl rfl) rfl ?_
  refine hq_nil <| zt <| ?_
  refine hc_cond rfl (fun hne => ?_) (fun hne => ?_)
  ·have hno : decS S = none := by
    rw [hdec, if_neg]
    rintro ⟨_, _, _, h⟩
    apply hne
    have : W[i]? = S[i]? := by rw [h, List.getElem?_take_of_lt hin2]
    rw [List.getElem?_eq_getElem hiW, List.getElem?_eq_getElem hiS] at this
    simpa using this
   refine zg <| zv (ov_buildSN rfl rfl) <| ?_
   refine hl_u0 (on_storeW (vs := gotZ) rfl rfl (by simp) (by simp) Z49) rfl rfl ?_
   refine zn <| zq <| hx_block_ret <| zr <| zr <| hx_block_ret <| zr <| ?_
   exact results_c (.inr rfl) rfl rfl (by simp) fun w' H' => .inl ⟨hno, rfl, H'.ent (Ent.nil _)⟩
  have hee : W[i] = S[i] := Classical.not_not.1 hne
  have heq2 : W.take (i + 1) = S.take (i + 1) := by
   rw [List.take_succ_eq_append_getElem hiW, List.take_succ_eq_append_getElem hiS, heq, hee]
  refine hc_skip <| zb <| zt <| hc_region <| zm rfl <| zv (ov_add rfl rfl Z28) <| ?_
  refine zs rfl <| hl_nil <| hx_next hK4 (i + 1) (⟨hin2, heq2⟩) Z64 Z16 Z10
 obtain rfl : i = n := by omega
 have hyes : decS S = some ((kk, a, b, X), i) := by
  rw [hdec, if_pos]
  refine ⟨hs87, by omega, hnS, ?_⟩
  rw [← heq, List.take_of_length_le Z64]
 refine hc_exit <| ze <| ze <| hx_block_out <| zt <| hc_seq <| hc_region <| zv Z17 <| ?_
 refine zm rfl <| zv Z25 <| ?_
 refine zv (ov_buildSN rfl rfl) <| ?_
 refine hl_u0 (on_storeW (vs := [.int .i64 (kk : Int), .int .u32 (a : Int), .int .u32 (b : Int), .slice qx.1 size qx.2, .int .i64 (i : Int), .int .i64 0]) rfl rfl (by simp) (by simp) Z49) rfl rfl ?_
 refine zn <| zq <| ?_
 exact results_c (.inr rfl) rfl rfl (by simp) fun w' H' => .inr ⟨(kk, a, b, X), i, qx, hyes, (by rw [hXl]), (by rw [hXl]; exact H'.ent Z8)⟩
abbrev rdsk (g : Nat) (S : List Sec) (P : List (Nat × Sec)) : HProp := dskT 56 63 g S P
theorem RNew_ok (n : Nat) (h1 : 1 ≤ n) (h2 : n ≤ 4096) :
  Calls Tryz.prog 16 #[.int .i64 n] w fun e w' => ∃ g : Nat, e = .returned (.tuple #[.pointer (some ⟨g, 0, none⟩), .int .i64 0]) ∧ Own D w w' [rdsk g (List.replicate n zeroSec) []] := by
 refine hc_enter (vs := [.int .i64 n]) Tryz.func16 rfl _ Tryz.ntmps16 rfl (Own.start D w) ?_
 simp only [argSlots, Nat.zero_add]
 refine zg <| zs rfl <| zs rfl <| zn <| hc_seq <| zg <| zm rfl <| zv (ov_lss rfl rfl) <| zm rfl <| hl_partF (t := 6) rfl Z64 ?_
 refine hl_on rfl rfl <| zm rfl <| hl_on rfl rfl <| zv (ov_gtr rfl rfl) <| zv (ov_pickF rfl rfl) <| zn <| hc_cond_F rfl Z64 ?_
 refine zk <| zg <| zm rfl <| hl_new (on_make rfl rfl n rfl Z64 Z64) rfl rfl rfl (fun b => ?_)
 refine zv (ov_buildSN rfl rfl) <| ?_
 refine hl_new (on_boxN rfl rfl) rfl rfl rfl fun b13 =>  ?_
 refine zs rfl <| zs rfl <| zn <| zq <| results_2 (.inr rfl) rfl rfl rfl fun w' H' => ⟨_, rfl, H'.ent ?_⟩
 refine Ent.trans (b := [blk b13 56 [.slice (some ⟨b, 0, none⟩) (List.replicate n zeroSec).length n, .slice none ([] : List (Nat × Sec)).length 0], row (some ⟨b, 0, none⟩) 61 64 (List.replicate n zeroSec).length n ((List.replicate n zeroSec).flatMap secC), row none 63 65 0 0 []]) ?_ dsk_mk
 rw [List.length_replicate, ← zeros_sec]
 exact Ent.cons ((Ent.blk_row 64 n (by rw [zerosL_length]; simp) Z64).trans (Ent.cons (Ent.nil_row _ _)))
theorem RNew_no (n : Int) (h : n < 1 ∨ 4096 < n) :
  Calls Tryz.prog 16 #[.int .i64 n] w fun e w' => e = .returned (.tuple #[.pointer none, .int .i64 1]) ∧ Own D w w' [] := by
 refine hc_enter (vs := [.int .i64 n]) Tryz.func16 rfl _ Tryz.ntmps16 rfl (Own.start D w) ?_
 simp only [argSlots, Nat.zero_add]
 refine zg <| zs rfl <| zs rfl <| zn <| hc_seq <| zg <| zm rfl <| zv (ov_lss rfl rfl) <| zm rfl <| hl_part (t := 6) rfl (fun h1 => ?_) (fun h1 => ?_)
 ·refine zo rfl rfl <| zo rfl rfl <| zv (ov_pickT rfl rfl) <| zn <| hc_cond_true rfl <| zg <| zs rfl <| zs rfl <| zn <| zq <| zr <| ?_
  exact results_2 (.inr rfl) rfl rfl rfl fun w' H' => ⟨rfl, H'⟩
 refine hl_on rfl rfl <| zm rfl <| hl_on rfl rfl <| zv (ov_gtr rfl rfl) <| zv (ov_pickF rfl rfl) <| zn <| hc_cond_T rfl Z64 ?_
 refine zg <| zs rfl <| zs rfl <| zn <| zq <| zr <| ?_
 exact results_2 (.inr rfl) rfl rfl rfl fun w' H' => ⟨rfl, H'⟩
theorem Rhas_spec (g : Nat) (i : Int) (A0 A1 : Option Addr) (n c0 m c1 : Nat) (H : Own D w w [blk g 56 [.slice A0 n c0, .slice A1 m c1]]) :
  Calls Tryz.prog 127 #[.pointer (some ⟨g, 0, none⟩), .int .i64 i] w fun e w' => e = .returned (.bool (decide (0 ≤ i ∧ i < n))) ∧ Own D w w' [blk g 56 [.slice A0 n c0, .slice A1 m c1]] := by
 refine hc_enter (vs := [.pointer (some ⟨g, 0, none⟩), .int .i64 i]) Tryz.func127 rfl _ Tryz.ntmps127 rfl H ?_
 simp only [argSlots, Nat.zero_add]
 refine zg <| zs rfl <| zn <| hc_seq <| hc_region <| zm rfl <| zv (ov_geq rfl rfl) <| zm rfl <| hl_part (t := 7) rfl (fun h1 => ?_) (fun h1 => ?_)
 ·refine hl_on rfl rfl <| zm rfl <| hl_on rfl rfl <| zm rfl <| hl_on rfl rfl <| zv (ov_nil rfl) <| hl_on rfl rfl <| zf rfl <| hl_on rfl rfl <| zl rfl rfl <| hl_on rfl rfl <| zv Z25 <| ?_
  refine hl_on rfl rfl <| zv (ov_lss rfl rfl) <| zv (ov_pickT rfl rfl) <| zs rfl <| zn <| zq <| ?_
  exact zz rfl rfl fun w' H' => ⟨by simp [h1], H'⟩
 refine zo rfl rfl <| zo rfl rfl <| zo rfl rfl <| zo rfl rfl <| zo rfl rfl <| zo rfl rfl <| zo rfl rfl <| zv (ov_pickF rfl rfl) <| zs rfl <| zn <| zq <| ?_
 exact zz rfl rfl fun w' H' => ⟨by simp [h1], H'⟩
theorem RWrite_ok (g : Nat) (i : Nat) (s : Sec) (S : List Sec) (P : List (Nat × Sec)) (hi : i < S.length) (hP : P.length ≤ 1000000) (H : Own D w w [rdsk g S P]) :
  Calls Tryz.prog 87 #[.pointer (some ⟨g, 0, none⟩), .int .i64 i, .agg (secC s).toArray] w fun e w' => e = .returned (.int .i64 0) ∧ Own D w w' [rdsk g S (P ++ [(i, s)])] := by
 refine hc_enter (vs := [.pointer (some ⟨g, 0, none⟩), .int .i64 i, .agg (secC s).toArray]) Tryz.func87 rfl _ Tryz.ntmps87 rfl H ?_
 simp only [argSlots, Nat.zero_add]
 refine HC.exs ?_
 rintro ⟨⟨A0, c0⟩, A1, c1⟩
 refine HC.ent (l' := [blk g 56 [.slice A0 S.length c0, .slice A1 P.length c1], row A0 61 64 S.length c0 (S.flatMap secC), row A1 63 65 P.length c1 (P.flatMap latC)]) (fun _ h => h) ?_
 refine zg <| hl_new (on_boxG (cs := secC s) rfl) rfl rfl rfl (fun b5 => ?_)
 refine zs rfl <| zn <| hc_seq <| zg <| zm rfl <| zm rfl <| hl_c Tryz.call127 rfl rfl (fun w1 => zp (blk g 56 [.slice A0 S.length c0, .slice A1 P.length c1]) fun D' _ _ H2 => Rhas_spec D' w1 g i A0 A1 _ c0 _ c1 H2) ?_
 refine zv Z26 <| ?_
 refine zn <| hc_cond_F rfl (by simp [hi]) ?_
 refine zk <| hc_seq <| hc_cutK0 (σ := Option Addr × Nat) [] rfl  (fun q => [blk g 56 [.slice A0 S.length c0, .slice q.1 (P.length + 1) q.2], row A0 61 64 S.length c0 (S.flatMap secC), row q.1 63 65 (P.length + 1) q.2 ((P ++ [(i, s)]).flatMap latC)]) (fun K1 hK1 => ?_) (fun q => ?_)
 ·refine HC.ent (Ent.trans (b := [blk b5 61 (secC s), blk g 56 [.slice A0 S.length c0, .slice A1 P.length c1], row A0 61 64 S.length c0 (S.flatMap secC), row A1 63 65 P.length c1 (P.flatMap latC)]) Z8 (Ent.refl _)) ?_
  refine hc_any [blk b5 61 (secC s)] mixed 13 rfl ?_
  refine ha_v 0 rfl (ov_move rfl) rfl <| ha_v 1 rfl (ov_move rfl) rfl <| ha_v 2 rfl (ov_nil rfl) rfl <| ha_v 3 rfl (ov_fieldA rfl) rfl <| ha_v 5 rfl (ov_move rfl) rfl <| ha_v 6 rfl Z17 rfl <| ?_
  refine ha_v 7 rfl (ov_buildS (res := latC (i, s)) rfl (fill_lat i s)) rfl ?_
  refine ha_two 4 8 Z61 ?_ ?_
  ·skip
   refine ho_v rfl (zw rfl rfl) rfl <| ha_one 8 Z61 <| ho_n rfl (on_buildSlice (res := latC (i, s)) rfl rfl (fill_one i s)) rfl (fun b19 => ?_)
   refine ha_one 9 Z61 <| ho_n rfl (on_appendR (A := A1) (news := latC (i, s)) rfl rfl (SrcIs.blk (b := b19)) (by rw [latC_len]) (latC_one _) Z63 Z64) rfl ?_
   rintro ⟨B, cB⟩
   dsimp only
   refine ha_v 10 rfl (ov_nil rfl) rfl <| ha_v 11 rfl (ov_fieldA rfl) rfl <| ha_one 12 Z61 <| ho_w0 rfl (on_storeN rfl rfl rfl rfl rfl) rfl ?_
   refine ha_done Z61 <| ?_
   exact hx_cut hK1 ((B, cB)) Z16 Z2
  skip
  refine ho_n rfl (on_buildSlice (res := latC (i, s)) rfl rfl (fill_one i s)) rfl (fun b19 => ?_)
  refine ha_one 4 Z61 <| ho_v rfl (zw rfl rfl) rfl <| ha_one 9 Z61 <| ho_n rfl (on_appendR (A := A1) (news := latC (i, s)) rfl rfl (SrcIs.blk (b := b19)) (by rw [latC_len]) (latC_one _) Z63 Z64) rfl ?_
  rintro ⟨B, cB⟩
  dsimp only
  refine ha_v 10 rfl (ov_nil rfl) rfl <| ha_v 11 rfl (ov_fieldA rfl) rfl <| ha_one 12 Z61 <| ho_w0 rfl (on_storeN rfl rfl rfl rfl rfl) rfl ?_
  refine ha_done Z61 <| ?_
  exact hx_cut hK1 ((B, cB)) Z16 Z2
 refine zt <| zg <| zs rfl <| zn <| zq <| ?_
 exact zz rfl rfl fun w' H' => ⟨rfl, H'.ent (by have := dsk_mk (tD := 56) (tL := 63) (g := g) (S := S) (P := P ++ [(i, s)]) (A0 := A0) (c0 := c0) (A1 := q.1) (c1 := q.2) (l := []); rw [List.length_append] at this; exact this)⟩
theorem RRead_ok (g : Nat) (i : Nat) (S : List Sec) (P : List (Nat × Sec)) (hi : i < S.length) (H : Own D w w [rdsk g S P]) :
  Calls Tryz.prog 90 #[.pointer (some ⟨g, 0, none⟩), .int .i64 i] w fun e w' => e = .returned (.tuple #[.agg (secC (lastW i P S[i])).toArray, .int .i64 0]) ∧ Own D w w' [rdsk g S P] := by
 refine hc_enter (vs := [.pointer (some ⟨g, 0, none⟩), .int .i64 i]) Tryz.func90 rfl _ Tryz.ntmps90 rfl H ?_
 simp only [argSlots, Nat.zero_add]
 refine HC.exs ?_
 rintro ⟨⟨A0, c0⟩, A1, c1⟩
 refine HC.ent (l' := [blk g 56 [.slice A0 S.length c0, .slice A1 P.length c1], row A0 61 64 S.length c0 (S.flatMap secC), row A1 63 65 P.length c1 (P.flatMap latC)]) (fun _ h => h) ?_
 refine HC.fact (fun w H => dsk_facts (A := A0) H) (fun hf0 => ?_)
 refine HC.fact (fun w H => dsk_facts (A := A1) H) (fun hf1 => ?_)
 have hA0 : isA A0 := hf0.2 (flat_ne secC_len Z63 Z64)
 refine zg <| hl_new (on_alloc) rfl rfl rfl fun b4 =>
  zs rfl <| zn <| ?_
 refine hc_seq <| zg <| zm rfl <| zm rfl <| hl_c Tryz.call127 rfl rfl (fun w1 => zp (blk g 56 [.slice A0 S.length c0, .slice A1 P.length c1]) fun D' _ _ H2 => Rhas_spec D' w1 g i A0 A1 _ c0 _ c1 H2) ?_
 refine zv Z26 <| ?_
 refine zn <| hc_cond_F rfl (by simp [hi]) ?_
 refine zk <| zg <| zm rfl <| zv (ov_nil rfl) <| zf rfl <| zl rfl rfl <| zm rfl <| zv (ov_idxS rfl Z62 rfl _ rfl Z64) <| ?_
 refine hl_v (ov_loadG (cs := secC S[i]) rfl (secC_len _) (CellsAre.flat secC_len hA0 hi)) rfl <| hl_new (on_alloc) rfl rfl rfl fun b6 =>  ?_
 refine hl_u0 (on_storeW rfl rfl (by simp) (by simp) (secC_one _)) rfl rfl ?_
 refine zn <| hc_seq <| zg <| zs rfl <| zn <| hc_block <| hc_loopK1 (σ := Nat) [0, 1, 4, 6] rfl 7 (fun j => .int .i64 j) (fun j => [blk b6 61 (secC (lastW i (P.take j) S[i])), blk b4 61 (List.replicate 64 (.int .u8 0)), blk g 56 [.slice A0 S.length c0, .slice A1 P.length c1], row A0 61 64 S.length c0 (S.flatMap secC), row A1 63 65 P.length c1 (P.flatMap latC)]) (fun j => j ≤ P.length) (fun j => P.length - j) (0) (Nat.zero_le _) rfl ((show Ent _ (blk b6 61 (secC S[i]) :: _) from Z8)) ?_
 rintro j hj K1 hK1
 refine hc_seq <| zg <| zm rfl <| zm rfl <| zv (ov_nil rfl) <| zf rfl <| zl rfl rfl <| zv Z25 <| ?_
 refine zv (ov_lss rfl rfl) <| zn <| hc_cond rfl (fun hlt => ?_) (fun hlt => ?_)
 ·have hlt : j < P.length := by omega
  have hA1 : isA A1 := hf1.2 (flat_ne latC_len Z63 Z64)
  have hsn := List.take_succ_eq_append_getElem hlt
  have hcl : ∀ l r, [PickR l A1 63 65 P.length c1 (P.flatMap latC) r] → CellIs D w l (ab A1) (ao A1 + j * 65 + 0) (.int .i64 (P[j].1 : Int)) := fun l r _ => (CellsAre.flat latC_len hA1 hlt).cell (i := 0) rfl
  refine zk <| hc_seq <| hc_block <| zg <| zm rfl <| zv (ov_nil rfl) <| zf rfl <| zl rfl rfl <| zm rfl <| zv (ov_idxS rfl Z62 rfl _ rfl Z64) <| ?_
  refine zf rfl <| ?_
  refine hl_v (ov_load rfl (hcl _ _)) rfl <| zm rfl <| zv (ov_eql rfl rfl) <| zn <| hc_cutK0 (σ := Unit) [0, 1, 4, 6, 7] rfl  (fun _u => [blk b6 61 (secC (lastW i (P.take (j + 1)) S[i])), blk b4 61 (List.replicate 64 (.int .u8 0)), blk g 56 [.slice A0 S.length c0, .slice A1 P.length c1], row A0 61 64 S.length c0 (S.flatMap secC), row A1 63 65 P.length c1 (P.flatMap latC)]) (fun K2 hK2 => ?_) (fun _u => ?_)
  ·rw [hsn, lastW_snoc] at hK2
   refine hc_cond rfl (fun he => ?_) (fun he => ?_)
   ·rw [if_pos Z64] at hK2
    refine hc_region <| zm rfl <| zv (ov_nil rfl) <| zf rfl <| zl rfl rfl <| zm rfl <| ?_
    refine zv (ov_idxS rfl Z62 rfl _ rfl Z64) <| zf rfl <| ?_
    refine hl_v (ov_loadG (cs := secC P[j].2) rfl (secC_len _) (CellsAre.sub (CellsAre.flat latC_len hA1 hlt) (fun k v h => by rw [Nat.add_comm]; exact h))) rfl ?_
    refine hl_u0 (on_storeW rfl rfl (by simp) (by simp) (secC_one _)) rfl rfl ?_
    refine hl_nil <| hx_cut hK2 (()) Z16 Z10
   rw [if_neg Z64] at hK2
   refine hc_skip <| hx_cut hK2 (()) Z16 Z10
  refine zb <| zt <| hc_region <| zm rfl <| zv (ov_add rfl rfl Z28) <| ?_
  refine zs rfl <| hl_nil <| hx_next hK1 (j + 1) (hlt) Z64 Z16 Z10
 have : j = P.length := by omega
 subst this
 rw [List.take_length]
 refine hc_exit <| ze <| ze <| hx_block_out <| zt <| hc_seq <| hc_region <| zv Z17 <| ?_
 refine hl_u0 (on_storeW rfl rfl (by simp) (by simp) (secC_one _)) rfl rfl ?_
 refine zs rfl <| zn <| zq <| ?_
 exact results_ct (.inr rfl) rfl rfl (by simp) rfl fun w' H' => ⟨rfl, H'.ent (Ent.trans Z8 (dsk_mk (A0 := A0) (c0 := c0) (A1 := A1) (c1 := c1)))⟩
theorem RFlush_spec (g : Nat) (S : List Sec) (P : List (Nat × Sec)) (hP : ∀ p ∈ P, p.1 < S.length) (H : Own D w w [rdsk g S P]) :
  Calls Tryz.prog 88 #[.pointer (some ⟨g, 0, none⟩)] w fun e w' => e = .returned (.tuple #[]) ∧ Own D w w' [rdsk g (settleL (fun _ => true) 0 S P) []] := by
 refine hc_enter (vs := [.pointer (some ⟨g, 0, none⟩)]) Tryz.func88 rfl _ Tryz.ntmps88 rfl H ?_
 simp only [argSlots, Nat.zero_add]
 refine HC.exs ?_
 rintro ⟨⟨A0, c0⟩, A1, c1⟩
 refine HC.ent (l' := [blk g 56 [.slice A0 S.length c0, .slice A1 P.length c1], row A0 61 64 S.length c0 (S.flatMap secC), row A1 63 65 P.length c1 (P.flatMap latC)]) (fun _ h => h) ?_
 refine HC.fact (fun w H => dsk_facts (A := A0) H) (fun hf0 => ?_)
 refine HC.fact (fun w H => dsk_facts (A := A1) H) (fun hf1 => ?_)
 refine hc_seq <| zg <| zs rfl <| zn <| hc_block <| hc_loopK1 (σ := Nat) [0] rfl 2 (fun j => .int .i64 j) (fun j => [blk g 56 [.slice A0 S.length c0, .slice A1 P.length c1], row A0 61 64 S.length c0 ((settleL (fun _ => true) 0 S (P.take j)).flatMap secC), row A1 63 65 P.length c1 (P.flatMap latC)]) (fun j => j ≤ P.length) (fun j => P.length - j) (0) (Nat.zero_le _) rfl (Ent.refl _) ?_
 rintro j hj K1 hK1
 refine hc_seq <| zg <| zm rfl <| zm rfl <| zv (ov_nil rfl) <| zf rfl <| zl rfl rfl <| zv Z25 <| ?_
 refine zv (ov_lss rfl rfl) <| zn <| hc_cond rfl (fun hlt => ?_) (fun hlt => ?_)
 ·have hlt : j < P.length := by omega
  have hA1 : isA A1 := hf1.2 (flat_ne latC_len Z63 Z64)
  have hsn := List.take_succ_eq_append_getElem hlt
  have hpj := hP _ (List.getElem_mem hlt)
  have hA0 : isA A0 := hf0.2 (flat_ne secC_len Z63 Z64)
  have hsl := settleL_len (fun _ => true) (P.take j) 0 S
  have hcl : ∀ l r, [PickR l A1 63 65 P.length c1 (P.flatMap latC) r] → CellIs D w l (ab A1) (ao A1 + j * 65 + 0) (.int .i64 (P[j].1 : Int)) := fun l r _ => (CellsAre.flat latC_len hA1 hlt).cell (i := 0) rfl
  have hst := settleL_snoc (fun _ => true) (P.take j) 0 S P[j]
  rw [if_pos rfl, ← hsn] at hst
  refine zk <| hc_seq <| hc_block <| hc_any [blk g 56 [.slice A0 S.length c0, .slice A1 P.length c1], row A1 63 65 P.length c1 (P.flatMap latC)] mixed 22 rfl ?_
  refine ha_v 0 rfl (ov_move rfl) rfl <| ha_v 1 rfl (ov_nil rfl) rfl <| ha_v 2 rfl (ov_fieldA rfl) rfl <| ha_v 3 rfl (zw rfl rfl) rfl <| ha_v 4 rfl (ov_move rfl) rfl <| ha_v 5 rfl (ov_nil rfl) rfl <| ha_v 6 rfl (ov_fieldA rfl) rfl <| ha_v 7 rfl (zw rfl rfl) rfl <| ha_v 8 rfl (ov_move rfl) rfl <| ha_v 9 rfl (ov_idxS rfl Z62 rfl _ rfl Z64) rfl <| ?_
  refine ha_v 10 rfl (ov_fieldA rfl) rfl <| ha_v 12 rfl (ov_move rfl) rfl <| ha_v 13 rfl (ov_nil rfl) rfl <| ha_v 14 rfl (ov_fieldA rfl) rfl <| ha_v 15 rfl (zw rfl rfl) rfl <| ha_v 16 rfl (ov_move rfl) rfl <| ha_v 17 rfl (ov_idxS rfl Z62 rfl _ rfl Z64) rfl <| ?_
  refine ha_v 18 rfl (ov_fieldA rfl) rfl <| ha_v 11 rfl (ov_load rfl (hcl _ _)) rfl <| ha_one 19 Z61 <| ho_v rfl (ov_loadG (cs := secC P[j].2) rfl (secC_len _) (CellsAre.sub (CellsAre.flat latC_len hA1 hlt) (fun k v h => by rw [Nat.add_comm]; exact h))) rfl ?_
  refine ha_v 20 rfl (ov_idxS rfl Z62 rfl _ rfl Z64) rfl <| ?_
  refine ha_one 21 Z61 <| ho_w0 rfl (on_storeRG (A := A0) (vs := secC P[j].2) rfl rfl (secC_len _) (by rw [flat_len secC_len]; omega) (by rw [flat_len secC_len, secC_len, ← Nat.succ_mul]; exact Nat.mul_le_mul_right _ Z64) (secC_one _)) rfl ?_
  rw [flat_set secC_len _ P[j].1 P[j].2 Z64]
  refine ha_done Z61 <| zb <| zt <| hc_region <| zm rfl <| zv (ov_add rfl rfl Z28) <| ?_
  refine zs rfl <| hl_nil <| ?_
  exact hx_next hK1 (j + 1) (hlt) Z64 Z16 (by rw [hst]; exact Z8)
 have : j = P.length := by omega
 subst this
 rw [List.take_length]
 have hsl := settleL_len (fun _ => true) P 0 S
 refine hc_exit <| ze <| ze <| hx_block_out <| zt <| hc_region <| zm rfl <| zv (ov_nil rfl) <| zf rfl <| hl_u0 (on_storeN rfl rfl rfl rfl rfl) rfl rfl <| hl_nil <| ?_
 refine results_0 (.inl rfl) rfl fun w' H' => ⟨rfl, H'.ent ?_⟩
 have hd := dsk_mk (tD := 56) (tL := 63) (g := g) (S := settleL (fun _ => true) 0 S P) (P := []) (A0 := A0) (c0 := c0) (A1 := none) (c1 := 0) (l := [])
 rw [hsl] at hd
 exact Ent.trans (Ent.cons (Ent.cons ((Ent.nil _).trans (Ent.nil_row _ _)))) hd
end Go.Proofs.YtjlolpmmpafjeaaGreat
