import Derived.Test.YtjlolpmmpafjeaaGreatU15
set_option linter.unusedVariables false
set_option linter.unusedSimpArgs false
namespace Go.Proofs.YtjlolpmmpafjeaaGreat
open CN
variable (D : Nat → Prop) (w : World)
def pT (D : Nat → Prop) (w : World) (S : List BA) (e : Ending) (w' : World) : Prop :=
 (FN S = none ∧ e = .returned (.agg #[.int .i64 0, .int .u32 0, .int .u32 0, .slice none 0 0, .int .i64 0, .int .i64 11]) ∧ AH D w w' []) ∨
 (∃ (x : EO) (n : Nat) (q : Option Addr × Nat), FN S = some (x, n) ∧ e = .returned (.agg #[.int .i64 x.1, .int .u32 x.2.1, .int .u32 x.2.2.1, .slice q.1 x.2.2.2.length q.2, .int .i64 n, .int .i64 0]) ∧ AH D w w' [row q.1 5 1 x.2.2.2.length q.2 (x.2.2.2.map AU)])
abbrev S3 : List Value := [.int .i64 0, .int .u32 0, .int .u32 0, .slice none 0 0, .int .i64 0, .int .i64 11]
theorem KD (v : Value) (B : List UInt8) (lo m N : Nat) (hm : m ≤ 4) (hN : IB ((B.drop lo).take m) = N) (HA : Old D w (AX.rep ((B.drop lo).take m) [v])) :
  Calls Tryz.prog 128 #[v] w fun e w' => e = .returned (.int .u32 (N : Int)) ∧ AH D w w' [] := by
 subst hN
 exact oA D w v _ OK HA
theorem pN (m N : Nat) (hm : m ≤ 4000) (hN : N = (m + 77) / 63) : Calls Tryz.prog 129 #[.int .i64 (m : Int)] w fun e w' => e = .returned (.int .i64 (N : Int)) ∧ AH D w w' [] := by
 have h := lQ D w (m : Int)
 have : JX (m : Int) = (N : Int) := by unfold JX; rw [if_neg AA]; omega
 rw [this] at h
 exact h
theorem UK (x : EO) (v : Value) (W : List BA) (n : Nat) (hW : W = C1 x) (hn : n = W.length) (h : OE x) (HA : Old D w (AX.rep x.2.2.2 [v])) :
  Calls Tryz.prog 126 #[.agg #[.int .i64 x.1, .int .u32 x.2.1, .int .u32 x.2.2.1, v]] w fun e w' => ∃ q : Option Addr × Nat, e = .returned (.tuple #[.slice q.1 n q.2, .int .i64 0]) ∧ AH D w w' [row q.1 61 64 n q.2 (W.flatMap BI)] := by
 subst hn; subst hW
 have hl : (C1 x).length = (15 + x.2.2.2.length + 62) / 63 := by rw [C1, NY, LY]
 rw [hl]
 exact qY D w x.1 x.2.1 x.2.2.1 v x.2.2.2 h.1 h.2.1 h.2.2.1 h.2.2.2 HA
set_option maxHeartbeats 2000000 in
theorem aP (v : Value) (S : List BA) (hS70 : S.length ≤ 100000) (HA : Old D w (AX.rep S [v])) :
  Calls Tryz.prog 91 #[v] w fun e w' => pT D w S e w' := by
 obtain ⟨A, cap, rfl, hA1, hA2, HS, HR⟩ := HA.SY
 rcases hSe : S with _ | ⟨s, r⟩
 ·have hno : FN [] = none := rfl
  refine BZ (vs := [.slice A ([] : List BA).length cap]) Tryz.func91 rfl _ Tryz.ntmps91 rfl (AH.start D w) ?_
  simp only [BX, Nat.zero_add]
  refine zg <| AV (B9) rfl rfl rfl fun b2 =>
   zn <| AG <| ?_
  refine zg <| zm rfl <| zv BN <| ?_
  refine zv (CO rfl rfl) <| zm rfl <| KW (t := 13) rfl (rfl) <| zo rfl rfl <| zo rfl rfl <| zo rfl rfl <| zo rfl rfl <| zo rfl rfl <| zv (BF rfl rfl) <| zn <| DD rfl <| zg <| zv (CH rfl rfl) <| ?_
  refine A6 (CV (vs := S3) rfl rfl (by simp) (by simp) CL) rfl rfl ?_
  refine zn <| zq <| zr <| ?_
  exact IU (.inr rfl) rfl rfl (by simp) fun w' H' => .inl ⟨hno, rfl, H'.AK (AD.nil _)⟩
 rw [← hSe]
 have hl0 : 0 < S.length := by rw [hSe]; simp
 have hA := SB HS (k := 0) hl0
 have hs0 : S[0] = s := by simp only [hSe, List.getElem_cons_zero]
 have h00 := fun l => UA HS (k := 0) (j := 0) hl0 AF l
 rw [hs0] at h00
 have hgl := fE r
 have hrl : S.length = r.length + 1 := by rw [hSe]; rfl
 obtain ⟨K, hKe⟩ : ∃ K, K = 1 + IX r := ⟨_, rfl⟩
 refine BZ (vs := [.slice A S.length cap]) Tryz.func91 rfl _ Tryz.ntmps91 rfl (AH.start D w) ?_
 simp only [BX, Nat.zero_add]
 refine zg <| AV (B9) rfl rfl rfl fun b2 =>
  zn <| AG <| ?_
 refine zg <| zm rfl <| zv BN <| ?_
 refine zv (CO rfl rfl) <| zm rfl <| F0 (t := 13) rfl (AA) ?_
 refine AJ rfl rfl <| zm rfl <| AJ rfl rfl <| zv (NW rfl DP rfl rfl AA) <| AJ rfl rfl <| zv (KL rfl rfl rfl rfl rfl) <| ?_
 refine AJ rfl rfl <| AZ (GB rfl (h00 _)) rfl <| AJ rfl rfl <| zv (CG rfl rfl) <| zv (A8 rfl rfl) <| zn <| BP rfl (fun z => ?_) (fun z => ?_)
 ·have hno : FN S = none := by rw [hSe]; unfold FN; exact if_neg (fun hh => z (by rw [hh.1]; rfl))
  refine zg <| zv (CH rfl rfl) <| ?_
  refine A6 (CV (vs := S3) rfl rfl (by simp) (by simp) CL) rfl rfl ?_
  refine zn <| zq <| zr <| ?_
  exact IU (.inr rfl) rfl rfl (by simp) fun w' H' => .inl ⟨hno, rfl, H'.AK (AD.nil _)⟩
 have hs87 : s[0].toNat = 87 := by omega
 refine zk <| zg <| zs rfl <| AS <| zt <| AG <| zg <| zs rfl <| AS <| zt <| NX (σ := Option Addr × Nat) [0, 2] rfl 3 (fun q => .slice q.1 (63 * K) q.2) (fun q => [row q.1 5 1 (63 * K) q.2 ((GJ (S.take K)).map AU), AI b2 194 [.int .i64 0, .int .u32 0, .int .u32 0, .slice none 0 0, .int .i64 0, .int .i64 0]]) (fun K1 hK1 => ?_) (fun q => ?_)
 ·refine BK <| JA (σ := Nat × Option Addr × Nat) [0, 2] rfl 4 (fun t => .int .i64 (t.1 : Int)) 3 (fun t => .slice t.2.1 (63 * t.1) t.2.2) (fun t => [row t.2.1 5 1 (63 * t.1) t.2.2 ((GJ (S.take t.1)).map AU), AI b2 194 [.int .i64 0, .int .u32 0, .int .u32 0, .slice none 0 0, .int .i64 0, .int .i64 0]]) (fun t => t.1 ≤ S.length ∧ t.1 ≤ K) (fun t => S.length - t.1) ((0, none, 0)) (⟨Nat.zero_le _, Nat.zero_le _⟩) rfl rfl (AD.trans (AD.EB 5 1) Z8) ?_
  rintro ⟨k, q⟩ hj_ K2 hK2
  dsimp only at hj_ ⊢
  obtain ⟨hk1, hk2⟩ := hj_
  refine AG <| zg <| zm rfl <| zm rfl <| zv BN <| ?_
  refine zv (B7 rfl rfl) <| zm rfl <| DB (t := 25) rfl (fun c1 => ?_) (fun c1 => ?_)
  ·have hk : k < S.length := by omega
   have hsrc : ∀ l', BB D w l' (some ⟨ab A, ao A + k * 64 + 1 * 1, none⟩) ((S[k].toList.drop 1).map AU) := fun l' => by
    have ho := X9 HR (i := k) (lo := 1) (m := 63) (cap := 63) hk AF AF AF AF (A' := some ⟨ab A, ao A + k * 64 + 1, none⟩) rfl
    rw [List.take_of_length_le (by simp)] at ho
    obtain ⟨B, cb, he, _, _, hB⟩ := ho.IG
    injection he with e1 _ _
    rw [← e1] at hB
    exact BB.old hB
   have hsn : GJ (S.take (k + 1)) = GJ (S.take k) ++ S[k].toList.drop 1 := by
    rw [List.take_succ_eq_append_getElem hk]; unfold GJ; rw [List.flatMap_append, List.flatMap_singleton]
   refine AJ rfl rfl <| zm rfl <| AJ rfl rfl <| zv (CO rfl rfl) <| AJ rfl rfl <| zm rfl <| DB (t := 28) rfl (fun c2 => ?_) (fun c2 => ?_)
   ·have hg1 : k + 1 ≤ K := by omega
    refine zo rfl rfl <| zo rfl rfl <| zo rfl rfl <| zo rfl rfl <| zo rfl rfl <| zo rfl rfl <| AJ rfl rfl <| zv (BF rfl rfl) <| zv (BF rfl rfl) <| zn <| DD rfl <| C3 <| zt <| AG <| BK <| AR <| zm rfl <| zm rfl <| zm rfl <| AZ (CZ rfl hA rfl k rfl hk) rfl <| AZ (NA rfl 1 64 (.inr ⟨_, _, rfl, rfl⟩) (.inl ⟨rfl, rfl⟩) AF AF AF) rfl ?_
    refine AV (BT (A := q.1) (news := (S[k].toList.drop 1).map AU) rfl rfl (hsrc _) (by simp) (EL _) AF AA) rfl rfl rfl (fun q2 => ?_)
    rw [show (GJ (S.take k)).map AU ++ (S[k].toList.drop 1).map AU = (GJ (S.take (k + 1))).map AU by rw [hsn, List.map_append], show 63 * k + (64 - 1) = 63 * (k + 1) by omega]
    refine zs rfl <| AS <| zb <| zt <| AR <| zm rfl <| zv (BM rfl rfl BO) <| ?_
    refine zs rfl <| AS <| B5 hK2 ((k + 1, q2)) (⟨by show k + 1 ≤ _; omega, hg1⟩) AA BD BL
   have hkr : k - 1 < r.length := by omega
   have hSk : S[k] = r[k - 1] := by
    have : S[k]? = some r[k - 1] := by rw [hSe, List.getElem?_cons, if_neg AA, List.getElem?_eq_getElem hkr]
    rw [List.getElem?_eq_getElem hk] at this
    simpa using this
   refine AJ rfl rfl <| zm rfl <| AJ rfl rfl <| zm rfl <| AJ rfl rfl <| AZ (CZ rfl hA rfl k rfl hk) rfl <| AJ rfl rfl <| zv (KL rfl rfl rfl rfl rfl) <| AJ rfl rfl <| AZ (GB rfl (UA HS (k := k) (j := 0) hk AF _)) rfl ?_
   refine AJ rfl rfl <| zv (CO rfl rfl) <| AJ rfl rfl <| zv (A8 rfl rfl) <| zv (BF rfl rfl) <| zn <| BP rfl (fun c3 => ?_) (fun c3 => ?_)
   ·have hg1 : k + 1 ≤ K := by
     rcases Nat.lt_or_ge k K with h | h
     ·omega
     ·exfalso
      have he : k - 1 = IX r := by omega
      have hst := bM r AA
      apply hst
      have : r[k - 1][0] = 119 := by rw [← hSk]; exact UInt8.toNat_inj.1 (show (S[k])[0].toNat = 119 by omega)
      simp only [he] at this
      exact this
    refine zk <| AG <| BK <| AR <| zm rfl <| zm rfl <| zm rfl <| AZ (CZ rfl hA rfl k rfl hk) rfl <| AZ (NA rfl 1 64 (.inr ⟨_, _, rfl, rfl⟩) (.inl ⟨rfl, rfl⟩) AF AF AF) rfl ?_
    refine AV (BT (A := q.1) (news := (S[k].toList.drop 1).map AU) rfl rfl (hsrc _) (by simp) (EL _) AF AA) rfl rfl rfl (fun q2 => ?_)
    rw [show (GJ (S.take k)).map AU ++ (S[k].toList.drop 1).map AU = (GJ (S.take (k + 1))).map AU by rw [hsn, List.map_append], show 63 * k + (64 - 1) = 63 * (k + 1) by omega]
    refine zs rfl <| AS <| zb <| zt <| AR <| zm rfl <| zv (BM rfl rfl BO) <| ?_
    refine zs rfl <| AS <| B5 hK2 ((k + 1, q2)) (⟨by show k + 1 ≤ _; omega, hg1⟩) AA BD BL
   have hm : k = K := by
    rcases Nat.lt_or_ge k K with h | h
    ·exfalso
     apply c3
     rw [hSk, dH r (k - 1) hkr AA]; rfl
    ·omega
   subst hm
   refine CF <| ze <| ze <| CE <| DF hK1 (q) BD BL
  have hm : k = K := by omega
  subst hm
  refine zo rfl rfl <| zo rfl rfl <| zo rfl rfl <| KN rfl rfl rfl rfl rfl <| KN rfl rfl rfl rfl rfl <| KN rfl rfl rfl rfl rfl <| ?_
  refine KN rfl rfl rfl rfl rfl <| KN rfl rfl rfl rfl rfl <| KN rfl rfl rfl rfl rfl <| zo rfl rfl <| zv (A8 rfl rfl) <| AS <| ?_
  refine zt <| EU rfl <| CF <| ze <| ze <| CE <| DF hK1 (q) BD BL
 obtain ⟨B, hB⟩ : ∃ B, B = GJ (S.take K) := ⟨_, rfl⟩
 have hBl : B.length = 63 * K := by rw [hB, VS, List.length_take, Nat.min_eq_left AA]
 have hhead : ∀ lo m, lo + m ≤ 63 → (B.drop lo).take m = (s.toList.drop (lo + 1)).take m := fun lo m h => by
  rw [hB, hSe]; exact l5 s r K lo m AA h
 obtain ⟨size, hsz⟩ : ∃ m, EW s 10 2 = m := ⟨_, rfl⟩
 obtain ⟨a, hna'⟩ : ∃ m, EW s 2 4 = m := ⟨_, rfl⟩
 obtain ⟨b, hnb'⟩ : ∃ m, EW s 6 4 = m := ⟨_, rfl⟩
 obtain ⟨kk, hkk⟩ : ∃ m, m = s[1].toNat := ⟨_, rfl⟩
 have hsz9 : IB ((B.drop 9).take 2) = size := by rw [hhead 9 2 AF]; exact hsz
 have hna : IB ((B.drop 1).take 4) = a := by rw [hhead 1 4 AF]; exact hna'
 have hnb : IB ((B.drop 5).take 4) = b := by rw [hhead 5 4 AF]; exact hnb'
 have hb10 := aE s 10 AF
 have hb2 := R8 s 2 AF
 have hb6 := R8 s 6 AF
 have hk1 := s[1].toNat_lt
 rw [hsz] at hb10
 rw [hna'] at hb2
 rw [hnb'] at hb6
 rw [← hkk] at hk1
 have hdec : FN S = if s[0].toNat = 87 ∧ DG size ≠ 0 ∧ DG size ≤ S.length ∧ C1 (IP S s) = S.take (DG size) then some (IP S s, DG size) else none := by
  rw [← hsz, hSe]; rfl
 rw [← hB]
 refine zt <| HC.fact (fun w H => AH.GS q.1 H) ?_
 rintro ⟨hrl, hnc, hcc, hA1⟩
 have hA1 : CU q.1 := hA1 (by intro h; have := congrArg List.length h; simp [hBl] at this; omega)
 have hB0 : (B.map AU)[0]? = some (.int .u8 (kk : Int)) := by
  have h1 : (B.drop 0).take 1 = (s.toList.drop 1).take 1 := hhead 0 1 AF
  have h2 : B[0]? = some s[1] := by
   have := congrArg (fun l => l[0]?) h1
   simp only [List.drop_zero] at this
   rw [List.getElem?_take_of_lt AF, List.getElem?_take_of_lt AF, List.getElem?_drop] at this
   rw [this, Vector.getElem?_toList, Vector.getElem?_eq_getElem AF]
  rw [List.getElem?_map, h2, hkk]; rfl
 refine zg <| zm rfl <| zv (FE rfl 9 11 (.inr ⟨_, _, rfl, rfl⟩) (.inr ⟨_, _, rfl, rfl⟩) AA AA) <| ?_
 refine B2 Tryz.call128 rfl rfl (fun w1 => D6 fun D' _ hin _ => KD D' w1 _ B 9 2 size AF hsz9 (hin _ fun h hs ho => I4 (C7 (A := q.1) hs B hBl.symm (DQ.2 rfl)) 9 11 AF AA)) ?_
 refine zv (CD rfl BO) <| ?_
 refine zs rfl <| zn <| AG <| zg <| zm rfl <| zv (DV rfl rfl) <| zm rfl <| DB (t := 51) rfl (fun hgt => ?_) (fun hgt => ?_)
 ·have hno : FN S = none := by rw [hdec, if_neg]; rintro ⟨_, h, _⟩; apply h; unfold DG; rw [if_pos AA]
  refine zo rfl rfl <| zo rfl rfl <| zo rfl rfl <| zo rfl rfl <| zo rfl rfl <| zo rfl rfl <| zv (BF rfl rfl) <| zn <| DD rfl <| zg <| zv (CH rfl rfl) <| ?_
  refine A6 (CV (vs := S3) rfl rfl (by simp) (by simp) CL) rfl rfl ?_
  refine zn <| zq <| zr <| ?_
  exact IU (.inr rfl) rfl rfl (by simp) fun w' H' => .inl ⟨hno, rfl, H'.AK (AD.nil _)⟩
 obtain ⟨n, hn⟩ : ∃ n, n = (size + 77) / 63 := ⟨_, rfl⟩
 have hnM : DG size = n := by unfold DG; rw [if_neg AA, hn]
 rw [hnM] at hdec
 refine AJ rfl rfl <| zm rfl <| AJ rfl rfl <| zv BN <| ?_
 refine AJ rfl rfl <| zm rfl <| AJ rfl rfl <| B2 Tryz.call129 rfl rfl (fun w1 => D6 fun D' _ _ _ => pN D' w1 size n AA hn) ?_
 refine AJ rfl rfl <| zv (P8 rfl rfl BO) <| ?_
 refine AJ rfl rfl <| zv (B7 rfl rfl) <| zv (A8 rfl rfl) <| zn <| BP rfl (fun hshort => ?_) (fun hshort => ?_)
 ·have hno : FN S = none := by
   rw [hdec, if_neg]
   rintro ⟨_, h1, h2, h3⟩
   have := pW (s := s) (r := r) (x := IP S s) (n := n) AA (by rw [← hSe]; exact h2) (by rw [← hSe]; exact h3)
   omega
  refine zg <| zv (CH rfl rfl) <| ?_
  refine A6 (CV (vs := S3) rfl rfl (by simp) (by simp) CL) rfl rfl ?_
  refine zn <| zq <| zr <| ?_
  exact IU (.inr rfl) rfl rfl (by simp) fun w' H' => .inl ⟨hno, rfl, H'.AK (AD.nil _)⟩
 have hnK : n ≤ K := by omega
 have hnS : n ≤ S.length := by omega
 obtain ⟨X, hX⟩ : ∃ X, X = (B.drop 11).take size := ⟨_, rfl⟩
 have hXl : X.length = size := by rw [hX, List.length_take, List.length_drop]; omega
 have hXu : X.map AU = ((B.map AU).drop (11 * 1)).take (size * 1) := by rw [hX, Nat.mul_one, Nat.mul_one, List.map_take, List.map_drop]
 have hcand : IP S s = (kk, a, b, X) := by
  unfold IP
  rw [hsz, hna', hnb', hnM, ← hkk]
  have : ((GJ (S.take n)).drop 11).take size = X := by
   rw [nS S K n hnK AA, ← hB, hX, List.drop_take, List.take_take, Nat.min_eq_left AA]
  rw [this]
 rw [hcand] at hdec
 refine zk <| AG <| NX (σ := Nat × Option Addr × Nat) [0, 2] rfl 6 (fun t => .pointer (some ⟨t.1, 0, none⟩)) (fun t => [AI t.1 192 [.int .i64 (kk : Int), .int .u32 (a : Int), .int .u32 (b : Int), .slice t.2.1 size t.2.2], row t.2.1 5 1 size t.2.2 (X.map AU), AI b2 194 [.int .i64 0, .int .u32 0, .int .u32 0, .slice none 0 0, .int .i64 0, .int .i64 0]]) (fun K3 hK3 => ?_) (fun t => ?_)
 ·refine EF [row q.1 5 1 (63 * K) q.2 (B.map AU)] mixed 19 rfl ?_
  have hc0 : EH D w [row q.1 5 1 (63 * K) q.2 (B.map AU)] (ab q.1) (ao q.1 + 0 * 1) (.int .u8 (kk : Int)) := EH.row (A := q.1) (i := 0) hA1 hB0
  refine AE 0 rfl (AO rfl) rfl <| AE 1 rfl (NW rfl DP rfl rfl AA) rfl <| ?_
  refine AE 2 rfl Z9 rfl <| ?_
  refine AE 3 rfl (CD rfl BO) rfl <| ?_
  refine AE 4 rfl (AO rfl) rfl <| AE 5 rfl (FE rfl 1 5 (.inr ⟨_, _, rfl, rfl⟩) (.inr ⟨_, _, rfl, rfl⟩) AA AA) rfl <| ?_
  refine AE 7 rfl (AO rfl) rfl <| AE 8 rfl (FE rfl 5 9 (.inr ⟨_, _, rfl, rfl⟩) (.inr ⟨_, _, rfl, rfl⟩) AA AA) rfl <| ?_
  refine AE 11 rfl (AO rfl) rfl <| AE 12 rfl (AO rfl) rfl <| AE 13 rfl (BM (m := ((11 + size : Nat) : Int)) rfl rfl ((wrap_i64 AA).trans AA)) rfl ?_
  refine AE 14 rfl (FE rfl 11 (11 + size) (.inr ⟨_, _, rfl, rfl⟩) (.inr ⟨_, _, rfl, rfl⟩) AA AA) rfl ?_
  refine PM 6 10 17 AB ?_ ?_ ?_
  ·skip
   refine CY rfl Tryz.call128 rfl (fun w1 => D6 fun D' _ hin _ => KD D' w1 _ B 1 4 a AF hna (hin _ fun h hs ho => I4 (C7 (A := q.1) hs B hBl.symm (DQ.2 rfl)) 1 5 AF AA)) ?_
   refine PM 9 10 17 AB ?_ ?_ ?_
   ·skip
    refine CY rfl Tryz.call128 rfl (fun w1 => D6 fun D' _ hin _ => KD D' w1 _ B 5 4 b AF hnb (hin _ fun h hs ho => I4 (C7 (A := q.1) hs B hBl.symm (DQ.2 rfl)) 5 9 AF AA)) ?_
    refine DE 10 17 AB ?_ ?_
    ·skip
     refine BC rfl (BS rfl rfl rfl) rfl (fun b70 => ?_)
     refine N5 (AD.FQ (b := b70) 1 0 rfl AF) ?_
     refine DE 15 17 AB ?_ ?_
     ·skip
      refine BC rfl (BT (A := some ⟨b70, 0, none⟩) (news := X.map AU) rfl rfl (BB.HJ (A := q.1) hA1 11 size AA hrl hnc hXu) LH (EL _) AF AA) rfl (fun qx => ?_)
      simp only [Nat.zero_add, List.nil_append, Nat.add_sub_cancel_left]
      refine AE 16 rfl (CH rfl rfl) rfl <| ?_
      refine AL 17 AB <| BC rfl (B9) rfl (fun b6 => ?_)
      refine AL 18 AB <| CB rfl (CV (vs := [.int .i64 (kk : Int), .int .u32 (a : Int), .int .u32 (b : Int), .slice qx.1 size qx.2]) rfl rfl (by simp) (by simp) CL) rfl ?_
      refine BY AB <| ?_
      refine DF hK3 ((b6, qx)) BD BL
     skip
     refine BC rfl (B9) rfl (fun b6 => ?_)
     refine AL 15 AB <| BC rfl (BT (A := some ⟨b70, 0, none⟩) (news := X.map AU) rfl rfl (BB.HJ (A := q.1) hA1 11 size AA hrl hnc hXu) LH (EL _) AF AA) rfl (fun qx => ?_)
     simp only [Nat.zero_add, List.nil_append, Nat.add_sub_cancel_left]
     refine AE 16 rfl (CH rfl rfl) rfl <| ?_
     refine AL 18 AB <| CB rfl (CV (vs := [.int .i64 (kk : Int), .int .u32 (a : Int), .int .u32 (b : Int), .slice qx.1 size qx.2]) rfl rfl (by simp) (by simp) CL) rfl ?_
     refine BY AB <| ?_
     refine DF hK3 ((b6, qx)) BD BL
    skip
    refine BC rfl (B9) rfl (fun b6 => ?_)
    refine AL 10 AB <| BC rfl (BS rfl rfl rfl) rfl (fun b70 => ?_)
    refine N5 (AD.FQ (b := b70) 1 0 rfl AF) ?_
    refine AL 15 AB <| BC rfl (BT (A := some ⟨b70, 0, none⟩) (news := X.map AU) rfl rfl (BB.HJ (A := q.1) hA1 11 size AA hrl hnc hXu) LH (EL _) AF AA) rfl (fun qx => ?_)
    simp only [Nat.zero_add, List.nil_append, Nat.add_sub_cancel_left]
    refine AE 16 rfl (CH rfl rfl) rfl <| ?_
    refine AL 18 AB <| CB rfl (CV (vs := [.int .i64 (kk : Int), .int .u32 (a : Int), .int .u32 (b : Int), .slice qx.1 size qx.2]) rfl rfl (by simp) (by simp) CL) rfl ?_
    refine BY AB <| ?_
    refine DF hK3 ((b6, qx)) BD BL
   ·skip
    refine BC rfl (BS rfl rfl rfl) rfl (fun b70 => ?_)
    refine N5 (AD.FQ (b := b70) 1 0 rfl AF) ?_
    refine DE 9 17 AB ?_ ?_
    ·skip
     refine CY rfl Tryz.call128 rfl (fun w1 => D6 fun D' _ hin _ => KD D' w1 _ B 5 4 b AF hnb (hin _ fun h hs ho => I4 (C7 (A := q.1) hs B hBl.symm (DQ.2 rfl)) 5 9 AF AA)) ?_
     refine DE 15 17 AB ?_ ?_
     ·skip
      refine BC rfl (BT (A := some ⟨b70, 0, none⟩) (news := X.map AU) rfl rfl (BB.HJ (A := q.1) hA1 11 size AA hrl hnc hXu) LH (EL _) AF AA) rfl (fun qx => ?_)
      simp only [Nat.zero_add, List.nil_append, Nat.add_sub_cancel_left]
      refine AE 16 rfl (CH rfl rfl) rfl <| ?_
      refine AL 17 AB <| BC rfl (B9) rfl (fun b6 => ?_)
      refine AL 18 AB <| CB rfl (CV (vs := [.int .i64 (kk : Int), .int .u32 (a : Int), .int .u32 (b : Int), .slice qx.1 size qx.2]) rfl rfl (by simp) (by simp) CL) rfl ?_
      refine BY AB <| ?_
      refine DF hK3 ((b6, qx)) BD BL
     skip
     refine BC rfl (B9) rfl (fun b6 => ?_)
     refine AL 15 AB <| BC rfl (BT (A := some ⟨b70, 0, none⟩) (news := X.map AU) rfl rfl (BB.HJ (A := q.1) hA1 11 size AA hrl hnc hXu) LH (EL _) AF AA) rfl (fun qx => ?_)
     simp only [Nat.zero_add, List.nil_append, Nat.add_sub_cancel_left]
     refine AE 16 rfl (CH rfl rfl) rfl <| ?_
     refine AL 18 AB <| CB rfl (CV (vs := [.int .i64 (kk : Int), .int .u32 (a : Int), .int .u32 (b : Int), .slice qx.1 size qx.2]) rfl rfl (by simp) (by simp) CL) rfl ?_
     refine BY AB <| ?_
     refine DF hK3 ((b6, qx)) BD BL
    skip
    refine BC rfl (B9) rfl (fun b6 => ?_)
    refine AL 9 AB <| CY rfl Tryz.call128 rfl (fun w1 => D6 fun D' _ hin _ => KD D' w1 _ B 5 4 b AF hnb (hin _ fun h hs ho => I4 (C7 (A := q.1) hs B hBl.symm (DQ.2 rfl)) 5 9 AF AA)) ?_
    refine AL 15 AB <| BC rfl (BT (A := some ⟨b70, 0, none⟩) (news := X.map AU) rfl rfl (BB.HJ (A := q.1) hA1 11 size AA hrl hnc hXu) LH (EL _) AF AA) rfl (fun qx => ?_)
    simp only [Nat.zero_add, List.nil_append, Nat.add_sub_cancel_left]
    refine AE 16 rfl (CH rfl rfl) rfl <| ?_
    refine AL 18 AB <| CB rfl (CV (vs := [.int .i64 (kk : Int), .int .u32 (a : Int), .int .u32 (b : Int), .slice qx.1 size qx.2]) rfl rfl (by simp) (by simp) CL) rfl ?_
    refine BY AB <| ?_
    refine DF hK3 ((b6, qx)) BD BL
   skip
   refine BC rfl (B9) rfl (fun b6 => ?_)
   refine DE 9 10 AB ?_ ?_
   ·skip
    refine CY rfl Tryz.call128 rfl (fun w1 => D6 fun D' _ hin _ => KD D' w1 _ B 5 4 b AF hnb (hin _ fun h hs ho => I4 (C7 (A := q.1) hs B hBl.symm (DQ.2 rfl)) 5 9 AF AA)) ?_
    refine AL 10 AB <| BC rfl (BS rfl rfl rfl) rfl (fun b70 => ?_)
    refine N5 (AD.FQ (b := b70) 1 0 rfl AF) ?_
    refine AL 15 AB <| BC rfl (BT (A := some ⟨b70, 0, none⟩) (news := X.map AU) rfl rfl (BB.HJ (A := q.1) hA1 11 size AA hrl hnc hXu) LH (EL _) AF AA) rfl (fun qx => ?_)
    simp only [Nat.zero_add, List.nil_append, Nat.add_sub_cancel_left]
    refine AE 16 rfl (CH rfl rfl) rfl <| ?_
    refine AL 18 AB <| CB rfl (CV (vs := [.int .i64 (kk : Int), .int .u32 (a : Int), .int .u32 (b : Int), .slice qx.1 size qx.2]) rfl rfl (by simp) (by simp) CL) rfl ?_
    refine BY AB <| ?_
    refine DF hK3 ((b6, qx)) BD BL
   skip
   refine BC rfl (BS rfl rfl rfl) rfl (fun b70 => ?_)
   refine N5 (AD.FQ (b := b70) 1 0 rfl AF) ?_
   refine AL 9 AB <| CY rfl Tryz.call128 rfl (fun w1 => D6 fun D' _ hin _ => KD D' w1 _ B 5 4 b AF hnb (hin _ fun h hs ho => I4 (C7 (A := q.1) hs B hBl.symm (DQ.2 rfl)) 5 9 AF AA)) ?_
   refine AL 15 AB <| BC rfl (BT (A := some ⟨b70, 0, none⟩) (news := X.map AU) rfl rfl (BB.HJ (A := q.1) hA1 11 size AA hrl hnc hXu) LH (EL _) AF AA) rfl (fun qx => ?_)
   simp only [Nat.zero_add, List.nil_append, Nat.add_sub_cancel_left]
   refine AE 16 rfl (CH rfl rfl) rfl <| ?_
   refine AL 18 AB <| CB rfl (CV (vs := [.int .i64 (kk : Int), .int .u32 (a : Int), .int .u32 (b : Int), .slice qx.1 size qx.2]) rfl rfl (by simp) (by simp) CL) rfl ?_
   refine BY AB <| ?_
   refine DF hK3 ((b6, qx)) BD BL
  ·skip
   refine BC rfl (BS rfl rfl rfl) rfl (fun b70 => ?_)
   refine N5 (AD.FQ (b := b70) 1 0 rfl AF) ?_
   refine DE 6 17 AB ?_ ?_
   ·skip
    refine CY rfl Tryz.call128 rfl (fun w1 => D6 fun D' _ hin _ => KD D' w1 _ B 1 4 a AF hna (hin _ fun h hs ho => I4 (C7 (A := q.1) hs B hBl.symm (DQ.2 rfl)) 1 5 AF AA)) ?_
    refine DE 9 17 AB ?_ ?_
    ·skip
     refine CY rfl Tryz.call128 rfl (fun w1 => D6 fun D' _ hin _ => KD D' w1 _ B 5 4 b AF hnb (hin _ fun h hs ho => I4 (C7 (A := q.1) hs B hBl.symm (DQ.2 rfl)) 5 9 AF AA)) ?_
     refine DE 15 17 AB ?_ ?_
     ·skip
      refine BC rfl (BT (A := some ⟨b70, 0, none⟩) (news := X.map AU) rfl rfl (BB.HJ (A := q.1) hA1 11 size AA hrl hnc hXu) LH (EL _) AF AA) rfl (fun qx => ?_)
      simp only [Nat.zero_add, List.nil_append, Nat.add_sub_cancel_left]
      refine AE 16 rfl (CH rfl rfl) rfl <| ?_
      refine AL 17 AB <| BC rfl (B9) rfl (fun b6 => ?_)
      refine AL 18 AB <| CB rfl (CV (vs := [.int .i64 (kk : Int), .int .u32 (a : Int), .int .u32 (b : Int), .slice qx.1 size qx.2]) rfl rfl (by simp) (by simp) CL) rfl ?_
      refine BY AB <| ?_
      refine DF hK3 ((b6, qx)) BD BL
     skip
     refine BC rfl (B9) rfl (fun b6 => ?_)
     refine AL 15 AB <| BC rfl (BT (A := some ⟨b70, 0, none⟩) (news := X.map AU) rfl rfl (BB.HJ (A := q.1) hA1 11 size AA hrl hnc hXu) LH (EL _) AF AA) rfl (fun qx => ?_)
     simp only [Nat.zero_add, List.nil_append, Nat.add_sub_cancel_left]
     refine AE 16 rfl (CH rfl rfl) rfl <| ?_
     refine AL 18 AB <| CB rfl (CV (vs := [.int .i64 (kk : Int), .int .u32 (a : Int), .int .u32 (b : Int), .slice qx.1 size qx.2]) rfl rfl (by simp) (by simp) CL) rfl ?_
     refine BY AB <| ?_
     refine DF hK3 ((b6, qx)) BD BL
    skip
    refine BC rfl (B9) rfl (fun b6 => ?_)
    refine AL 9 AB <| CY rfl Tryz.call128 rfl (fun w1 => D6 fun D' _ hin _ => KD D' w1 _ B 5 4 b AF hnb (hin _ fun h hs ho => I4 (C7 (A := q.1) hs B hBl.symm (DQ.2 rfl)) 5 9 AF AA)) ?_
    refine AL 15 AB <| BC rfl (BT (A := some ⟨b70, 0, none⟩) (news := X.map AU) rfl rfl (BB.HJ (A := q.1) hA1 11 size AA hrl hnc hXu) LH (EL _) AF AA) rfl (fun qx => ?_)
    simp only [Nat.zero_add, List.nil_append, Nat.add_sub_cancel_left]
    refine AE 16 rfl (CH rfl rfl) rfl <| ?_
    refine AL 18 AB <| CB rfl (CV (vs := [.int .i64 (kk : Int), .int .u32 (a : Int), .int .u32 (b : Int), .slice qx.1 size qx.2]) rfl rfl (by simp) (by simp) CL) rfl ?_
    refine BY AB <| ?_
    refine DF hK3 ((b6, qx)) BD BL
   skip
   refine BC rfl (B9) rfl (fun b6 => ?_)
   refine AL 6 AB <| CY rfl Tryz.call128 rfl (fun w1 => D6 fun D' _ hin _ => KD D' w1 _ B 1 4 a AF hna (hin _ fun h hs ho => I4 (C7 (A := q.1) hs B hBl.symm (DQ.2 rfl)) 1 5 AF AA)) ?_
   refine AL 9 AB <| CY rfl Tryz.call128 rfl (fun w1 => D6 fun D' _ hin _ => KD D' w1 _ B 5 4 b AF hnb (hin _ fun h hs ho => I4 (C7 (A := q.1) hs B hBl.symm (DQ.2 rfl)) 5 9 AF AA)) ?_
   refine AL 15 AB <| BC rfl (BT (A := some ⟨b70, 0, none⟩) (news := X.map AU) rfl rfl (BB.HJ (A := q.1) hA1 11 size AA hrl hnc hXu) LH (EL _) AF AA) rfl (fun qx => ?_)
   simp only [Nat.zero_add, List.nil_append, Nat.add_sub_cancel_left]
   refine AE 16 rfl (CH rfl rfl) rfl <| ?_
   refine AL 18 AB <| CB rfl (CV (vs := [.int .i64 (kk : Int), .int .u32 (a : Int), .int .u32 (b : Int), .slice qx.1 size qx.2]) rfl rfl (by simp) (by simp) CL) rfl ?_
   refine BY AB <| ?_
   refine DF hK3 ((b6, qx)) BD BL
  skip
  refine BC rfl (B9) rfl (fun b6 => ?_)
  refine DE 6 10 AB ?_ ?_
  ·skip
   refine CY rfl Tryz.call128 rfl (fun w1 => D6 fun D' _ hin _ => KD D' w1 _ B 1 4 a AF hna (hin _ fun h hs ho => I4 (C7 (A := q.1) hs B hBl.symm (DQ.2 rfl)) 1 5 AF AA)) ?_
   refine DE 9 10 AB ?_ ?_
   ·skip
    refine CY rfl Tryz.call128 rfl (fun w1 => D6 fun D' _ hin _ => KD D' w1 _ B 5 4 b AF hnb (hin _ fun h hs ho => I4 (C7 (A := q.1) hs B hBl.symm (DQ.2 rfl)) 5 9 AF AA)) ?_
    refine AL 10 AB <| BC rfl (BS rfl rfl rfl) rfl (fun b70 => ?_)
    refine N5 (AD.FQ (b := b70) 1 0 rfl AF) ?_
    refine AL 15 AB <| BC rfl (BT (A := some ⟨b70, 0, none⟩) (news := X.map AU) rfl rfl (BB.HJ (A := q.1) hA1 11 size AA hrl hnc hXu) LH (EL _) AF AA) rfl (fun qx => ?_)
    simp only [Nat.zero_add, List.nil_append, Nat.add_sub_cancel_left]
    refine AE 16 rfl (CH rfl rfl) rfl <| ?_
    refine AL 18 AB <| CB rfl (CV (vs := [.int .i64 (kk : Int), .int .u32 (a : Int), .int .u32 (b : Int), .slice qx.1 size qx.2]) rfl rfl (by simp) (by simp) CL) rfl ?_
    refine BY AB <| ?_
    refine DF hK3 ((b6, qx)) BD BL
   skip
   refine BC rfl (BS rfl rfl rfl) rfl (fun b70 => ?_)
   refine N5 (AD.FQ (b := b70) 1 0 rfl AF) ?_
   refine AL 9 AB <| CY rfl Tryz.call128 rfl (fun w1 => D6 fun D' _ hin _ => KD D' w1 _ B 5 4 b AF hnb (hin _ fun h hs ho => I4 (C7 (A := q.1) hs B hBl.symm (DQ.2 rfl)) 5 9 AF AA)) ?_
   refine AL 15 AB <| BC rfl (BT (A := some ⟨b70, 0, none⟩) (news := X.map AU) rfl rfl (BB.HJ (A := q.1) hA1 11 size AA hrl hnc hXu) LH (EL _) AF AA) rfl (fun qx => ?_)
   simp only [Nat.zero_add, List.nil_append, Nat.add_sub_cancel_left]
   refine AE 16 rfl (CH rfl rfl) rfl <| ?_
   refine AL 18 AB <| CB rfl (CV (vs := [.int .i64 (kk : Int), .int .u32 (a : Int), .int .u32 (b : Int), .slice qx.1 size qx.2]) rfl rfl (by simp) (by simp) CL) rfl ?_
   refine BY AB <| ?_
   refine DF hK3 ((b6, qx)) BD BL
  skip
  refine BC rfl (BS rfl rfl rfl) rfl (fun b70 => ?_)
  refine N5 (AD.FQ (b := b70) 1 0 rfl AF) ?_
  refine AL 6 AB <| CY rfl Tryz.call128 rfl (fun w1 => D6 fun D' _ hin _ => KD D' w1 _ B 1 4 a AF hna (hin _ fun h hs ho => I4 (C7 (A := q.1) hs B hBl.symm (DQ.2 rfl)) 1 5 AF AA)) ?_
  refine AL 9 AB <| CY rfl Tryz.call128 rfl (fun w1 => D6 fun D' _ hin _ => KD D' w1 _ B 5 4 b AF hnb (hin _ fun h hs ho => I4 (C7 (A := q.1) hs B hBl.symm (DQ.2 rfl)) 5 9 AF AA)) ?_
  refine AL 15 AB <| BC rfl (BT (A := some ⟨b70, 0, none⟩) (news := X.map AU) rfl rfl (BB.HJ (A := q.1) hA1 11 size AA hrl hnc hXu) LH (EL _) AF AA) rfl (fun qx => ?_)
  simp only [Nat.zero_add, List.nil_append, Nat.add_sub_cancel_left]
  refine AE 16 rfl (CH rfl rfl) rfl <| ?_
  refine AL 18 AB <| CB rfl (CV (vs := [.int .i64 (kk : Int), .int .u32 (a : Int), .int .u32 (b : Int), .slice qx.1 size qx.2]) rfl rfl (by simp) (by simp) CL) rfl ?_
  refine BY AB <| ?_
  refine DF hK3 ((b6, qx)) BD BL
 obtain ⟨b6, qx⟩ := t
 dsimp only
 obtain ⟨W, hW⟩ : ∃ W, W = C1 (kk, a, b, X) := ⟨_, rfl⟩
 rw [← hW] at hdec
 have hWl : W.length = n := by rw [hW, C1, NY, LY, hXl]; omega
 refine zt <| zg <| zv DY <| ?_
 refine CQ (σ := Option Addr × Nat) Tryz.call126 rfl rfl (fun w1 => zu fun D' _ hin _ => UK D' w1 (kk, a, b, X) _ W n hW hWl.symm ⟨by show kk < 256; omega, hb2, hb6, by show X.length ≤ 4000; omega⟩ (hin _ fun h hs ho => C7 (A := qx.1) hs X hXl.symm (DQ.2 rfl))) ?_
 intro qw
 try rw [List.nil_append]
 refine HL.fact (fun w H => AH.GS qw.1 H) ?_
 rintro ⟨_, _, _, hAw⟩
 have hAw : CU qw.1 := hAw (by intro h; have := congrArg List.length h; rw [FU DU, hWl] at this; simp only [List.length_nil] at this; omega)
 refine zm rfl <| zx rfl rfl <| zx rfl rfl <| zs rfl <| zs rfl <| AS <| zt <| AG <| zg <| zs rfl <| AS <| zt <| BK <| JP (σ := Nat) [0, 2, 6, 7] rfl 9 (fun i => .int .i64 (i : Int)) (fun i => i ≤ n ∧ W.take i = S.take i) (fun i => n - i) (0) (⟨Nat.zero_le _, rfl⟩) rfl ?_
 rintro i ⟨hi, heq⟩ K4 hK4
 refine AG <| zg <| zm rfl <| zm rfl <| zv BN <| ?_
 refine zv (B7 rfl rfl) <| zn <| BP rfl (fun hlt => ?_) (fun hlt => ?_)
 ·have hin2 : i < n := by omega
  have hiW : i < W.length := by omega
  have hiS : i < S.length := by omega
  refine zk <| AG <| BK <| AG <| GM mixed AB <| ?_
  refine AM (AO rfl) rfl <| AM (AO rfl) rfl <| ?_
  refine AM (CZ rfl hAw rfl i rfl hin2) rfl ?_
  refine AM (D4 (cs := BI W[i]) rfl (DU _) (DZ.flat (f := BI) (A := qw.1) DU hAw (i := i) hiW)) rfl ?_
  refine AM (AO rfl) rfl <| AM (AO rfl) rfl <| ?_
  refine AM (CZ rfl hA rfl i rfl hiS) rfl ?_
  refine AM (D4 (cs := BI S[i]) rfl (DU _) (PG HS hiS _)) rfl ?_
  refine AM (WH (s := W[i]) (t := S[i]) rfl rfl) rfl ?_
  refine EM <| zt <| ?_
  refine BP rfl (fun hne => ?_) (fun hne => ?_)
  ·have hno : FN S = none := by
    rw [hdec, if_neg]
    rintro ⟨_, _, _, h⟩
    apply hne
    have : W[i]? = S[i]? := by rw [h, List.getElem?_take_of_lt hin2]
    rw [List.getElem?_eq_getElem hiW, List.getElem?_eq_getElem hiS] at this
    simpa using this
   refine zg <| zv (CH rfl rfl) <| ?_
   refine A6 (CV (vs := S3) rfl rfl (by simp) (by simp) CL) rfl rfl ?_
   refine zn <| zq <| B4 <| zr <| zr <| B4 <| zr <| ?_
   exact IU (.inr rfl) rfl rfl (by simp) fun w' H' => .inl ⟨hno, rfl, H'.AK (AD.nil _)⟩
  have hee : W[i] = S[i] := Classical.not_not.1 hne
  have heq2 : W.take (i + 1) = S.take (i + 1) := by
   rw [List.take_succ_eq_append_getElem hiW, List.take_succ_eq_append_getElem hiS, heq, hee]
  refine C3 <| zb <| zt <| AR <| zm rfl <| zv (BM rfl rfl BO) <| ?_
  refine zs rfl <| AS <| B5 hK4 (i + 1) (⟨hin2, heq2⟩) AA BD BL
 obtain rfl : i = n := by omega
 have hyes : FN S = some ((kk, a, b, X), i) := by
  rw [hdec, if_pos]
  refine ⟨hs87, by omega, hnS, ?_⟩
  rw [← heq, List.take_of_length_le AA]
 refine CF <| ze <| ze <| CE <| zt <| AG <| AR <| zv DY <| ?_
 refine zm rfl <| zv BN <| ?_
 refine zv (CH rfl rfl) <| ?_
 refine A6 (CV (vs := [.int .i64 (kk : Int), .int .u32 (a : Int), .int .u32 (b : Int), .slice qx.1 size qx.2, .int .i64 (i : Int), .int .i64 0]) rfl rfl (by simp) (by simp) CL) rfl rfl ?_
 refine zn <| zq <| ?_
 exact IU (.inr rfl) rfl rfl (by simp) fun w' H' => .inr ⟨(kk, a, b, X), i, qx, hyes, (by rw [hXl]), (by rw [hXl]; exact H'.AK Z8)⟩
theorem aL (v : Value) (S : List BA) (x : EO) (n : Nat) (h : FN S = some (x, n)) (hS : S.length ≤ 100000) (HA : Old D w (AX.rep S [v])) :
  Calls Tryz.prog 91 #[v] w fun e w' => ∃ q : Option Addr × Nat, e = .returned (.agg #[.int .i64 x.1, .int .u32 x.2.1, .int .u32 x.2.2.1, .slice q.1 x.2.2.2.length q.2, .int .i64 n, .int .i64 0]) ∧ AH D w w' [row q.1 5 1 x.2.2.2.length q.2 (x.2.2.2.map AU)] :=
 (aP D w v S hS HA).mono fun e w' hp => by
  rcases hp with ⟨h1, _⟩ | ⟨x', n', q, h1, he, H'⟩
  ·rw [h] at h1; cases h1
  ·rw [h] at h1; cases h1; exact ⟨q, he, H'⟩
theorem aQ (v : Value) (S : List BA) (h : FN S = none) (hS : S.length ≤ 100000) (HA : Old D w (AX.rep S [v])) :
  Calls Tryz.prog 91 #[v] w fun e w' => e = .returned (.agg #[.int .i64 0, .int .u32 0, .int .u32 0, .slice none 0 0, .int .i64 0, .int .i64 11]) ∧ AH D w w' [] :=
 (aP D w v S hS HA).mono fun e w' hp => by
  rcases hp with ⟨_, he, H'⟩ | ⟨x', n', q, h1, _⟩
  ·exact ⟨he, H'⟩
  ·rw [h] at h1; cases h1
theorem cJ (g : Nat) (S : List BA) (H : AH D w w [BV g S []]) : Calls Tryz.prog 82 #[.pointer (some ⟨g, 0, none⟩)] w fun e w' => e = .returned (.bool (decide ((32 : Int) ≤ (S.length : Int)))) ∧ AH D w w' [BV g S []] := by
 refine BZ (vs := [.pointer (some ⟨g, 0, none⟩)]) Tryz.func82 rfl _ Tryz.ntmps82 rfl H ?_
 simp only [BX, Nat.zero_add]
 refine HC.exs ?_
 rintro ⟨⟨A0, c0⟩, A1, c1⟩
 refine HC.AK (l' := [AI g 56 [.slice A0 S.length c0, .slice A1 0 c1], row A0 61 64 S.length c0 (S.flatMap BI), row A1 63 65 0 c1 []]) (fun _ h => h) ?_
 refine zg <| zs rfl <| zn <| AG <| AR <| zm rfl <| zv (OW rfl rfl) <| zm rfl <| AJ rfl rfl <| zm rfl <| AJ rfl rfl <| zv (AY rfl) <| AJ rfl rfl <| zf rfl <| AJ rfl rfl <| zl rfl rfl <| AJ rfl rfl <| zv BN <| ?_
 refine AJ rfl rfl <| zv (GN rfl rfl) <| zv (BF rfl rfl) <| zs rfl <| zn <| zq <| ?_
 exact zz rfl rfl fun w' H' => ⟨rfl, H'.AK (JK (P := []))⟩
def IZ (o : Option EO) (p : Nat) (q : Option Addr × Nat) : List Value := match o with
 | none => [.int .u32 0, .slice none 0 0, .int .i64 0, .int .i64 13]
 | some e => [.int .u32 e.2.1, .slice q.1 e.2.2.2.length q.2, .int .i64 (p : Int), .int .i64 0]
def QI (o : Option EO) (q : Option Addr × Nat) : List AQ := match o with
 | none => []
 | some e => [row q.1 5 1 e.2.2.2.length q.2 (e.2.2.2.map AU)]
@[simp] theorem UE (o : Option EO) (p : Nat) (q : Option Addr × Nat) : (IZ o p q).length = 4 := by cases o <;> rfl
theorem MS (o : Option EO) (p : Nat) (q : Option Addr × Nat) : ∀ v ∈ IZ o p q, v.oneCell' = true := by cases o <;> simp [IZ, Value.oneCell']
set_option maxHeartbeats 1000000 in
theorem fL (g p : Nat) (hp : p < 2) (S : List BA) (hS : 32 ≤ S.length) (H : AH D w w [BV g S []]) :
  Calls Tryz.prog 83 #[.pointer (some ⟨g, 0, none⟩), .int .i64 (p : Int)] w fun e w' => ∃ q : Option Addr × Nat, e = .returned (.agg (IZ (DR S (16 * p)) p q).toArray) ∧ AH D w w' (BV g S [] :: QI (DR S (16 * p)) q) := by
 refine BZ (vs := [.pointer (some ⟨g, 0, none⟩), .int .i64 (p : Int)]) Tryz.func83 rfl _ Tryz.ntmps83 rfl H ?_
 simp only [BX, Nat.zero_add]
 refine zg <| AV (B9) rfl rfl rfl fun b4 =>
  zn <| AG <| ?_
 refine AR <| zs rfl <| zn <| AG <| AG <| AR <| zs rfl <| zn <| BK <| JA (σ := Nat × Option Addr × Nat) [0, 1, 4] rfl 6 (fun s => .int .i64 (s.1 : Int)) 5 (fun s => .slice s.2.1 s.1 s.2.2) (fun s => [row s.2.1 61 64 s.1 s.2.2 (((S.drop (16 * p)).take s.1).flatMap BI), BV g S [], AI b4 122 [.int .u32 0, .slice none 0 0, .int .i64 0, .int .i64 0]]) (fun s => s.1 ≤ 16) (fun s => 16 - s.1) ((0, none, 0)) AF rfl rfl (AD.trans (AD.EB 61 64) Z3) ?_
 rintro ⟨k, ql⟩ hk16 K1 hK1
 dsimp only at hk16 ⊢
 refine AG <| zg <| zm rfl <| zv (B7 rfl rfl) <| AS <| zt <| BP rfl (fun h2 => ?_) (fun h2 => ?_)
 ·have hk : k < 16 := by omega
  have hi : 16 * p + k < S.length := by omega
  have hst : (S.drop (16 * p)).take (k + 1) = (S.drop (16 * p)).take k ++ [S[16 * p + k]] := by
   rw [List.take_succ_eq_append_getElem MG, List.getElem_drop]
  obtain ⟨s, hs⟩ : ∃ s, s = S[16 * p + k] := ⟨_, rfl⟩
  rw [← hs] at hst
  refine zk <| AG <| BK <| zg <| zm rfl <| zm rfl <| AZ (P8 (m := ((16 * p : Nat) : Int)) rfl rfl ((wrap_i64 AA).trans AA)) rfl ?_
  refine zm rfl <| AZ (BM (m := ((16 * p + k : Nat) : Int)) rfl rfl ((wrap_i64 AA).trans AA)) rfl ?_
  refine B2 Tryz.call90 rfl rfl (fun w1 => zp (BV g S []) fun D' _ _ H2 => (dG D' w1 g (16 * p + k) S [] hi H2).mono fun e w' ⟨he, H'⟩ => ⟨show e = Ending.returned (.tuple #[.agg (BI s).toArray, .int .i64 0]) by rw [he, hs]; rfl, H'⟩) ?_
  refine zm rfl <| zx rfl rfl <| zx rfl rfl <| AV (B9) rfl rfl rfl fun b7 =>  ?_
  refine A6 (CV (vs := BI s) rfl rfl NN NN (IF s)) rfl rfl ?_
  refine zs rfl <| zn <| AR <| zm rfl <| AZ (FV rfl (DU s)) rfl <| AV (HG (res := BI s) rfl rfl (OS _)) rfl rfl rfl (fun b37 => ?_)
  refine AV (BT (A := ql.1) (news := BI s) rfl rfl (BB.AI (b := b37)) O8 (IF _) AF AA) rfl rfl rfl (fun qm => ?_)
  rw [show ((S.drop (16 * p)).take k).flatMap BI ++ BI s = ((S.drop (16 * p)).take (k + 1)).flatMap BI by rw [hst, List.flatMap_append, List.flatMap_singleton]]
  refine zs rfl <| AS <| zb <| zt <| AR <| zm rfl <| zv (BM rfl rfl BO) <| ?_
  refine zs rfl <| AS <| B5 hK1 ((k + 1, qm)) (hk) AA BD BL
 obtain rfl : k = 16 := by omega
 obtain ⟨T, hT⟩ : ∃ T, T = (S.drop (16 * p)).take 16 := ⟨_, rfl⟩
 have hTl : T.length = 16 := by rw [hT, List.length_take, List.length_drop]; omega
 rw [← hT]
 rcases hd : FN T with _ | ⟨x, n⟩
 ·have hno : DR S (16 * p) = none := by unfold DR; rw [← hT, hd]
  refine CF <| ze <| ze <| CE <| zt <| AG <| AR <| zm rfl <| B2 Tryz.call91 rfl rfl (fun w1 => D6 fun D' _ hin _ => aQ D' w1 _ T hd AA (hin _ fun h hs ho => C7 (A := ql.1) hs T hTl.symm (L4.2 rfl))) ?_
  refine AV (B9) rfl rfl rfl fun b9 =>  ?_
  refine A6 (CV (vs := [.int .i64 0, .int .u32 0, .int .u32 0, .slice none 0 0, .int .i64 0, .int .i64 11]) rfl rfl (by simp) (by simp) CL) rfl rfl ?_
  refine zn <| AG <| zg <| zf rfl <| ?_
  refine zl rfl rfl <| zv (CG rfl rfl) <| zm rfl <| KW (t := 32) rfl (AF) ?_
  have hlk : DR S (16 * p) = none := hno
  refine zo rfl rfl <| zo rfl rfl <| zo rfl rfl <| zo rfl rfl <| zv (BF rfl rfl) <| zm rfl <| zo rfl rfl <| zo rfl rfl <| zo rfl rfl <| zo rfl rfl <| zv (BF rfl rfl) <| AS <| zt <| DD rfl <| zg <| zv (CH rfl rfl) <| ?_
  refine A6 (CV (vs := IZ none 0 (none, 0)) rfl rfl J3 J3 (MS _ _ _)) rfl rfl ?_
  refine zn <| zq <| zr <| ?_
  exact IU (.inr rfl) rfl rfl (by simp) fun w' H' => ⟨(none, 0), by rw [hlk]; rfl, by rw [hlk]; exact H'.AK (AD.trans (b := [BV g S []]) Z8 (AD.refl _))⟩
 have hlk' : DR S (16 * p) = if x.1 = 2 ∧ x.2.2.1 = 0 then some x else none := by unfold DR; rw [← hT, hd]
 refine CF <| ze <| ze <| CE <| zt <| AG <| AR <| zm rfl <| CQ (σ := Option Addr × Nat) Tryz.call91 rfl rfl (fun w1 => zu fun D' _ hin _ => aL D' w1 _ T x n hd AA (hin _ fun h hs ho => C7 (A := ql.1) hs T hTl.symm (L4.2 rfl))) ?_
 intro qx
 try rw [List.nil_append]
 refine AV (B9) rfl rfl rfl fun b9 =>  ?_
 refine A6 (CV (vs := [.int .i64 x.1, .int .u32 x.2.1, .int .u32 x.2.2.1, .slice qx.1 x.2.2.2.length qx.2, .int .i64 n, .int .i64 0]) rfl rfl (by simp) (by simp) CL) rfl rfl ?_
 refine zn <| AG <| zg <| zf rfl <| ?_
 refine zl rfl rfl <| zv (CG rfl rfl) <| zm rfl <| F0 (t := 32) rfl ((fun h => h rfl)) <| AJ rfl rfl <| zf rfl <| AJ rfl rfl <| zf rfl <| AJ rfl rfl <| zl rfl rfl <| AJ rfl rfl <| zv (CG rfl rfl) <| zv (A8 rfl rfl) <| zm rfl <| ?_
 refine DB (t := 38) rfl (fun c1 => ?_) (fun c1 => ?_)
 ·have hno : DR S (16 * p) = none := by rw [hlk', if_neg AA]
  have hlk : DR S (16 * p) = none := hno
  refine zo rfl rfl <| zo rfl rfl <| zo rfl rfl <| zo rfl rfl <| zv (BF rfl rfl) <| AS <| zt <| DD rfl <| zg <| zv (CH rfl rfl) <| ?_
  refine A6 (CV (vs := IZ none 0 (none, 0)) rfl rfl J3 J3 (MS _ _ _)) rfl rfl ?_
  refine zn <| zq <| zr <| ?_
  exact IU (.inr rfl) rfl rfl (by simp) fun w' H' => ⟨(none, 0), by rw [hlk]; rfl, by rw [hlk]; exact H'.AK (AD.trans (b := [BV g S []]) Z8 (AD.refl _))⟩
 refine AJ rfl rfl <| zf rfl <| AJ rfl rfl <| zf rfl <| AJ rfl rfl <| zl rfl rfl <| AJ rfl rfl <| zv (CG rfl rfl) <| zv (A8 rfl rfl) <| AS <| ?_
 refine zt <| BP rfl (fun c2 => ?_) (fun c2 => ?_)
 ·have hno : DR S (16 * p) = none := by rw [hlk', if_neg AA]
  have hlk : DR S (16 * p) = none := hno
  refine zg <| zv (CH rfl rfl) <| ?_
  refine A6 (CV (vs := IZ none 0 (none, 0)) rfl rfl J3 J3 (MS _ _ _)) rfl rfl ?_
  refine zn <| zq <| zr <| ?_
  exact IU (.inr rfl) rfl rfl (by simp) fun w' H' => ⟨(none, 0), by rw [hlk]; rfl, by rw [hlk]; exact H'.AK (AD.trans (b := [BV g S []]) Z8 (AD.refl _))⟩
 have hlk : DR S (16 * p) = some x := by rw [hlk', if_pos AA]
 refine zk <| zg <| zf rfl <| zf rfl <| ?_
 refine zl rfl rfl <| zf rfl <| zf rfl <| zl rfl rfl <| zm rfl <| zv (CH rfl rfl) <| ?_
 refine A6 (CV (vs := IZ (some x) p qx) rfl rfl J3 J3 (MS _ _ _)) rfl rfl ?_
 refine zn <| zq <| ?_
 exact IU (.inr rfl) rfl rfl (by simp) fun w' H' => ⟨qx, by rw [hlk], by rw [hlk]; exact H'.AK (AD.trans (b := [BV g S [], row qx.1 5 1 x.2.2.2.length qx.2 (x.2.2.2.map AU)]) Z8 (AD.refl _))⟩
def MN (o : Option (EO × Nat)) (q : Option Addr × Nat) : List Value := match o with
 | none => [.int .u32 0, .slice none 0 0, .int .i64 0, .int .i64 13]
 | some y => [.int .u32 y.1.2.1, .slice q.1 y.1.2.2.2.length q.2, .int .i64 ((y.2 / 16 : Nat) : Int), .int .i64 0]
def XU (o : Option (EO × Nat)) (q : Option Addr × Nat) : List AQ := match o with
 | none => []
 | some y => [row q.1 5 1 y.1.2.2.2.length q.2 (y.1.2.2.2.map AU)]
theorem oI (o : Option (EO × Nat)) (q : Option Addr × Nat) : ∀ v ∈ MN o q, v.oneCell' = true := by cases o <;> simp [MN, Value.oneCell']
@[simp] theorem cF (o : Option (EO × Nat)) (q : Option Addr × Nat) : (MN o q).length = 4 := by cases o <;> rfl
theorem dV (S : List BA) : F8 S = QC (QC none 0 (DR S 0)) 16 (DR S 16) := rfl
set_option maxHeartbeats 1000000 in
theorem V6 (g : Nat) (S : List BA) (hS : 32 ≤ S.length) (H : AH D w w [BV g S []]) :
  Calls Tryz.prog 50 #[.pointer (some ⟨g, 0, none⟩)] w fun e w' => ∃ q : Option Addr × Nat, e = .returned (.agg (MN (F8 S) q).toArray) ∧ AH D w w' (BV g S [] :: XU (F8 S) q) := by
 refine BZ (vs := [.pointer (some ⟨g, 0, none⟩)]) Tryz.func50 rfl _ Tryz.ntmps50 rfl H ?_
 simp only [BX, Nat.zero_add]
 refine zg <| AV (B9) rfl rfl rfl fun b2 =>
  zn <| AG <| ?_
 refine zg <| zm rfl <| B2 Tryz.call82 rfl rfl (fun w1 => zp (BV g S []) fun D' _ _ H2 => cJ D' w1 g S H2) ?_
 refine zv FC <| ?_
 refine zn <| CP rfl (AA) ?_
 refine zk <| zg <| zm rfl <| CQ (σ := Option Addr × Nat) Tryz.call83 rfl rfl (fun w1 => EZ (BV g S []) fun D' _ _ H2 => fL D' w1 g 0 AF S hS H2) ?_
 intro qa
 refine zm rfl <| CQ (σ := Option Addr × Nat) Tryz.call83 rfl rfl (fun w1 => EZ (BV g S []) fun D' _ _ H2 => fL D' w1 g 1 AF S hS H2) ?_
 intro qb
 have hnew := dV S
 rw [Nat.mul_zero, Nat.mul_one]
 refine AV (B9) rfl rfl rfl fun b3 => 
  AV (B9) rfl rfl rfl fun b4 =>  ?_
 refine A6 (CV (vs := IZ (DR S 0) 0 qa) rfl rfl (UE _ _ _) (by simp [UE]) (MS _ _ _)) rfl rfl ?_
 refine A6 (CV (vs := IZ (DR S 16) 1 qb) rfl rfl (UE _ _ _) (by simp [UE]) (MS _ _ _)) rfl rfl ?_
 refine zn <| AG <| AG <| ?_
 rcases hb : DR S 16 with _ | y
 ·rw [hb] at hnew
  have hn : F8 S = QC none 0 (DR S 0) := hnew
  dsimp only [IZ, QI]
  refine AR <| zf rfl <| ?_
  refine AZ (zw rfl rfl) rfl <| zv (CO rfl rfl) <| zm rfl <| F0 (t := 16) rfl (AF) ?_
  refine zo rfl rfl <| zo rfl rfl <| zo rfl rfl <| zo rfl rfl <| KN rfl rfl rfl rfl rfl <| KN rfl rfl rfl rfl rfl <| ?_
  refine KN rfl rfl rfl rfl rfl <| KN rfl rfl rfl rfl rfl <| KN rfl rfl rfl rfl rfl <| zo rfl rfl <| zv (A8 rfl rfl) <| AS <| ?_
  refine zt <| EU rfl <| zk <| AG <| ?_
  rcases ha : DR S 0 with _ | x
  ·rw [ha] at hn
   have hn : F8 S = none := hn
   dsimp only [QI]
   refine AR <| AZ (FV rfl rfl) rfl <| A6 (CV (vs := IZ none 0 qa) rfl rfl J3 J3 (MS _ _ _)) rfl rfl ?_
   refine zn <| zq <| ?_
   exact IU (.inr rfl) rfl rfl (by simp) fun w' H' => ⟨qa, by rw [hn]; simp [IZ, MN], by rw [hn]; exact H'.AK (AD.trans (b := [BV g S []]) Z8 (AD.refl _))⟩
  rw [ha] at hn
  have hn : F8 S = some (x, 0) := hn
  dsimp only [QI]
  refine AR <| AZ (FV rfl rfl) rfl <| A6 (CV (vs := IZ (some x) 0 qa) rfl rfl J3 J3 (MS _ _ _)) rfl rfl ?_
  refine zn <| zq <| ?_
  exact IU (.inr rfl) rfl rfl (by simp) fun w' H' => ⟨qa, by rw [hn]; simp [IZ, MN], by rw [hn]; exact H'.AK (AD.trans (b := [BV g S [], row qa.1 5 1 x.2.2.2.length qa.2 (x.2.2.2.map AU)]) Z8 (AD.refl _))⟩
 rw [hb] at hnew
 dsimp only [QI]
 rcases ha : DR S 0 with _ | x
 ·rw [ha] at hnew
  have hn : F8 S = some (y, 16) := hnew
  dsimp only [QI]
  refine AR <| zf rfl <| zl rfl rfl <| zv (CO rfl rfl) <| zm rfl <| ?_
  refine KW (t := 16) rfl (rfl) <| AJ rfl rfl <| zf rfl <| AJ rfl rfl <| zl rfl rfl <| AJ rfl rfl <| zv (CG rfl rfl) <| AJ rfl rfl <| zm rfl <| ?_
  refine KW (t := 20) rfl (AF) ?_
  refine zo rfl rfl <| zo rfl rfl <| zo rfl rfl <| zo rfl rfl <| zo rfl rfl <| AJ rfl rfl <| zv (BF rfl rfl) <| zv (BF rfl rfl) <| zn <| DD rfl <| zg <| zv DY <| ?_
  refine A6 (CV (vs := IZ (some y) 1 qb) rfl rfl J3 J3 (MS _ _ _)) rfl rfl ?_
  refine zn <| zq <| zr <| ?_
  exact IU (.inr rfl) rfl rfl (by simp) fun w' H' => ⟨qb, by rw [hn]; simp [IZ, MN], by rw [hn]; exact H'.AK (AD.trans (b := [BV g S [], row qb.1 5 1 y.2.2.2.length qb.2 (y.2.2.2.map AU)]) Z8 (AD.refl _))⟩
 rw [ha] at hnew
 have hnew : F8 S = if x.2.1 < y.2.1 then some (y, 16) else some (x, 0) := hnew
 dsimp only [QI]
 refine AR <| zf rfl <| zl rfl rfl <| zv (CO rfl rfl) <| zm rfl <| ?_
 refine KW (t := 16) rfl (rfl) <| AJ rfl rfl <| zf rfl <| AJ rfl rfl <| zl rfl rfl <| AJ rfl rfl <| zv (CG rfl rfl) <| AJ rfl rfl <| zm rfl <| ?_
 refine F0 (t := 20) rfl ((fun h => h rfl)) <| AJ rfl rfl <| zf rfl <| AJ rfl rfl <| zl rfl rfl <| AJ rfl rfl <| zf rfl <| AJ rfl rfl <| zl rfl rfl <| AJ rfl rfl <| zv (DV rfl rfl) <| AJ rfl rfl <| zv (A8 rfl rfl) <| ?_
 refine zv (BF rfl rfl) <| zn <| BP rfl (fun c3 => ?_) (fun c3 => ?_)
 ·have hn : F8 S = some (y, 16) := by rw [hnew, if_pos AA]
  refine zg <| zv DY <| ?_
  refine A6 (CV (vs := IZ (some y) 1 qb) rfl rfl J3 J3 (MS _ _ _)) rfl rfl ?_
  refine zn <| zq <| zr <| ?_
  exact IU (.inr rfl) rfl rfl (by simp) fun w' H' => ⟨qb, by rw [hn]; simp [IZ, MN], by rw [hn]; exact H'.AK (AD.trans (b := [BV g S [], row qb.1 5 1 y.2.2.2.length qb.2 (y.2.2.2.map AU)]) Z8 (AD.refl _))⟩
 have hn : F8 S = some (x, 0) := by rw [hnew, if_neg AA]
 refine zk <| zg <| zv DY <| ?_
 refine A6 (CV (vs := IZ (some x) 0 qa) rfl rfl J3 J3 (MS _ _ _)) rfl rfl ?_
 refine zn <| zq <| ?_
 exact IU (.inr rfl) rfl rfl (by simp) fun w' H' => ⟨qa, by rw [hn]; simp [IZ, MN], by rw [hn]; exact H'.AK (AD.trans (b := [BV g S [], row qa.1 5 1 x.2.2.2.length qa.2 (x.2.2.2.map AU)]) Z8 (AD.refl _))⟩
end Go.Proofs.YtjlolpmmpafjeaaGreat
