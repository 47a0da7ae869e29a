import Derived.Test.YtjlolpmmpafjeaaGreatU23
set_option linter.unusedVariables false
set_option linter.unusedSimpArgs false
namespace Go.Proofs.YtjlolpmmpafjeaaGreat
open CN
abbrev zeroV : List Value := [.int .i64 0, .int .i64 0, .int .i64 0, .slice none 0 0, .slice none 0 0, .slice none 0 0]
theorem j5 (D : Nat → Prop) (w : World) (c : CA) (vp vv vs v1 : Value) (l : List C5) (hll : l.length ≤ 1000000) (HC0 : ER D w c vp vv vs) (HE : Old D w (AX.rep l [v1])) :
  Calls Tryz.prog 30 #[.agg (C9 c vp vv vs).toArray, v1] w fun e w' => ∃ r : gR c l, e = .returned (.tuple #[.agg (B3 r.1.2.1 r.1.1).toArray, .int .i64 r.1.2.2]) ∧ AH D w w' (C6 r.1.2.1 r.1.1) := by
 obtain ⟨Ae, ce, rfl, hce1, hce2, HSe, heok⟩ := HE.EG
 have HSe : CS D w Ae (l.flatMap DL) := HSe
 have hokc := HC0.KR
 have h1p : ∃ A n cap, vp = .slice A n cap := by obtain ⟨A, cap, rfl, _⟩ := HC0.p.EG; exact ⟨_, _, _, rfl⟩
 have h1v : ∃ A n cap, vv = .slice A n cap := by obtain ⟨A, cap, rfl, _⟩ := HC0.v.EG; exact ⟨_, _, _, rfl⟩
 have h1s : ∃ A n cap, vs = .slice A n cap := by obtain ⟨A, cap, rfl, _⟩ := HC0.s.EG; exact ⟨_, _, _, rfl⟩
 obtain ⟨Ap', np', cp', hvp⟩ := h1p
 obtain ⟨Av', nv', cv', hvv⟩ := h1v
 obtain ⟨As', ns', cs', hvs⟩ := h1s
 refine BZ (vs := [.agg (C9 c vp vv vs).toArray, .slice Ae l.length ce]) Tryz.func30 rfl _ Tryz.ntmps30 rfl (AH.start D w) ?_
 simp only [BX, Nat.zero_add]
 refine zg <| AV (EE rfl rfl) rfl rfl rfl fun b2 =>  ?_
 refine AV (B9) rfl rfl rfl fun b4 => 
  zs rfl <| zn <| AG <| AG <| ?_
 refine AR <| zv DY <| ?_
 refine CQ (σ := EX (C4 c)) Tryz.call66 rfl rfl (fun w1 => zu fun D' hold _ _ => WD D' w1 c vp vv vs (HC0.hold hold)) ?_
 intro r1
 try rw [List.nil_append]
 refine zv FC <| ?_
 refine zn <| FW rfl (fun a1 => ?_) (fun a1 => ?_)
 ·have hno : ¬ C4 c := fun h => by have := r1.2.2 h; rw [this] at a1; cases a1
  have hR : I7 c l (FZ, 14) := .inl ⟨hno, rfl⟩
  refine zg <| zv (CH rfl rfl) <| ?_
  refine A6 (CV (vs := zeroV) rfl rfl rfl (by simp) CL) rfl rfl ?_
  refine zs rfl <| zn <| zq <| zr <| ?_
  exact ID (.inr rfl) rfl rfl (by simp) rfl fun w' H' => ⟨⟨(q0, FZ, 14), hR⟩, rfl, H'.AK (AD.trans (AD.LC _) AD.KM)⟩
 have hg : C4 c := r1.2.1 (by simpa using a1)
 have hm0 : KK c 0 := hg.mid hokc.i1 hokc.i2 hokc.i3 hokc.p hokc.v hokc.s
 refine zk <| AG <| zg <| zm rfl <| zv BN <| ?_
 refine zv (DV rfl rfl) <| zn <| BP rfl (fun a2 => ?_) (fun a2 => ?_)
 ·have hR : I7 c l (FZ, 3) := .inr (.inl ⟨hg, by omega, rfl⟩)
  refine zg <| zv (CH rfl rfl) <| ?_
  refine A6 (CV (vs := zeroV) rfl rfl rfl (by simp) CL) rfl rfl ?_
  refine zs rfl <| zn <| zq <| zr <| ?_
  exact ID (.inr rfl) rfl rfl (by simp) rfl fun w' H' => ⟨⟨(q0, FZ, 3), hR⟩, rfl, H'.AK (AD.trans (AD.LC _) AD.KM)⟩
 have hl32 : l.length ≤ 32 := by omega
 refine zk <| zg <| zv DY <| ?_
 refine CQ (σ := DA) Tryz.call67 rfl rfl (fun w1 => zu fun D' hold _ _ => kD D' w1 c vp vv vs (HC0.hold hold)) ?_
 intro q
 try rw [List.nil_append]
 refine AV (B9) rfl rfl rfl fun b6 =>  ?_
 refine A6 (CV (vs := B3 c q) rfl rfl rfl (by simp) CL) rfl rfl ?_
 refine zn <| AG <| zg <| zs rfl <| zn <| BK <| GL (σ := Nat × CA) [1, 4, 6] rfl 7 (fun s => .int .i64 (s.1 : Int)) (fun s => [IJ b6 s.2, AI b4 49 zeroV]) (fun s => (s.1 ≤ l.length ∧ KK s.2 s.1) ∧ E4 c (l.take s.1) = (s.2, 0)) (fun s => l.length - s.1) ((0, c)) (⟨⟨Nat.zero_le _, hm0⟩, rfl⟩) rfl (AD.trans (b := DC b6 c q ++ [AI b4 49 zeroV]) Z8 (D1 q)) ?_
 rintro ⟨i, ci⟩ hj_ K1 hK1
 dsimp only at hj_ ⊢
 obtain ⟨⟨hi, hm⟩, hf⟩ := hj_
 refine AG <| zg <| zm rfl <| zm rfl <| zv BN <| ?_
 refine zv (B7 rfl rfl) <| zn <| BP rfl (fun h => ?_) (fun h => ?_)
 ·have hlt : i < l.length := by omega
  obtain ⟨hA, _⟩ := CS.EP (D := D) (w0 := w) (f := DL) (sz := 7) (fun _ => rfl) AF HSe hlt []
  have hc := fun l' => (CS.EP (D := D) (w0 := w) (f := DL) (sz := 7) (fun _ => rfl) AF HSe hlt l').2
  have hox := heok l[i] (List.getElem_mem hlt)
  have hmx := hm.one hox
  have hsn := WE hlt hf
  have hst : (B8 ci l[i]).2 ≠ 0 → E4 c l = B8 ci l[i] := Y9 hlt hf
  generalize l[i] = x at *
  refine zk <| AG <| BK <| zg <| zm rfl <| zm rfl <| AZ (CZ rfl hA rfl i rfl hlt) rfl <| AZ (D4 (cs := DL x) rfl rfl (hc _)) rfl <| B2 Tryz.call68 rfl rfl (fun w1 => zp (IJ b6 ci) fun D' _ _ H2 => nT D' w1 b6 ci x i AA hm hox H2) ?_
  refine zs rfl <| zn <| zg <| zm rfl <| zv (CG rfl rfl) <| zn <| BP rfl (fun h2 => ?_) (fun h2 => ?_)
  ·have hfc := hst h2
   have hR : I7 c l (FZ, (B8 ci x).2) := .inr (.inr (.inl ⟨hg, hl32, by rw [hfc]; exact h2, by rw [hfc]⟩))
   refine zg <| zv (CH rfl rfl) <| ?_
   refine zm rfl <| A6 (CV (vs := zeroV) rfl rfl rfl (by simp) CL) rfl rfl ?_
   refine zs rfl <| zn <| zq <| B4 <| zr <| zr <| B4 <| zr <| ?_
   exact ID (.inr rfl) rfl rfl (by simp) rfl fun w' H' => ⟨⟨(q0, FZ, (B8 ci x).2), hR⟩, rfl, H'.AK (AD.trans (AD.LC _) AD.KM)⟩
  have h0 : (B8 ci x).2 = 0 := Classical.not_not.1 h2
  have hfn : E4 c (l.take (i + 1)) = ((B8 ci x).1, 0) := by rw [hsn]; exact Prod.ext rfl h0
  refine C3 <| zb <| zt <| AR <| zm rfl <| zv (BM rfl rfl BO) <| ?_
  refine zs rfl <| AS <| B5 hK1 ((i + 1, (B8 ci x).1)) (⟨⟨hlt, hmx⟩, hfn⟩) RV BD BL
 have hie : i = l.length := by omega
 subst hie
 rw [List.take_length] at hf
 have hok2 := hm.KR AA
 refine HC.exs ?_
 intro q2
 refine HC.AK (l' := DC b6 ci q2 ++ [AI b4 49 zeroV]) (fun _ h => h) ?_
 refine CF <| ze <| ze <| CE <| zt <| AG <| zg <| zv DY <| ?_
 refine CQ (σ := EX (C4 ci)) Tryz.call66 rfl rfl (fun w1 => zu fun D' _ hin _ => WD D' w1 ci _ _ _ (ER.rows (q := q2) hok2 hin)) ?_
 intro r2
 try rw [List.nil_append]
 refine zv FC <| ?_
 refine zn <| FW rfl (fun a3 => ?_) (fun a3 => ?_)
 ·have hno : ¬ C4 ci := fun h => by have := r2.2.2 h; rw [this] at a3; cases a3
  have hR : I7 c l (FZ, 14) := .inr (.inr (.inr (.inl ⟨hg, hl32, by rw [hf], by rw [hf]; exact hno, rfl⟩)))
  refine zg <| zv (CH rfl rfl) <| ?_
  refine A6 (CV (vs := zeroV) rfl rfl rfl (by simp) CL) rfl rfl ?_
  refine zs rfl <| zn <| zq <| zr <| ?_
  exact ID (.inr rfl) rfl rfl (by simp) rfl fun w' H' => ⟨⟨(q0, FZ, 14), hR⟩, rfl, H'.AK (AD.trans (AD.LC _) AD.KM)⟩
 have hyes : C4 ci := r2.2.1 (by simpa using a3)
 have hR : I7 c l (ci, 0) := .inr (.inr (.inr (.inr ⟨hg, hl32, by rw [hf], by rw [hf]; exact hyes, by rw [hf]⟩)))
 refine zk <| zg <| zv DY <| ?_
 refine A6 (CV (vs := B3 ci q2) rfl rfl rfl (by simp) CL) rfl rfl ?_
 refine zs rfl <| zn <| zq <| ?_
 exact ID (.inr rfl) rfl rfl (by simp) rfl fun w' H' => ⟨⟨(q2, ci, 0), hR⟩, rfl, H'.AK Z8⟩
end Go.Proofs.YtjlolpmmpafjeaaGreat
namespace Go.Proofs.YtjlolpmmpafjeaaGreat
open CN
theorem eY (D : Nat → Prop) (w : World) (k : Int) (n : Nat) (hk : DO k) (h0 : 0 < n) (hn : n ≤ 1000000) :
  Calls Tryz.prog 14 #[.int .i64 k, .int .i64 n] w fun e w' => e = .returned (.int .i64 (QK k n : Nat)) ∧ AH D w w' [] := by
 refine (qC D w k n hk (by unfold DO; omega) AA).mono fun e w' ⟨he, H'⟩ => ⟨?_, H'⟩
 rw [he, if_neg AA]
 have := Int.emod_nonneg k (show (n : Int) ≠ 0 by omega)
 unfold QK
 rw [Int.toNat_of_nonneg this]
theorem mI (D : Nat → Prop) (w : World) (n : Nat) (h1 : 1 ≤ n) (h8 : n ≤ 8) :
  Calls Tryz.prog 29 #[.int .i64 (n : Int)] w fun e w' => ∃ q : DA, e = .returned (.tuple #[.agg (B3 (E0 n) q).toArray, .int .i64 0]) ∧ AH D w w' (C6 (E0 n) q) :=
 (kX D w n (M6 _ ⟨by omega, by omega⟩)).mono fun e w' ⟨⟨⟨q, d, er⟩, hR⟩, he, H'⟩ => by
  rcases hR with ⟨h, _⟩ | ⟨_, _, h⟩
  ·exact absurd ⟨by omega, by omega⟩ h
  ·have h : (d, er) = (E0 ((n : Int)).toNat, 0) := h
   injection h with h1 h2
   subst h1; subst h2
   exact ⟨q, he, H'⟩
theorem UB (D : Nat → Prop) (w : World) (c : CA) (vp vv vs v1 : Value) (l : List C5) (d : CA) (er : Int) (hr : D9 c l = (d, er)) (hll : l.length ≤ 1000000) (HC0 : ER D w c vp vv vs) (HE : Old D w (AX.rep l [v1])) :
  Calls Tryz.prog 30 #[.agg (C9 c vp vv vs).toArray, v1] w fun e w' => ∃ q : DA, e = .returned (.tuple #[.agg (B3 d q).toArray, .int .i64 er]) ∧ AH D w w' (C6 d q) :=
 (j5 D w c vp vv vs v1 l hll HC0 HE).mono fun e w' ⟨⟨⟨q, d', er'⟩, hR⟩, he, H'⟩ => by
  have h := (gH hR).trans hr
  injection h with h1 h2
  subst h1; subst h2
  exact ⟨q, he, H'⟩
theorem lD {S : List BA} {y : EO × Nat} (h : F8 S = some y) : y.2 = 0 ∨ y.2 = 16 := by
 rw [dV] at h
 rcases ha : DR S 0 with _ | a <;> rcases hb : DR S 16 with _ | b <;> rw [ha, hb] at h
 ·cases h
 ·have h : some (b, 16) = some y := h
  cases h; exact .inr rfl
 ·have h : some (a, 0) = some y := h
  cases h; exact .inl rfl
 have h : (if a.2.1 < b.2.1 then some (b, 16) else some (a, 0)) = some y := h
 split at h
 ·cases h; exact .inr rfl
 cases h; exact .inl rfl
abbrev O6 (n at_ : Nat) (q : Option Addr × Nat) : List Value := [.slice q.1 n q.2, .int .i64 (at_ : Int), .int .i64 0]
set_option maxHeartbeats 1000000 in
theorem pY (D : Nat → Prop) (w : World) (g : Nat) (S : List BA) (a : Nat) (v : Value) (xs : List UInt8) (L : List BA) (n : Nat) (hL : L = C1 (I1 a xs)) (hn : n = L.length) (hS : 32 ≤ S.length) (ha : a < 4294967296) (hl : xs.length ≤ 993) (HA : Old D w (AX.rep xs [v])) (H : AH D w w [BV g S []]) :
  Calls Tryz.prog 86 #[.pointer (some ⟨g, 0, none⟩), .int .u32 (a : Int), v] w fun e w' => ∃ qe : Option Addr × Nat, e = .returned (.agg (O6 n (HF S) qe).toArray) ∧ AH D w w' [BV g S [], row qe.1 61 64 n qe.2 (L.flatMap BI)] := by
 have hel : L.length = (15 + xs.length + 62) / 63 := by rw [hL, C1, NY, LY]
 obtain ⟨A, cap, rfl, _⟩ := HA.IG
 refine BZ (vs := [.pointer (some ⟨g, 0, none⟩), .int .u32 (a : Int), .slice A xs.length cap]) Tryz.func86 rfl _ Tryz.ntmps86 rfl H ?_
 simp only [BX, Nat.zero_add]
 refine zg <| AV (B9) rfl rfl rfl fun b6 =>
  zn <| AG <| ?_
 refine zg <| zm rfl <| B2 Tryz.call82 rfl rfl (fun w1 => zp (BV g S []) fun D' _ _ H2 => cJ D' w1 g S H2) ?_
 refine zv FC <| ?_
 refine zn <| CP rfl (AA) ?_
 refine zk <| zg <| zm rfl <| zm rfl <| zv (CH rfl rfl) <| ?_
 refine CQ (σ := Option Addr × Nat) Tryz.call126 rfl rfl (fun w1 => zu fun D' hold _ _ => UK D' w1 (I1 a xs) _ L n hL hn ⟨show 2 < 256 by decide, ha, show 0 < 4294967296 by decide, by show xs.length ≤ 4000; omega⟩ (hold _ HA)) ?_
 intro qe
 try rw [List.nil_append]
 refine zm rfl <| zx rfl rfl <| zx rfl rfl <| zs rfl <| zs rfl <| AS <| zt <| AG <| zg <| zm rfl <| zv (CG rfl rfl) <| zm rfl <| F0 (t := 24) rfl ((fun h => h rfl)) <| AJ rfl rfl <| zm rfl <| AJ rfl rfl <| zv BN <| ?_
 refine AJ rfl rfl <| zv (DV rfl rfl) <| zv (A8 rfl rfl) <| zn <| CP rfl (AA) ?_
 refine zk <| zg <| zm rfl <| zv (CH rfl rfl) <| ?_
 refine AV (B9) rfl rfl rfl fun b9 =>  ?_
 refine A6 (CV (vs := O6 n 0 qe) rfl rfl (by simp) (by simp) CL) rfl rfl ?_
 refine zn <| AG <| zg <| zm rfl <| CQ (σ := Option Addr × Nat) Tryz.call50 rfl rfl (fun w1 => EZ (BV g S []) fun D' _ _ H2 => V6 D' w1 g S hS H2) ?_
 intro qg
 refine AV (B9) rfl rfl rfl fun b10 =>  ?_
 refine A6 (CV (vs := MN (F8 S) qg) rfl rfl (cF _ _) (by simp [cF]) (oI _ _)) rfl rfl ?_
 refine zn <| AG <| ?_
 rcases hnw : F8 S with _ | y
 ·have hate : HF S = 0 := by unfold HF; rw [hnw]
  dsimp only [MN, XU]
  refine AR <| zf rfl <| ?_
  refine AZ (zw rfl rfl) rfl <| zv (CO rfl rfl) <| zm rfl <| F0 (t := 37) rfl (AF) ?_
  refine zo rfl rfl <| zo rfl rfl <| zo rfl rfl <| zv (A8 rfl rfl) <| zn <| EU rfl <| zk <| zg <| AZ (FV rfl rfl) rfl <| A6 (CV (vs := O6 n (HF S) qe) rfl (by rw [hate]; rfl) (by simp) (by simp) CL) rfl rfl ?_
  refine zn <| zq <| ?_
  exact IU (.inr rfl) rfl rfl (by simp) fun w' H' => ⟨qe, rfl, H'.AK Z8⟩
 have hpl := lD hnw
 dsimp only [MN, XU]
 refine AR <| zf rfl <| zl rfl rfl <| zv (CO rfl rfl) <| zm rfl <| ?_
 refine KW (t := 37) rfl (rfl) <| AJ rfl rfl <| zf rfl <| AJ rfl rfl <| zl rfl rfl <| AJ rfl rfl <| zv (CO rfl rfl) <| zv (BF rfl rfl) <| zn <| ?_
 refine BP rfl (fun z => ?_) (fun z => ?_)
 ·have hate : HF S = 16 := by unfold HF; rw [hnw]; exact if_pos AA
  refine AR <| zf rfl <| A6 (DN rfl rfl rfl rfl rfl) rfl rfl <| zn <| AG <| ?_
  refine AR <| AZ (FV rfl rfl) rfl <| A6 (CV (vs := O6 n (HF S) qe) rfl (by rw [hate]; rfl) (by simp) (by simp) CL) rfl rfl ?_
  refine zn <| zq <| ?_
  exact IU (.inr rfl) rfl rfl (by simp) fun w' H' => ⟨qe, rfl, H'.AK Z8⟩
 have hate : HF S = 0 := by unfold HF; rw [hnw]; exact if_neg AA
 refine zk <| zg <| AZ (FV rfl rfl) rfl <| A6 (CV (vs := O6 n (HF S) qe) rfl (by rw [hate]; rfl) (by simp) (by simp) CL) rfl rfl ?_
 refine zn <| zq <| ?_
 exact IU (.inr rfl) rfl rfl (by simp) fun w' H' => ⟨qe, rfl, H'.AK Z8⟩
set_option maxHeartbeats 1000000 in
theorem W6 (D : Nat → Prop) (w : World) (g : Nat) (S : List BA) (a : Nat) (v : Value) (xs : List UInt8) (hS : 32 ≤ S.length) (hS2 : S.length ≤ 100000) (ha : a < 4294967296) (hl : xs.length ≤ 993) (HA : Old D w (AX.rep xs [v])) (H : AH D w w [BV g S []]) :
  Calls Tryz.prog 52 #[.pointer (some ⟨g, 0, none⟩), .int .u32 (a : Int), v] w fun e w' => e = .returned (.int .i64 0) ∧ AH D w w' [BV g (FK S a xs) []] := by
 obtain ⟨L, hL⟩ : ∃ L, L = C1 (I1 a xs) := ⟨_, rfl⟩
 have hel : L.length = (15 + xs.length + 62) / 63 := by rw [hL, C1, NY, LY]
 have hsv : FK S a xs = D7 S (HF S) L := by unfold FK; rw [hL]
 obtain ⟨n, hn⟩ : ∃ n, n = L.length := ⟨_, rfl⟩
 have hat := P7 S
 obtain ⟨at_, hate⟩ : ∃ x, x = HF S := ⟨_, rfl⟩
 rw [← hate] at hat hsv
 refine BZ (vs := [.pointer (some ⟨g, 0, none⟩), .int .u32 (a : Int), v]) Tryz.func52 rfl _ Tryz.ntmps52 rfl H ?_
 simp only [BX, Nat.zero_add]
 refine zg <| zs rfl <| zn <| AG <| AR <| zm rfl <| zm rfl <| zm rfl <| CQ (σ := Option Addr × Nat) Tryz.call86 rfl rfl (fun w1 => EZ (BV g S []) fun D' hold _ H2 => pY D' w1 g S a v xs L n hL hn hS ha hl (hold _ HA) H2) ?_
 intro qe
 rw [← hate]
 refine HL.fact (fun w H => AH.GS qe.1 H) ?_
 rintro ⟨_, _, _, hA⟩
 have hA : CU qe.1 := hA (by intro h; have := congrArg List.length h; rw [FU DU] at this; simp only [List.length_nil] at this; omega)
 refine AV (B9) rfl rfl rfl fun b7 =>  ?_
 refine A6 (CV (vs := O6 n at_ qe) rfl rfl (by simp) (by simp) CL) rfl rfl ?_
 refine zn <| AG <| zg <| zf rfl <| ?_
 refine zl rfl rfl <| zv (CG rfl rfl) <| zn <| CP rfl ((fun h => h rfl)) <| zk <| AG <| zg <| zs rfl <| zn <| BK <| GL (σ := Nat) [0, 7] rfl 8 (fun i => .int .i64 (i : Int)) (fun i => [BV g S (PW at_ L i), row qe.1 61 64 n qe.2 (L.flatMap BI), AI b7 183 (O6 n at_ qe)]) (fun i => i ≤ n) (fun i => n - i) (0) (Nat.zero_le _) rfl (show AD _ [BV g S [], row qe.1 61 64 n qe.2 (L.flatMap BI), AI b7 183 (O6 n at_ qe)] from Z8) ?_
 rintro i hi K1 hK1
 refine AG <| zg <| zm rfl <| zf rfl <| zl rfl rfl <| ?_
 refine zv BN <| ?_
 refine zv (B7 rfl rfl) <| zn <| BP rfl (fun h => ?_) (fun h => ?_)
 ·have hin : i < n := by omega
  have hiL : i < L.length := by omega
  refine zk <| AG <| BK <| E2 10 mixed AB ?_
  refine AT (AO rfl) rfl <| AT (AP rfl) rfl <| AT (zw rfl rfl) rfl <| AT (AO rfl) rfl <| ?_
  refine AT (BM (m := ((at_ + i : Nat) : Int)) rfl rfl ((wrap_i64 AA).trans AA)) rfl ?_
  refine AT (AP rfl) rfl <| AT (zw rfl rfl) rfl <| AT (AO rfl) rfl <| ?_
  refine AT (CZ rfl hA rfl i rfl hin) rfl ?_
  refine AT (D4 (cs := BI L[i]) rfl (DU _) (DZ.flat (f := BI) (A := qe.1) DU hA (i := i) hiL)) rfl ?_
  refine EV <| ?_
  refine B2 Tryz.call87 rfl rfl (fun w1 => zp (BV g S (PW at_ L i)) fun D' _ _ H2 => bI D' w1 g (at_ + i) L[i] S (PW at_ L i) AA (by have := UX (at_ := at_) (l := L) (i := i); omega) H2) ?_
  rw [← UP hiL]
  refine AS <| zb <| zt <| AR <| zm rfl <| zv (BM rfl rfl BO) <| ?_
  refine zs rfl <| AS <| B5 hK1 (i + 1) (hin) AA BD BL
 have hin : i = n := by omega
 rw [hin, hn]
 refine CF <| ze <| ze <| CE <| zt <| AG <| AR <| zm rfl <| B2 Tryz.call88 rfl rfl (fun w1 => zp (BV g S (PW at_ L L.length)) fun D' _ _ H2 => YJ D' w1 g S (PW at_ L L.length) (U2 AA) H2) ?_
 rw [UR AA, ← hsv]
 refine zn <| zg <| zs rfl <| AS <| zt <| zq <| ?_
 exact zz rfl rfl fun w' H' => ⟨rfl, H'.AK Z8⟩
theorem mQ {D : Nat → Prop} {w0 w : World} {l r : List AQ} {t : TypeId} {xs : List (List UInt8)} {cs : List Value} [h : GP l (D5 t xs cs) r] (H : AH D w0 w l) : ∀ v ∈ cs, v.oneCell' = true := by
 obtain ⟨x, _, hs⟩ := H.own
 exact SC (PE (t := t) (xs := xs) hs)
abbrev FJ (jb g from_ to_ ep end_ n : Nat) (q : Option Addr × Nat) : AQ := AI jb 131 [.pointer (some ⟨g, 0, none⟩), .int .i64 (from_ : Int), .int .i64 (to_ : Int), .int .u32 (ep : Int), .slice q.1 n q.2, .int .i64 (end_ : Int)]
def gW (jb g from_ to_ ep end_ : Nat) (L : List (List UInt8)) (q : Option Addr × Nat × List Value) : List AQ :=
 [FJ jb g from_ to_ ep end_ L.length (q.1, q.2.1), row q.1 108 1 L.length q.2.1 q.2.2, D5 5 L q.2.2]
def D3 (jb g from_ to_ ep end_ : Nat) (L : List (List UInt8)) : AQ := GQ (gW jb g from_ to_ ep end_ L)
section
variable {jb g from_ to_ ep end_ : Nat} {L : List (List UInt8)} {l : List AQ}
theorem OZ {A : Option Addr} {cap : Nat} {cs : List Value} : AD (FJ jb g from_ to_ ep end_ L.length (A, cap) :: row A 108 1 L.length cap cs :: D5 5 L cs :: l) (D3 jb g from_ to_ ep end_ L :: l) :=
 AD.GQ (L := gW jb g from_ to_ ep end_ L) (l := l) (A, cap, cs)
theorem qJ : AD (FJ jb g from_ to_ ep end_ 0 (none, 0) :: l) (D3 jb g from_ to_ ep end_ [] :: l) :=
 AD.trans (AD.cons (R9.trans (AD.EB 108 1))) (OZ (L := []) (A := none) (cap := 0) (cs := []))
end
theorem ZA (D : Nat → Prop) (w : World) (jb g from_ to_ ep end_ : Nat) (L : List (List UInt8)) (hle : end_ ≤ to_) (hto : to_ ≤ 100000) (H : AH D w w [D3 jb g from_ to_ ep end_ L]) :
  Calls Tryz.prog 141 #[.pointer (some ⟨jb, 0, none⟩)] w fun e w' => e = .returned (.int .i64 ((to_ - end_ : Nat) : Int)) ∧ AH D w w' [D3 jb g from_ to_ ep end_ L] := by
 refine BZ (vs := [.pointer (some ⟨jb, 0, none⟩)]) Tryz.func141 rfl _ Tryz.ntmps141 rfl H ?_
 simp only [BX, Nat.zero_add]
 refine HC.exs ?_
 rintro ⟨A, cap, cs⟩
 refine HC.AK (l' := FJ jb g from_ to_ ep end_ L.length (A, cap) :: row A 108 1 L.length cap cs :: D5 5 L cs :: []) (fun _ h => h) ?_
 refine zg <| zs rfl <| zn <| AG <| GM mixed AB <| AM (AO rfl) rfl <| AM (AY rfl) rfl <| AM (AP rfl) rfl <| AM (zw rfl rfl) rfl <| AM (AO rfl) rfl <| ?_
 refine AM (AY rfl) rfl <| AM (AP rfl) rfl <| AM (zw rfl rfl) rfl <| ?_
 refine AM (FY (m := ((to_ - end_ : Nat) : Int)) rfl rfl ((wrap_i64 AA).trans AA)) rfl ?_
 refine AM (DH rfl) rfl <| EM <| zt <| zq <| ?_
 exact zz rfl rfl fun w' H' => ⟨rfl, H'.AK OZ⟩
theorem ZG (D : Nat → Prop) (w : World) (jb g from_ to_ ep end_ : Nat) (L : List (List UInt8)) (ep' : Nat) (H : AH D w w [D3 jb g from_ to_ ep end_ L]) :
  Calls Tryz.prog 71 #[.pointer (some ⟨jb, 0, none⟩), .int .u32 (ep' : Int)] w fun e w' => e = .returned (.tuple #[]) ∧ AH D w w' [D3 jb g from_ to_ ep' from_ []] := by
 refine BZ (vs := [.pointer (some ⟨jb, 0, none⟩), .int .u32 (ep' : Int)]) Tryz.func71 rfl _ Tryz.ntmps71 rfl H ?_
 simp only [BX, Nat.zero_add]
 refine HC.exs ?_
 rintro ⟨A, cap, cs⟩
 refine HC.AK (l' := FJ jb g from_ to_ ep end_ L.length (A, cap) :: row A 108 1 L.length cap cs :: D5 5 L cs :: []) (fun _ h => h) ?_
 refine AR <| zm rfl <| zm rfl <| zm rfl <| zm rfl <| zm rfl <| zv (AY rfl) <| zf rfl <| zl rfl rfl <| zv (AY rfl) <| zf rfl <| A6 (DN rfl rfl rfl rfl rfl) rfl rfl <| ?_
 refine zv (AY rfl) <| zf rfl <| A6 (DN rfl rfl rfl rfl rfl) rfl rfl <| zv (AY rfl) <| zf rfl <| A6 (DN rfl rfl rfl rfl rfl) rfl rfl <| ?_
 refine AS <| ?_
 exact M9 (.inl rfl) rfl fun w' H' => ⟨rfl, H'.AK (AD.trans (b := [FJ jb g from_ to_ ep' from_ 0 (none, 0)]) Z8 qJ)⟩
theorem iQ (D : Nat → Prop) (w : World) (jb g from_ to_ ep end_ : Nat) (L : List (List UInt8)) (v : Value) (x : List UInt8) (hx : x.length ≤ 4000) (n : Nat) (hn : DG x.length = n) (hfull : to_ - end_ < n) (hle : end_ ≤ to_) (hto : to_ ≤ 100000) (hep : ep < 4294967296) (hL : L.length ≤ 1000000) (HA : Old D w (AX.rep x [v])) (H : AH D w w [D3 jb g from_ to_ ep end_ L]) :
  Calls Tryz.prog 102 #[.pointer (some ⟨jb, 0, none⟩), v] w fun e w' => e = .returned (.tuple #[.slice none 0 0, .int .i64 12]) ∧ AH D w w' [D3 jb g from_ to_ ep end_ L] := by
 obtain ⟨Ax, capx, rfl, _⟩ := HA.IG
 obtain ⟨E, hE⟩ : ∃ E, E = C1 (EY ep L.length x) := ⟨_, rfl⟩
 have hEl : E.length = n := by rw [hE, MT _ hx, hn]
 refine BZ (vs := [.pointer (some ⟨jb, 0, none⟩), .slice Ax x.length capx]) Tryz.func102 rfl _ Tryz.ntmps102 rfl H ?_
 simp only [BX, Nat.zero_add]
 refine zg <| zs rfl <| zs rfl <| zn <| AG <| HC.exs ?_
 rintro ⟨A, cap, cs⟩
 refine HC.AK (l' := FJ jb g from_ to_ ep end_ L.length (A, cap) :: row A 108 1 L.length cap cs :: D5 5 L cs :: []) (fun _ h => h) ?_
 refine EF [FJ jb g from_ to_ ep end_ L.length (A, cap)] mixed 18 rfl ?_
 refine AE 0 rfl (AO rfl) rfl <| AE 1 rfl (AY rfl) rfl <| AE 2 rfl (AP rfl) rfl <| AE 3 rfl (zw rfl rfl) rfl <| AE 4 rfl (AO rfl) rfl <| AE 5 rfl (AY rfl) rfl <| AE 6 rfl (AP rfl) rfl <| AE 7 rfl (zw rfl rfl) rfl <| AE 8 rfl BN rfl <| ?_
 refine AE 10 rfl (AO rfl) rfl <| AL 9 AB <| CW rfl (CD (m := ((L.length : Nat) : Int)) rfl (wrap_u32 AA)) rfl ?_
 refine AE 11 rfl (CH rfl rfl) rfl <| ?_
 refine AL 12 AB <| CR (σ := Option Addr × Nat) rfl Tryz.call126 rfl (fun w1 => zu fun D' hold _ _ => UK D' w1 (EY ep L.length x) _ E n hE hEl.symm ⟨show 1 < 256 by decide, hep, show L.length < 4294967296 by omega, hx⟩ (hold _ HA)) ?_
 intro qe
 try rw [List.nil_append]
 refine AE 13 rfl (AO rfl) rfl <| AE 14 rfl (I9 rfl rfl) rfl <| AE 15 rfl (I9 rfl rfl) rfl <| AE 16 rfl (DH rfl) rfl <| AE 17 rfl (DH rfl) rfl <| BY AB <| zt <| AG <| zg <| zm rfl <| ?_
 refine zv (CG rfl rfl) <| zn <| CP rfl ((fun h => h rfl)) <| HC.AK (AD.trans (b := FJ jb g from_ to_ ep end_ L.length (A, cap) :: row A 108 1 L.length cap cs :: D5 5 L cs :: [row qe.1 61 64 n qe.2 (E.flatMap BI)]) Z8 OZ) ?_
 refine zk <| AG <| zg <| zm rfl <| zv BN <| ?_
 refine zm rfl <| B2 Tryz.call141 rfl rfl (fun w1 => zp (D3 jb g from_ to_ ep end_ L) fun D' _ _ H2 => ZA D' w1 jb g from_ to_ ep end_ L hle hto H2) ?_
 refine zv (DV rfl rfl) <| zn <| GR rfl (AA) ?_
 refine zg <| zs rfl <| zs rfl <| zn <| zq <| zr <| ?_
 exact E5 (.inr rfl) rfl rfl rfl fun w' H' => ⟨rfl, H'.AK Z8⟩
theorem jA (D : Nat → Prop) (w : World) (jb g from_ to_ ep end_ : Nat) (L : List (List UInt8)) (v : Value) (x : List UInt8) (hx : x.length ≤ 4000) (n : Nat) (hn : DG x.length = n) (E : List BA) (hE : E = C1 (EY ep L.length x)) (hfit : n ≤ to_ - end_) (hle : end_ ≤ to_) (hto : to_ ≤ 100000) (hep : ep < 4294967296) (hL : L.length ≤ 1000000) (HA : Old D w (AX.rep x [v])) (H : AH D w w [D3 jb g from_ to_ ep end_ L]) :
  Calls Tryz.prog 102 #[.pointer (some ⟨jb, 0, none⟩), v] w fun e w' => ∃ qe : Option Addr × Nat, e = .returned (.tuple #[.slice qe.1 n qe.2, .int .i64 0]) ∧ AH D w w' [D3 jb g from_ to_ ep end_ L, row qe.1 61 64 n qe.2 (E.flatMap BI)] := by
 obtain ⟨Ax, capx, rfl, _⟩ := HA.IG
 have hEl : E.length = n := by rw [hE, MT _ hx, hn]
 refine BZ (vs := [.pointer (some ⟨jb, 0, none⟩), .slice Ax x.length capx]) Tryz.func102 rfl _ Tryz.ntmps102 rfl H ?_
 simp only [BX, Nat.zero_add]
 refine zg <| zs rfl <| zs rfl <| zn <| AG <| HC.exs ?_
 rintro ⟨A, cap, cs⟩
 refine HC.AK (l' := FJ jb g from_ to_ ep end_ L.length (A, cap) :: row A 108 1 L.length cap cs :: D5 5 L cs :: []) (fun _ h => h) ?_
 refine EF [FJ jb g from_ to_ ep end_ L.length (A, cap)] mixed 18 rfl ?_
 refine AE 0 rfl (AO rfl) rfl <| AE 1 rfl (AY rfl) rfl <| AE 2 rfl (AP rfl) rfl <| AE 3 rfl (zw rfl rfl) rfl <| AE 4 rfl (AO rfl) rfl <| AE 5 rfl (AY rfl) rfl <| AE 6 rfl (AP rfl) rfl <| AE 7 rfl (zw rfl rfl) rfl <| AE 8 rfl BN rfl <| ?_
 refine AE 10 rfl (AO rfl) rfl <| AL 9 AB <| CW rfl (CD (m := ((L.length : Nat) : Int)) rfl (wrap_u32 AA)) rfl ?_
 refine AE 11 rfl (CH rfl rfl) rfl <| ?_
 refine AL 12 AB <| CR (σ := Option Addr × Nat) rfl Tryz.call126 rfl (fun w1 => zu fun D' hold _ _ => UK D' w1 (EY ep L.length x) _ E n hE hEl.symm ⟨show 1 < 256 by decide, hep, show L.length < 4294967296 by omega, hx⟩ (hold _ HA)) ?_
 intro qe
 try rw [List.nil_append]
 refine AE 13 rfl (AO rfl) rfl <| AE 14 rfl (I9 rfl rfl) rfl <| AE 15 rfl (I9 rfl rfl) rfl <| AE 16 rfl (DH rfl) rfl <| AE 17 rfl (DH rfl) rfl <| BY AB <| zt <| AG <| zg <| zm rfl <| ?_
 refine zv (CG rfl rfl) <| zn <| CP rfl ((fun h => h rfl)) <| HC.AK (AD.trans (b := FJ jb g from_ to_ ep end_ L.length (A, cap) :: row A 108 1 L.length cap cs :: D5 5 L cs :: [row qe.1 61 64 n qe.2 (E.flatMap BI)]) Z8 OZ) ?_
 refine zk <| AG <| zg <| zm rfl <| zv BN <| ?_
 refine zm rfl <| B2 Tryz.call141 rfl rfl (fun w1 => zp (D3 jb g from_ to_ ep end_ L) fun D' _ _ H2 => ZA D' w1 jb g from_ to_ ep end_ L hle hto H2) ?_
 refine zv (DV rfl rfl) <| zn <| CP rfl (AA) ?_
 refine zk <| zg <| zm rfl <| zs rfl <| zs rfl <| zn <| zq <| ?_
 exact E5 (.inr rfl) rfl rfl rfl fun w' H' => ⟨qe, rfl, H'.AK Z8⟩
theorem TC (D : Nat → Prop) (w : World) (jb g from_ to_ ep end_ : Nat) (L : List (List UInt8)) (v : Value) (x : List UInt8) (hx : x.length ≤ 4000) (n : Nat) (hn : DG x.length = n) (hfull : to_ - end_ < n) (hle : end_ ≤ to_) (hto : to_ ≤ 100000) (hep : ep < 4294967296) (hL : L.length ≤ 1000000) (HA : Old D w (AX.rep x [v])) (H : AH D w w [D3 jb g from_ to_ ep end_ L]) :
  Calls Tryz.prog 60 #[.pointer (some ⟨jb, 0, none⟩), v] w fun e w' => e = .returned (.int .i64 12) ∧ AH D w w' [D3 jb g from_ to_ ep end_ L] := by
 refine BZ (vs := [.pointer (some ⟨jb, 0, none⟩), v]) Tryz.func60 rfl _ Tryz.ntmps60 rfl H ?_
 simp only [BX, Nat.zero_add]
 refine zg <| zs rfl <| zn <| AG <| AR <| zm rfl <| zm rfl <| B2 Tryz.call102 rfl rfl (fun w1 => zp (D3 jb g from_ to_ ep end_ L) fun D' hold _ H2 => iQ D' w1 jb g from_ to_ ep end_ L v x hx n hn hfull hle hto hep hL (hold _ HA) H2) ?_
 refine zm rfl <| zx rfl rfl <| zx rfl rfl <| zs rfl <| zs rfl <| AS <| zt <| AG <| zg <| zm rfl <| zv (CG rfl rfl) <| zn <| GR rfl (AF) ?_
 refine zg <| zm rfl <| zs rfl <| zn <| zq <| zr <| ?_
 exact zz rfl rfl fun w' H' => ⟨rfl, H'⟩
set_option maxHeartbeats 1000000 in
theorem TJ (D : Nat → Prop) (w : World) (jb g from_ to_ ep end_ : Nat) (L : List (List UInt8)) (v : Value) (S : List BA) (x : List UInt8) (n end' : Nat) (L' : List (List UInt8)) (S' : List BA) (hn : DG x.length = n) (he : end' = end_ + n) (hL' : L' = L ++ [x]) (hS' : S' = D7 S end_ (C1 (EY ep L.length x))) (hle : end_ ≤ to_) (hto : to_ ≤ S.length) (hS : S.length ≤ 100000) (hp : x.length ≤ 4000) (hfit : n ≤ to_ - end_) (hep : ep < 4294967296) (hL : L.length ≤ 1000000) (HA : Old D w (AX.rep x [v])) (H : AH D w w [D3 jb g from_ to_ ep end_ L, BV g S []]) :
  Calls Tryz.prog 60 #[.pointer (some ⟨jb, 0, none⟩), v] w fun e w' => e = .returned (.int .i64 0) ∧ AH D w w' [D3 jb g from_ to_ ep end' L', BV g S' []] := by
 obtain ⟨E, hE⟩ : ∃ E, E = C1 (EY ep L.length x) := ⟨_, rfl⟩
 have hEl : E.length = n := by rw [hE, MT _ hp, hn]
 have hpos := SM (EY ep L.length x)
 rw [← hE] at hpos hS'
 obtain ⟨Ax, capx, rfl, _, _, HS⟩ := HA.IG
 refine BZ (vs := [.pointer (some ⟨jb, 0, none⟩), .slice Ax x.length capx]) Tryz.func60 rfl _ Tryz.ntmps60 rfl H ?_
 simp only [BX, Nat.zero_add]
 refine zg <| zs rfl <| zn <| AG <| AR <| zm rfl <| zm rfl <| CQ (σ := Option Addr × Nat) Tryz.call102 rfl rfl (fun w1 => EZ (D3 jb g from_ to_ ep end_ L) fun D' hold _ H2 => jA D' w1 jb g from_ to_ ep end_ L _ x hp n hn E hE hfit hle AA hep hL (hold _ HA) H2) ?_
 intro qe
 refine HL.fact (fun w H => AH.GS qe.1 H) ?_
 rintro ⟨_, _, _, hAe'⟩
 have hAe : CU qe.1 := hAe' (by intro h; have := congrArg List.length h; rw [FU DU] at this; simp only [List.length_nil] at this; omega)
 refine zm rfl <| zx rfl rfl <| zx rfl rfl <| zs rfl <| zs rfl <| AS <| zt <| AG <| zg <| zm rfl <| zv (CG rfl rfl) <| zn <| CP rfl ((fun h => h rfl)) <| zk <| AG <| AG <| HC.exs ?_
 rintro ⟨A, cap, cs⟩
 refine HC.AK (l' := FJ jb g from_ to_ ep end_ L.length (A, cap) :: row A 108 1 L.length cap cs :: D5 5 L cs :: [row qe.1 61 64 n qe.2 (E.flatMap BI), BV g S []]) (fun _ h => h) ?_
 refine HC.fact (fun w H => AH.GS A H) (fun hf => ?_)
 obtain ⟨hcl0, hcap, hcap2, hA⟩ := hf
 refine HC.fact (fun w H => mQ (t := 5) (xs := L) (cs := cs) H) (fun hone => ?_)
 refine AR <| zs rfl <| zn <| BK <| GL (σ := Nat) [0, 1, 5] rfl 7 (fun i => .int .i64 (i : Int)) (fun i => [BV g S (PW end_ E i), row qe.1 61 64 n qe.2 (E.flatMap BI), FJ jb g from_ to_ ep end_ L.length (A, cap), row A 108 1 L.length cap cs, D5 5 L cs]) (fun i => i ≤ n) (fun i => n - i) (0) (Nat.zero_le _) rfl (show AD _ [BV g S [], row qe.1 61 64 n qe.2 (E.flatMap BI), FJ jb g from_ to_ ep end_ L.length (A, cap), row A 108 1 L.length cap cs, D5 5 L cs] from Z8) ?_
 rintro i hi K1 hK1
 refine AG <| zg <| zm rfl <| zm rfl <| zv BN <| ?_
 refine zv (B7 rfl rfl) <| zn <| BP rfl (fun h => ?_) (fun h => ?_)
 ·have hin : i < n := by omega
  have hiE : i < E.length := by omega
  refine zk <| AG <| BK <| E2 14 mixed AB ?_
  refine AT (AO rfl) rfl <| AT (AY rfl) rfl <| AT (AP rfl) rfl <| AT (zw rfl rfl) rfl <| AT (AO rfl) rfl <| AT (AY rfl) rfl <| ?_
  refine AT (AP rfl) rfl <| AT (zw rfl rfl) rfl <| AT (AO rfl) rfl <| ?_
  refine AT (BM (m := ((end_ + i : Nat) : Int)) rfl rfl ((wrap_i64 AA).trans AA)) rfl ?_
  refine AT (AO rfl) rfl <| AT (AO rfl) rfl <| ?_
  refine AT (CZ rfl hAe rfl i rfl hin) rfl ?_
  refine AT (D4 (cs := BI E[i]) rfl (DU _) (DZ.flat (f := BI) (A := qe.1) DU hAe (i := i) hiE)) rfl ?_
  refine EV <| ?_
  refine B2 Tryz.call87 rfl rfl (fun w1 => zp (BV g S (PW end_ E i)) fun D' _ _ H2 => bI D' w1 g (end_ + i) E[i] S (PW end_ E i) AA (by have := UX (at_ := end_) (l := E) (i := i); omega) H2) ?_
  rw [← UP hiE]
  refine AS <| zb <| zt <| AR <| zm rfl <| zv (BM rfl rfl BO) <| ?_
  refine zs rfl <| AS <| B5 hK1 (i + 1) (hin) AA BD BL
 have hin : i = n := by omega
 have hPd : FF (fun _ => true) 0 S (PW end_ E E.length) = S' := by rw [hS']; exact UR AA
 rw [hin, ← hEl]
 refine CF <| ze <| ze <| CE <| zt <| AG <| AR <| zm rfl <| zv (AY rfl) <| zf rfl <| zl rfl rfl <| ?_
 refine B2 Tryz.call88 rfl rfl (fun w1 => zp (BV g S (PW end_ E E.length)) fun D' _ _ H2 => YJ D' w1 g S (PW end_ E E.length) (U2 AA) H2) ?_
 rw [hPd]
 refine zn <| zg <| zm rfl <| AV (BS rfl rfl rfl) rfl rfl rfl (fun b44 => ?_)
 refine HL.AK (AD.FQ (b := b44) 1 0 rfl AF) ?_
 refine zm rfl <| zv (AY rfl) <| zf rfl <| zl rfl rfl <| ?_
 refine AV (BT (A := some ⟨b44, 0, none⟩) (news := cs) rfl rfl (BB.G1 (A := A) hA) AA hone AF AA) rfl rfl rfl ?_
 rintro ⟨A2, cap2⟩
 dsimp only
 simp only [Nat.zero_add, List.nil_append]
 refine AV (BS rfl rfl rfl) rfl rfl rfl (fun b50 => ?_)
 refine HL.AK (AD.FQ (b := b50) 1 0 rfl AF) ?_
 refine zm rfl <| AV (BT (A := some ⟨b50, 0, none⟩) (news := x.map AU) rfl rfl (BB.old HS) (by simp) (EL _) AF AA) rfl rfl rfl ?_
 rintro ⟨A3, cap3⟩
 dsimp only
 simp only [Nat.zero_add, List.nil_append]
 refine AV (BS rfl rfl rfl) rfl rfl rfl fun b53 =>  ?_
 refine AV (BT (A := A2) (news := [.slice A3 x.length cap3]) rfl rfl (BB.AI (b := b53)) rfl CL AF AA) rfl rfl rfl ?_
 rintro ⟨A4, cap4⟩
 dsimp only
 refine zv (AY rfl) <| zf rfl <| A6 (DN rfl rfl rfl rfl rfl) rfl rfl <| zn <| AG <| ?_
 refine AR <| zm rfl <| zv (AY rfl) <| zf rfl <| zl rfl rfl <| zm rfl <| ?_
 refine zv BN <| ?_
 refine AZ (BM (m := ((end' : Nat) : Int)) rfl rfl ((wrap_i64 AA).trans AA)) rfl ?_
 refine zv (AY rfl) <| zf rfl <| A6 (DN rfl rfl rfl rfl rfl) rfl rfl <| zn <| AG <| ?_
 refine AR <| zs rfl <| zn <| zq <| ?_
 exact zz rfl rfl fun w' H' => ⟨rfl, H'.AK (AD.trans (b := D5 5 L cs :: row A3 5 1 x.length cap3 (x.map AU) :: [FJ jb g from_ to_ ep end' (L.length + 1) (A4, cap4), row A4 108 1 (L.length + 1) cap4 (cs ++ [.slice A3 x.length cap3]), BV g S' []]) Z8 (AD.trans PF (by have hj := OZ (jb := jb) (g := g) (from_ := from_) (to_ := to_) (ep := ep) (end_ := end') (L := L ++ [x]) (A := A4) (cap := cap4) (cs := cs ++ [.slice A3 x.length cap3]) (l := [BV g S' []]); rw [List.length_append] at hj; rw [hL']; exact AD.trans Z8 hj)))⟩
theorem oF (m : Nat) : DG m ≤ 64 := by unfold DG; split <;> omega
theorem nX (l : List BA) : FN (l.take 70) = FN l := by
 cases l with
 | nil => rfl
 | cons s r =>
  rw [List.take_succ_cons]
  have hn := oF (EW s 10 2)
  have ht : ∀ k, k ≤ 64 → (s :: r.take 69).take k = (s :: r).take k := fun k hk => by
   rw [← List.take_succ_cons, List.take_take, Nat.min_eq_left AA]
  have hc : IP (s :: r.take 69) s = IP (s :: r) s := by unfold IP; rw [ht _ hn]
  have hl : DG (EW s 10 2) ≤ (s :: r.take 69).length ↔ DG (EW s 10 2) ≤ (s :: r).length := by
   simp only [List.length_cons, List.length_take]; omega
  show (if _ then _ else _) = (if _ then _ else _)
  rw [hc, ht _ hn]
  simp only [hl]
theorem pU {l : List BA} {e : EO} {n : Nat} (h : FN l = some (e, n)) : e.2.2.1 < 4294967296 := by
 cases l with
 | nil => cases h
 | cons s r =>
  have h' : (if s[0].toNat = 87 ∧ DG (EW s 10 2) ≠ 0 ∧ DG (EW s 10 2) ≤ (s :: r).length ∧ C1 (IP (s :: r) s) = (s :: r).take (DG (EW s 10 2)) then some (IP (s :: r) s, DG (EW s 10 2)) else none) = some (e, n) := h
  by_cases hh : s[0].toNat = 87 ∧ DG (EW s 10 2) ≠ 0 ∧ DG (EW s 10 2) ≤ (s :: r).length ∧ C1 (IP (s :: r) s) = (s :: r).take (DG (EW s 10 2))
  ·rw [if_pos hh] at h'
   injection h' with h'
   injection h' with h1 h2
   subst h1
   exact R8 s 6 AF
  ·rw [if_neg hh] at h'; cases h'
set_option maxHeartbeats 2000000 in
theorem cS (D : Nat → Prop) (w : World) (g : Nat) (S : List BA) (from_ to_ N : Nat) (T : List BA) (ep : Nat) (hto : to_ ≤ S.length) (hS : S.length ≤ 100000) (hN : from_ + N = to_) (hN0 : 0 < N) (hT : T = (S.drop from_).take N) (H : AH D w w [BV g S []]) :
  Calls Tryz.prog 54 #[.pointer (some ⟨g, 0, none⟩), .int .i64 (from_ : Int), .int .i64 (to_ : Int), .int .u32 (ep : Int)] w fun e w' => ∃ jb : Nat, e = .returned (.tuple #[.pointer (some ⟨jb, 0, none⟩), .int .i64 0]) ∧ AH D w w' [D3 jb g from_ to_ ep (from_ + (E9 ep N 0 T).2) (E9 ep N 0 T).1, BV g S []] := by
 have hTl : T.length = N := by rw [hT, List.length_take, List.length_drop]; omega
 have hTk : ∀ k (h : k < N), ∃ h2 : k < T.length, T[k] = S[from_ + k]'(by omega) := fun k h => by
  refine ⟨by omega, ?_⟩
  have : T[k]? = S[from_ + k]? := by rw [hT, List.getElem?_take_of_lt h, List.getElem?_drop]
  rw [List.getElem?_eq_getElem AA, List.getElem?_eq_getElem AA] at this
  simpa using this
 refine BZ (vs := [.pointer (some ⟨g, 0, none⟩), .int .i64 (from_ : Int), .int .i64 (to_ : Int), .int .u32 (ep : Int)]) Tryz.func54 rfl _ Tryz.ntmps54 rfl H ?_
 simp only [BX, Nat.zero_add]
 refine HC.exs ?_
 rintro ⟨⟨A0, c0⟩, A1, c1⟩
 refine HC.AK (l' := [AI g 56 [.slice A0 S.length c0, .slice A1 0 c1], row A0 61 64 S.length c0 (S.flatMap BI), row A1 63 65 0 c1 []]) (fun _ h => h) ?_
 refine zg <| zs rfl <| zs rfl <| zn <| AG <| zg <| zm rfl <| zv (IL rfl rfl) <| zm rfl <| AJ rfl rfl <| zm rfl <| AJ rfl rfl <| zv (B7 rfl rfl) <| zv (A8 rfl rfl) <| zm rfl <| F0 (t := 22) rfl (AA) ?_
 refine AJ rfl rfl <| zm rfl <| AJ rfl rfl <| zm rfl <| AJ rfl rfl <| zv (GN rfl rfl) <| zv (A8 rfl rfl) <| zm rfl <| F0 (t := 27) rfl (AA) ?_
 refine AJ rfl rfl <| zm rfl <| AJ rfl rfl <| zm rfl <| AJ rfl rfl <| zv (AY rfl) <| AJ rfl rfl <| zf rfl <| AJ rfl rfl <| zl rfl rfl <| AJ rfl rfl <| zv BN <| ?_
 refine AJ rfl rfl <| zv (DV rfl rfl) <| zv (A8 rfl rfl) <| zn <| CP rfl (AA) ?_
 refine HC.AK (JK (P := [])) ?_
 refine zk <| zg <| zm rfl <| zm rfl <| zm rfl <| zm rfl <| zm rfl <| zv (CH rfl rfl) <| ?_
 refine AV (EE rfl rfl) rfl rfl rfl fun b42 =>  ?_
 refine zs rfl <| zn <| BK <| oC (σ := Nat × List (List UInt8) × (Option Addr × Nat × List Value)) [0, 2, 3, 10] rfl  (fun s => [FJ b42 g from_ to_ ep (from_ + s.1) s.2.1.length (s.2.2.1, s.2.2.2.1), row s.2.2.1 108 1 s.2.1.length s.2.2.2.1 s.2.2.2.2, D5 5 s.2.1 s.2.2.2.2, BV g S []]) (fun s => s.1 ≤ N ∧ s.2.1.length ≤ s.1 ∧ E9 ep N 0 T = (s.2.1 ++ (E9 ep (N - s.2.1.length) s.2.1.length (T.drop s.1)).1, s.1 + (E9 ep (N - s.2.1.length) s.2.1.length (T.drop s.1)).2)) (fun s => N - s.1) ((0, [], (none, 0, []))) (⟨Nat.zero_le _, Nat.le_refl _, by simp⟩)  (AD.trans (b := FJ b42 g from_ to_ ep from_ 0 (none, 0) :: [BV g S []]) Z8 (AD.cons (R9.trans (AD.EB 108 1)))) ?_
 rintro ⟨k, LL, ⟨qa, qc, ds⟩⟩ hj_ K1 hK1
 dsimp only at hj_ ⊢
 obtain ⟨hkN, hLk, hent⟩ := hj_
 obtain ⟨U, hU⟩ : ∃ U, U = (T.drop k).take 70 := ⟨_, rfl⟩
 obtain ⟨M, hM⟩ : ∃ M, M = U.length := ⟨_, rfl⟩
 have hMe : M = min 70 (N - k) := by rw [hM, hU, List.length_take, List.length_drop, hTl]
 refine BK <| zg <| zs rfl <| zn <| AG <| zg <| zm rfl <| zv (AY rfl) <| zf rfl <| ?_
 refine zl rfl rfl <| zs rfl <| zn <| NX (σ := Option Addr × Nat) [0, 2, 3, 10] rfl 11 (fun q => .slice q.1 M q.2) (fun q => [row q.1 61 64 M q.2 (U.flatMap BI), FJ b42 g from_ to_ ep (from_ + k) LL.length (qa, qc), row qa 108 1 LL.length qc ds, D5 5 LL ds, BV g S []]) (fun K2 hK2 => ?_) (fun q => ?_)
 ·refine BK <| JA (σ := Nat × Option Addr × Nat) [0, 2, 3, 10] rfl 11 (fun t => .slice t.2.1 t.1 t.2.2) 12 (fun t => .int .i64 ((from_ + k + t.1 : Nat) : Int)) (fun t => [row t.2.1 61 64 t.1 t.2.2 (((T.drop k).take t.1).flatMap BI), FJ b42 g from_ to_ ep (from_ + k) LL.length (qa, qc), row qa 108 1 LL.length qc ds, D5 5 LL ds, BV g S []]) (fun t => t.1 ≤ M) (fun t => M - t.1) ((0, none, 0)) (Nat.zero_le _) rfl rfl (AD.trans (AD.EB 61 64) Z3) ?_
  rintro ⟨m, ql⟩ hmM K3 hK3
  dsimp only at hmM ⊢
  refine AG <| zg <| zm rfl <| zm rfl <| zv (B7 rfl rfl) <| zm rfl <| DB (t := 50) rfl (fun c1 => ?_) (fun c1 => ?_)
  ·refine AJ rfl rfl <| zm rfl <| AJ rfl rfl <| zv BN <| ?_
   refine AJ rfl rfl <| zv (B7 rfl rfl) <| zv (BF rfl rfl) <| zn <| BP rfl (fun c2 => ?_) (fun c2 => ?_)
   ·have hmk : k + m < N := by omega
    have hm70 : m < M := by omega
    obtain ⟨hkt, hTs⟩ := hTk (k + m) hmk
    have hst : (T.drop k).take (m + 1) = (T.drop k).take m ++ [T[k + m]] := by
     rw [List.take_succ_eq_append_getElem MG, List.getElem_drop]
    obtain ⟨s, hs⟩ : ∃ s, s = T[k + m] := ⟨_, rfl⟩
    rw [← hs] at hst hTs
    refine zk <| AG <| BK <| zg <| zm rfl <| zm rfl <| B2 Tryz.call90 rfl rfl (fun w1 => zp (BV g S []) fun D' _ _ H2 => (dG D' w1 g (from_ + k + m) S [] AA H2).mono fun e w' ⟨he, H'⟩ => ⟨show e = Ending.returned (.tuple #[.agg (BI s).toArray, .int .i64 0]) by rw [he, hTs]; simp only [Nat.add_assoc]; rfl, H'⟩) ?_
    refine zm rfl <| zx rfl rfl <| zx rfl rfl <| AV (B9) rfl rfl rfl fun b13 =>  ?_
    refine A6 (CV (vs := BI s) rfl rfl NN NN (IF s)) rfl rfl ?_
    refine zs rfl <| zn <| AR <| zm rfl <| AZ (FV rfl (DU s)) rfl <| AV (HG (res := BI s) rfl rfl (OS _)) rfl rfl rfl (fun b37 => ?_)
    refine AV (BT (A := ql.1) (news := BI s) rfl rfl (BB.AI (b := b37)) O8 (IF _) AF AA) rfl rfl rfl (fun qm => ?_)
    rw [show ((T.drop k).take m).flatMap BI ++ BI s = ((T.drop k).take (m + 1)).flatMap BI by rw [hst, List.flatMap_append, List.flatMap_singleton]]
    refine zs rfl <| AS <| zb <| zt <| AR <| zm rfl <| AZ (BM (m := ((from_ + k + (m + 1) : Nat) : Int)) rfl rfl ((wrap_i64 AA).trans AA)) rfl ?_
    refine zs rfl <| AS <| B5 hK3 ((m + 1, qm)) (hm70) AA BD BL
   have hmm : m = M := by omega
   subst hmm
   rw [show (T.drop k).take m = U by rw [hU]; rw [show m = 70 by omega]]
   refine CF <| ze <| ze <| CE <| DF hK2 (ql) BD BL
  have hmm : m = M := by omega
  subst hmm
  rw [show (T.drop k).take m = U by rw [hU, List.take_of_length_le MG, List.take_of_length_le MG]]
  refine zo rfl rfl <| zo rfl rfl <| zo rfl rfl <| zv (A8 rfl rfl) <| zn <| EU rfl <| CF <| ze <| ze <| CE <| DF hK2 (ql) BD BL
 have hdU : FN U = FN (T.drop k) := by rw [hU]; exact nX _
 rcases hd : FN (T.drop k) with _ | ⟨x, n⟩
 ·have hfin : E9 ep N 0 T = (LL, k) := by
   rw [hent]
   cases N - LL.length with
   | zero => simp [E9]
   | succ f => rw [E9, hd]; simp
  refine zt <| zg <| zm rfl <| B2 Tryz.call91 rfl rfl (fun w1 => D6 fun D' _ hin _ => aQ D' w1 _ U (hdU.trans hd) AA (hin _ fun h hs ho => C7 (A := q.1) hs U hM (L4.2 rfl))) ?_
  refine AV (B9) rfl rfl rfl fun b15 =>  ?_
  refine A6 (CV (vs := [.int .i64 0, .int .u32 0, .int .u32 0, .slice none 0 0, .int .i64 0, .int .i64 11]) rfl rfl (by simp) (by simp) CL) rfl rfl ?_
  refine zn <| AG <| AG <| GM mixed AB <| AM (AP rfl) rfl <| ?_
  refine AM (zw rfl rfl) rfl <| AM (CG rfl rfl) rfl <| AM (AO rfl) rfl <| ?_
  refine UH (t := 72) rfl (AF) ?_
  refine BG rfl rfl rfl rfl rfl rfl <| BG rfl rfl rfl rfl rfl rfl <| BG rfl rfl rfl rfl rfl rfl <| BG rfl rfl rfl rfl rfl rfl <| AM (BF rfl rfl) rfl <| AM (AO rfl) rfl <| ?_
  refine BG rfl rfl rfl rfl rfl rfl <| BG rfl rfl rfl rfl rfl rfl <| BG rfl rfl rfl rfl rfl rfl <| BG rfl rfl rfl rfl rfl rfl <| BG rfl rfl rfl rfl rfl rfl <| AM (BF rfl rfl) rfl <| ?_
  refine AM (AO rfl) rfl <| BG rfl rfl rfl rfl rfl rfl <| BG rfl rfl rfl rfl rfl rfl <| BG rfl rfl rfl rfl rfl rfl <| BG rfl rfl rfl rfl rfl rfl <| BG rfl rfl rfl rfl rfl rfl <| ?_
  refine BG rfl rfl rfl rfl rfl rfl <| BG rfl rfl rfl rfl rfl rfl <| BG rfl rfl rfl rfl rfl rfl <| BG rfl rfl rfl rfl rfl rfl <| BG rfl rfl rfl rfl rfl rfl <| AM (BF rfl rfl) rfl <| ?_
  refine EM <| zt <| DD rfl <| zg <| zm rfl <| ?_
  refine zs rfl <| zs rfl <| zn <| zq <| zr <| B4 <| zr <| B4 <| ?_
  exact E5 (.inr rfl) rfl rfl rfl fun w' H' => ⟨b42, rfl, H'.AK (AD.trans (b := FJ b42 g from_ to_ ep (from_ + k) LL.length (qa, qc) :: row qa 108 1 LL.length qc ds :: D5 5 LL ds :: [BV g S []]) Z8 VN)⟩
 have hkN2 : k < N := by
  rcases Nat.lt_or_ge k N with h | h
  ·exact h
  ·rw [List.drop_of_length_le AA] at hd; cases hd
 obtain ⟨f, hf⟩ : ∃ f, N - LL.length = f + 1 := ⟨N - LL.length - 1, by omega⟩
 rw [hf] at hent
 rw [E9, hd] at hent
 dsimp only at hent
 have hsq := pU hd
 have hnk : 1 ≤ n ∧ n ≤ (T.drop k).length := by
  rcases hTk : T.drop k with _ | ⟨s, r⟩
  ·have := congrArg List.length hTk
   rw [List.length_drop, List.length_nil] at this; omega
  ·rw [hTk] at hd; exact (SA hd).2
 rw [List.length_drop] at hnk
 refine zt <| zg <| zm rfl <| CQ (σ := Option Addr × Nat) Tryz.call91 rfl rfl (fun w1 => zu fun D' _ hin _ => aL D' w1 _ U x n (hdU.trans hd) AA (hin _ fun h hs ho => C7 (A := q.1) hs U hM (L4.2 rfl))) ?_
 intro qx
 try rw [List.nil_append]
 refine AV (B9) rfl rfl rfl fun b15 =>  ?_
 refine A6 (CV (vs := [.int .i64 x.1, .int .u32 x.2.1, .int .u32 x.2.2.1, .slice qx.1 x.2.2.2.length qx.2, .int .i64 n, .int .i64 0]) rfl rfl (by simp) (by simp) CL) rfl rfl ?_
 refine zn <| AG <| AG <| GM mixed AB <| AM (AP rfl) rfl <| ?_
 refine AM (zw rfl rfl) rfl <| AM (CG rfl rfl) rfl <| AM (AO rfl) rfl <| ?_
 refine XA (t := 72) rfl ((fun h => h rfl)) ?_
 refine B6 rfl rfl <| AM (AP rfl) rfl <| B6 rfl rfl <| AM (AP rfl) rfl <| B6 rfl rfl <| AM (zw rfl rfl) rfl <| B6 rfl rfl <| AM (CG rfl rfl) rfl <| AM (A8 rfl rfl) rfl <| AM (AO rfl) rfl <| ?_
 refine JC (t := 78) rfl (fun c1 => ?_) (fun c1 => ?_)
 ·have hfin : E9 ep N 0 T = (LL, k) := by rw [hent, if_neg AA]; simp
  refine BG rfl rfl rfl rfl rfl rfl <| BG rfl rfl rfl rfl rfl rfl <| BG rfl rfl rfl rfl rfl rfl <| BG rfl rfl rfl rfl rfl rfl <| BG rfl rfl rfl rfl rfl rfl <| AM (BF rfl rfl) rfl <| ?_
  refine AM (AO rfl) rfl <| BG rfl rfl rfl rfl rfl rfl <| BG rfl rfl rfl rfl rfl rfl <| BG rfl rfl rfl rfl rfl rfl <| BG rfl rfl rfl rfl rfl rfl <| BG rfl rfl rfl rfl rfl rfl <| ?_
  refine BG rfl rfl rfl rfl rfl rfl <| BG rfl rfl rfl rfl rfl rfl <| BG rfl rfl rfl rfl rfl rfl <| BG rfl rfl rfl rfl rfl rfl <| BG rfl rfl rfl rfl rfl rfl <| AM (BF rfl rfl) rfl <| ?_
  refine EM <| zt <| DD rfl <| zg <| zm rfl <| ?_
  refine zs rfl <| zs rfl <| zn <| zq <| zr <| B4 <| zr <| B4 <| ?_
  exact E5 (.inr rfl) rfl rfl rfl fun w' H' => ⟨b42, rfl, H'.AK (AD.trans (b := FJ b42 g from_ to_ ep (from_ + k) LL.length (qa, qc) :: row qa 108 1 LL.length qc ds :: D5 5 LL ds :: [BV g S []]) Z8 VN)⟩
 refine B6 rfl rfl <| AM (AP rfl) rfl <| B6 rfl rfl <| AM (AP rfl) rfl <| B6 rfl rfl <| AM (zw rfl rfl) rfl <| B6 rfl rfl <| AM (AO rfl) rfl <| B6 rfl rfl <| AM (CG rfl rfl) rfl <| AM (A8 rfl rfl) rfl <| ?_
 refine AM (AO rfl) rfl <| ?_
 refine JC (t := 85) rfl (fun c2 => ?_) (fun c2 => ?_)
 ·have hfin : E9 ep N 0 T = (LL, k) := by rw [hent, if_neg AA]; simp
  refine BG rfl rfl rfl rfl rfl rfl <| BG rfl rfl rfl rfl rfl rfl <| BG rfl rfl rfl rfl rfl rfl <| BG rfl rfl rfl rfl rfl rfl <| BG rfl rfl rfl rfl rfl rfl <| BG rfl rfl rfl rfl rfl rfl <| ?_
  refine BG rfl rfl rfl rfl rfl rfl <| BG rfl rfl rfl rfl rfl rfl <| BG rfl rfl rfl rfl rfl rfl <| BG rfl rfl rfl rfl rfl rfl <| AM (BF rfl rfl) rfl <| EM <| ?_
  refine zt <| DD rfl <| zg <| zm rfl <| zs rfl <| zs rfl <| zn <| zq <| zr <| B4 <| zr <| B4 <| ?_
  exact E5 (.inr rfl) rfl rfl rfl fun w' H' => ⟨b42, rfl, H'.AK (AD.trans (b := FJ b42 g from_ to_ ep (from_ + k) LL.length (qa, qc) :: row qa 108 1 LL.length qc ds :: D5 5 LL ds :: [BV g S []]) Z8 VN)⟩
 refine B6 rfl rfl <| AM (AP rfl) rfl <| B6 rfl rfl <| AM (AP rfl) rfl <| B6 rfl rfl <| AM (zw rfl rfl) rfl <| B6 rfl rfl <| AM (CD rfl BO) rfl <| ?_
 refine B6 rfl rfl <| AM (AO rfl) rfl <| B6 rfl rfl <| AM (AY rfl) rfl <| B6 rfl rfl <| AM (AP rfl) rfl <| B6 rfl rfl <| AM (zw rfl rfl) rfl <| B6 rfl rfl <| AM BN rfl <| ?_
 refine B6 rfl rfl <| AM (CG rfl rfl) rfl <| AM (A8 rfl rfl) rfl <| EM <| zt <| ?_
 refine BP rfl (fun c3 => ?_) (fun c3 => ?_)
 ·have hfin : E9 ep N 0 T = (LL, k) := by rw [hent, if_neg AA]; simp
  refine zg <| zm rfl <| zs rfl <| zs rfl <| AS <| zt <| zq <| zr <| B4 <| zr <| B4 <| ?_
  exact E5 (.inr rfl) rfl rfl rfl fun w' H' => ⟨b42, rfl, H'.AK (AD.trans (b := FJ b42 g from_ to_ ep (from_ + k) LL.length (qa, qc) :: row qa 108 1 LL.length qc ds :: D5 5 LL ds :: [BV g S []]) Z8 VN)⟩
 rw [if_pos ⟨by omega, by omega, by omega⟩] at hent
 have hLx : (LL ++ [x.2.2.2]).length = LL.length + 1 := by simp
 have hent2 : E9 ep N 0 T = ((LL ++ [x.2.2.2]) ++ (E9 ep (N - (LL ++ [x.2.2.2]).length) (LL ++ [x.2.2.2]).length (T.drop (k + n))).1, (k + n) + (E9 ep (N - (LL ++ [x.2.2.2]).length) (LL ++ [x.2.2.2]).length (T.drop (k + n))).2) := by
  rw [hent, hLx, show N - (LL.length + 1) = f by omega, List.drop_drop, List.append_assoc, Nat.add_assoc]; rfl
 refine zk <| AG <| EF [AI b15 194 [.int .i64 x.1, .int .u32 x.2.1, .int .u32 x.2.2.1, .slice qx.1 x.2.2.2.length qx.2, .int .i64 n, .int .i64 0]] mixed 13 rfl ?_
 refine AE 0 rfl (AO rfl) rfl <| AE 1 rfl (AO rfl) rfl <| AE 2 rfl (AY rfl) rfl <| AE 3 rfl (AP rfl) rfl <| AE 5 rfl (AP rfl) rfl <| AE 6 rfl (AP rfl) rfl <| AE 7 rfl (zw rfl rfl) rfl <| DE 4 8 AB ?_ ?_
 ·skip
  refine CW rfl (zw rfl rfl) rfl <| AL 8 AB <| BC rfl (BS rfl rfl rfl) rfl (fun b106 => ?_)
  refine AL 9 AB <| BC rfl (BT (A := qa) (news := [.slice qx.1 x.2.2.2.length qx.2]) rfl rfl (BB.AI (b := b106)) rfl CL AF AA) rfl ?_
  rintro ⟨A', cap'⟩
  dsimp only
  refine AE 10 rfl (AY rfl) rfl <| AE 11 rfl (AP rfl) rfl <| AL 12 AB <| CB rfl (DN rfl rfl rfl rfl rfl) rfl ?_
  refine BY AB <| ?_
  refine zt <| E2 9 mixed AB ?_
  refine AT (AO rfl) rfl <| AT (AY rfl) rfl <| AT (AP rfl) rfl <| AT (zw rfl rfl) rfl <| AT (AP rfl) rfl <| AT (zw rfl rfl) rfl <| ?_
  refine AT (BM (m := ((from_ + (k + n) : Nat) : Int)) rfl rfl ((wrap_i64 AA).trans AA)) rfl ?_
  refine AT (AY rfl) rfl <| AT (AP rfl) rfl <| EV <| A6 (DN rfl rfl rfl rfl rfl) rfl rfl <| AS <| zb <| ?_
  exact B5 hK1 ((k + n, LL ++ [x.2.2.2], (A', cap', ds ++ [.slice qx.1 x.2.2.2.length qx.2]))) (⟨by show k + n ≤ N; omega, by show (LL ++ [x.2.2.2]).length ≤ k + n; omega, hent2⟩) VK BD (AD.trans (b := D5 5 LL ds :: row qx.1 5 1 x.2.2.2.length qx.2 (x.2.2.2.map AU) :: [FJ b42 g from_ to_ ep (from_ + (k + n)) (LL.length + 1) (A', cap'), row A' 108 1 (LL.length + 1) cap' (ds ++ [.slice qx.1 x.2.2.2.length qx.2]), BV g S []]) Z8 (AD.trans PF Z4))
 skip
 refine BC rfl (BS rfl rfl rfl) rfl (fun b106 => ?_)
 refine AL 4 AB <| CW rfl (zw rfl rfl) rfl <| AL 9 AB <| BC rfl (BT (A := qa) (news := [.slice qx.1 x.2.2.2.length qx.2]) rfl rfl (BB.AI (b := b106)) rfl CL AF AA) rfl ?_
 rintro ⟨A', cap'⟩
 dsimp only
 refine AE 10 rfl (AY rfl) rfl <| AE 11 rfl (AP rfl) rfl <| AL 12 AB <| CB rfl (DN rfl rfl rfl rfl rfl) rfl ?_
 refine BY AB <| ?_
 refine zt <| E2 9 mixed AB ?_
 refine AT (AO rfl) rfl <| AT (AY rfl) rfl <| AT (AP rfl) rfl <| AT (zw rfl rfl) rfl <| AT (AP rfl) rfl <| AT (zw rfl rfl) rfl <| ?_
 refine AT (BM (m := ((from_ + (k + n) : Nat) : Int)) rfl rfl ((wrap_i64 AA).trans AA)) rfl ?_
 refine AT (AY rfl) rfl <| AT (AP rfl) rfl <| EV <| A6 (DN rfl rfl rfl rfl rfl) rfl rfl <| AS <| zb <| ?_
 exact B5 hK1 ((k + n, LL ++ [x.2.2.2], (A', cap', ds ++ [.slice qx.1 x.2.2.2.length qx.2]))) (⟨by show k + n ≤ N; omega, by show (LL ++ [x.2.2.2]).length ≤ k + n; omega, hent2⟩) VK BD (AD.trans (b := D5 5 LL ds :: row qx.1 5 1 x.2.2.2.length qx.2 (x.2.2.2.map AU) :: [FJ b42 g from_ to_ ep (from_ + (k + n)) (LL.length + 1) (A', cap'), row A' 108 1 (LL.length + 1) cap' (ds ++ [.slice qx.1 x.2.2.2.length qx.2]), BV g S []]) Z8 (AD.trans PF Z4))
end Go.Proofs.YtjlolpmmpafjeaaGreat
