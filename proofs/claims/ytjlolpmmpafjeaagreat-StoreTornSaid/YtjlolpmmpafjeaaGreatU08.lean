import Derived.Test.YtjlolpmmpafjeaaGreatU07
set_option linter.unusedVariables false
set_option linter.unusedSimpArgs false
namespace Go.Proofs.YtjlolpmmpafjeaaGreat
open CN
abbrev gR (c : CA) (l : List C5) := { r : DA × CA × Int // I7 c l r.2 }
theorem ER.KR {D : Nat → Prop} {w : World} {c : CA} {vp vv vs : Value} (h : ER D w c vp vv vs) : JH c := by
 obtain ⟨_, _, _, _, _, _, op⟩ := h.p.EG
 obtain ⟨_, _, _, _, _, _, ov⟩ := h.v.EG
 obtain ⟨_, _, _, _, _, _, os⟩ := h.s.EG
 exact ⟨h.i1, h.i2, h.i3, op, ov, os, h.lp, h.lv, h.ls⟩
theorem KK.KR {c : CA} {k : Nat} (h : KK c k) (hk : k ≤ 900) : JH c := ⟨h.i1, h.i2, h.i3, h.p, h.v, h.s, by have := h.lp; omega, by have := h.lv; omega, by have := h.ls; omega⟩
theorem l9 (D : Nat → Prop) (w : World) (c : CA) (vp vv vs v1 : Value) (l : List C5) (hll : l.length ≤ 1000000) (HC0 : ER D w c vp vv vs) (HE : Old D w (AX.rep l [v1])) :
  Calls Tryz.prog 56 #[.agg (C9 c vp vv vs).toArray, v1] w fun e w' => ∃ r : gR c l, e = .returned (.tuple #[.agg (B3 r.1.2.1 r.1.1).toArray, .int .i64 r.1.2.2]) ∧ AH D w w' (C6 r.1.2.1 r.1.1) := by
 obtain ⟨Ae, ce, rfl, hce1, hce2, HSe, heok⟩ := HE.EG
 have HSe : CS D w Ae (l.flatMap DL) := HSe
 have hokc := HC0.KR
 have h1p : ∃ A n cap, vp = .slice A n cap := by obtain ⟨A, cap, rfl, _⟩ := HC0.p.EG; exact ⟨_, _, _, rfl⟩
 have h1v : ∃ A n cap, vv = .slice A n cap := by obtain ⟨A, cap, rfl, _⟩ := HC0.v.EG; exact ⟨_, _, _, rfl⟩
 have h1s : ∃ A n cap, vs = .slice A n cap := by obtain ⟨A, cap, rfl, _⟩ := HC0.s.EG; exact ⟨_, _, _, rfl⟩
 obtain ⟨Ap', np', cp', hvp⟩ := h1p
 obtain ⟨Av', nv', cv', hvv⟩ := h1v
 obtain ⟨As', ns', cs', hvs⟩ := h1s
 refine BZ (vs := [.agg (C9 c vp vv vs).toArray, .slice Ae l.length ce]) Tryz.func56 rfl _ Tryz.ntmps56 rfl (AH.start D w) ?_
 simp only [BX, Nat.zero_add]
 refine zg <| AV (EE rfl rfl) rfl rfl rfl fun b2 =>  ?_
 refine AV (B9) rfl rfl rfl fun b4 => 
  zs rfl <| zn <| AG <| BK <| ?_
 refine zg <| zv DY <| ?_
 refine CQ (σ := EX (C4 c)) Tryz.call77 rfl rfl (fun w1 => zu fun D' hold _ _ => T5 D' w1 c vp vv vs (HC0.hold hold)) ?_
 intro r1
 try rw [List.nil_append]
 refine zv FC <| ?_
 refine zs rfl <| zn <| FW rfl (fun a1 => ?_) (fun a1 => ?_)
 ·have hno : ¬ C4 c := fun h => by have := r1.2.2 h; rw [this] at a1; cases a1
  have hR : I7 c l (FZ, 14) := .inl ⟨hno, rfl⟩
  refine zg <| zv (CH rfl rfl) <| ?_
  refine A6 (DT rfl rfl rfl rfl rfl rfl) rfl rfl <| zs rfl <| zn <| zq <| B4 <| ?_
  refine zr <| ?_
  exact ID (.inr rfl) rfl rfl (by simp) rfl fun w' H' => ⟨⟨(q0, FZ, 14), hR⟩, rfl, H'.AK (AD.trans (AD.LC _) AD.KM)⟩
 have hg : C4 c := r1.2.1 (by simpa using a1)
 have hm0 : KK c 0 := hg.mid hokc.i1 hokc.i2 hokc.i3 hokc.p hokc.v hokc.s
 refine zg <| zm rfl <| zv BN <| ?_
 refine zv (DV rfl rfl) <| zs rfl <| zn <| BP rfl (fun a2 => ?_) (fun a2 => ?_)
 ·have hR : I7 c l (FZ, 3) := .inr (.inl ⟨hg, by omega, rfl⟩)
  refine zg <| zv (CH rfl rfl) <| ?_
  refine A6 (DT rfl rfl rfl rfl rfl rfl) rfl rfl <| zs rfl <| zn <| zq <| B4 <| ?_
  refine zr <| ?_
  exact ID (.inr rfl) rfl rfl (by simp) rfl fun w' H' => ⟨⟨(q0, FZ, 3), hR⟩, rfl, H'.AK (AD.trans (AD.LC _) AD.KM)⟩
 have hl32 : l.length ≤ 32 := by omega
 refine C3 <| zb <| zt <| zg <| zv DY <| ?_
 refine CQ (σ := DA) Tryz.call65 rfl rfl (fun w1 => zu fun D' hold _ _ => bC D' w1 c vp vv vs (HC0.hold hold)) ?_
 intro q
 try rw [List.nil_append]
 refine A6 (CV (vs := B3 c q) rfl rfl rfl (by simp) CL) rfl rfl ?_
 refine zn <| AG <| zg <| zm rfl <| zv BN <| ?_
 refine zm rfl <| zn <| BK <| GL (σ := Nat × CA) [2, 4, 21, 22] rfl 23 (fun s => .int .i64 (s.1 : Int)) (fun s => [IJ b2 s.2, AI b4 49 [.int .i64 0, .int .i64 0, .int .i64 0, .slice none 0 0, .slice none 0 0, .slice none 0 0]]) (fun s => (s.1 ≤ l.length ∧ KK s.2 s.1) ∧ E4 c (l.take s.1) = (s.2, 0)) (fun s => l.length - s.1) ((0, c)) (⟨⟨Nat.zero_le _, hm0⟩, rfl⟩) rfl (AD.trans (b := DC b2 c q ++ [AI b4 49 [.int .i64 0, .int .i64 0, .int .i64 0, .slice none 0 0, .slice none 0 0, .slice none 0 0]]) Z8 (D1 q)) ?_
 rintro ⟨i, ci⟩ hj_ K1 hK1
 dsimp only at hj_ ⊢
 obtain ⟨⟨hi, hm⟩, hf⟩ := hj_
 refine zg <| zv (B7 rfl rfl) <| zn <| AG <| BP rfl (fun h => ?_) (fun h => ?_)
 ·have hlt : i < l.length := by omega
  obtain ⟨hA, _⟩ := CS.EP (D := D) (w0 := w) (f := DL) (sz := 7) (fun _ => rfl) AF HSe hlt []
  have hc := fun l' => (CS.EP (D := D) (w0 := w) (f := DL) (sz := 7) (fun _ => rfl) AF HSe hlt l').2
  have hox := heok l[i] (List.getElem_mem hlt)
  have hmx := hm.one hox
  have hsn := WE hlt hf
  have hst : (B8 ci l[i]).2 ≠ 0 → E4 c l = B8 ci l[i] := Y9 hlt hf
  generalize l[i] = x at *
  refine zk <| AG <| BK <| zg <| zv (CZ rfl DP rfl _ rfl AA) <| ?_
  refine AZ (D4 (cs := DL x) rfl rfl (hc _)) rfl <| AV (B9) rfl rfl rfl fun b7 =>  ?_
  refine A6 (CV (vs := DL x) rfl rfl (by simp) (by simp) HZ) rfl rfl ?_
  refine zn <| zg <| zv DY <| ?_
  refine B2 Tryz.call92 rfl rfl (fun w1 => zp (IJ b2 ci) fun D' _ _ H2 => qH D' w1 b2 ci x i AA hm hox H2) ?_
  refine zs rfl <| zn <| zg <| zm rfl <| zv (CG rfl rfl) <| zn <| BP rfl (fun h2 => ?_) (fun h2 => ?_)
  ·have hfc := hst h2
   have hR : I7 c l (FZ, (B8 ci x).2) := .inr (.inr (.inl ⟨hg, hl32, by rw [hfc]; exact h2, by rw [hfc]⟩))
   refine zg <| zv (CH rfl rfl) <| ?_
   refine zm rfl <| A6 (DT rfl rfl rfl rfl rfl rfl) rfl rfl <| zs rfl <| zn <| zq <| ?_
   refine B4 <| zr <| zr <| B4 <| zr <| ?_
   exact ID (.inr rfl) rfl rfl (by simp) rfl fun w' H' => ⟨⟨(q0, FZ, (B8 ci x).2), hR⟩, rfl, H'.AK (AD.trans (AD.LC _) AD.KM)⟩
  have h0 : (B8 ci x).2 = 0 := Classical.not_not.1 h2
  have hfn : E4 c (l.take (i + 1)) = ((B8 ci x).1, 0) := by rw [hsn]; exact Prod.ext rfl h0
  refine C3 <| zb <| zt <| AR <| zv (BM rfl rfl BO) <| ?_
  refine zm rfl <| AS <| B5 hK1 ((i + 1, (B8 ci x).1)) (⟨⟨hlt, hmx⟩, hfn⟩) RV BD BL
 have hie : i = l.length := by omega
 subst hie
 rw [List.take_length] at hf
 have hok2 := hm.KR AA
 refine HC.exs ?_
 intro q2
 refine HC.AK (l' := DC b2 ci q2 ++ [AI b4 49 [.int .i64 0, .int .i64 0, .int .i64 0, .slice none 0 0, .slice none 0 0, .slice none 0 0]]) (fun _ h => h) ?_
 refine CF <| ze <| ze <| CE <| zt <| AG <| zg <| zv DY <| ?_
 refine CQ (σ := EX (C4 ci)) Tryz.call77 rfl rfl (fun w1 => zu fun D' _ hin _ => T5 D' w1 ci _ _ _ (ER.rows (q := q2) hok2 hin)) ?_
 intro r2
 try rw [List.nil_append]
 refine zv FC <| ?_
 refine zn <| FW rfl (fun a3 => ?_) (fun a3 => ?_)
 ·have hno : ¬ C4 ci := fun h => by have := r2.2.2 h; rw [this] at a3; cases a3
  have hR : I7 c l (FZ, 14) := .inr (.inr (.inr (.inl ⟨hg, hl32, by rw [hf], by rw [hf]; exact hno, rfl⟩)))
  refine zg <| zv (CH rfl rfl) <| ?_
  refine A6 (DT rfl rfl rfl rfl rfl rfl) rfl rfl <| zs rfl <| zn <| zq <| zr <| ?_
  exact ID (.inr rfl) rfl rfl (by simp) rfl fun w' H' => ⟨⟨(q0, FZ, 14), hR⟩, rfl, H'.AK (AD.trans (AD.LC _) AD.KM)⟩
 have hyes : C4 ci := r2.2.1 (by simpa using a3)
 have hR : I7 c l (ci, 0) := .inr (.inr (.inr (.inr ⟨hg, hl32, by rw [hf], by rw [hf]; exact hyes, by rw [hf]⟩)))
 refine zk <| zg <| zv DY <| ?_
 refine A6 (DT rfl rfl rfl rfl rfl rfl) rfl rfl <| zs rfl <| zn <| zq <| ?_
 exact ID (.inr rfl) rfl rfl (by simp) rfl fun w' H' => ⟨⟨(q2, ci, 0), hR⟩, rfl, H'.AK Z8⟩
instance : DecidableEq GI := inferInstanceAs (DecidableEq (Bool × UInt32 × Int))
instance : DecidableEq EI := inferInstanceAs (DecidableEq (Int × UInt8 × UInt8))
instance : DecidableEq FM := inferInstanceAs (DecidableEq (UInt64 × Int × Int))
instance tT : DecidableEq (List GI) := inferInstance
instance tU : DecidableEq (List EI × List FM) := inferInstance
instance tV : DecidableEq (List GI × List EI × List FM) := @instDecidableEqProd _ _ tT tU
instance tO : DecidableEq (Int × List GI × List EI × List FM) := @instDecidableEqProd _ _ _ tV
instance tP : DecidableEq (Int × Int × List GI × List EI × List FM) := @instDecidableEqProd _ _ _ tO
instance uH : DecidableEq CA := @instDecidableEqProd _ _ _ tP
instance : DecidableEq (CA × Int) := fun a b => if h : a.1 = b.1 ∧ a.2 = b.2 then .isTrue (Prod.ext h.1 h.2) else .isFalse fun e => h ⟨congrArg Prod.fst e, congrArg Prod.snd e⟩
instance tY (c : CA) : Decidable (K8 c) := inferInstanceAs (Decidable (0 ≤ c.1 ∧ c.1 ≤ 61440 ∧ c.1 % 4096 = 0 ∧ 6 ≤ c.2.1 ∧ c.2.1 ≤ 40 ∧ 4 ≤ c.2.2.1 ∧ c.2.2.1 ≤ 30 ∧ c.2.1 ≤ 2 * (c.2.2.1 - 1)))
instance uD (n : Nat) (v : EI) : Decidable (K9 n v) := inferInstanceAs (Decidable (1 ≤ v.1 ∧ v.1 ≤ 4094 ∧ v.2.1.toNat < 2 ^ n ∧ v.2.2 &&& ~~~ v.2.1 = 0))
instance uF {α : Type} (c : α → α → Int) (l : List α) : Decidable (HW c l) := inferInstanceAs (Decidable (∀ i (h : i < l.length), 0 < i → c (l[i - 1]'(by omega)) l[i] < 0))
instance tZ (c : CA) : Decidable (NG c) := inferInstanceAs (Decidable (1 ≤ c.2.2.2.2.1.length ∧ c.2.2.2.2.1.length ≤ 16 ∧ (∀ i (h : i < c.2.2.2.2.1.length), K9 c.2.2.2.1.length c.2.2.2.2.1[i]) ∧ HW cV c.2.2.2.2.1))
instance uB (l : List EI) (p : GI) : Decidable (K7 l p) := inferInstanceAs (Decidable ((∃ i, ∃ h : i < l.length, l[i].1 = p.2.2) ∧ 1 ≤ p.2.1.toNat ∧ p.2.1.toNat ≤ 200000000))
instance uA (c : CA) : Decidable (N3 c) := inferInstanceAs (Decidable (1 ≤ c.2.2.2.1.length ∧ c.2.2.2.1.length ≤ 8 ∧ ∀ i (h : i < c.2.2.2.1.length), K7 c.2.2.2.2.1 c.2.2.2.1[i]))
instance uC (np : Nat) (l : List EI) (s : FM) : Decidable (H9 np l s) := inferInstanceAs (Decidable (s.1.toNat ≠ 0 ∧ s.1.toNat / 2 ^ 48 = 0 ∧ s.1.toNat / 2 ^ 40 % 2 = 0 ∧ 0 ≤ s.2.2 ∧ s.2.2 < np ∧ ∃ i, ∃ h : i < l.length, l[i].1 = s.2.1 ∧ l[i].2.1.toNat / 2 ^ (min s.2.2.toNat 8) % 2 ≠ 0))
instance uE (c : CA) : Decidable (C4 c) := inferInstanceAs (Decidable (K8 c ∧ NG c ∧ N3 c ∧ c.2.2.2.2.2.length ≤ 16 ∧ HW GW c.2.2.2.2.2 ∧ ∀ i (h : i < c.2.2.2.2.2.length), H9 c.2.2.2.1.length c.2.2.2.2.1 c.2.2.2.2.2[i]))
theorem I7.ok {c d : CA} {l : List C5} {r : CA × Int} (h : I7 c l r) (hc : C4 c) (hl : l.length ≤ 32) (hf : E4 c l = (d, 0)) (hd : C4 d) : r = (d, 0) :=
 h.X3 (.inr (.inr (.inr (.inr ⟨hc, hl, by rw [hf], by rw [hf]; exact hd, by rw [hf]⟩))))
theorem I7.no {c d : CA} {l : List C5} {r : CA × Int} (h : I7 c l r) (hc : C4 c) (hl : l.length ≤ 32) (hf : E4 c l = (d, 0)) (hd : ¬ C4 d) : r = (FZ, 14) :=
 h.X3 (.inr (.inr (.inr (.inl ⟨hc, hl, by rw [hf], by rw [hf]; exact hd, rfl⟩))))
theorem M6 (x : Int) (h : -1000000000 ≤ x ∧ x ≤ 1000000000) : DO x := by unfold DO; omega
theorem fQ (e : C5) (h1 : -1000000000 ≤ e.1 ∧ e.1 ≤ 1000000000) (h2 : -1000000000 ≤ e.2.1 ∧ e.2.1 ≤ 1000000000) (h3 : DO e.2.2.1) (h4 : -1000000000 ≤ e.2.2.2.1 ∧ e.2.2.2.1 ≤ 1000000000) : Flat.ok e := ⟨M6 _ h1, M6 _ h2, h3, M6 _ h4⟩
theorem TY (n : Nat) (hn : n ≤ 8) : JH (E0 n) := by
 have hl : (E0 n).2.2.2.1.length = n := List.length_replicate
 refine ⟨(show DO 32768 from M6 _ ⟨by decide, by decide⟩), (show DO 20 from M6 _ ⟨by decide, by decide⟩), (show DO 15 from M6 _ ⟨by decide, by decide⟩), fun x hx => ?_, fun x hx => ?_, (fun x hx => by cases hx), (by rw [hl]; omega), (show 1 ≤ 1000 by decide), (show 0 ≤ 1000 by decide)⟩
 ·obtain rfl := List.eq_of_mem_replicate hx
  exact M6 1 ⟨by decide, by decide⟩
 ·have : x = (1, UInt8.ofNat (2 ^ n - 1), 0) := by simpa [E0] using hx
  subst this
  exact M6 1 ⟨by decide, by decide⟩
theorem iT : ∀ n : Fin 9, 1 ≤ n.val → C4 (E0 n.val) := by decide +kernel
theorem TF (n : Nat) (h1 : 1 ≤ n) (h2 : n ≤ 8) : C4 (E0 n) := iT ⟨n, by omega⟩ h1
theorem SD {c : CA} {l : List C5} {r : CA × Int} (h : I7 c l r) (hc : JH c) (hl : ∀ x ∈ l, Flat.ok x) : JH r.1 := by
 have hz := oG
 have hm : ∀ (l : List C5) (k : Nat) (c : CA), (∀ x ∈ l, Flat.ok x) → KK c k → (E4 c l).2 = 0 → KK (E4 c l).1 (k + l.length) := by
  intro l
  induction l with
  | nil => intro k c _ hc _; exact hc
  | cons e r ih =>
   intro k c hl hc h0
   simp only [E4] at h0 ⊢
   by_cases he : (B8 c e).2 = 0
   ·rw [if_pos he] at h0 ⊢
    have := ih (k + 1) _ (fun x hx => hl x (by simp [hx])) (hc.one (hl e (by simp))) h0
    rw [List.length_cons, show k + (r.length + 1) = k + 1 + r.length by omega]
    exact this
   ·rw [if_neg he] at h0
    exact absurd h0 he
 rcases h with ⟨h1, h2⟩ | ⟨h1, h2, h3⟩ | ⟨h1, h2, h3, h4⟩ | ⟨h1, h2, h3, h4, h5⟩ | ⟨h1, h2, h3, h4, h5⟩
 ·rw [h2]; exact hz
 ·rw [h3]; exact hz
 ·rw [h4]; exact hz
 ·rw [h5]; exact hz
 ·rw [h5]
  exact (hm l 0 c hl (h1.mid hc.i1 hc.i2 hc.i3 hc.p hc.v hc.s) h3).KR AA
instance : I3 Tryz.prog 81 C5 := I3.eF 0 AB rfl (KE.cons 0 (KE.cons 1 (KE.cons 2 (KE.cons 3 (KE.cons 4 (KE.cons 5 (KE.last 6 AF)))))))
abbrev S2 (p : Prop) (B : List UInt8) (n : Int → Prop) := { s : (Option Addr × Nat) × List UInt8 × Int // (¬ p ∧ s.2.1 = [] ∧ s.2.2 ≠ 0 ∧ n s.2.2) ∨ (p ∧ s.2.1 = B ∧ s.2.2 = 0) }
abbrev G0 (l : List C5) : Prop := l.length ≤ 32 ∧ ∀ i (h : i < l.length), FL l[i]
theorem pL (c : CA) : (C8 c).length = 7 + 7 * c.2.2.2.1.length + 4 * c.2.2.2.2.1.length + 9 * c.2.2.2.2.2.length := by
 simp only [C8, JM, List.length_append, IV, FU (f := IN) (sz := 7) TZ, FU (f := IQ) (sz := 4) T7, FU (f := IM) (sz := 9) TV]
 omega
theorem W1 (l : List C5) : (AW l).length = 1 + 16 * l.length := by
 simp only [AW, List.length_append, IV, FU (f := LJ) (sz := 16) fC]
 omega
end Go.Proofs.YtjlolpmmpafjeaaGreat
