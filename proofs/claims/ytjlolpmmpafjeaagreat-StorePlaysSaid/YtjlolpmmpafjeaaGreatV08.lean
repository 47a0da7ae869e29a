import Derived.Test.YtjlolpmmpafjeaaGreatV07
set_option linter.unusedVariables false
set_option linter.unusedSimpArgs false
namespace Go.Proofs.YtjlolpmmpafjeaaGreat
open Slk
abbrev EditT (c : ConfC) (l : List EditC) := { r : Three × ConfC × Int // EditR c l r.2 }
theorem ConfOld.okC {D : Nat → Prop} {w : World} {c : ConfC} {vp vv vs : Value} (h : ConfOld D w c vp vv vs) : OkC c := by
 obtain ⟨_, _, _, _, _, _, op⟩ := h.p.openF
 obtain ⟨_, _, _, _, _, _, ov⟩ := h.v.openF
 obtain ⟨_, _, _, _, _, _, os⟩ := h.s.openF
 exact ⟨h.i1, h.i2, h.i3, op, ov, os, h.lp, h.lv, h.ls⟩
theorem Mid.okC {c : ConfC} {k : Nat} (h : Mid c k) (hk : k ≤ 900) : OkC c := ⟨h.i1, h.i2, h.i3, h.p, h.v, h.s, by have := h.lp; omega, by have := h.lv; omega, by have := h.ls; omega⟩
theorem Edit_spec (D : Nat → Prop) (w : World) (c : ConfC) (vp vv vs v1 : Value) (l : List EditC) (hll : l.length ≤ 1000000) (HC0 : ConfOld D w c vp vv vs) (HE : Old D w (Rep.rep l [v1])) :
  Calls Tryz.prog 56 #[.agg (cfgV c vp vv vs).toArray, v1] w fun e w' => ∃ r : EditT c l, e = .returned (.tuple #[.agg (cfgA r.1.2.1 r.1.1).toArray, .int .i64 r.1.2.2]) ∧ Own D w w' (cfgR r.1.2.1 r.1.1) := by
 obtain ⟨Ae, ce, rfl, hce1, hce2, HSe, heok⟩ := HE.openF
 have HSe : OldS D w Ae (l.flatMap editV) := HSe
 have hokc := HC0.okC
 have h1p : ∃ A n cap, vp = .slice A n cap := by obtain ⟨A, cap, rfl, _⟩ := HC0.p.openF; exact ⟨_, _, _, rfl⟩
 have h1v : ∃ A n cap, vv = .slice A n cap := by obtain ⟨A, cap, rfl, _⟩ := HC0.v.openF; exact ⟨_, _, _, rfl⟩
 have h1s : ∃ A n cap, vs = .slice A n cap := by obtain ⟨A, cap, rfl, _⟩ := HC0.s.openF; exact ⟨_, _, _, rfl⟩
 obtain ⟨Ap', np', cp', hvp⟩ := h1p
 obtain ⟨Av', nv', cv', hvv⟩ := h1v
 obtain ⟨As', ns', cs', hvs⟩ := h1s
 refine hc_enter (vs := [.agg (cfgV c vp vv vs).toArray, .slice Ae l.length ce]) Tryz.func56 rfl _ Tryz.ntmps56 rfl (Own.start D w) ?_
 simp only [argSlots, Nat.zero_add]
 refine zg <| hl_new (on_boxN rfl rfl) rfl rfl rfl fun b2 =>  ?_
 refine hl_new (on_alloc) rfl rfl rfl fun b4 => 
  zs rfl <| zn <| hc_seq <| hc_block <| ?_
 refine zg <| zv Z17 <| ?_
 refine hl_call (σ := BIff (goodP c)) Tryz.call77 rfl rfl (fun w1 => zu fun D' hold _ _ => Good_spec D' w1 c vp vv vs (HC0.hold hold)) ?_
 intro r1
 try rw [List.nil_append]
 refine zv Z26 <| ?_
 refine zs rfl <| zn <| hc_cond_bool rfl (fun a1 => ?_) (fun a1 => ?_)
 ·have hno : ¬ goodP c := fun h => by have := r1.2.2 h; rw [this] at a1; cases a1
  have hR : EditR c l (zeroC, 14) := .inl ⟨hno, rfl⟩
  refine zg <| zv (ov_buildSN rfl rfl) <| ?_
  refine hl_u0 (on_storeGN rfl rfl rfl rfl rfl rfl) rfl rfl <| zs rfl <| zn <| zq <| hx_block_ret <| ?_
  refine zr <| ?_
  exact results_ct (.inr rfl) rfl rfl (by simp) rfl fun w' H' => ⟨⟨(q0, zeroC, 14), hR⟩, rfl, H'.ent (Ent.trans (Ent.cfgR0 _) Ent.append_l)⟩
 have hg : goodP c := r1.2.1 (by simpa using a1)
 have hm0 : Mid c 0 := hg.mid hokc.i1 hokc.i2 hokc.i3 hokc.p hokc.v hokc.s
 refine zg <| zm rfl <| zv Z25 <| ?_
 refine zv (ov_gtr rfl rfl) <| zs rfl <| zn <| hc_cond rfl (fun a2 => ?_) (fun a2 => ?_)
 ·have hR : EditR c l (zeroC, 3) := .inr (.inl ⟨hg, by omega, rfl⟩)
  refine zg <| zv (ov_buildSN rfl rfl) <| ?_
  refine hl_u0 (on_storeGN rfl rfl rfl rfl rfl rfl) rfl rfl <| zs rfl <| zn <| zq <| hx_block_ret <| ?_
  refine zr <| ?_
  exact results_ct (.inr rfl) rfl rfl (by simp) rfl fun w' H' => ⟨⟨(q0, zeroC, 3), hR⟩, rfl, H'.ent (Ent.trans (Ent.cfgR0 _) Ent.append_l)⟩
 have hl32 : l.length ≤ 32 := by omega
 refine hc_skip <| zb <| zt <| zg <| zv Z17 <| ?_
 refine hl_call (σ := Three) Tryz.call65 rfl rfl (fun w1 => zu fun D' hold _ _ => Copy_spec D' w1 c vp vv vs (HC0.hold hold)) ?_
 intro q
 try rw [List.nil_append]
 refine hl_u0 (on_storeW (vs := cfgA c q) rfl rfl rfl (by simp) Z49) rfl rfl ?_
 refine zn <| hc_seq <| zg <| zm rfl <| zv Z25 <| ?_
 refine zm rfl <| zn <| hc_block <| hc_loopK1 (σ := Nat × ConfC) [2, 4, 21, 22] rfl 23 (fun s => .int .i64 (s.1 : Int)) (fun s => [cfgO b2 s.2, blk b4 49 [.int .i64 0, .int .i64 0, .int .i64 0, .slice none 0 0, .slice none 0 0, .slice none 0 0]]) (fun s => (s.1 ≤ l.length ∧ Mid s.2 s.1) ∧ foldC c (l.take s.1) = (s.2, 0)) (fun s => l.length - s.1) ((0, c)) (⟨⟨Nat.zero_le _, hm0⟩, rfl⟩) rfl (Ent.trans (b := cfgQ b2 c q ++ [blk b4 49 [.int .i64 0, .int .i64 0, .int .i64 0, .slice none 0 0, .slice none 0 0, .slice none 0 0]]) Z8 (cfgO_mk q)) ?_
 rintro ⟨i, ci⟩ hj_ K1 hK1
 dsimp only at hj_ ⊢
 obtain ⟨⟨hi, hm⟩, hf⟩ := hj_
 refine zg <| zv (ov_lss rfl rfl) <| zn <| hc_seq <| hc_cond rfl (fun h => ?_) (fun h => ?_)
 ·have hlt : i < l.length := by omega
  obtain ⟨hA, _⟩ := OldS.cells_flat (D := D) (w0 := w) (f := editV) (sz := 7) (fun _ => rfl) Z63 HSe hlt []
  have hc := fun l' => (OldS.cells_flat (D := D) (w0 := w) (f := editV) (sz := 7) (fun _ => rfl) Z63 HSe hlt l').2
  have hox := heok l[i] (List.getElem_mem hlt)
  have hmx := hm.one hox
  have hsn := foldC_snoc hlt hf
  have hst : (oneC ci l[i]).2 ≠ 0 → foldC c l = oneC ci l[i] := foldC_stop hlt hf
  generalize l[i] = x at *
  refine zk <| hc_seq <| hc_block <| zg <| zv (ov_idxS rfl Z62 rfl _ rfl Z64) <| ?_
  refine hl_v (ov_loadG (cs := editV x) rfl rfl (hc _)) rfl <| hl_new (on_alloc) rfl rfl rfl fun b7 =>  ?_
  refine hl_u0 (on_storeW (vs := editV x) rfl rfl (by simp) (by simp) Z44) rfl rfl ?_
  refine zn <| zg <| zv Z17 <| ?_
  refine hl_c Tryz.call92 rfl rfl (fun w1 => zp (cfgO b2 ci) fun D' _ _ H2 => one_spec D' w1 b2 ci x i Z64 hm hox H2) ?_
  refine zs rfl <| zn <| zg <| zm rfl <| zv (ov_neq rfl rfl) <| zn <| hc_cond rfl (fun h2 => ?_) (fun h2 => ?_)
  ·have hfc := hst h2
   have hR : EditR c l (zeroC, (oneC ci x).2) := .inr (.inr (.inl ⟨hg, hl32, by rw [hfc]; exact h2, by rw [hfc]⟩))
   refine zg <| zv (ov_buildSN rfl rfl) <| ?_
   refine zm rfl <| hl_u0 (on_storeGN rfl rfl rfl rfl rfl rfl) rfl rfl <| zs rfl <| zn <| zq <| ?_
   refine hx_block_ret <| zr <| zr <| hx_block_ret <| zr <| ?_
   exact results_ct (.inr rfl) rfl rfl (by simp) rfl fun w' H' => ⟨⟨(q0, zeroC, (oneC ci x).2), hR⟩, rfl, H'.ent (Ent.trans (Ent.cfgR0 _) Ent.append_l)⟩
  have h0 : (oneC ci x).2 = 0 := Classical.not_not.1 h2
  have hfn : foldC c (l.take (i + 1)) = ((oneC ci x).1, 0) := by rw [hsn]; exact Prod.ext rfl h0
  refine hc_skip <| zb <| zt <| hc_region <| zv (ov_add rfl rfl Z28) <| ?_
  refine zm rfl <| hl_nil <| hx_next hK1 ((i + 1, (oneC ci x).1)) (⟨⟨hlt, hmx⟩, hfn⟩) Z24 Z16 Z10
 have hie : i = l.length := by omega
 subst hie
 rw [List.take_length] at hf
 have hok2 := hm.okC Z64
 refine HC.exs ?_
 intro q2
 refine HC.ent (l' := cfgQ b2 ci q2 ++ [blk b4 49 [.int .i64 0, .int .i64 0, .int .i64 0, .slice none 0 0, .slice none 0 0, .slice none 0 0]]) (fun _ h => h) ?_
 refine hc_exit <| ze <| ze <| hx_block_out <| zt <| hc_seq <| zg <| zv Z17 <| ?_
 refine hl_call (σ := BIff (goodP ci)) Tryz.call77 rfl rfl (fun w1 => zu fun D' _ hin _ => Good_spec D' w1 ci _ _ _ (ConfOld.rows (q := q2) hok2 hin)) ?_
 intro r2
 try rw [List.nil_append]
 refine zv Z26 <| ?_
 refine zn <| hc_cond_bool rfl (fun a3 => ?_) (fun a3 => ?_)
 ·have hno : ¬ goodP ci := fun h => by have := r2.2.2 h; rw [this] at a3; cases a3
  have hR : EditR c l (zeroC, 14) := .inr (.inr (.inr (.inl ⟨hg, hl32, by rw [hf], by rw [hf]; exact hno, rfl⟩)))
  refine zg <| zv (ov_buildSN rfl rfl) <| ?_
  refine hl_u0 (on_storeGN rfl rfl rfl rfl rfl rfl) rfl rfl <| zs rfl <| zn <| zq <| zr <| ?_
  exact results_ct (.inr rfl) rfl rfl (by simp) rfl fun w' H' => ⟨⟨(q0, zeroC, 14), hR⟩, rfl, H'.ent (Ent.trans (Ent.cfgR0 _) Ent.append_l)⟩
 have hyes : goodP ci := r2.2.1 (by simpa using a3)
 have hR : EditR c l (ci, 0) := .inr (.inr (.inr (.inr ⟨hg, hl32, by rw [hf], by rw [hf]; exact hyes, by rw [hf]⟩)))
 refine zk <| zg <| zv Z17 <| ?_
 refine hl_u0 (on_storeGN rfl rfl rfl rfl rfl rfl) rfl rfl <| zs rfl <| zn <| zq <| ?_
 exact results_ct (.inr rfl) rfl rfl (by simp) rfl fun w' H' => ⟨⟨(q2, ci, 0), hR⟩, rfl, H'.ent Z8⟩
instance : DecidableEq PortC := inferInstanceAs (DecidableEq (Bool × UInt32 × Int))
instance : DecidableEq VlanC := inferInstanceAs (DecidableEq (Int × UInt8 × UInt8))
instance : DecidableEq StatC := inferInstanceAs (DecidableEq (UInt64 × Int × Int))
instance dLP : DecidableEq (List PortC) := inferInstance
instance dLV : DecidableEq (List VlanC × List StatC) := inferInstance
instance dLT : DecidableEq (List PortC × List VlanC × List StatC) := @instDecidableEqProd _ _ dLP dLV
instance dL1 : DecidableEq (Int × List PortC × List VlanC × List StatC) := @instDecidableEqProd _ _ _ dLT
instance dL2 : DecidableEq (Int × Int × List PortC × List VlanC × List StatC) := @instDecidableEqProd _ _ _ dL1
instance decEqC : DecidableEq ConfC := @instDecidableEqProd _ _ _ dL2
instance : DecidableEq (ConfC × Int) := fun a b => if h : a.1 = b.1 ∧ a.2 = b.2 then .isTrue (Prod.ext h.1 h.2) else .isFalse fun e => h ⟨congrArg Prod.fst e, congrArg Prod.snd e⟩
instance decTimes (c : ConfC) : Decidable (timesP c) := inferInstanceAs (Decidable (0 ≤ c.1 ∧ c.1 ≤ 61440 ∧ c.1 % 4096 = 0 ∧ 6 ≤ c.2.1 ∧ c.2.1 ≤ 40 ∧ 4 ≤ c.2.2.1 ∧ c.2.2.1 ≤ 30 ∧ c.2.1 ≤ 2 * (c.2.2.1 - 1)))
instance decVlan (n : Nat) (v : VlanC) : Decidable (vlanOk n v) := inferInstanceAs (Decidable (1 ≤ v.1 ∧ v.1 ≤ 4094 ∧ v.2.1.toNat < 2 ^ n ∧ v.2.2 &&& ~~~ v.2.1 = 0))
instance decRis {α : Type} (c : α → α → Int) (l : List α) : Decidable (risP c l) := inferInstanceAs (Decidable (∀ i (h : i < l.length), 0 < i → c (l[i - 1]'(by omega)) l[i] < 0))
instance decVlans (c : ConfC) : Decidable (vlansP c) := inferInstanceAs (Decidable (1 ≤ c.2.2.2.2.1.length ∧ c.2.2.2.2.1.length ≤ 16 ∧ (∀ i (h : i < c.2.2.2.2.1.length), vlanOk c.2.2.2.1.length c.2.2.2.2.1[i]) ∧ risP cV c.2.2.2.2.1))
instance decPort (l : List VlanC) (p : PortC) : Decidable (portOk l p) := inferInstanceAs (Decidable ((∃ i, ∃ h : i < l.length, l[i].1 = p.2.2) ∧ 1 ≤ p.2.1.toNat ∧ p.2.1.toNat ≤ 200000000))
instance decPorts (c : ConfC) : Decidable (portsP c) := inferInstanceAs (Decidable (1 ≤ c.2.2.2.1.length ∧ c.2.2.2.1.length ≤ 8 ∧ ∀ i (h : i < c.2.2.2.1.length), portOk c.2.2.2.2.1 c.2.2.2.1[i]))
instance decStat (np : Nat) (l : List VlanC) (s : StatC) : Decidable (statOk np l s) := inferInstanceAs (Decidable (s.1.toNat ≠ 0 ∧ s.1.toNat / 2 ^ 48 = 0 ∧ s.1.toNat / 2 ^ 40 % 2 = 0 ∧ 0 ≤ s.2.2 ∧ s.2.2 < np ∧ ∃ i, ∃ h : i < l.length, l[i].1 = s.2.1 ∧ l[i].2.1.toNat / 2 ^ (min s.2.2.toNat 8) % 2 ≠ 0))
instance decGood (c : ConfC) : Decidable (goodP c) := inferInstanceAs (Decidable (timesP c ∧ vlansP c ∧ portsP c ∧ c.2.2.2.2.2.length ≤ 16 ∧ risP byPl c.2.2.2.2.2 ∧ ∀ i (h : i < c.2.2.2.2.2.length), statOk c.2.2.2.1.length c.2.2.2.2.1 c.2.2.2.2.2[i]))
theorem EditR.ok {c d : ConfC} {l : List EditC} {r : ConfC × Int} (h : EditR c l r) (hc : goodP c) (hl : l.length ≤ 32) (hf : foldC c l = (d, 0)) (hd : goodP d) : r = (d, 0) :=
 h.det (.inr (.inr (.inr (.inr ⟨hc, hl, by rw [hf], by rw [hf]; exact hd, by rw [hf]⟩))))
theorem EditR.no {c d : ConfC} {l : List EditC} {r : ConfC × Int} (h : EditR c l r) (hc : goodP c) (hl : l.length ≤ 32) (hf : foldC c l = (d, 0)) (hd : ¬ goodP d) : r = (zeroC, 14) :=
 h.det (.inr (.inr (.inr (.inl ⟨hc, hl, by rw [hf], by rw [hf]; exact hd, rfl⟩))))
theorem inI (x : Int) (h : -1000000000 ≤ x ∧ x ≤ 1000000000) : inI64 x := by unfold inI64; omega
theorem editOk1 (e : EditC) (h1 : -1000000000 ≤ e.1 ∧ e.1 ≤ 1000000000) (h2 : -1000000000 ≤ e.2.1 ∧ e.2.1 ≤ 1000000000) (h3 : inI64 e.2.2.1) (h4 : -1000000000 ≤ e.2.2.2.1 ∧ e.2.2.2.1 ≤ 1000000000) : Flat.ok e := ⟨inI _ h1, inI _ h2, h3, inI _ h4⟩
theorem firstC_ok (n : Nat) (hn : n ≤ 8) : OkC (firstC n) := by
 have hl : (firstC n).2.2.2.1.length = n := List.length_replicate
 refine ⟨(show inI64 32768 from inI _ ⟨by decide, by decide⟩), (show inI64 20 from inI _ ⟨by decide, by decide⟩), (show inI64 15 from inI _ ⟨by decide, by decide⟩), fun x hx => ?_, fun x hx => ?_, (fun x hx => by cases hx), (by rw [hl]; omega), (show 1 ≤ 1000 by decide), (show 0 ≤ 1000 by decide)⟩
 ·obtain rfl := List.eq_of_mem_replicate hx
  exact inI 1 ⟨by decide, by decide⟩
 ·have : x = (1, UInt8.ofNat (2 ^ n - 1), 0) := by simpa [firstC] using hx
  subst this
  exact inI 1 ⟨by decide, by decide⟩
theorem firstC_good' : ∀ n : Fin 9, 1 ≤ n.val → goodP (firstC n.val) := by decide +kernel
theorem firstC_good (n : Nat) (h1 : 1 ≤ n) (h2 : n ≤ 8) : goodP (firstC n) := firstC_good' ⟨n, by omega⟩ h1
theorem editR_ok {c : ConfC} {l : List EditC} {r : ConfC × Int} (h : EditR c l r) (hc : OkC c) (hl : ∀ x ∈ l, Flat.ok x) : OkC r.1 := by
 have hz := zeroC_ok
 have hm : ∀ (l : List EditC) (k : Nat) (c : ConfC), (∀ x ∈ l, Flat.ok x) → Mid c k → (foldC c l).2 = 0 → Mid (foldC c l).1 (k + l.length) := by
  intro l
  induction l with
  | nil => intro k c _ hc _; exact hc
  | cons e r ih =>
   intro k c hl hc h0
   simp only [foldC] at h0 ⊢
   by_cases he : (oneC c e).2 = 0
   ·rw [if_pos he] at h0 ⊢
    have := ih (k + 1) _ (fun x hx => hl x (by simp [hx])) (hc.one (hl e (by simp))) h0
    rw [List.length_cons, show k + (r.length + 1) = k + 1 + r.length by omega]
    exact this
   ·rw [if_neg he] at h0
    exact absurd h0 he
 rcases h with ⟨h1, h2⟩ | ⟨h1, h2, h3⟩ | ⟨h1, h2, h3, h4⟩ | ⟨h1, h2, h3, h4, h5⟩ | ⟨h1, h2, h3, h4, h5⟩
 ·rw [h2]; exact hz
 ·rw [h3]; exact hz
 ·rw [h4]; exact hz
 ·rw [h5]; exact hz
 ·rw [h5]
  exact (hm l 0 c hl (h1.mid hc.i1 hc.i2 hc.i3 hc.p hc.v hc.s) h3).okC Z64
abbrev ResT (p : Prop) (B : List UInt8) (n : Int → Prop) := { s : (Option Addr × Nat) × List UInt8 × Int // (¬ p ∧ s.2.1 = [] ∧ s.2.2 ≠ 0 ∧ n s.2.2) ∨ (p ∧ s.2.1 = B ∧ s.2.2 = 0) }
abbrev okEds (l : List EditC) : Prop := l.length ≤ 32 ∧ ∀ i (h : i < l.length), goodE l[i]
theorem cfgB_len (c : ConfC) : (cfgB c).length = 7 + 7 * c.2.2.2.1.length + 4 * c.2.2.2.2.1.length + 9 * c.2.2.2.2.2.length := by
 simp only [cfgB, headB, List.length_append, beB_len, flat_len (f := portB) (sz := 7) portB_len, flat_len (f := vlanB) (sz := 4) vlanB_len, flat_len (f := statB) (sz := 9) statB_len]
 omega
theorem edsB_len (l : List EditC) : (edsB l).length = 1 + 16 * l.length := by
 simp only [edsB, List.length_append, beB_len, flat_len (f := edB) (sz := 16) edB_len]
 omega
end Go.Proofs.YtjlolpmmpafjeaaGreat
