import Derived.Test.YtpgpfcplchaleaaCfF
set_option linter.unusedVariables false
set_option linter.unusedSimpArgs false
namespace Go.Proofs.Ytpgpfcplchaleaa
open Slk
instance : DecidableEq PortC := inferInstanceAs (DecidableEq (Bool × UInt32 × Int))
instance : DecidableEq VlanC := inferInstanceAs (DecidableEq (Int × UInt8 × UInt8))
instance : DecidableEq StatC := inferInstanceAs (DecidableEq (UInt64 × Int × Int))
instance dLP : DecidableEq (List PortC) := inferInstance
instance dLV : DecidableEq (List VlanC × List StatC) := inferInstance
instance dLT : DecidableEq (List PortC × List VlanC × List StatC) := @instDecidableEqProd _ _ dLP dLV
instance dL1 : DecidableEq (Int × List PortC × List VlanC × List StatC) := @instDecidableEqProd _ _ _ dLT
instance dL2 : DecidableEq (Int × Int × List PortC × List VlanC × List StatC) := @instDecidableEqProd _ _ _ dL1
instance decEqC : DecidableEq ConfC := @instDecidableEqProd _ _ _ dL2
instance : DecidableEq (ConfC × Int) := fun a b => if h : a.1 = b.1 ∧ a.2 = b.2 then .isTrue (Prod.ext h.1 h.2) else .isFalse fun e => h ⟨congrArg Prod.fst e, congrArg Prod.snd e⟩
instance decTimes (c : ConfC) : Decidable (timesP c) := inferInstanceAs (Decidable (0 ≤ c.1 ∧ c.1 ≤ 61440 ∧ c.1 % 4096 = 0 ∧ 6 ≤ c.2.1 ∧ c.2.1 ≤ 40 ∧ 4 ≤ c.2.2.1 ∧ c.2.2.1 ≤ 30 ∧ c.2.1 ≤ 2 * (c.2.2.1 - 1)))
instance decVlan (n : Nat) (v : VlanC) : Decidable (vlanOk n v) := inferInstanceAs (Decidable (1 ≤ v.1 ∧ v.1 ≤ 4094 ∧ v.2.1.toNat < 2 ^ n ∧ v.2.2 &&& ~~~ v.2.1 = 0))
instance decRis {α : Type} (c : α → α → Int) (l : List α) : Decidable (risP c l) := inferInstanceAs (Decidable (∀ i (h : i < l.length), 0 < i → c (l[i - 1]'(by omega)) l[i] < 0))
instance decVlans (c : ConfC) : Decidable (vlansP c) := inferInstanceAs (Decidable (1 ≤ c.2.2.2.2.1.length ∧ c.2.2.2.2.1.length ≤ 16 ∧ (∀ i (h : i < c.2.2.2.2.1.length), vlanOk c.2.2.2.1.length c.2.2.2.2.1[i]) ∧ risP cV c.2.2.2.2.1))
instance decPort (l : List VlanC) (p : PortC) : Decidable (portOk l p) := inferInstanceAs (Decidable ((∃ i, ∃ h : i < l.length, l[i].1 = p.2.2) ∧ 1 ≤ p.2.1.toNat ∧ p.2.1.toNat ≤ 200000000))
instance decPorts (c : ConfC) : Decidable (portsP c) := inferInstanceAs (Decidable (1 ≤ c.2.2.2.1.length ∧ c.2.2.2.1.length ≤ 8 ∧ ∀ i (h : i < c.2.2.2.1.length), portOk c.2.2.2.2.1 c.2.2.2.1[i]))
instance decStat (np : Nat) (l : List VlanC) (s : StatC) : Decidable (statOk np l s) := inferInstanceAs (Decidable (s.1.toNat ≠ 0 ∧ s.1.toNat / 2 ^ 48 = 0 ∧ s.1.toNat / 2 ^ 40 % 2 = 0 ∧ 0 ≤ s.2.2 ∧ s.2.2 < np ∧ ∃ i, ∃ h : i < l.length, l[i].1 = s.2.1 ∧ l[i].2.1.toNat / 2 ^ (min s.2.2.toNat 8) % 2 ≠ 0))
instance decGood (c : ConfC) : Decidable (goodP c) := inferInstanceAs (Decidable (timesP c ∧ vlansP c ∧ portsP c ∧ c.2.2.2.2.2.length ≤ 16 ∧ risP byPl c.2.2.2.2.2 ∧ ∀ i (h : i < c.2.2.2.2.2.length), statOk c.2.2.2.1.length c.2.2.2.2.1 c.2.2.2.2.2[i]))
theorem EditR.ok {c d : ConfC} {l : List EditC} {r : ConfC × Int} (h : EditR c l r) (hc : goodP c) (hl : l.length ≤ 32) (hf : foldC c l = (d, 0)) (hd : goodP d) : r = (d, 0) :=
  h.det (.inr (.inr (.inr (.inr ⟨hc, hl, by rw [hf], by rw [hf]; exact hd, by rw [hf]⟩))))
theorem EditR.no {c d : ConfC} {l : List EditC} {r : ConfC × Int} (h : EditR c l r) (hc : goodP c) (hl : l.length ≤ 32) (hf : foldC c l = (d, 0)) (hd : ¬ goodP d) : r = (zeroC, 14) :=
  h.det (.inr (.inr (.inr (.inl ⟨hc, hl, by rw [hf], by rw [hf]; exact hd, rfl⟩))))
theorem EditR.err {c d : ConfC} {l : List EditC} {r : ConfC × Int} {e : Int} (h : EditR c l r) (hc : goodP c) (hl : l.length ≤ 32) (hf : foldC c l = (d, e)) (he : e ≠ 0) : r = (zeroC, e) :=
  h.det (.inr (.inr (.inl ⟨hc, hl, by rw [hf]; exact he, by rw [hf]⟩)))
theorem inI (x : Int) (h : -1000000000 ≤ x ∧ x ≤ 1000000000) : inI64 x := by unfold inI64; omega
theorem editOk1 (e : EditC) (h1 : -1000000000 ≤ e.1 ∧ e.1 ≤ 1000000000) (h2 : -1000000000 ≤ e.2.1 ∧ e.2.1 ≤ 1000000000) (h3 : inI64 e.2.2.1) (h4 : -1000000000 ≤ e.2.2.2.1 ∧ e.2.2.2.1 ≤ 1000000000) : Flat.ok e := ⟨inI _ h1, inI _ h2, h3, inI _ h4⟩
theorem FirstT.good {n : Int} (f : FirstT n) (h : 1 ≤ n ∧ n ≤ 8) : f.1.2.1 = firstC n.toNat ∧ f.1.2.2 = 0 := by
  rcases f.2 with ⟨h1, _⟩ | ⟨_, _, h1⟩
  · exact absurd h h1
  exact ⟨congrArg Prod.fst h1, congrArg Prod.snd h1⟩
theorem firstC_ok (n : Nat) (hn : n ≤ 8) : OkC (firstC n) := by
  have hl : (firstC n).2.2.2.1.length = n := List.length_replicate
  refine ⟨(show inI64 32768 from inI _ ⟨by decide, by decide⟩), (show inI64 20 from inI _ ⟨by decide, by decide⟩), (show inI64 15 from inI _ ⟨by decide, by decide⟩), fun x hx => ?_, fun x hx => ?_, (fun x hx => by cases hx), (by rw [hl]; omega), (show 1 ≤ 1000 by decide), (show 0 ≤ 1000 by decide)⟩
  · obtain rfl := List.eq_of_mem_replicate hx
    exact inI 1 ⟨by decide, by decide⟩
  have : x = (1, UInt8.ofNat (2 ^ n - 1), 0) := by simpa [firstC] using hx
  subst this
  exact inI 1 ⟨by decide, by decide⟩
theorem firstC_good' : ∀ n : Fin 9, 1 ≤ n.val → goodP (firstC n.val) := by decide +kernel
theorem firstC_good (n : Nat) (h1 : 1 ≤ n) (h2 : n ≤ 8) : goodP (firstC n) := firstC_good' ⟨n, by omega⟩ h1
def lw : List EditC := [(7, 0, 0, 10, 3, 2, 0), (6, 0, 10, 0, 0, 0, 0), (9, 1, 0, 10, 0, 0, 5)]
def lw2 : List EditC := [(6, 0, 10, 0, 0, 0, 0)]
def dW : ConfC := (32768, 20, 15, [(true, 20000, 10), (true, 20000, 1), (true, 20000, 1)], [(1, 7, 0), (10, 3, 2)], [(5, 10, 1)])
def dX : ConfC := (32768, 20, 15, [(true, 20000, 10), (true, 20000, 1), (true, 20000, 1)], [(1, 7, 0)], [])
theorem lw_fold : foldC (firstC 3) lw = (dW, 0) := by decide +kernel
theorem lw2_fold : foldC (firstC 3) lw2 = (dX, 0) := by decide +kernel
theorem dW_good : goodP dW := by decide +kernel
theorem dX_bad : ¬ goodP dX := by decide +kernel
theorem lw_ok : ∀ x ∈ lw, Flat.ok x := fun x hx => by
  have : x = (7, 0, 0, 10, 3, 2, 0) ∨ x = (6, 0, 10, 0, 0, 0, 0) ∨ x = (9, 1, 0, 10, 0, 0, 5) := by simpa [lw] using hx
  rcases this with rfl | rfl | rfl <;> exact editOk1 _ ⟨by decide, by decide⟩ ⟨by decide, by decide⟩ (inI _ ⟨by decide, by decide⟩) ⟨by decide, by decide⟩
theorem lw2_ok : ∀ x ∈ lw2, Flat.ok x := fun x hx => by
  have : x = (6, 0, 10, 0, 0, 0, 0) := by simpa [lw2] using hx
  subst this; exact editOk1 _ ⟨by decide, by decide⟩ ⟨by decide, by decide⟩ (inI _ ⟨by decide, by decide⟩) ⟨by decide, by decide⟩
theorem editR_ok {c : ConfC} {l : List EditC} {r : ConfC × Int} (h : EditR c l r) (hc : OkC c) (hl : ∀ x ∈ l, Flat.ok x) : OkC r.1 := by
  have hz := zeroC_ok
  have hm : ∀ (l : List EditC) (k : Nat) (c : ConfC), (∀ x ∈ l, Flat.ok x) → Mid c k → (foldC c l).2 = 0 → Mid (foldC c l).1 (k + l.length) := by
    intro l
    induction l with
    | nil => intro k c _ hc _; exact hc
    | cons e r ih =>
      intro k c hl hc h0
      simp only [foldC] at h0 ⊢
      by_cases he : (oneC c e).2 = 0
      · rw [if_pos he] at h0 ⊢
        have := ih (k + 1) _ (fun x hx => hl x (by simp [hx])) (hc.one (hl e (by simp))) h0
        rw [List.length_cons, show k + (r.length + 1) = k + 1 + r.length by omega]
        exact this
      · rw [if_neg he] at h0
        exact absurd h0 he
  rcases h with ⟨h1, h2⟩ | ⟨h1, h2, h3⟩ | ⟨h1, h2, h3, h4⟩ | ⟨h1, h2, h3, h4, h5⟩ | ⟨h1, h2, h3, h4, h5⟩
  · rw [h2]; exact hz
  · rw [h3]; exact hz
  · rw [h4]; exact hz
  · rw [h5]; exact hz
  rw [h5]
  exact (hm l 0 c hl (h1.mid hc.i1 hc.i2 hc.i3 hc.p hc.v hc.s) h3).okC (by omega)
theorem wakes5_spec (D : Nat → Prop) (w : World) : Calls Try.prog 28 #[] w fun e w' => e = .returned (.bool true) ∧ Own D w w' [] := by
  have ok3 := firstC_ok 3 (by decide)
  have okW := editR_ok (.inr (.inr (.inr (.inr ⟨firstC_good 3 (by decide) (by decide), by decide, by rw [lw_fold], by rw [lw_fold]; exact dW_good, by rw [lw_fold]⟩)))) ok3 lw_ok
  have okW : OkC dW := okW
  refine hc_enter (vs := []) Try.func28 rfl _ Try.ntmps28 rfl (Own.start D w) ?_
  simp only [argSlots, Nat.zero_add]
  refine hc_seq <| hc_region <| hl_v (ov_assign rfl) rfl <| hl_nil <| hx_then_normal <| hc_seq <| ?_
  refine hc_region <| ?_
  refine hl_call (σ := FirstT 3) Try.call29 rfl rfl (fun w1 H1 => Own.callx0 H1 fun D' hold hin H2 => First_res D' w1 3) ?_
  intro f1
  try rw [List.nil_append]
  refine hl_v (ov_move rfl) rfl <| hl_v (ov_extract rfl rfl) rfl <| hl_v (ov_extract rfl rfl) rfl <| hl_new (on_alloc) rfl rfl rfl fun b1 =>  ?_
  refine hl_u0 (on_storeW (vs := cfgA f1.1.2.1 f1.1.1) rfl rfl rfl (by simp) (by simp [Value.oneCell'])) rfl rfl ?_
  have hd1 : f1.1.2.1 = firstC 3 ∧ f1.1.2.2 = 0 := f1.good ⟨by decide, by decide⟩
  obtain ⟨⟨q1, c1, e1⟩, hs1⟩ := f1
  dsimp only at hd1 ⊢
  obtain ⟨rfl, rfl⟩ := hd1
  refine hl_v (ov_assign rfl) rfl <| hl_nil <| hx_then_normal <| hc_seq <| hc_region <| hl_v (by first | exact ov_loadW rfl (by simp; done) | exact ov_loadGB rfl rfl) rfl <| ?_
  refine hl_v (ov_buildSN rfl rfl) rfl <| ?_
  refine hl_v (ov_buildSN rfl rfl) rfl <| ?_
  refine hl_v (ov_buildSN rfl rfl) rfl <| ?_
  refine hl_new (on_buildSliceN rfl rfl rfl) rfl rfl rfl fun b16 =>  ?_
  refine hl_call (σ := EditT (firstC 3) lw) Try.call36 rfl rfl (fun w1 H1 => Own.callx0 H1 fun D' hold hin H2 => Edit_spec D' w1 (firstC 3) _ _ _ _ lw (by decide) (ConfOld.rows (q := q1) ok3 hin) (hin _ fun h hs ho => rep_lits (b := b16) hs lw (repL_F.2 ⟨rfl, lw_ok⟩) (by decide))) ?_
  intro r2
  try rw [List.nil_append]
  have hd2 := r2.2.ok (firstC_good 3 (by decide) (by decide)) (by decide) lw_fold dW_good
  refine hl_v (ov_move rfl) rfl <| hl_v (ov_extract rfl rfl) rfl <| hl_v (ov_extract rfl rfl) rfl <| hl_new (on_alloc) rfl rfl rfl fun b3 =>  ?_
  refine hl_u0 (on_storeW (vs := cfgA r2.1.2.1 r2.1.1) rfl rfl rfl (by simp) (by simp [Value.oneCell'])) rfl rfl ?_
  obtain ⟨⟨q2, c2, e2⟩, hs2⟩ := r2
  have hd2 : (c2, e2) = (dW, 0) := hd2
  simp only [Prod.mk.injEq] at hd2
  dsimp only
  obtain ⟨rfl, rfl⟩ := hd2
  refine hl_v (ov_assign rfl) rfl <| hl_nil <| hx_then_normal <| hc_seq <| hc_region <| hl_v (by first | exact ov_loadW rfl (by simp; done) | exact ov_loadGB rfl rfl) rfl <| ?_
  refine hl_v (ov_buildSN rfl rfl) rfl <| ?_
  refine hl_new (on_buildSliceN rfl rfl rfl) rfl rfl rfl fun b23 =>  ?_
  refine hl_call (σ := EditT (firstC 3) lw2) Try.call36 rfl rfl (fun w1 H1 => Own.callx0 H1 fun D' hold hin H2 => Edit_spec D' w1 (firstC 3) _ _ _ _ lw2 (by decide) (ConfOld.rows (q := q1) ok3 hin) (hin _ fun h hs ho => rep_lits (b := b23) hs lw2 (repL_F.2 ⟨rfl, lw2_ok⟩) (by decide))) ?_
  intro r3
  try rw [List.nil_append]
  have hd3 := r3.2.no (firstC_good 3 (by decide) (by decide)) (by decide) lw2_fold dX_bad
  refine hl_v (ov_move rfl) rfl <| hl_v (ov_extract rfl rfl) rfl <| hl_v (ov_extract rfl rfl) rfl <| hl_new (on_alloc) rfl rfl rfl fun b5 =>  ?_
  refine hl_u0 (on_storeW (vs := cfgA r3.1.2.1 r3.1.1) rfl rfl rfl (by simp) (by simp [Value.oneCell'])) rfl rfl ?_
  obtain ⟨⟨q3, c3, e3⟩, hs3⟩ := r3
  have hd3 : (c3, e3) = (zeroC, 14) := hd3
  simp only [Prod.mk.injEq] at hd3
  dsimp only
  obtain ⟨rfl, rfl⟩ := hd3
  refine HL.fact (fun w H => Own.factR q2.1.1 H) ?_
  rintro ⟨_, _, _, hA⟩
  have hA : isA q2.1.1 := hA (by simp [dW])
  refine hl_v (ov_assign rfl) rfl <| hl_nil <| hx_then_normal <| hc_seq <| ?_
  refine hc_any [blk b1 26 (cfgA (firstC 3) q1), blk b3 26 (cfgA dW q2), row q2.1.1 70 3 dW.2.2.2.1.length q2.1.2 (dW.2.2.2.1.flatMap portV)] mixed 59 rfl ?_
  refine ha_v 0 rfl (ov_move rfl) rfl <| ?_
  refine ha_v 1 rfl (ov_eql rfl rfl) rfl <| ?_
  refine ha_v 2 rfl (ov_move rfl) rfl <| ?_
  refine ha_partT (t := 29) rfl (rfl) ?_
  refine ha_v 3 rfl (ov_move rfl) rfl <| ?_
  refine ha_v 4 rfl (ov_eql rfl rfl) rfl <| ?_
  refine ha_v 5 rfl (ov_pickT rfl rfl) rfl <| ?_
  refine ha_v 6 rfl (ov_move rfl) rfl <| ?_
  refine ha_partT (t := 33) rfl (rfl) ?_
  refine ha_v 7 rfl (ov_move rfl) rfl <| ?_
  refine ha_v 8 rfl (ov_eql rfl rfl) rfl <| ?_
  refine ha_v 9 rfl (ov_pickT rfl rfl) rfl <| ?_
  refine ha_v 10 rfl (ov_move rfl) rfl <| ?_
  refine ha_partT (t := 37) rfl (rfl) ?_
  refine ha_v 11 rfl (ov_fieldA rfl) rfl <| ?_
  refine ha_v 12 rfl (ov_load rfl (CellIs.blk rfl)) rfl <| ?_
  refine ha_v 13 rfl (by first | exact ov_len rfl | exact ov_lenS rfl) rfl <| ?_
  refine ha_v 14 rfl (ov_eql rfl rfl) rfl <| ?_
  refine ha_v 15 rfl (ov_pickT rfl rfl) rfl <| ?_
  refine ha_v 16 rfl (ov_move rfl) rfl <| ?_
  refine ha_partT (t := 43) rfl (rfl) ?_
  refine ha_v 17 rfl (ov_fieldA rfl) rfl <| ?_
  refine ha_v 18 rfl (ov_load rfl (CellIs.blk rfl)) rfl <| ?_
  refine ha_v 19 rfl (by first | exact ov_len rfl | exact ov_lenS rfl) rfl <| ?_
  refine ha_v 20 rfl (ov_eql rfl rfl) rfl <| ?_
  refine ha_v 21 rfl (ov_pickT rfl rfl) rfl <| ?_
  refine ha_v 22 rfl (ov_move rfl) rfl <| ?_
  refine ha_partT (t := 49) rfl (rfl) ?_
  refine ha_v 23 rfl (ov_fieldA rfl) rfl <| ?_
  refine ha_v 24 rfl (ov_load rfl (CellIs.blk rfl)) rfl <| ?_
  refine ha_v 25 rfl (by first | exact ov_len rfl | exact ov_lenS rfl) rfl <| ?_
  refine ha_v 26 rfl (ov_eql rfl rfl) rfl <| ?_
  refine ha_v 27 rfl (ov_pickT rfl rfl) rfl <| ?_
  refine ha_v 28 rfl (ov_move rfl) rfl <| ?_
  refine ha_partT (t := 55) rfl (rfl) ?_
  refine ha_v 29 rfl (ov_fieldA rfl) rfl <| ?_
  refine ha_v 30 rfl (ov_load rfl (CellIs.blk rfl)) rfl <| ?_
  refine ha_v 31 rfl (by first | exact ov_len rfl | exact ov_lenS rfl) rfl <| ?_
  refine ha_v 32 rfl (ov_eql rfl rfl) rfl <| ?_
  refine ha_v 33 rfl (ov_pickT rfl rfl) rfl <| ?_
  refine ha_v 34 rfl (ov_move rfl) rfl <| ?_
  refine ha_partT (t := 61) rfl (rfl) ?_
  refine ha_v 35 rfl (ov_fieldA rfl) rfl <| ?_
  refine ha_v 36 rfl (ov_load rfl (CellIs.blk rfl)) rfl <| ?_
  refine ha_one 37 (by kernel_rfl) <| ?_
  refine ho_v rfl (ov_idxSc rfl hA rfl rfl (by decide)) rfl ?_
  refine ha_v 38 rfl (ov_fieldA rfl) rfl <| ?_
  refine ha_one 39 (by kernel_rfl) <| ?_
  refine ho_v rfl (ov_load rfl (CellIs.row (A := q2.1.1) hA (i := 2) (v := .int .i64 10) rfl)) rfl ?_
  refine ha_v 40 rfl (ov_eql rfl rfl) rfl <| ?_
  refine ha_v 41 rfl (ov_pickT rfl rfl) rfl <| ?_
  refine ha_v 42 rfl (ov_move rfl) rfl <| ?_
  refine ha_partT (t := 69) rfl (rfl) ?_
  refine ha_v 43 rfl (by first | exact ov_loadW rfl (by simp; done) | exact ov_loadGB rfl rfl) rfl <| ?_
  refine ha_one 44 (by kernel_rfl) <| ?_
  refine ho_kx (σ := BIff (goodP dW)) rfl Try.call32 rfl (fun w1 H1 => Own.callx0 H1 fun D' hold hin H2 => Good_spec D' w1 dW _ _ _ (ConfOld.rows (q := q2) okW hin)) ?_
  intro g1
  try rw [List.nil_append]
  refine ha_v 45 rfl (ov_pickT rfl rfl) rfl <| ?_
  refine ha_v 46 rfl (ov_move rfl) rfl <| ?_
  refine ha_partb (t := 73) rfl (fun y1 => ?_) (fun y1 => ?_)
  · refine ha_v 47 rfl (by first | exact ov_loadW rfl (by simp; done) | exact ov_loadGB rfl rfl) rfl <| ?_
    refine ha_v 48 rfl (by first | exact ov_loadW rfl (by simp; done) | exact ov_loadGB rfl rfl) rfl <| ?_
    refine ha_one 49 (by kernel_rfl) <| ?_
    refine ho_kx (σ := BIff (firstC 3 = dW)) rfl Try.call34 rfl (fun w1 H1 => Own.callx0 H1 fun D' hold hin H2 => Same_spec D' w1 (firstC 3) dW _ _ _ _ _ _ (ConfOld.rows (q := q1) ok3 hin) (ConfOld.rows (q := q2) okW hin)) ?_
    intro g2
    try rw [List.nil_append]
    refine ha_v 50 rfl (by first | exact ov_notd rfl | exact ov_not rfl) rfl <| ?_
    refine ha_v 51 rfl (ov_pickT rfl rfl) rfl <| ?_
    refine ha_v 52 rfl (ov_move rfl) rfl <| ?_
    refine ha_partb (t := 79) rfl (fun y2 => ?_) (fun y2 => ?_)
    · refine ha_v 53 rfl (by first | exact ov_loadW rfl (by simp; done) | exact ov_loadGB rfl rfl) rfl <| ?_
      refine ha_v 54 rfl (by first | exact ov_loadW rfl (by simp; done) | exact ov_loadGB rfl rfl) rfl <| ?_
      refine ha_one 55 (by kernel_rfl) <| ?_
      refine ho_kx (σ := Three) rfl Try.call31 rfl (fun w1 H1 => Own.callx0 H1 fun D' hold hin H2 => Copy_spec D' w1 dW _ _ _ (ConfOld.rows (q := q2) okW hin)) ?_
      intro q4
      try rw [List.nil_append]
      refine ha_one 56 (by kernel_rfl) <| ?_
      refine ho_kx (σ := BIff (dW = dW)) rfl Try.call34 rfl (fun w1 H1 => Own.callx0 H1 fun D' hold hin H2 => Same_spec D' w1 dW dW _ _ _ _ _ _ (ConfOld.rows (q := q2) okW hin) (ConfOld.rows (q := q4) okW hin)) ?_
      intro g3
      try rw [List.nil_append]
      have y3 : g3.1 = true := g3.2.2 rfl
      refine ha_v 57 rfl (ov_pickT rfl rfl) rfl <| ?_
      refine ha_v 58 rfl (ov_assign rfl) rfl <| ?_
      refine ha_done (by kernel_rfl) <| hx_then_normal <| hc_ret <| ?_
      exact results_1 (.inr rfl) rfl rfl fun w' H' => ⟨by rw [y3], H'.ent (Ent.nil _)⟩
    exact absurd (g2.2.1 (by simpa using y2)) (by decide)
  exact absurd (g1.2.2 dW_good) (by rw [y1]; decide)
end Go.Proofs.Ytpgpfcplchaleaa
