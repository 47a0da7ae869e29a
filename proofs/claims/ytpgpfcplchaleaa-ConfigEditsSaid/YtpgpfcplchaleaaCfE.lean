import Derived.Test.YtpgpfcplchaleaaCfD
set_option linter.unusedVariables false
set_option linter.unusedSimpArgs false
namespace Go.Proofs.Ytpgpfcplchaleaa
open Slk
abbrev EditT (c : ConfC) (l : List EditC) := { r : Three × ConfC × Int // EditR c l r.2 }
theorem ConfOld.okC {D : Nat → Prop} {w : World} {c : ConfC} {vp vv vs : Value} (h : ConfOld D w c vp vv vs) : OkC c := by
  obtain ⟨_, _, _, _, _, _, op⟩ := h.p.openF
  obtain ⟨_, _, _, _, _, _, ov⟩ := h.v.openF
  obtain ⟨_, _, _, _, _, _, os⟩ := h.s.openF
  exact ⟨h.i1, h.i2, h.i3, op, ov, os, h.lp, h.lv, h.ls⟩
theorem Mid.okC {c : ConfC} {k : Nat} (h : Mid c k) (hk : k ≤ 900) : OkC c := ⟨h.i1, h.i2, h.i3, h.p, h.v, h.s, by have := h.lp; omega, by have := h.lv; omega, by have := h.ls; omega⟩
theorem Edit_spec (D : Nat → Prop) (w : World) (c : ConfC) (vp vv vs v1 : Value) (l : List EditC) (hll : l.length ≤ 1000000) (HC0 : ConfOld D w c vp vv vs) (HE : Old D w (Rep.rep l [v1])) :
    Calls Try.prog 36 #[.agg (cfgV c vp vv vs).toArray, v1] w fun e w' => ∃ r : EditT c l, e = .returned (.tuple #[.agg (cfgA r.1.2.1 r.1.1).toArray, .int .i64 r.1.2.2]) ∧ Own D w w' (cfgR r.1.2.1 r.1.1) := by
  obtain ⟨Ae, ce, rfl, hce1, hce2, HSe, heok⟩ := HE.openF
  have HSe : OldS D w Ae (l.flatMap editV) := HSe
  have hokc := HC0.okC
  have h1p : ∃ A n cap, vp = .slice A n cap := by obtain ⟨A, cap, rfl, _⟩ := HC0.p.openF; exact ⟨_, _, _, rfl⟩
  have h1v : ∃ A n cap, vv = .slice A n cap := by obtain ⟨A, cap, rfl, _⟩ := HC0.v.openF; exact ⟨_, _, _, rfl⟩
  have h1s : ∃ A n cap, vs = .slice A n cap := by obtain ⟨A, cap, rfl, _⟩ := HC0.s.openF; exact ⟨_, _, _, rfl⟩
  obtain ⟨Ap', np', cp', hvp⟩ := h1p
  obtain ⟨Av', nv', cv', hvv⟩ := h1v
  obtain ⟨As', ns', cs', hvs⟩ := h1s
  refine hc_enter (vs := [.agg (cfgV c vp vv vs).toArray, .slice Ae l.length ce]) Try.func36 rfl _ Try.ntmps36 rfl (Own.start D w) ?_
  simp only [argSlots, Nat.zero_add]
  refine hc_seq <| hc_region <| hl_new (on_boxN rfl rfl) rfl rfl rfl fun b2 =>  ?_
  refine hl_new (on_alloc) rfl rfl rfl fun b4 => 
    hl_v (ov_assign rfl) rfl <| hl_nil <| hx_then_normal <| hc_seq <| hc_block <| ?_
  refine hc_seq <| hc_region <| hl_v (by first | exact ov_loadW rfl (by simp; done) | exact ov_loadGB rfl rfl) rfl <| ?_
  refine hl_call (σ := BIff (goodP c)) Try.call32 rfl rfl (fun w1 H1 => Own.callx0 H1 fun D' hold hin H2 => Good_spec D' w1 c vp vv vs (HC0.hold hold)) ?_
  intro r1
  try rw [List.nil_append]
  refine hl_v (by first | exact ov_notd rfl | exact ov_not rfl) rfl <| ?_
  refine hl_v (ov_assign rfl) rfl <| hl_nil <| hx_then_normal <| ?_
  refine hc_cond_bool rfl (fun a1 => ?_) (fun a1 => ?_)
  · have hno : ¬ goodP c := fun h => by have := r1.2.2 h; rw [this] at a1; cases a1
    have hR : EditR c l (zeroC, 14) := .inl ⟨hno, rfl⟩
    refine hc_seq <| hc_region <| hl_v (ov_buildSN rfl rfl) rfl <| ?_
    refine hl_u0 (on_storeGN rfl rfl rfl rfl rfl rfl) rfl rfl <| hl_v (ov_assign rfl) rfl <| hl_nil <| hx_then_normal <| hc_ret <| hx_block_ret <| ?_
    refine hx_then_ret <| ?_
    exact results_ct (.inr rfl) rfl rfl (by simp) rfl fun w' H' => ⟨⟨(q0, zeroC, 14), hR⟩, rfl, H'.ent (Ent.trans (Ent.cfgR0 _) Ent.append_l)⟩
  have hg : goodP c := r1.2.1 (by simpa using a1)
  have hm0 : Mid c 0 := hg.mid hokc.i1 hokc.i2 hokc.i3 hokc.p hokc.v hokc.s
  refine hc_seq <| hc_region <| hl_v (ov_move rfl) rfl <| hl_v (by first | exact ov_len rfl | exact ov_lenS rfl) rfl <| ?_
  refine hl_v (ov_gtr rfl rfl) rfl <| hl_v (ov_assign rfl) rfl <| hl_nil <| hx_then_normal <| ?_
  refine hc_cond rfl (fun a2 => ?_) (fun a2 => ?_)
  · have hR : EditR c l (zeroC, 3) := .inr (.inl ⟨hg, by omega, rfl⟩)
    refine hc_seq <| hc_region <| hl_v (ov_buildSN rfl rfl) rfl <| ?_
    refine hl_u0 (on_storeGN rfl rfl rfl rfl rfl rfl) rfl rfl <| hl_v (ov_assign rfl) rfl <| hl_nil <| hx_then_normal <| hc_ret <| hx_block_ret <| ?_
    refine hx_then_ret <| ?_
    exact results_ct (.inr rfl) rfl rfl (by simp) rfl fun w' H' => ⟨⟨(q0, zeroC, 3), hR⟩, rfl, H'.ent (Ent.trans (Ent.cfgR0 _) Ent.append_l)⟩
  have hl32 : l.length ≤ 32 := by omega
  refine hc_skip <| hx_block_normal <| hx_then_normal <| hc_seq <| hc_region <| hl_v (by first | exact ov_loadW rfl (by simp; done) | exact ov_loadGB rfl rfl) rfl <| ?_
  refine hl_call (σ := Three) Try.call31 rfl rfl (fun w1 H1 => Own.callx0 H1 fun D' hold hin H2 => Copy_spec D' w1 c vp vv vs (HC0.hold hold)) ?_
  intro q
  try rw [List.nil_append]
  refine hl_u0 (on_storeW (vs := cfgA c q) rfl rfl rfl (by simp) (by simp [Value.oneCell'])) rfl rfl ?_
  refine hl_nil <| hx_then_normal <| hc_seq <| hc_seq <| hc_region <| hl_v (ov_move rfl) rfl <| ?_
  refine hl_v (by first | exact ov_len rfl | exact ov_lenS rfl) rfl <| ?_
  refine hl_v (ov_move rfl) rfl <| hl_nil <| hx_then_normal <| hc_block <| ?_
  refine hc_loopK1 (σ := Nat × ConfC) [2, 4, 21, 22] rfl 23 (fun s => .int .i64 (s.1 : Int)) (fun s => [cfgO b2 s.2, blk b4 26 [.int .i64 0, .int .i64 0, .int .i64 0, .slice none 0 0, .slice none 0 0, .slice none 0 0]]) (fun s => (s.1 ≤ l.length ∧ Mid s.2 s.1) ∧ foldC c (l.take s.1) = (s.2, 0)) (fun s => l.length - s.1) ((0, c)) (⟨⟨Nat.zero_le _, hm0⟩, rfl⟩) rfl (Ent.trans (b := cfgQ b2 c q ++ [blk b4 26 [.int .i64 0, .int .i64 0, .int .i64 0, .slice none 0 0, .slice none 0 0, .slice none 0 0]]) (by first | assumption | exact Ent.refl _ | exact Ent.nil _ | exact Ent.row_any (Ent.refl _) | (repeat (first | exact Ent.refl _ | exact Ent.nil _ | refine Ent.pick ?_))) (cfgO_mk q)) ?_
  rintro ⟨i, ci⟩ hj_ K1 hK1
  dsimp only at hj_ ⊢
  obtain ⟨⟨hi, hm⟩, hf⟩ := hj_
  refine hc_seq <| hc_region <| hl_v (ov_lss rfl rfl) rfl <| hl_nil <| hx_then_normal <| hc_seq <| ?_
  refine hc_cond rfl (fun h => ?_) (fun h => ?_)
  · have hlt : i < l.length := by omega
    obtain ⟨hA, _⟩ := OldS.cells_flat (D := D) (w0 := w) (f := editV) (sz := 7) (fun _ => rfl) (by decide) HSe hlt []
    have hc := fun l' => (OldS.cells_flat (D := D) (w0 := w) (f := editV) (sz := 7) (fun _ => rfl) (by decide) HSe hlt l').2
    have hox := heok l[i] (List.getElem_mem hlt)
    have hmx := hm.one hox
    have hsn := foldC_snoc hlt hf
    have hst : (oneC ci l[i]).2 ≠ 0 → foldC c l = oneC ci l[i] := foldC_stop hlt hf
    generalize l[i] = x at *
    refine hc_skip <| hx_then_normal <| hc_seq <| hc_block <| hc_seq <| hc_region <| ?_
    refine hl_v (ov_idxS rfl (by assumption) rfl _ rfl (by omega)) rfl <| ?_
    refine hl_v (ov_loadG (cs := editV x) rfl rfl (hc _)) rfl ?_
    refine hl_new (on_alloc) rfl rfl rfl fun b7 =>  ?_
    refine hl_u0 (on_storeW (vs := editV x) rfl rfl (by simp) (by simp) (by simp [Value.oneCell', u8v])) rfl rfl ?_
    refine hl_nil <| hx_then_normal <| hc_seq <| hc_region <| hl_v (by first | exact ov_loadW rfl (by simp; done) | exact ov_loadGB rfl rfl) rfl <| ?_
    refine hl_c Try.call67 rfl rfl (fun w1 H1 => Own.callp (cfgO b2 ci) H1 fun D' hold hin H2 => one_spec D' w1 b2 ci x i (by omega) hm hox H2) ?_
    refine hl_v (ov_assign rfl) rfl <| hl_nil <| hx_then_normal <| hc_seq <| hc_region <| hl_v (ov_move rfl) rfl <| ?_
    refine hl_v (ov_neq rfl rfl) rfl <| hl_nil <| hx_then_normal <| ?_
    refine hc_cond rfl (fun h2 => ?_) (fun h2 => ?_)
    · have hfc := hst h2
      have hR : EditR c l (zeroC, (oneC ci x).2) := .inr (.inr (.inl ⟨hg, hl32, by rw [hfc]; exact h2, by rw [hfc]⟩))
      refine hc_seq <| hc_region <| hl_v (ov_buildSN rfl rfl) rfl <| ?_
      refine hl_v (ov_move rfl) rfl <| hl_u0 (on_storeGN rfl rfl rfl rfl rfl rfl) rfl rfl <| hl_v (ov_assign rfl) rfl <| hl_nil <| hx_then_normal <| hc_ret <| ?_
      refine hx_block_ret <| hx_then_ret <| hx_then_ret <| hx_block_ret <| hx_then_ret <| ?_
      exact results_ct (.inr rfl) rfl rfl (by simp) rfl fun w' H' => ⟨⟨(q0, zeroC, (oneC ci x).2), hR⟩, rfl, H'.ent (Ent.trans (Ent.cfgR0 _) Ent.append_l)⟩
    have h0 : (oneC ci x).2 = 0 := Classical.not_not.1 h2
    have hfn : foldC c (l.take (i + 1)) = ((oneC ci x).1, 0) := by rw [hsn]; exact Prod.ext rfl h0
    refine hc_skip <| hx_block_normal <| hx_then_normal <| hc_region <| hl_v (ov_add rfl rfl (by first | exact wrap_i64 (by omega) | rfl)) rfl <| ?_
    refine hl_v (ov_move rfl) rfl <| hl_nil <| ?_
    refine hx_next hK1 ((i + 1, (oneC ci x).1)) (⟨⟨hlt, hmx⟩, hfn⟩) (by show l.length - (i + 1) < l.length - i; omega) (by repeat (first | exact Slots.sub_nil _ | refine Slots.sub_cons rfl ?_)) (by first | assumption | exact Ent.refl _ | exact Ent.nil _ | (repeat (first | exact Ent.refl _ | exact Ent.nil _ | refine Ent.pick ?_)))
  have hie : i = l.length := by omega
  subst hie
  rw [List.take_length] at hf
  have hok2 := hm.okC (by omega)
  refine HC.exs ?_
  intro q2
  refine HC.ent (l' := cfgQ b2 ci q2 ++ [blk b4 26 [.int .i64 0, .int .i64 0, .int .i64 0, .slice none 0 0, .slice none 0 0, .slice none 0 0]]) (fun _ h => h) ?_
  refine hc_exit <| hx_then_exit <| hx_then_exit <| hx_block_out <| hx_then_normal <| hc_seq <| ?_
  refine hc_seq <| hc_region <| hl_v (by first | exact ov_loadW rfl (by simp; done) | exact ov_loadGB rfl rfl) rfl <| ?_
  refine hl_call (σ := BIff (goodP ci)) Try.call32 rfl rfl (fun w1 H1 => Own.callx0 H1 fun D' hold hin H2 => Good_spec D' w1 ci _ _ _ (ConfOld.rows (q := q2) hok2 hin)) ?_
  intro r2
  try rw [List.nil_append]
  refine hl_v (by first | exact ov_notd rfl | exact ov_not rfl) rfl <| ?_
  refine hl_nil <| hx_then_normal <| ?_
  refine hc_cond_bool rfl (fun a3 => ?_) (fun a3 => ?_)
  · have hno : ¬ goodP ci := fun h => by have := r2.2.2 h; rw [this] at a3; cases a3
    have hR : EditR c l (zeroC, 14) := .inr (.inr (.inr (.inl ⟨hg, hl32, by rw [hf], by rw [hf]; exact hno, rfl⟩)))
    refine hc_seq <| hc_region <| hl_v (ov_buildSN rfl rfl) rfl <| ?_
    refine hl_u0 (on_storeGN rfl rfl rfl rfl rfl rfl) rfl rfl <| hl_v (ov_assign rfl) rfl <| hl_nil <| hx_then_normal <| hc_ret <| hx_then_ret <| ?_
    exact results_ct (.inr rfl) rfl rfl (by simp) rfl fun w' H' => ⟨⟨(q0, zeroC, 14), hR⟩, rfl, H'.ent (Ent.trans (Ent.cfgR0 _) Ent.append_l)⟩
  have hyes : goodP ci := r2.2.1 (by simpa using a3)
  have hR : EditR c l (ci, 0) := .inr (.inr (.inr (.inr ⟨hg, hl32, by rw [hf], by rw [hf]; exact hyes, by rw [hf]⟩)))
  refine hc_skip <| hx_then_normal <| hc_seq <| hc_region <| hl_v (by first | exact ov_loadW rfl (by simp; done) | exact ov_loadGB rfl rfl) rfl <| ?_
  refine hl_u0 (on_storeGN rfl rfl rfl rfl rfl rfl) rfl rfl <| hl_v (ov_assign rfl) rfl <| hl_nil <| hx_then_normal <| hc_ret <| ?_
  exact results_ct (.inr rfl) rfl rfl (by simp) rfl fun w' H' => ⟨⟨(q2, ci, 0), hR⟩, rfl, H'.ent (by first | assumption | exact Ent.refl _ | exact Ent.nil _ | exact Ent.row_any (Ent.refl _) | (repeat (first | exact Ent.refl _ | exact Ent.nil _ | refine Ent.pick ?_)))⟩
end Go.Proofs.Ytpgpfcplchaleaa
