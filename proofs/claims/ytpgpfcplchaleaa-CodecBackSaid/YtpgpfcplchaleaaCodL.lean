import Derived.Test.YtpgpfcplchaleaaCodK
set_option linter.unusedVariables false
set_option linter.unusedSimpArgs false
namespace Go.Proofs.Ytpgpfcplchaleaa
open Slk
/-- What holds of any configuration in memory. -/
structure OkC (c : ConfC) : Prop where
  i1 : inI64 c.1
  i2 : inI64 c.2.1
  i3 : inI64 c.2.2.1
  p : ∀ x ∈ c.2.2.2.1, Flat.ok x
  v : ∀ x ∈ c.2.2.2.2.1, Flat.ok x
  s : ∀ x ∈ c.2.2.2.2.2, Flat.ok x
  lp : c.2.2.2.1.length ≤ 1000
  lv : c.2.2.2.2.1.length ≤ 1000
  ls : c.2.2.2.2.2.length ≤ 1000
abbrev cfgR (c : ConfC) (q : Three) : List HProp := [row q.1.1 70 3 c.2.2.2.1.length q.1.2 (c.2.2.2.1.flatMap portV), row q.2.1.1 66 3 c.2.2.2.2.1.length q.2.1.2 (c.2.2.2.2.1.flatMap vlanV), row q.2.2.1 72 3 c.2.2.2.2.2.length q.2.2.2 (c.2.2.2.2.2.flatMap statV)]
theorem ConfOld.rows {D D' : Nat → Prop} {w0 w1 : World} {l r1 r2 r3 : List HProp} {c : ConfC} {q : Three} {t1 t2 t3 : TypeId} (hok : OkC c)
    (hin : ∀ B : HProp, (∀ h, stars l h → (∀ A, Old D w0 A → ∃ h1, A h1 ∧ Hsub h1 h) → B h) → Old D' w1 B)
    [k1 : PickR l q.1.1 t1 3 c.2.2.2.1.length q.1.2 (c.2.2.2.1.flatMap portV) r1] [k2 : PickR l q.2.1.1 t2 3 c.2.2.2.2.1.length q.2.1.2 (c.2.2.2.2.1.flatMap vlanV) r2] [k3 : PickR l q.2.2.1 t3 3 c.2.2.2.2.2.length q.2.2.2 (c.2.2.2.2.2.flatMap statV) r3] :
    ConfOld D' w1 c (.slice q.1.1 c.2.2.2.1.length q.1.2) (.slice q.2.1.1 c.2.2.2.2.1.length q.2.1.2) (.slice q.2.2.1 c.2.2.2.2.2.length q.2.2.2) :=
  ⟨hok.i1, hok.i2, hok.i3, hin _ fun h hs ho => rep_row (h := k1) (A := q.1.1) hs c.2.2.2.1 rfl (repL_F.2 ⟨rfl, hok.p⟩), hin _ fun h hs ho => rep_row (h := k2) (A := q.2.1.1) hs c.2.2.2.2.1 rfl (repL_F.2 ⟨rfl, hok.v⟩), hin _ fun h hs ho => rep_row (h := k3) (A := q.2.2.1) hs c.2.2.2.2.2 rfl (repL_F.2 ⟨rfl, hok.s⟩), hok.lp, hok.lv, hok.ls⟩
theorem rdC_ok (m : Bool) (s : RS) : OkC (rdC m s).1 := by
  have h : ∀ s, getN s 1 < 256 := fun s => getN_lt s 1
  refine ⟨getN_in _ 2 (by decide), getN_in _ 1 (by decide), getN_in _ 1 (by decide), rdL_mem (rdP_ok m) _ _, rdL_mem rdV_ok _ _, rdL_mem rdS_ok _ _, ?_, ?_, ?_⟩
  · show (rdL _ _ _).1.length ≤ 1000
    rw [rdL_len]; have := h (getS (getS (getS s 2) 1) 1); omega
  · show (rdL rdV _ _).1.length ≤ 1000
    rw [rdL_len]; have := h (rdL (rdP m) (getN (getS (getS (getS s 2) 1) 1) 1) (getS (getS (getS (getS s 2) 1) 1) 1)).2; omega
  show (rdL rdS _ _).1.length ≤ 1000
  rw [rdL_len]; exact Nat.le_trans (Nat.le_of_lt (h _)) (by decide)
abbrev zeroC : ConfC := (0, 0, 0, [], [], [])
theorem zeroC_ok : OkC zeroC := ⟨by unfold inI64; decide, by unfold inI64; decide, by unfold inI64; decide, (fun x hx => by cases hx), (fun x hx => by cases hx), (fun x hx => by cases hx), by decide, by decide, by decide⟩
abbrev q0 : Three := ((none, 0), (none, 0), (none, 0))
theorem Ent.cfgR0 (l : List HProp) : Ent l (cfgR zeroC q0 ++ l) := Ent.trans (Ent.nil_row 72 3) (Ent.trans (Ent.nil_row 66 3) (Ent.nil_row 70 3))
def parseP (s : RS) : Prop := ((rdC true s).2.bad = false ∧ (rdC true s).2.rem = []) ∧ goodP (rdC true s).1
abbrev ParseT (p : Prop) (c : ConfC) := { r : Three × ConfC × Int // (¬ p ∧ r.2.1 = zeroC ∧ r.2.2 = 11) ∨ (p ∧ r.2.1 = c ∧ r.2.2 = 0) }
theorem Parse_spec (D : Nat → Prop) (w : World) (v : Value) (xs : List UInt8) (HA : Old D w (Rep.rep xs [v])) :
    Calls Try.prog 26 #[v] w fun e w' => ∃ r : ParseT (parseP ⟨xs, v, false⟩) (rdC true ⟨xs, v, false⟩).1, e = .returned (.tuple #[.agg (cfgA r.1.2.1 r.1.1).toArray, .int .i64 r.1.2.2]) ∧ Own D w w' (cfgR r.1.2.1 r.1.1) := by
  have HA0 := HA
  obtain ⟨A, cap, rfl, _⟩ := HA0.openB
  obtain ⟨s, hs⟩ : ∃ s : RS, s = ⟨xs, .slice A xs.length cap, false⟩ := ⟨_, rfl⟩
  have HA : Old D w (Rep.rep s.rem [s.v]) := by rw [hs]; exact HA
  rw [← hs]
  have HAe : ∀ m : Bool, Old D w (Rep.rep (rdC m s).2.rem [(rdC m s).2.v]) := fun m => old_rdL old_rdS _ (old_get 1 (old_rdL old_rdV _ (old_get 1 (old_rdL (old_rdP m) _ (old_get 1 (old_get 1 (old_get 1 (old_get 2 HA))))))))
  have HAe := HAe true
  have hokc := rdC_ok true s
  refine hc_enter (vs := [.slice A xs.length cap]) Try.func26 rfl _ Try.ntmps26 rfl (Own.start D w) ?_
  simp only [argSlots, Nat.zero_add]
  refine hc_seq <| hc_region <| hl_new (on_alloc) rfl rfl rfl fun b2 =>
    hl_v (ov_assign rfl) rfl <| hl_nil <| hx_then_normal <| ?_
  refine hc_seq <| hc_region <| hl_v (ov_move rfl) rfl <| hl_v (ov_buildSN rfl rfl) rfl <| ?_
  refine hl_v (ov_buildSN rfl rfl) rfl <| ?_
  refine hl_new (on_boxN rfl rfl) rfl rfl rfl fun b9 =>  ?_
  refine hl_v (ov_assign rfl) rfl <| hl_nil <| hx_then_normal <| hc_seq <| hc_seq <| hc_region <| ?_
  refine hl_v (ov_move rfl) rfl <| ?_
  refine HL.ent (show Ent _ [blk b9 92 [s.v, .bool s.bad], blk b2 26 [.int .i64 0, .int .i64 0, .int .i64 0, .slice none 0 0, .slice none 0 0, .slice none 0 0]] by rw [hs]; exact (by first | assumption | exact Ent.refl _ | exact Ent.nil _ | exact Ent.row_any (Ent.refl _) | (repeat (first | exact Ent.refl _ | exact Ent.nil _ | refine Ent.pick ?_)))) ?_
  refine hl_call (σ := Three) Try.call49 rfl rfl (fun w1 H1 => Own.callpx (blk b9 92 [s.v, .bool s.bad]) H1 fun D' hold hin H2 => rconfig_spec D' w1 b9 92 s H2 (hold _ HA)) ?_
  intro q
  have hP : parseP s ↔ ((rdC true s).2.bad = false ∧ (rdC true s).2.rem = []) ∧ goodP (rdC true s).1 := Iff.rfl
  generalize rdC true s = rc at *
  obtain ⟨c, r⟩ := rc
  dsimp only at hokc HAe hP ⊢
  refine hl_new (on_alloc) rfl rfl rfl fun b5 =>  ?_
  refine hl_u0 (on_storeW (vs := cfgA c q) rfl rfl rfl (by simp) (by simp [Value.oneCell'])) rfl rfl ?_
  refine hl_nil <| hx_then_normal <| hc_seq <| hc_region <| hl_v (ov_move rfl) rfl <| ?_
  refine hl_call (σ := BIff (r.bad = false ∧ r.rem = [])) Try.call46 rfl rfl (fun w1 H1 => Own.callpx (blk b9 92 [r.v, .bool r.bad]) H1 fun D' hold hin H2 => ended_spec D' w1 b9 92 r H2 (hold _ HAe)) ?_
  intro e1
  refine hl_v (ov_move rfl) rfl <| ?_
  refine hl_partb (t := 14) rfl (fun a1 => ?_) (fun a1 => ?_)
  · have hend := e1.2.1 a1
    refine hl_on rfl rfl <| hl_v (by first | exact ov_loadW rfl (by simp; done) | exact ov_loadGB rfl rfl) rfl <| ?_
    refine hl_on rfl rfl <| hl_call (σ := BIff (goodP c)) Try.call32 rfl rfl (fun w1 H1 => Own.callx0 H1 fun D' hold hin H2 => Good_spec D' w1 c _ _ _ (ConfOld.rows (q := q) hokc hin)) ?_
    intro e2
    try rw [List.nil_append]
    refine hl_v (ov_pickT rfl rfl) rfl <| hl_nil <| hx_then_normal <| ?_
    refine hc_cond_bool rfl (fun a2 => ?_) (fun a2 => ?_)
    · have hyes : parseP s := hP.2 ⟨hend, e2.2.1 a2⟩
      refine hc_seq <| hc_region <| hl_v (by first | exact ov_loadW rfl (by simp; done) | exact ov_loadGB rfl rfl) rfl <| ?_
      refine hl_u0 (on_storeGN rfl rfl rfl rfl rfl rfl) rfl rfl <| hl_v (ov_assign rfl) rfl <| hl_nil <| hx_then_normal <| hc_ret <| hx_then_ret <| ?_
      exact results_ct (.inr rfl) rfl rfl (by simp) rfl fun w' H' => ⟨⟨(q, c, 0), .inr ⟨hyes, rfl, rfl⟩⟩, rfl, H'.ent (by first | assumption | exact Ent.refl _ | exact Ent.nil _ | exact Ent.row_any (Ent.refl _) | (repeat (first | exact Ent.refl _ | exact Ent.nil _ | refine Ent.pick ?_)))⟩
    have hno : ¬ parseP s := fun h => by have := e2.2.2 (hP.1 h).2; rw [this] at a2; cases a2
    refine hc_skip <| hx_then_normal <| hc_seq <| hc_region <| hl_v (ov_buildSN rfl rfl) rfl <| ?_
    refine hl_u0 (on_storeGN rfl rfl rfl rfl rfl rfl) rfl rfl <| hl_v (ov_assign rfl) rfl <| hl_nil <| hx_then_normal <| hc_ret <| ?_
    exact results_ct (.inr rfl) rfl rfl (by simp) rfl fun w' H' => ⟨⟨(q0, zeroC, 11), .inl ⟨hno, rfl, rfl⟩⟩, rfl, H'.ent (Ent.trans (Ent.cfgR0 _) Ent.append_l)⟩
  have hno : ¬ parseP s := fun h => by have := e1.2.2 (hP.1 h).1; rw [this] at a1; cases a1
  refine hl_off rfl rfl rfl rfl rfl rfl <| hl_off rfl rfl rfl rfl rfl rfl <| hl_v (ov_pickF rfl rfl) rfl <| hl_nil <| hx_then_normal <| hc_cond_false rfl <| ?_
  refine hc_skip <| hx_then_normal <| hc_seq <| hc_region <| hl_v (ov_buildSN rfl rfl) rfl <| ?_
  refine hl_u0 (on_storeGN rfl rfl rfl rfl rfl rfl) rfl rfl <| hl_v (ov_assign rfl) rfl <| hl_nil <| hx_then_normal <| hc_ret <| ?_
  exact results_ct (.inr rfl) rfl rfl (by simp) rfl fun w' H' => ⟨⟨(q0, zeroC, 11), .inl ⟨hno, rfl, rfl⟩⟩, rfl, H'.ent (Ent.trans (Ent.cfgR0 _) Ent.append_l)⟩
end Go.Proofs.Ytpgpfcplchaleaa
