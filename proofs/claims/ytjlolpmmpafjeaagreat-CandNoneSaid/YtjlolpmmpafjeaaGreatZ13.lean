import Derived.Test.YtjlolpmmpafjeaaGreatZ12
import Derived.Test.YtjlolpmmpafjeaaGreatZ02
set_option linter.unusedVariables false
set_option linter.unusedSimpArgs false
namespace Go.Proofs.YtjlolpmmpafjeaaGreat
open Slk
theorem rdC_ok (m : Bool) (s : RS) : OkC (rdC m s).1 := by
  have h : ∀ s, getN s 1 < 256 := fun s => getN_lt s 1
  refine ⟨getN_in _ 2 (by decide), getN_in _ 1 (by decide), getN_in _ 1 (by decide), rdL_mem (rdP_ok m) _ _, rdL_mem rdV_ok _ _, rdL_mem rdS_ok _ _, ?_, ?_, ?_⟩
  · show (rdL _ _ _).1.length ≤ 1000
    rw [rdL_len]; have := h (getS (getS (getS s 2) 1) 1); omega
  · show (rdL rdV _ _).1.length ≤ 1000
    rw [rdL_len]; have := h (rdL (rdP m) (getN (getS (getS (getS s 2) 1) 1) 1) (getS (getS (getS (getS s 2) 1) 1) 1)).2; omega
  show (rdL rdS _ _).1.length ≤ 1000
  rw [rdL_len]; exact Nat.le_trans (Nat.le_of_lt (h _)) (by decide)
def parseP (s : RS) : Prop := ((rdC true s).2.bad = false ∧ (rdC true s).2.rem = []) ∧ goodP (rdC true s).1
abbrev ParseT (p : Prop) (c : ConfC) := { r : Three × ConfC × Int // (¬ p ∧ r.2.1 = zeroC ∧ r.2.2 = 11) ∨ (p ∧ r.2.1 = c ∧ r.2.2 = 0) }
theorem Parse_spec (D : Nat → Prop) (w : World) (v : Value) (xs : List UInt8) (HA : Old D w (Rep.rep xs [v])) :
    Calls Tryz.prog 46 #[v] w fun e w' => ∃ r : ParseT (parseP ⟨xs, v, false⟩) (rdC true ⟨xs, v, false⟩).1, e = .returned (.tuple #[.agg (cfgA r.1.2.1 r.1.1).toArray, .int .i64 r.1.2.2]) ∧ Own D w w' (cfgR r.1.2.1 r.1.1) := by
  have HA0 := HA
  obtain ⟨A, cap, rfl, _⟩ := HA0.openB
  obtain ⟨s, hs⟩ : ∃ s : RS, s = ⟨xs, .slice A xs.length cap, false⟩ := ⟨_, rfl⟩
  have HA : Old D w (Rep.rep s.rem [s.v]) := by rw [hs]; exact HA
  rw [← hs]
  have HAe : ∀ m : Bool, Old D w (Rep.rep (rdC m s).2.rem [(rdC m s).2.v]) := fun m => old_rdL old_rdS _ (old_get 1 (old_rdL old_rdV _ (old_get 1 (old_rdL (old_rdP m) _ (old_get 1 (old_get 1 (old_get 1 (old_get 2 HA))))))))
  have HAe := HAe true
  have hokc := rdC_ok true s
  refine hc_enter (vs := [.slice A xs.length cap]) Tryz.func46 rfl _ Tryz.ntmps46 rfl (Own.start D w) ?_
  simp only [argSlots, Nat.zero_add]
  refine hc_seq <| hc_region <| hl_new (on_alloc) rfl rfl rfl fun b2 =>
    hl_v (ov_assign rfl) rfl <| hl_nil <| hx_then_normal <| ?_
  refine hc_seq <| hc_region <| hl_v (ov_move rfl) rfl <| hl_v (ov_buildSN rfl rfl) rfl <| ?_
  refine hl_v (ov_buildSN rfl rfl) rfl <| ?_
  refine hl_new (on_boxN rfl rfl) rfl rfl rfl fun b9 =>  ?_
  refine hl_v (ov_assign rfl) rfl <| hl_nil <| hx_then_normal <| hc_seq <| hc_seq <| hc_region <| ?_
  refine hl_v (ov_move rfl) rfl <| ?_
  refine HL.ent (show Ent _ [blk b9 165 [s.v, .bool s.bad], blk b2 49 [.int .i64 0, .int .i64 0, .int .i64 0, .slice none 0 0, .slice none 0 0, .slice none 0 0]] by rw [hs]; exact (by first | assumption | exact Ent.refl _ | exact Ent.nil _ | exact Ent.row_any (Ent.refl _) | (repeat (first | exact Ent.refl _ | exact Ent.nil _ | refine Ent.pick ?_)))) ?_
  refine hl_call (σ := Three) Tryz.call75 rfl rfl (fun w1 H1 => Own.callpx (blk b9 165 [s.v, .bool s.bad]) H1 fun D' hold hin H2 => rconfig_spec D' w1 b9 165 s H2 (hold _ HA)) ?_
  intro q
  have hP : parseP s ↔ ((rdC true s).2.bad = false ∧ (rdC true s).2.rem = []) ∧ goodP (rdC true s).1 := Iff.rfl
  generalize rdC true s = rc at *
  obtain ⟨c, r⟩ := rc
  dsimp only at hokc HAe hP ⊢
  refine hl_new (on_alloc) rfl rfl rfl fun b5 =>  ?_
  refine hl_u0 (on_storeW (vs := cfgA c q) rfl rfl rfl (by simp) (by simp [Value.oneCell'])) rfl rfl ?_
  refine hl_nil <| hx_then_normal <| hc_seq <| hc_region <| hl_v (ov_move rfl) rfl <| ?_
  refine hl_call (σ := BIff (r.bad = false ∧ r.rem = [])) Tryz.call76 rfl rfl (fun w1 H1 => Own.callpx (blk b9 165 [r.v, .bool r.bad]) H1 fun D' hold hin H2 => ended_spec D' w1 b9 165 r H2 (hold _ HAe)) ?_
  intro e1
  refine hl_v (ov_move rfl) rfl <| ?_
  refine hl_partb (t := 14) rfl (fun a1 => ?_) (fun a1 => ?_)
  · have hend := e1.2.1 a1
    refine hl_on rfl rfl <| hl_v (by first | exact ov_loadW rfl (by simp; done) | exact ov_loadGB rfl rfl) rfl <| ?_
    refine hl_on rfl rfl <| hl_call (σ := BIff (goodP c)) Tryz.call77 rfl rfl (fun w1 H1 => Own.callx0 H1 fun D' hold hin H2 => Good_spec D' w1 c _ _ _ (ConfOld.rows (q := q) hokc hin)) ?_
    intro e2
    try rw [List.nil_append]
    refine hl_v (ov_pickT rfl rfl) rfl <| hl_nil <| hx_then_normal <| ?_
    refine hc_cond_bool rfl (fun a2 => ?_) (fun a2 => ?_)
    · have hyes : parseP s := hP.2 ⟨hend, e2.2.1 a2⟩
      refine hc_seq <| hc_region <| hl_v (by first | exact ov_loadW rfl (by simp; done) | exact ov_loadGB rfl rfl) rfl <| ?_
      refine hl_u0 (on_storeGN rfl rfl rfl rfl rfl rfl) rfl rfl <| hl_v (ov_assign rfl) rfl <| hl_nil <| hx_then_normal <| hc_ret <| hx_then_ret <| ?_
      exact results_ct (.inr rfl) rfl rfl (by simp) rfl fun w' H' => ⟨⟨(q, c, 0), .inr ⟨hyes, rfl, rfl⟩⟩, rfl, H'.ent (by first | assumption | exact Ent.refl _ | exact Ent.nil _ | exact Ent.row_any (Ent.refl _) | (repeat (first | exact Ent.refl _ | exact Ent.nil _ | refine Ent.pick ?_)))⟩
    have hno : ¬ parseP s := fun h => by have := e2.2.2 (hP.1 h).2; rw [this] at a2; cases a2
    refine hc_skip <| hx_then_normal <| hc_seq <| hc_region <| hl_v (ov_buildSN rfl rfl) rfl <| ?_
    refine hl_u0 (on_storeGN rfl rfl rfl rfl rfl rfl) rfl rfl <| hl_v (ov_assign rfl) rfl <| hl_nil <| hx_then_normal <| hc_ret <| ?_
    exact results_ct (.inr rfl) rfl rfl (by simp) rfl fun w' H' => ⟨⟨(q0, zeroC, 11), .inl ⟨hno, rfl, rfl⟩⟩, rfl, H'.ent (Ent.trans (Ent.cfgR0 _) Ent.append_l)⟩
  have hno : ¬ parseP s := fun h => by have := e1.2.2 (hP.1 h).1; rw [this] at a1; cases a1
  refine hl_off rfl rfl rfl rfl rfl rfl <| hl_off rfl rfl rfl rfl rfl rfl <| hl_v (ov_pickF rfl rfl) rfl <| hl_nil <| hx_then_normal <| hc_cond_false rfl <| ?_
  refine hc_skip <| hx_then_normal <| hc_seq <| hc_region <| hl_v (ov_buildSN rfl rfl) rfl <| ?_
  refine hl_u0 (on_storeGN rfl rfl rfl rfl rfl rfl) rfl rfl <| hl_v (ov_assign rfl) rfl <| hl_nil <| hx_then_normal <| hc_ret <| ?_
  exact results_ct (.inr rfl) rfl rfl (by simp) rfl fun w' H' => ⟨⟨(q0, zeroC, 11), .inl ⟨hno, rfl, rfl⟩⟩, rfl, H'.ent (Ent.trans (Ent.cfgR0 _) Ent.append_l)⟩
end Go.Proofs.YtjlolpmmpafjeaaGreat
set_option linter.unusedVariables false
set_option linter.unusedSimpArgs false
namespace Go.Proofs.YtjlolpmmpafjeaaGreat
open Slk
theorem parse_of {xs : List UInt8} {c : ConfC} (v : Value) (hc : goodP c) (h : xs = cfgB c) : parseP ⟨xs, v, false⟩ ∧ (rdC true ⟨xs, v, false⟩).1 = c := by
  obtain ⟨a, b, d⟩ := rdC_read true c [] ⟨xs, v, false⟩ hc.wok (by rw [List.append_nil]; exact h) rfl
  exact ⟨⟨⟨d, b⟩, by rw [a]; exact hc⟩, a⟩
theorem rdE_read (x : EditC) (tail : List UInt8) (s : RS) (hx : goodE x) (h : s.rem = edB x ++ tail) (hb : s.bad = false) : (rdE s).1 = x ∧ (rdE s).2.rem = tail ∧ (rdE s).2.bad = false := by
  have p1 : (256 : Nat) ^ 1 = 256 := by decide
  have p2 : (256 : Nat) ^ 2 = 65536 := by decide
  have p4 : (256 : Nat) ^ 4 = 4294967296 := by decide
  obtain ⟨a1, a2, a3, a4, a5, a6, a7⟩ := x
  obtain ⟨g1, g2, g3, g4, g5, g6, g7, g8, g9⟩ := hx
  dsimp only at *
  unfold edB at h
  dsimp only at h
  simp only [List.append_assoc] at h
  obtain ⟨n1, r1, b1⟩ := get_read (by omega) h hb
  obtain ⟨n2, r2, b2⟩ := get_read (by omega) r1 b1
  obtain ⟨n3, r3, b3⟩ := get_read (by omega) r2 b2
  obtain ⟨n4, r4, b4⟩ := get_read (by omega) r3 b3
  obtain ⟨n5, r5, b5⟩ := get_read (show a5.toNat < 256 ^ 1 from a5.toNat_lt) r4 b4
  obtain ⟨n6, r6, b6⟩ := get_read (show a6.toNat < 256 ^ 1 from a6.toNat_lt) r5 b5
  obtain ⟨n7, r7, b7⟩ := get_read (show a7.toNat < 256 ^ 6 from g9) r6 b6
  refine ⟨?_, r7, b7⟩
  simp only [rdE]
  rw [n1, n2, n3, n4, n5, n6, n7, ofNat8_toNat, ofNat8_toNat, ofNat64_toNat, Int.toNat_of_nonneg (by omega), Int.toNat_of_nonneg g3, Int.toNat_of_nonneg g5, Int.toNat_of_nonneg g7]
theorem rdEs_L (i : Nat) (s : RS) : rdEs i s = rdL rdE i s := by
  induction i with
  | zero => rfl
  | succ i ih => simp only [rdEs, rdL, ih]
theorem list_of {l : List EditC} (v : Value) (h : okEds l) : listP ⟨edsB l, v, false⟩ ∧ (rdAll ⟨edsB l, v, false⟩).1 = l := by
  have p1 : (256 : Nat) ^ 1 = 256 := by decide
  obtain ⟨n1, r1, b1⟩ := get_read (s := ⟨edsB l, v, false⟩) (n := l.length) (k := 1) (tail := l.flatMap edB) (by have := h.1; omega) rfl rfl
  obtain ⟨a, b, c⟩ := rdL_read rdE_read l.length l [] _ rfl (fun x hx => by obtain ⟨i, hi, rfl⟩ := List.getElem_of_mem hx; exact h.2 i hi) (by rw [List.append_nil]; exact r1) b1
  have e : rdAll ⟨edsB l, v, false⟩ = rdL rdE l.length (getS ⟨edsB l, v, false⟩ 1) := by
    show rdEs (getN ⟨edsB l, v, false⟩ 1) (getS ⟨edsB l, v, false⟩ 1) = _
    rw [n1, rdEs_L]
  unfold listP
  rw [e]
  exact ⟨⟨⟨c, b⟩, by rw [a]; exact h⟩, a⟩
end Go.Proofs.YtjlolpmmpafjeaaGreat
set_option linter.unusedVariables false
set_option linter.unusedSimpArgs false
namespace Go.Proofs.YtjlolpmmpafjeaaGreat
open Slk
section
variable {P : Program} {D : Nat → Prop} {w0 : World} {env : Slots} {l : List HProp} {dst : Option Tmp} {ty : TypeId} {pos : String} {after : Array Edge} {g : Option (Nat × Bool)}
theorem ov_slice3 {t e : TypeId} {s bb : Nat} {z : List Value} [h : TySlice P t e] [hs : TyI P e s bb z] {x ol oh om : Operand} {k1 k2 k3 : IntKind} {A : Option Addr} {n cap : Nat} (hx : evalO env x = some (.slice A n cap)) (lo hi mx : Nat)
    (hl : evalO env ol = some (.int k1 lo)) (hh : evalO env oh = some (.int k2 hi)) (hm : evalO env om = some (.int k3 mx)) (h1 : lo ≤ hi) (h2 : hi ≤ mx) (h3 : mx ≤ cap) {R : Value} (hR : Value.slice (if mx = lo then A else A.map (·.add (lo * s))) (hi - lo) (mx - lo) = R) :
    OpVal P D w0 env l ⟨dst, .slice t x (some ol) (some oh) (some om), ty, pos, after, g⟩ R := .mk fun n' a w E H => by
  subst hR
  have hz := Slk.run_sizeOf (P := P) (t := e) w
  simp [hz, execOp, E.eval hx, E.eval hl, E.eval hh, E.eval hm, Instr.sliceAt, run_underlying h.out, Instr.slice, Instr.sliceBounds, Instr.sliceBound, asIntOf, run_sizeOf (P := P) (t := e), h1, h2, h3]
end
def pieceV (A : Option Addr) (n k : Nat) : Value := .slice (A.map (·.add (63 * k))) (min 63 (n - 63 * k)) (min 63 (n - 63 * k))
theorem Chunk1_seq (D : Nat → Prop) (w0 : World) (bs bn : Nat) (A : Option Addr) (n cap : Nat) (hn : n ≤ cap) (hc : n ≤ 9000000) (L : Nat → List HProp) :
    SeqOwn Tryz.prog D w0 157 [.pointer (some ⟨bs, 0, none⟩), .pointer (some ⟨bn, 0, none⟩)] ((n + 62) / 63) (pieceV A n) (fun k => blk bs 108 [.slice A n cap] :: blk bn 3 [.int .i64 63] :: L k) := by
  intro lp X W H hY
  refine hc_enter (vs := [.func (.yield lp) #[] #[], .pointer (some ⟨bs, 0, none⟩), .pointer (some ⟨bn, 0, none⟩)]) Tryz.func157 rfl _ Tryz.ntmps157 rfl H ?_
  simp only [argSlots, Nat.zero_add]
  refine hc_seq <| hc_region <| hl_v (ov_assign rfl) rfl <| hl_nil <| hx_then_normal <| hc_block <| ?_
  refine hc_loopK1 (σ := Nat) [0, 1, 2] rfl 4 (fun k => .int .i64 ((63 * k : Nat) : Int)) (fun k => X :: blk bs 108 [.slice A n cap] :: blk bn 3 [.int .i64 63] :: L k) (fun k => k ≤ (n + 62) / 63) (fun k => (n + 62) / 63 - k) (0) (Nat.zero_le _) rfl (by first | assumption | exact Ent.refl _ | exact Ent.nil _ | (repeat (first | exact Ent.refl _ | exact Ent.nil _ | refine Ent.pick ?_))) ?_
  rintro k hj K1 hK1
  refine hc_seq <| hc_seq <| hc_region <| hl_v (ov_move rfl) rfl <| hl_v (ov_load rfl (CellIs.blk rfl)) rfl <| hl_v (by first | exact ov_len rfl | exact ov_lenS rfl) rfl <| ?_
  refine hl_v (ov_lss rfl rfl) rfl <| hl_nil <| hx_then_normal <| ?_
  refine hc_cond rfl (fun h => ?_) (fun h => ?_)
  · have hk : 63 * k < n := by omega
    have hm : (min 63 (n - 63 * k) : Nat) ≤ 63 := Nat.min_le_left _ _
    have hm1 : 63 * k + min 63 (n - 63 * k) ≤ n := by omega
    have hm2 : 0 < min 63 (n - 63 * k) := by omega
    obtain ⟨m, hmm⟩ : ∃ m, m = min 63 (n - 63 * k) := ⟨_, rfl⟩
    rw [← hmm] at hm hm1 hm2
    refine hc_skip <| hx_then_normal <| hc_seq <| hc_block <| hc_seq <| hc_quiet mixed (by kernel_rfl) <| ?_
    refine hq_v (ov_load rfl (CellIs.blk rfl)) rfl <| hq_v (ov_load rfl (CellIs.blk rfl)) rfl <| hq_v (ov_move rfl) rfl <| hq_v (ov_slice rfl _ _ (.inr ⟨_, _, rfl, rfl⟩) (.inl ⟨rfl, rfl⟩) (by omega) (by omega)) rfl <| hq_v (by first | exact ov_len rfl | exact ov_lenS rfl) rfl <| ?_
    refine hq_v (ov_min (m := (m : Int)) rfl rfl (by split <;> omega)) rfl ?_
    refine hq_v (ov_assign rfl) rfl <| hq_nil <| hx_then_normal <| ?_
    refine hc_wide ?_
    refine hic_seq <| hic_region <| hil_val (ov_move rfl) rfl rfl rfl <| hil_val (ov_load rfl (CellIs.blk rfl)) rfl rfl rfl <| hil_val (ov_move rfl) rfl rfl rfl <| hil_val (ov_move rfl) rfl rfl rfl <| ?_
    refine hil_val (ov_move rfl) rfl rfl rfl <| hil_val (ov_add rfl rfl (by first | exact wrap_i64 (by omega) | rfl)) rfl rfl rfl <| ?_
    refine hil_val (ov_move rfl) rfl rfl rfl <| hil_val (ov_move rfl) rfl rfl rfl <| hil_val (ov_add rfl rfl (by first | exact wrap_i64 (by omega) | rfl)) rfl rfl rfl <| ?_
    refine hil_val (ov_slice3 rfl (63 * k) (63 * k + m) (63 * k + m) rfl rfl rfl (by omega) (by omega) (by omega) (R := pieceV A n k) (by unfold pieceV; rw [← hmm, if_neg (by omega), show 63 * k + m - 63 * k = m by omega, Nat.mul_one])) rfl rfl rfl ?_
    refine hil_yield rfl rfl rfl (fun w1 H1 => hY k w1 (by omega) H1) ?_
    refine hil_val (ov_not rfl) rfl rfl rfl <| hil_nil <| hix_then_normal <| hic_cond_false rfl <| hic_skip <| hix_block_normal <| ?_
    refine hix_then_normalW <| hic_region <| hil_val (ov_move rfl) rfl rfl rfl <| hil_val (ov_load rfl (CellIs.blk rfl)) rfl rfl rfl <| hil_val (ov_add rfl rfl (by first | exact wrap_i64 (by omega) | rfl)) rfl rfl rfl <| ?_
    refine hil_val (ov_assign rfl) rfl rfl rfl <| hil_nil <| ?_
    refine hix_back ?_
    refine hx_next hK1 (k + 1) (by omega) (by omega) (by repeat (first | exact Slots.sub_nil _ | refine Slots.sub_cons rfl ?_)) (by first | assumption | exact Ent.refl _ | exact Ent.nil _ | (repeat (first | exact Ent.refl _ | exact Ent.nil _ | refine Ent.pick ?_)))
  refine hc_exit <| hx_then_exit <| hx_then_exit <| hx_block_out <| ?_
  exact results_0 (.inl rfl) rfl fun w' H' => ⟨_, rfl, (show (n + 62) / 63 = k by omega) ▸ H'⟩
end Go.Proofs.YtjlolpmmpafjeaaGreat
