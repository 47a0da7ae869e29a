import Derived.Test.YtjlolpmmpafjeaaGreatW12
import Derived.Test.YtjlolpmmpafjeaaGreatW02
set_option linter.unusedVariables false
set_option linter.unusedSimpArgs false
namespace Go.Proofs.YtjlolpmmpafjeaaGreat
open Slk
theorem rdC_ok (m : Bool) (s : RS) : OkC (rdC m s).1 := by
  have h : ∀ s, getN s 1 < 256 := fun s => getN_lt s 1
  refine ⟨getN_in _ 2 (by decide), getN_in _ 1 (by decide), getN_in _ 1 (by decide), rdL_mem (rdP_ok m) _ _, rdL_mem rdV_ok _ _, rdL_mem rdS_ok _ _, ?_, ?_, ?_⟩
  · show (rdL _ _ _).1.length ≤ 1000
    rw [rdL_len]; have := h (getS (getS (getS s 2) 1) 1); omega
  · show (rdL rdV _ _).1.length ≤ 1000
    rw [rdL_len]; have := h (rdL (rdP m) (getN (getS (getS (getS s 2) 1) 1) 1) (getS (getS (getS (getS s 2) 1) 1) 1)).2; omega
  show (rdL rdS _ _).1.length ≤ 1000
  rw [rdL_len]; exact Nat.le_trans (Nat.le_of_lt (h _)) (by decide)
def parseP (s : RS) : Prop := ((rdC true s).2.bad = false ∧ (rdC true s).2.rem = []) ∧ goodP (rdC true s).1
abbrev ParseT (p : Prop) (c : ConfC) := { r : Three × ConfC × Int // (¬ p ∧ r.2.1 = zeroC ∧ r.2.2 = 11) ∨ (p ∧ r.2.1 = c ∧ r.2.2 = 0) }
theorem Parse_spec (D : Nat → Prop) (w : World) (v : Value) (xs : List UInt8) (HA : Old D w (Rep.rep xs [v])) :
    Calls Tryz.prog 46 #[v] w fun e w' => ∃ r : ParseT (parseP ⟨xs, v, false⟩) (rdC true ⟨xs, v, false⟩).1, e = .returned (.tuple #[.agg (cfgA r.1.2.1 r.1.1).toArray, .int .i64 r.1.2.2]) ∧ Own D w w' (cfgR r.1.2.1 r.1.1) := by
  have HA0 := HA
  obtain ⟨A, cap, rfl, _⟩ := HA0.openB
  obtain ⟨s, hs⟩ : ∃ s : RS, s = ⟨xs, .slice A xs.length cap, false⟩ := ⟨_, rfl⟩
  have HA : Old D w (Rep.rep s.rem [s.v]) := by rw [hs]; exact HA
  rw [← hs]
  have HAe : ∀ m : Bool, Old D w (Rep.rep (rdC m s).2.rem [(rdC m s).2.v]) := fun m => old_rdL old_rdS _ (old_get 1 (old_rdL old_rdV _ (old_get 1 (old_rdL (old_rdP m) _ (old_get 1 (old_get 1 (old_get 1 (old_get 2 HA))))))))
  have HAe := HAe true
  have hokc := rdC_ok true s
  refine hc_enter (vs := [.slice A xs.length cap]) Tryz.func46 rfl _ Tryz.ntmps46 rfl (Own.start D w) ?_
  simp only [argSlots, Nat.zero_add]
  refine zg <| hl_new (on_alloc) rfl rfl rfl fun b2 =>
    hl_v (ov_assign rfl) rfl <| zn <| ?_
  refine zg <| hl_v (ov_move rfl) rfl <| hl_v (ov_buildSN rfl rfl) rfl <| ?_
  refine hl_v (ov_buildSN rfl rfl) rfl <| ?_
  refine hl_new (on_boxN rfl rfl) rfl rfl rfl fun b9 =>  ?_
  refine hl_v (ov_assign rfl) rfl <| zn <| hc_seq <| zg <| ?_
  refine hl_v (ov_move rfl) rfl <| ?_
  refine HL.ent (show Ent _ [blk b9 165 [s.v, .bool s.bad], blk b2 49 [.int .i64 0, .int .i64 0, .int .i64 0, .slice none 0 0, .slice none 0 0, .slice none 0 0]] by rw [hs]; exact za4) ?_
  refine hl_call (σ := Three) Tryz.call75 rfl rfl (fun w1 H1 => Own.callpx (blk b9 165 [s.v, .bool s.bad]) H1 fun D' hold hin H2 => rconfig_spec D' w1 b9 165 s H2 (hold _ HA)) ?_
  intro q
  have hP : parseP s ↔ ((rdC true s).2.bad = false ∧ (rdC true s).2.rem = []) ∧ goodP (rdC true s).1 := Iff.rfl
  generalize rdC true s = rc at *
  obtain ⟨c, r⟩ := rc
  dsimp only at hokc HAe hP ⊢
  refine hl_new (on_alloc) rfl rfl rfl fun b5 =>  ?_
  refine hl_u0 (on_storeW (vs := cfgA c q) rfl rfl rfl (by simp) za33) rfl rfl ?_
  refine zn <| zg <| hl_v (ov_move rfl) rfl <| ?_
  refine hl_call (σ := BIff (r.bad = false ∧ r.rem = [])) Tryz.call76 rfl rfl (fun w1 H1 => Own.callpx (blk b9 165 [r.v, .bool r.bad]) H1 fun D' hold hin H2 => ended_spec D' w1 b9 165 r H2 (hold _ HAe)) ?_
  intro e1
  refine hl_v (ov_move rfl) rfl <| ?_
  refine hl_partb (t := 14) rfl (fun a1 => ?_) (fun a1 => ?_)
  · have hend := e1.2.1 a1
    refine hl_on rfl rfl <| hl_v za10 rfl <| ?_
    refine hl_on rfl rfl <| hl_call (σ := BIff (goodP c)) Tryz.call77 rfl rfl (fun w1 H1 => Own.callx0 H1 fun D' hold hin H2 => Good_spec D' w1 c _ _ _ (ConfOld.rows (q := q) hokc hin)) ?_
    intro e2
    try rw [List.nil_append]
    refine hl_v (ov_pickT rfl rfl) rfl <| zn <| ?_
    refine hc_cond_bool rfl (fun a2 => ?_) (fun a2 => ?_)
    · have hyes : parseP s := hP.2 ⟨hend, e2.2.1 a2⟩
      refine zg <| hl_v za10 rfl <| ?_
      refine hl_u0 (on_storeGN rfl rfl rfl rfl rfl rfl) rfl rfl <| hl_v (ov_assign rfl) rfl <| zn <| hc_ret <| hx_then_ret <| ?_
      exact results_ct (.inr rfl) rfl rfl (by simp) rfl fun w' H' => ⟨⟨(q, c, 0), .inr ⟨hyes, rfl, rfl⟩⟩, rfl, H'.ent za4⟩
    have hno : ¬ parseP s := fun h => by have := e2.2.2 (hP.1 h).2; rw [this] at a2; cases a2
    refine zk <| zg <| hl_v (ov_buildSN rfl rfl) rfl <| ?_
    refine hl_u0 (on_storeGN rfl rfl rfl rfl rfl rfl) rfl rfl <| hl_v (ov_assign rfl) rfl <| zn <| hc_ret <| ?_
    exact results_ct (.inr rfl) rfl rfl (by simp) rfl fun w' H' => ⟨⟨(q0, zeroC, 11), .inl ⟨hno, rfl, rfl⟩⟩, rfl, H'.ent (Ent.trans (Ent.cfgR0 _) Ent.append_l)⟩
  have hno : ¬ parseP s := fun h => by have := e1.2.2 (hP.1 h).1; rw [this] at a1; cases a1
  refine hl_off rfl rfl rfl rfl rfl rfl <| hl_off rfl rfl rfl rfl rfl rfl <| hl_v (ov_pickF rfl rfl) rfl <| zn <| hc_cond_false rfl <| ?_
  refine zk <| zg <| hl_v (ov_buildSN rfl rfl) rfl <| ?_
  refine hl_u0 (on_storeGN rfl rfl rfl rfl rfl rfl) rfl rfl <| hl_v (ov_assign rfl) rfl <| zn <| hc_ret <| ?_
  exact results_ct (.inr rfl) rfl rfl (by simp) rfl fun w' H' => ⟨⟨(q0, zeroC, 11), .inl ⟨hno, rfl, rfl⟩⟩, rfl, H'.ent (Ent.trans (Ent.cfgR0 _) Ent.append_l)⟩
end Go.Proofs.YtjlolpmmpafjeaaGreat
set_option linter.unusedVariables false
set_option linter.unusedSimpArgs false
namespace Go.Proofs.YtjlolpmmpafjeaaGreat
open Slk
theorem parse_of {xs : List UInt8} {c : ConfC} (v : Value) (hc : goodP c) (h : xs = cfgB c) : parseP ⟨xs, v, false⟩ ∧ (rdC true ⟨xs, v, false⟩).1 = c := by
  obtain ⟨a, b, d⟩ := rdC_read true c [] ⟨xs, v, false⟩ hc.wok (by rw [List.append_nil]; exact h) rfl
  exact ⟨⟨⟨d, b⟩, by rw [a]; exact hc⟩, a⟩
theorem rdE_read (x : EditC) (tail : List UInt8) (s : RS) (hx : goodE x) (h : s.rem = edB x ++ tail) (hb : s.bad = false) : (rdE s).1 = x ∧ (rdE s).2.rem = tail ∧ (rdE s).2.bad = false := by
  have p1 : (256 : Nat) ^ 1 = 256 := by decide
  have p2 : (256 : Nat) ^ 2 = 65536 := by decide
  have p4 : (256 : Nat) ^ 4 = 4294967296 := by decide
  obtain ⟨a1, a2, a3, a4, a5, a6, a7⟩ := x
  obtain ⟨g1, g2, g3, g4, g5, g6, g7, g8, g9⟩ := hx
  dsimp only at *
  unfold edB at h
  dsimp only at h
  simp only [List.append_assoc] at h
  obtain ⟨n1, r1, b1⟩ := get_read (by omega) h hb
  obtain ⟨n2, r2, b2⟩ := get_read (by omega) r1 b1
  obtain ⟨n3, r3, b3⟩ := get_read (by omega) r2 b2
  obtain ⟨n4, r4, b4⟩ := get_read (by omega) r3 b3
  obtain ⟨n5, r5, b5⟩ := get_read (show a5.toNat < 256 ^ 1 from a5.toNat_lt) r4 b4
  obtain ⟨n6, r6, b6⟩ := get_read (show a6.toNat < 256 ^ 1 from a6.toNat_lt) r5 b5
  obtain ⟨n7, r7, b7⟩ := get_read (show a7.toNat < 256 ^ 6 from g9) r6 b6
  refine ⟨?_, r7, b7⟩
  simp only [rdE]
  rw [n1, n2, n3, n4, n5, n6, n7, ofNat8_toNat, ofNat8_toNat, ofNat64_toNat, Int.toNat_of_nonneg (by omega), Int.toNat_of_nonneg g3, Int.toNat_of_nonneg g5, Int.toNat_of_nonneg g7]
theorem rdEs_L (i : Nat) (s : RS) : rdEs i s = rdL rdE i s := by
  induction i with
  | zero => rfl
  | succ i ih => simp only [rdEs, rdL, ih]
theorem list_of {l : List EditC} (v : Value) (h : okEds l) : listP ⟨edsB l, v, false⟩ ∧ (rdAll ⟨edsB l, v, false⟩).1 = l := by
  have p1 : (256 : Nat) ^ 1 = 256 := by decide
  obtain ⟨n1, r1, b1⟩ := get_read (s := ⟨edsB l, v, false⟩) (n := l.length) (k := 1) (tail := l.flatMap edB) (by have := h.1; omega) rfl rfl
  obtain ⟨a, b, c⟩ := rdL_read rdE_read l.length l [] _ rfl (fun x hx => by obtain ⟨i, hi, rfl⟩ := List.getElem_of_mem hx; exact h.2 i hi) (by rw [List.append_nil]; exact r1) b1
  have e : rdAll ⟨edsB l, v, false⟩ = rdL rdE l.length (getS ⟨edsB l, v, false⟩ 1) := by
    show rdEs (getN ⟨edsB l, v, false⟩ 1) (getS ⟨edsB l, v, false⟩ 1) = _
    rw [n1, rdEs_L]
  unfold listP
  rw [e]
  exact ⟨⟨⟨c, b⟩, by rw [a]; exact h⟩, a⟩
end Go.Proofs.YtjlolpmmpafjeaaGreat
set_option linter.unusedVariables false
set_option linter.unusedSimpArgs false
namespace Go.Proofs.YtjlolpmmpafjeaaGreat
open Slk
section
variable {P : Program} {D : Nat → Prop} {w0 : World} {env : Slots} {l : List HProp} {dst : Option Tmp} {ty : TypeId} {pos : String} {after : Array Edge} {g : Option (Nat × Bool)}
theorem ov_slice3 {t e : TypeId} {s bb : Nat} {z : List Value} [h : TySlice P t e] [hs : TyI P e s bb z] {x ol oh om : Operand} {k1 k2 k3 : IntKind} {A : Option Addr} {n cap : Nat} (hx : evalO env x = some (.slice A n cap)) (lo hi mx : Nat)
    (hl : evalO env ol = some (.int k1 lo)) (hh : evalO env oh = some (.int k2 hi)) (hm : evalO env om = some (.int k3 mx)) (h1 : lo ≤ hi) (h2 : hi ≤ mx) (h3 : mx ≤ cap) {R : Value} (hR : Value.slice (if mx = lo then A else A.map (·.add (lo * s))) (hi - lo) (mx - lo) = R) :
    OpVal P D w0 env l ⟨dst, .slice t x (some ol) (some oh) (some om), ty, pos, after, g⟩ R := .mk fun n' a w E H => by
  subst hR
  have hz := Slk.run_sizeOf (P := P) (t := e) w
  simp [hz, execOp, E.eval hx, E.eval hl, E.eval hh, E.eval hm, Instr.sliceAt, run_underlying h.out, Instr.slice, Instr.sliceBounds, Instr.sliceBound, asIntOf, run_sizeOf (P := P) (t := e), h1, h2, h3]
end
def pieceV (A : Option Addr) (n k : Nat) : Value := .slice (A.map (·.add (63 * k))) (min 63 (n - 63 * k)) (min 63 (n - 63 * k))
theorem Chunk1_seq (D : Nat → Prop) (w0 : World) (bs bn : Nat) (A : Option Addr) (n cap : Nat) (hn : n ≤ cap) (hc : n ≤ 9000000) (L : Nat → List HProp) :
    SeqOwn Tryz.prog D w0 157 [.pointer (some ⟨bs, 0, none⟩), .pointer (some ⟨bn, 0, none⟩)] ((n + 62) / 63) (pieceV A n) (fun k => blk bs 108 [.slice A n cap] :: blk bn 3 [.int .i64 63] :: L k) := by
  intro lp X W H hY
  refine hc_enter (vs := [.func (.yield lp) #[] #[], .pointer (some ⟨bs, 0, none⟩), .pointer (some ⟨bn, 0, none⟩)]) Tryz.func157 rfl _ Tryz.ntmps157 rfl H ?_
  simp only [argSlots, Nat.zero_add]
  refine zg <| hl_v (ov_assign rfl) rfl <| zn <| hc_block <| ?_
  refine hc_loopK1 (σ := Nat) [0, 1, 2] rfl 4 (fun k => .int .i64 ((63 * k : Nat) : Int)) (fun k => X :: blk bs 108 [.slice A n cap] :: blk bn 3 [.int .i64 63] :: L k) (fun k => k ≤ (n + 62) / 63) (fun k => (n + 62) / 63 - k) (0) (Nat.zero_le _) rfl za6 ?_
  rintro k hj K1 hK1
  refine hc_seq <| zg <| hl_v (ov_move rfl) rfl <| hl_v (ov_load rfl (CellIs.blk rfl)) rfl <| hl_v za15 rfl <| ?_
  refine hl_v (ov_lss rfl rfl) rfl <| zn <| ?_
  refine hc_cond rfl (fun h => ?_) (fun h => ?_)
  · have hk : 63 * k < n := by omega
    have hm : (min 63 (n - 63 * k) : Nat) ≤ 63 := Nat.min_le_left _ _
    have hm1 : 63 * k + min 63 (n - 63 * k) ≤ n := by omega
    have hm2 : 0 < min 63 (n - 63 * k) := by omega
    obtain ⟨m, hmm⟩ : ∃ m, m = min 63 (n - 63 * k) := ⟨_, rfl⟩
    rw [← hmm] at hm hm1 hm2
    refine zk <| hc_seq <| hc_block <| hc_seq <| hc_quiet mixed (by kernel_rfl) <| ?_
    refine hq_v (ov_load rfl (CellIs.blk rfl)) rfl <| hq_v (ov_load rfl (CellIs.blk rfl)) rfl <| hq_v (ov_move rfl) rfl <| hq_v (ov_slice rfl _ _ (.inr ⟨_, _, rfl, rfl⟩) (.inl ⟨rfl, rfl⟩) (by omega) (by omega)) rfl <| hq_v za15 rfl <| ?_
    refine hq_v (ov_min (m := (m : Int)) rfl rfl (by split <;> omega)) rfl ?_
    refine hq_v (ov_assign rfl) rfl <| hq_nil <| hx_then_normal <| ?_
    refine hc_wide ?_
    refine hic_seq <| hic_region <| hil_val (ov_move rfl) rfl rfl rfl <| hil_val (ov_load rfl (CellIs.blk rfl)) rfl rfl rfl <| hil_val (ov_move rfl) rfl rfl rfl <| hil_val (ov_move rfl) rfl rfl rfl <| ?_
    refine hil_val (ov_move rfl) rfl rfl rfl <| hil_val (ov_add rfl rfl za18) rfl rfl rfl <| ?_
    refine hil_val (ov_move rfl) rfl rfl rfl <| hil_val (ov_move rfl) rfl rfl rfl <| hil_val (ov_add rfl rfl za18) rfl rfl rfl <| ?_
    refine hil_val (ov_slice3 rfl (63 * k) (63 * k + m) (63 * k + m) rfl rfl rfl (by omega) (by omega) (by omega) (R := pieceV A n k) (by unfold pieceV; rw [← hmm, if_neg (by omega), show 63 * k + m - 63 * k = m by omega, Nat.mul_one])) rfl rfl rfl ?_
    refine hil_yield rfl rfl rfl (fun w1 H1 => hY k w1 (by omega) H1) ?_
    refine hil_val (ov_not rfl) rfl rfl rfl <| hil_nil <| hix_then_normal <| hic_cond_false rfl <| hic_skip <| hix_block_normal <| ?_
    refine hix_then_normalW <| hic_region <| hil_val (ov_move rfl) rfl rfl rfl <| hil_val (ov_load rfl (CellIs.blk rfl)) rfl rfl rfl <| hil_val (ov_add rfl rfl za18) rfl rfl rfl <| ?_
    refine hil_val (ov_assign rfl) rfl rfl rfl <| hil_nil <| ?_
    refine hix_back ?_
    refine hx_next hK1 (k + 1) (by omega) (by omega) za9 za6
  refine hc_exit <| hx_then_exit <| hx_then_exit <| hx_block_out <| ?_
  exact results_0 (.inl rfl) rfl fun w' H' => ⟨_, rfl, (show (n + 62) / 63 = k by omega) ▸ H'⟩
end Go.Proofs.YtjlolpmmpafjeaaGreat
set_option linter.unusedVariables false
set_option linter.unusedSimpArgs false
namespace Go.Proofs.YtjlolpmmpafjeaaGreat
open Slk
def addB (s : Nat × Nat) (c : UInt8) : Nat × Nat := ((s.1 + c.toNat) % 65521, (s.2 + (s.1 + c.toNat) % 65521) % 65521)
def adds (s : Nat × Nat) (xs : List UInt8) : Nat × Nat := xs.foldl addB s
theorem adds_lt (xs : List UInt8) : ∀ s : Nat × Nat, s.1 < 65521 → s.2 < 65521 → (adds s xs).1 < 65521 ∧ (adds s xs).2 < 65521 := by
  induction xs with
  | nil => intro s h1 h2; exact ⟨h1, h2⟩
  | cons x r ih => intro s h1 h2; exact ih _ (Nat.mod_lt _ (by omega)) (Nat.mod_lt _ (by omega))
theorem take_snoc {α : Type} (xs : List α) (k : Nat) (h : k < xs.length) : xs.take (k + 1) = xs.take k ++ [xs[k]] := List.take_succ_eq_append_getElem h
theorem adds_snoc (s : Nat × Nat) (xs : List UInt8) (k : Nat) (h : k < xs.length) : adds s (xs.take (k + 1)) = addB (adds s (xs.take k)) xs[k] := by
  unfold adds
  rw [take_snoc xs k h, List.foldl_append]
  rfl
theorem add_spec (D : Nat → Prop) (w : World) (g : Nat) (s : Nat × Nat) (h1 : s.1 < 65521) (h2 : s.2 < 65521) (v : Value) (xs : List UInt8) (H : Own D w w [blk g 278 [.int .u32 s.1, .int .u32 s.2]]) (HA : Old D w (Rep.rep xs [v])) :
    Calls Tryz.prog 170 #[.pointer (some ⟨g, 0, none⟩), v] w fun e w' => e = .returned (.tuple #[]) ∧ Own D w w' [blk g 278 [.int .u32 (adds s xs).1, .int .u32 (adds s xs).2]] := by
  obtain ⟨A, cap, rfl, hc1, hc2, HS⟩ := HA.openB
  refine hc_enter (vs := [.pointer (some ⟨g, 0, none⟩), .slice A xs.length cap]) Tryz.func170 rfl _ Tryz.ntmps170 rfl H ?_
  simp only [argSlots, Nat.zero_add]
  repeat (first | refine hc_seq ?_ | refine hc_region ?_ | refine hx_then_normal ?_ | refine hc_block ?_ | refine hc_skip ?_ | refine hc_ret ?_ | refine hc_exit ?_ | refine hx_then_ret ?_ | refine hx_then_exit ?_ | refine hx_block_normal ?_ | refine hx_block_ret ?_ | refine hx_block_out ?_ | refine hx_block_on rfl ?_ | refine hl_nil ?_ | refine hl_val za0 rfl rfl rfl ?_ | refine hl_new (on_alloc) rfl rfl rfl (fun _ => ?_) | refine hl_new (on_buildSliceN rfl rfl rfl) rfl rfl rfl (fun _ => ?_) | refine hl_u0 (on_storeN rfl rfl rfl rfl rfl) rfl rfl ?_ | refine hl_u0 (on_storeGN rfl rfl rfl rfl rfl rfl) rfl rfl ?_ | refine hl_u (on_mark rfl) rfl rfl rfl ?_ | refine hl_on rfl rfl ?_ | refine hl_off rfl rfl rfl rfl rfl rfl ?_)
  refine hc_loop (σ := Nat) (fun k => [(8, .int .i64 k), (7, .int .i64 xs.length), (6, .slice A xs.length cap), (0, .pointer (some ⟨g, 0, none⟩))])
    (fun k => [blk g 278 [.int .u32 (adds s (xs.take k)).1, .int .u32 (adds s (xs.take k)).2]]) (fun k => k ≤ xs.length) (fun k => xs.length - k) 0 (Nat.zero_le _) za9 (Ent.refl _) ?_
  intro k hk K hK
  have hb := adds_lt (xs.take k) s h1 h2
  generalize hs : adds s (xs.take k) = q at hb
  repeat (first | refine hc_seq ?_ | refine hc_region ?_ | refine hx_then_normal ?_ | refine hc_block ?_ | refine hc_skip ?_ | refine hc_ret ?_ | refine hc_exit ?_ | refine hx_then_ret ?_ | refine hx_then_exit ?_ | refine hx_block_normal ?_ | refine hx_block_ret ?_ | refine hx_block_out ?_ | refine hx_block_on rfl ?_ | refine hl_nil ?_ | refine hl_val za0 rfl rfl rfl ?_ | refine hl_new (on_alloc) rfl rfl rfl (fun _ => ?_) | refine hl_new (on_buildSliceN rfl rfl rfl) rfl rfl rfl (fun _ => ?_) | refine hl_u0 (on_storeN rfl rfl rfl rfl rfl) rfl rfl ?_ | refine hl_u0 (on_storeGN rfl rfl rfl rfl rfl rfl) rfl rfl ?_ | refine hl_u (on_mark rfl) rfl rfl rfl ?_ | refine hl_on rfl rfl ?_ | refine hl_off rfl rfl rfl rfl rfl rfl ?_)
  refine hc_cond rfl (fun hlt => ?_) (fun hge => ?_)
  · have hlt : k < xs.length := by omega
    have hA : isA A := HS.isA za17
    have hcell : CellIs D w [blk g 278 [.int .u32 q.1, .int .u32 q.2]] (ab A) (ao A + k * 1) (u8v xs[k]) := by
      rw [Nat.mul_one]
      exact (SrcIs.old HS).cell (by simp [hlt])
    have hx := xs[k].toNat_lt
    have hsn := adds_snoc s xs k hlt
    rw [hs] at hsn
    generalize xs[k] = x at *
    unfold u8v at hcell
    repeat (first | refine hc_seq ?_ | refine hc_region ?_ | refine hx_then_normal ?_ | refine hc_block ?_ | refine hc_skip ?_ | refine hc_ret ?_ | refine hc_exit ?_ | refine hx_then_ret ?_ | refine hx_then_exit ?_ | refine hx_block_normal ?_ | refine hx_block_ret ?_ | refine hx_block_out ?_ | refine hx_block_on rfl ?_ | refine hl_nil ?_ | refine hl_val za0 rfl rfl rfl ?_ | refine hl_new (on_alloc) rfl rfl rfl (fun _ => ?_) | refine hl_new (on_buildSliceN rfl rfl rfl) rfl rfl rfl (fun _ => ?_) | refine hl_u0 (on_storeN rfl rfl rfl rfl rfl) rfl rfl ?_ | refine hl_u0 (on_storeGN rfl rfl rfl rfl rfl rfl) rfl rfl ?_ | refine hl_u (on_mark rfl) rfl rfl rfl ?_ | refine hl_on rfl rfl ?_ | refine hl_off rfl rfl rfl rfl rfl rfl ?_)
    refine hc_tail 13 mixed (by kernel_rfl) ?_
    repeat (first | refine ht_nil ?_ | refine ht_val za0 rfl rfl rfl ?_ | refine ht_on rfl rfl ?_ | refine ht_off rfl rfl rfl rfl rfl rfl ?_)
    repeat (first | refine hc_seq ?_ | refine hc_region ?_ | refine hx_then_normal ?_ | refine hc_block ?_ | refine hc_skip ?_ | refine hc_ret ?_ | refine hc_exit ?_ | refine hx_then_ret ?_ | refine hx_then_exit ?_ | refine hx_block_normal ?_ | refine hx_block_ret ?_ | refine hx_block_out ?_ | refine hx_block_on rfl ?_ | refine hl_nil ?_ | refine hl_val za0 rfl rfl rfl ?_ | refine hl_new (on_alloc) rfl rfl rfl (fun _ => ?_) | refine hl_new (on_buildSliceN rfl rfl rfl) rfl rfl rfl (fun _ => ?_) | refine hl_u0 (on_storeN rfl rfl rfl rfl rfl) rfl rfl ?_ | refine hl_u0 (on_storeGN rfl rfl rfl rfl rfl rfl) rfl rfl ?_ | refine hl_u (on_mark rfl) rfl rfl rfl ?_ | refine hl_on rfl rfl ?_ | refine hl_off rfl rfl rfl rfl rfl rfl ?_)
    refine hx_then_k fun a w S => hK (k + 1) a w hlt (by omega) ⟨S.env.sub za9, S.own.ent (Ent.head ?_)⟩
    rw [hsn]
    exact fun h hh => hh
  · have : k = xs.length := by omega
    subst this
    rw [List.take_length] at hs
    repeat (first | refine hc_seq ?_ | refine hc_region ?_ | refine hx_then_normal ?_ | refine hc_block ?_ | refine hc_skip ?_ | refine hc_ret ?_ | refine hc_exit ?_ | refine hx_then_ret ?_ | refine hx_then_exit ?_ | refine hx_block_normal ?_ | refine hx_block_ret ?_ | refine hx_block_out ?_ | refine hx_block_on rfl ?_ | refine hl_nil ?_ | refine hl_val za0 rfl rfl rfl ?_ | refine hl_new (on_alloc) rfl rfl rfl (fun _ => ?_) | refine hl_new (on_buildSliceN rfl rfl rfl) rfl rfl rfl (fun _ => ?_) | refine hl_u0 (on_storeN rfl rfl rfl rfl rfl) rfl rfl ?_ | refine hl_u0 (on_storeGN rfl rfl rfl rfl rfl rfl) rfl rfl ?_ | refine hl_u (on_mark rfl) rfl rfl rfl ?_ | refine hl_on rfl rfl ?_ | refine hl_off rfl rfl rfl rfl rfl rfl ?_)
    refine results_0 (.inl rfl) rfl fun w' H' => ⟨rfl, ?_⟩
    rw [hs]
    exact H'
def sumOf (s : Nat × Nat) : Nat := s.2 * 65536 + s.1
theorem or_sum (a b : Nat) (ha : a < 65536) (hb : b < 65536) : IntKind.u32.wrap (BitVec.ofInt 32 ((a : Int) * 65536) ||| BitVec.ofInt 32 (b : Int)).toNat = ((a * 65536 + b : Nat) : Int) := by
  have e1 : BitVec.ofInt 32 ((a : Int) * 65536) = BitVec.ofNat 32 (a * 65536) := by
    rw [show ((a : Int) * 65536) = ((a * 65536 : Nat) : Int) by omega]; rfl
  have e2 : BitVec.ofInt 32 (b : Int) = BitVec.ofNat 32 b := rfl
  rw [e1, e2, BitVec.toNat_or, BitVec.toNat_ofNat, BitVec.toNat_ofNat]
  rw [Nat.mod_eq_of_lt (by omega), Nat.mod_eq_of_lt (by omega)]
  have := Nat.two_pow_add_eq_or_of_lt (i := 16) (b := b) (by omega) a
  rw [show a * 65536 = 2 ^ 16 * a by omega, ← this]
  exact wrap_u32 (by omega)
theorem sum_spec (D : Nat → Prop) (w : World) (g : Nat) (s : Nat × Nat) (h1 : s.1 < 65521) (h2 : s.2 < 65521) (H : Own D w w [blk g 278 [.int .u32 s.1, .int .u32 s.2]]) :
    Calls Tryz.prog 171 #[.pointer (some ⟨g, 0, none⟩)] w fun e w' => e = .returned (.int .u32 (sumOf s)) ∧ Own D w w' [blk g 278 [.int .u32 s.1, .int .u32 s.2]] := by
  refine hc_enter (vs := [.pointer (some ⟨g, 0, none⟩)]) Tryz.func171 rfl _ Tryz.ntmps171 rfl H ?_
  simp only [argSlots, Nat.zero_add]
  repeat (first | refine hc_seq ?_ | refine hc_region ?_ | refine hx_then_normal ?_ | refine hc_block ?_ | refine hc_skip ?_ | refine hc_ret ?_ | refine hc_exit ?_ | refine hx_then_ret ?_ | refine hx_then_exit ?_ | refine hx_block_normal ?_ | refine hx_block_ret ?_ | refine hx_block_out ?_ | refine hx_block_on rfl ?_ | refine hl_nil ?_ | refine hl_val za0 rfl rfl rfl ?_ | refine hl_new (on_alloc) rfl rfl rfl (fun _ => ?_) | refine hl_new (on_buildSliceN rfl rfl rfl) rfl rfl rfl (fun _ => ?_) | refine hl_u0 (on_storeN rfl rfl rfl rfl rfl) rfl rfl ?_ | refine hl_u0 (on_storeGN rfl rfl rfl rfl rfl rfl) rfl rfl ?_ | refine hl_u (on_mark rfl) rfl rfl rfl ?_ | refine hl_on rfl rfl ?_ | refine hl_off rfl rfl rfl rfl rfl rfl ?_)
  refine hc_quiet mixed (by kernel_rfl) ?_
  repeat (first | refine hq_nil ?_ | refine hq_val za0 rfl rfl rfl ?_ | refine hq_on rfl rfl ?_ | refine hq_off rfl rfl rfl rfl rfl rfl ?_)
  refine hq_val (ov_shl (m := (s.2 : Int) * 65536) rfl rfl (by decide) ?_) rfl rfl rfl ?_
  · exact wrap_u32 (by show 0 ≤ (s.2 : Int) * 65536 ∧ (s.2 : Int) * 65536 ≤ 4294967295; omega)
  repeat (first | refine hq_nil ?_ | refine hq_val za0 rfl rfl rfl ?_ | refine hq_on rfl rfl ?_ | refine hq_off rfl rfl rfl rfl rfl rfl ?_)
  refine hq_val (ov_or (m := ((s.2 * 65536 + s.1 : Nat) : Int)) rfl rfl (or_sum s.2 s.1 (by omega) (by omega))) rfl rfl rfl ?_
  repeat (first | refine hq_nil ?_ | refine hq_val za0 rfl rfl rfl ?_ | refine hq_on rfl rfl ?_ | refine hq_off rfl rfl rfl rfl rfl rfl ?_)
  repeat (first | refine hc_seq ?_ | refine hc_region ?_ | refine hx_then_normal ?_ | refine hc_block ?_ | refine hc_skip ?_ | refine hc_ret ?_ | refine hc_exit ?_ | refine hx_then_ret ?_ | refine hx_then_exit ?_ | refine hx_block_normal ?_ | refine hx_block_ret ?_ | refine hx_block_out ?_ | refine hx_block_on rfl ?_ | refine hl_nil ?_ | refine hl_val za0 rfl rfl rfl ?_ | refine hl_new (on_alloc) rfl rfl rfl (fun _ => ?_) | refine hl_new (on_buildSliceN rfl rfl rfl) rfl rfl rfl (fun _ => ?_) | refine hl_u0 (on_storeN rfl rfl rfl rfl rfl) rfl rfl ?_ | refine hl_u0 (on_storeGN rfl rfl rfl rfl rfl rfl) rfl rfl ?_ | refine hl_u (on_mark rfl) rfl rfl rfl ?_ | refine hl_on rfl rfl ?_ | refine hl_off rfl rfl rfl rfl rfl rfl ?_)
  exact results_1 (.inr rfl) rfl rfl fun w' H' => ⟨rfl, H'⟩

def addAll (s : Nat × Nat) (xss : List (List UInt8)) : Nat × Nat := xss.foldl adds s
theorem addAll_lt (xss : List (List UInt8)) : ∀ s : Nat × Nat, s.1 < 65521 → s.2 < 65521 → (addAll s xss).1 < 65521 ∧ (addAll s xss).2 < 65521 := by
  induction xss with
  | nil => intro s h1 h2; exact ⟨h1, h2⟩
  | cons x r ih => intro s h1 h2; exact ih _ (adds_lt x s h1 h2).1 (adds_lt x s h1 h2).2
theorem addAll_snoc (s : Nat × Nat) (xss : List (List UInt8)) (k : Nat) (h : k < xss.length) : addAll s (xss.take (k + 1)) = adds (addAll s (xss.take k)) xss[k] := by
  unfold addAll
  rw [take_snoc xss k h, List.foldl_append]
  rfl
def Sm (xss : List (List UInt8)) : Nat := sumOf (addAll (1, 0) xss)
theorem sumOf_lt {s : Nat × Nat} (h1 : s.1 < 65521) (h2 : s.2 < 65521) : sumOf s < 4294967296 := by unfold sumOf; omega
theorem Sm_lt (xss : List (List UInt8)) : Sm xss < 4294967296 := sumOf_lt (addAll_lt xss (1, 0) (by decide) (by decide)).1 (addAll_lt xss (1, 0) (by decide) (by decide)).2
theorem Sum_spec (D : Nat → Prop) (w : World) (v : Value) (xss : List (List UInt8)) (HA : Old D w (Rep.rep xss [v])) :
    Calls Tryz.prog 159 #[v] w fun e w' => e = .returned (.int .u32 (Sm xss)) ∧ Own D w w' [] := by
  obtain ⟨A, cap, hs, rfl, hc1, hc2, HS, hl, _, hel⟩ := HA.open
  refine hc_enter (vs := [.slice A xss.length cap]) Tryz.func159 rfl _ Tryz.ntmps159 rfl (Own.start D w) ?_
  simp only [argSlots, Nat.zero_add]
  repeat (first | refine hc_seq ?_ | refine hc_region ?_ | refine hx_then_normal ?_ | refine hc_block ?_ | refine hc_skip ?_ | refine hc_ret ?_ | refine hc_exit ?_ | refine hx_then_ret ?_ | refine hx_then_exit ?_ | refine hx_block_normal ?_ | refine hx_block_ret ?_ | refine hx_block_out ?_ | refine hx_block_on rfl ?_ | refine hl_nil ?_ | refine hl_val za0 rfl rfl rfl ?_ | refine hl_new (on_alloc) rfl rfl rfl (fun _ => ?_) | refine hl_new (on_buildSliceN rfl rfl rfl) rfl rfl rfl (fun _ => ?_) | refine hl_u0 (on_storeN rfl rfl rfl rfl rfl) rfl rfl ?_ | refine hl_u0 (on_storeGN rfl rfl rfl rfl rfl rfl) rfl rfl ?_ | refine hl_u (on_mark rfl) rfl rfl rfl ?_ | refine hl_on rfl rfl ?_ | refine hl_off rfl rfl rfl rfl rfl rfl ?_)
  rename_i g
  refine hc_loop (σ := Nat) (fun k => [(9, .int .i64 k), (8, .int .i64 xss.length), (7, .slice A xss.length cap), (3, .pointer (some ⟨g, 0, none⟩))])
    (fun k => [blk g 278 [.int .u32 (addAll (1, 0) (xss.take k)).1, .int .u32 (addAll (1, 0) (xss.take k)).2]]) (fun k => k ≤ xss.length) (fun k => xss.length - k) 0 (Nat.zero_le _) za9 (Ent.refl _) ?_
  intro k hk K hK
  have hb := addAll_lt (xss.take k) (1, 0) (by decide) (by decide)
  generalize hq : addAll (1, 0) (xss.take k) = q at hb
  repeat (first | refine hc_seq ?_ | refine hc_region ?_ | refine hx_then_normal ?_ | refine hc_block ?_ | refine hc_skip ?_ | refine hc_ret ?_ | refine hc_exit ?_ | refine hx_then_ret ?_ | refine hx_then_exit ?_ | refine hx_block_normal ?_ | refine hx_block_ret ?_ | refine hx_block_out ?_ | refine hx_block_on rfl ?_ | refine hl_nil ?_ | refine hl_val za0 rfl rfl rfl ?_ | refine hl_new (on_alloc) rfl rfl rfl (fun _ => ?_) | refine hl_new (on_buildSliceN rfl rfl rfl) rfl rfl rfl (fun _ => ?_) | refine hl_u0 (on_storeN rfl rfl rfl rfl rfl) rfl rfl ?_ | refine hl_u0 (on_storeGN rfl rfl rfl rfl rfl rfl) rfl rfl ?_ | refine hl_u (on_mark rfl) rfl rfl rfl ?_ | refine hl_on rfl rfl ?_ | refine hl_off rfl rfl rfl rfl rfl rfl ?_)
  refine hc_cond rfl (fun hlt => ?_) (fun hge => ?_)
  · have hlt : k < xss.length := by omega
    have hlk : k < hs.length := by rw [hl]; show k < xss.length * 1; omega
    have hA : isA A := HS.isA (by intro h; simp [h] at hlk)
    have hu : Old D w (Rep.rep xss[k] [hs[k]]) := by
      have := hel k _ (List.getElem?_eq_getElem hlt)
      have e1 : (hs.drop (k * 1)).take 1 = [hs[k]] := by rw [Nat.mul_one, List.drop_eq_getElem_cons hlk]; rfl
      rw [show Rep.sz (List UInt8) = 1 from rfl, e1] at this
      exact this
    have hcell : CellIs D w [blk g 278 [.int .u32 q.1, .int .u32 q.2]] (ab A) (ao A + k * 1) hs[k] := by
      rw [Nat.mul_one]
      exact (SrcIs.old HS).cell (by simp [hlk])
    have hsn := addAll_snoc (1, 0) xss k hlt
    rw [hq] at hsn
    generalize hs[k] = u at *
    generalize xss[k] = xs at *
    repeat (first | refine hc_seq ?_ | refine hc_region ?_ | refine hx_then_normal ?_ | refine hc_block ?_ | refine hc_skip ?_ | refine hc_ret ?_ | refine hc_exit ?_ | refine hx_then_ret ?_ | refine hx_then_exit ?_ | refine hx_block_normal ?_ | refine hx_block_ret ?_ | refine hx_block_out ?_ | refine hx_block_on rfl ?_ | refine hl_nil ?_ | refine hl_val za0 rfl rfl rfl ?_ | refine hl_new (on_alloc) rfl rfl rfl (fun _ => ?_) | refine hl_new (on_buildSliceN rfl rfl rfl) rfl rfl rfl (fun _ => ?_) | refine hl_u0 (on_storeN rfl rfl rfl rfl rfl) rfl rfl ?_ | refine hl_u0 (on_storeGN rfl rfl rfl rfl rfl rfl) rfl rfl ?_ | refine hl_u (on_mark rfl) rfl rfl rfl ?_ | refine hl_on rfl rfl ?_ | refine hl_off rfl rfl rfl rfl rfl rfl ?_)
    refine hl_c Tryz.call170 rfl rfl (fun w1 H1 => Own.call (pre := [blk g 278 [.int .u32 q.1, .int .u32 q.2]]) (l := []) H1 fun D' hold _ H2 => add_spec D' w1 g q hb.1 hb.2 u xs H2 (hold _ hu)) ?_
    repeat (first | refine hc_seq ?_ | refine hc_region ?_ | refine hx_then_normal ?_ | refine hc_block ?_ | refine hc_skip ?_ | refine hc_ret ?_ | refine hc_exit ?_ | refine hx_then_ret ?_ | refine hx_then_exit ?_ | refine hx_block_normal ?_ | refine hx_block_ret ?_ | refine hx_block_out ?_ | refine hx_block_on rfl ?_ | refine hl_nil ?_ | refine hl_val za0 rfl rfl rfl ?_ | refine hl_new (on_alloc) rfl rfl rfl (fun _ => ?_) | refine hl_new (on_buildSliceN rfl rfl rfl) rfl rfl rfl (fun _ => ?_) | refine hl_u0 (on_storeN rfl rfl rfl rfl rfl) rfl rfl ?_ | refine hl_u0 (on_storeGN rfl rfl rfl rfl rfl rfl) rfl rfl ?_ | refine hl_u (on_mark rfl) rfl rfl rfl ?_ | refine hl_on rfl rfl ?_ | refine hl_off rfl rfl rfl rfl rfl rfl ?_)
    refine hx_then_k fun a w S => hK (k + 1) a w hlt (by omega) ⟨S.env.sub za9, S.own.ent (Ent.head ?_)⟩
    rw [hsn]
    exact fun h hh => hh
  · have : k = xss.length := by omega
    subst this
    rw [List.take_length] at hq
    repeat (first | refine hc_seq ?_ | refine hc_region ?_ | refine hx_then_normal ?_ | refine hc_block ?_ | refine hc_skip ?_ | refine hc_ret ?_ | refine hc_exit ?_ | refine hx_then_ret ?_ | refine hx_then_exit ?_ | refine hx_block_normal ?_ | refine hx_block_ret ?_ | refine hx_block_out ?_ | refine hx_block_on rfl ?_ | refine hl_nil ?_ | refine hl_val za0 rfl rfl rfl ?_ | refine hl_new (on_alloc) rfl rfl rfl (fun _ => ?_) | refine hl_new (on_buildSliceN rfl rfl rfl) rfl rfl rfl (fun _ => ?_) | refine hl_u0 (on_storeN rfl rfl rfl rfl rfl) rfl rfl ?_ | refine hl_u0 (on_storeGN rfl rfl rfl rfl rfl rfl) rfl rfl ?_ | refine hl_u (on_mark rfl) rfl rfl rfl ?_ | refine hl_on rfl rfl ?_ | refine hl_off rfl rfl rfl rfl rfl rfl ?_)
    refine hl_c Tryz.call171 rfl rfl (fun w1 H1 => Own.call (pre := [blk g 278 [.int .u32 q.1, .int .u32 q.2]]) (l := []) H1 fun D' _ _ H2 => sum_spec D' w1 g q hb.1 hb.2 H2) ?_
    repeat (first | refine hc_seq ?_ | refine hc_region ?_ | refine hx_then_normal ?_ | refine hc_block ?_ | refine hc_skip ?_ | refine hc_ret ?_ | refine hc_exit ?_ | refine hx_then_ret ?_ | refine hx_then_exit ?_ | refine hx_block_normal ?_ | refine hx_block_ret ?_ | refine hx_block_out ?_ | refine hx_block_on rfl ?_ | refine hl_nil ?_ | refine hl_val za0 rfl rfl rfl ?_ | refine hl_new (on_alloc) rfl rfl rfl (fun _ => ?_) | refine hl_new (on_buildSliceN rfl rfl rfl) rfl rfl rfl (fun _ => ?_) | refine hl_u0 (on_storeN rfl rfl rfl rfl rfl) rfl rfl ?_ | refine hl_u0 (on_storeGN rfl rfl rfl rfl rfl rfl) rfl rfl ?_ | refine hl_u (on_mark rfl) rfl rfl rfl ?_ | refine hl_on rfl rfl ?_ | refine hl_off rfl rfl rfl rfl rfl rfl ?_)
    refine results_1 (.inr rfl) rfl rfl fun w' H' => ⟨?_, H'.ent (Ent.nil _)⟩
    unfold Sm
    rw [hq]
end Go.Proofs.YtjlolpmmpafjeaaGreat
