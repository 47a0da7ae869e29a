import Derived.Test.YtjlolpmmpafjeaaGreatV10
set_option linter.unusedVariables false
set_option linter.unusedSimpArgs false
namespace Go.Proofs.YtjlolpmmpafjeaaGreat
open Slk
variable (D : Nat → Prop) (w : World)
section
variable {P : Program} {D : Nat → Prop} {w0 : World} {env : Slots} {l : List HProp} {dst : Option Tmp} {ty : TypeId} {pos : String} {after : Array Edge} {g : Option (Nat × Bool)}
theorem ov_slice3 {t e : TypeId} {s bb : Nat} {z : List Value} [h : TySlice P t e] [hs : TyI P e s bb z] {x ol oh om : Operand} {k1 k2 k3 : IntKind} {A : Option Addr} {n cap : Nat} (hx : evalO env x = some (.slice A n cap)) (lo hi mx : Nat)
  (hl : evalO env ol = some (.int k1 lo)) (hh : evalO env oh = some (.int k2 hi)) (hm : evalO env om = some (.int k3 mx)) (h1 : lo ≤ hi) (h2 : hi ≤ mx) (h3 : mx ≤ cap) {R : Value} (hR : Value.slice (if mx = lo then A else A.map (·.add (lo * s))) (hi - lo) (mx - lo) = R) :
  OpVal P D w0 env l ⟨dst, .slice t x (some ol) (some oh) (some om), ty, pos, after, g⟩ R := .mk fun n' a w E H => by
 subst hR
 have hz := Slk.run_sizeOf (P := P) (t := e) w
 simp [hz, execOp, E.eval hx, E.eval hl, E.eval hh, E.eval hm, Instr.sliceAt, run_underlying h.out, Instr.slice, Instr.sliceBounds, Instr.sliceBound, asIntOf, run_sizeOf (P := P) (t := e), h1, h2, h3]
end
def pieceV (A : Option Addr) (n k : Nat) : Value := .slice (A.map (·.add (63 * k))) (min 63 (n - 63 * k)) (min 63 (n - 63 * k))
theorem Chunk1_seq (D : Nat → Prop) (w0 : World) (bs bn : Nat) (A : Option Addr) (n cap : Nat) (hn : n ≤ cap) (hc : n ≤ 9000000) (L : Nat → List HProp) :
  SeqOwn Tryz.prog D w0 157 [.pointer (some ⟨bs, 0, none⟩), .pointer (some ⟨bn, 0, none⟩)] ((n + 62) / 63) (pieceV A n) (fun k => blk bs 108 [.slice A n cap] :: blk bn 3 [.int .i64 63] :: L k) := by
 intro lp X W H hY
 refine hc_enter (vs := [.func (.yield lp) #[] #[], .pointer (some ⟨bs, 0, none⟩), .pointer (some ⟨bn, 0, none⟩)]) Tryz.func157 rfl _ Tryz.ntmps157 rfl H ?_
 simp only [argSlots, Nat.zero_add]
 refine zg <| zs rfl <| zn <| hc_block <| hc_loopK1 (σ := Nat) [0, 1, 2] rfl 4 (fun k => .int .i64 ((63 * k : Nat) : Int)) (fun k => X :: blk bs 108 [.slice A n cap] :: blk bn 3 [.int .i64 63] :: L k) (fun k => k ≤ (n + 62) / 63) (fun k => (n + 62) / 63 - k) (0) (Nat.zero_le _) rfl Z10 ?_
 rintro k hj K1 hK1
 refine hc_seq <| zg <| zm rfl <| zl rfl rfl <| zv Z25 <| ?_
 refine zv (ov_lss rfl rfl) <| zn <| hc_cond rfl (fun h => ?_) (fun h => ?_)
 ·have hk : 63 * k < n := by omega
  have hm : (min 63 (n - 63 * k) : Nat) ≤ 63 := Nat.min_le_left _ _
  have hm1 : 63 * k + min 63 (n - 63 * k) ≤ n := by omega
  have hm2 : 0 < min 63 (n - 63 * k) := by omega
  obtain ⟨m, hmm⟩ : ∃ m, m = min 63 (n - 63 * k) := ⟨_, rfl⟩
  rw [← hmm] at hm hm1 hm2
  refine zk <| hc_seq <| hc_block <| hc_seq <| hc_quiet mixed Z61 <| ?_
  refine hq_v (zw rfl rfl) rfl <| hq_v (zw rfl rfl) rfl <| hq_v (ov_move rfl) rfl <| hq_v (ov_slice rfl _ _ (.inr ⟨_, _, rfl, rfl⟩) (.inl ⟨rfl, rfl⟩) Z64 Z64) rfl <| hq_v Z25 rfl <| ?_
  refine hq_v (ov_min (m := (m : Int)) rfl rfl (by split <;> omega)) rfl ?_
  refine hq_v (ov_assign rfl) rfl <| hq_nil <| zt <| ?_
  refine hc_wide ?_
  refine hic_seq <| hic_region <| hil_val (ov_move rfl) rfl rfl rfl <| hil_val (zw rfl rfl) rfl rfl rfl <| hil_val (ov_move rfl) rfl rfl rfl <| hil_val (ov_move rfl) rfl rfl rfl <| ?_
  refine hil_val (ov_move rfl) rfl rfl rfl <| hil_val (ov_add rfl rfl Z28) rfl rfl rfl <| ?_
  refine hil_val (ov_move rfl) rfl rfl rfl <| hil_val (ov_move rfl) rfl rfl rfl <| hil_val (ov_add rfl rfl Z28) rfl rfl rfl <| ?_
  refine hil_val (ov_slice3 rfl (63 * k) (63 * k + m) (63 * k + m) rfl rfl rfl Z64 Z64 Z64 (R := pieceV A n k) (by unfold pieceV; rw [← hmm, if_neg Z64, show 63 * k + m - 63 * k = m by omega, Nat.mul_one])) rfl rfl rfl ?_
  refine hil_yield rfl rfl rfl (fun w1 H1 => hY k w1 Z64 H1) ?_
  refine hil_val (ov_not rfl) rfl rfl rfl <| hil_nil <| hix_then_normal <| hic_cond_false rfl <| hic_skip <| hix_block_normal <| ?_
  refine hix_then_normalW <| hic_region <| hil_val (ov_move rfl) rfl rfl rfl <| hil_val (zw rfl rfl) rfl rfl rfl <| hil_val (ov_add rfl rfl Z28) rfl rfl rfl <| ?_
  refine hil_val (ov_assign rfl) rfl rfl rfl <| hil_nil <| ?_
  refine hix_back ?_
  refine hx_next hK1 (k + 1) Z64 Z64 Z16 Z10
 refine hc_exit <| ze <| ze <| hx_block_out <| ?_
 exact results_0 (.inl rfl) rfl fun w' H' => ⟨_, rfl, (show (n + 62) / 63 = k by omega) ▸ H'⟩
def addB (s : Nat × Nat) (c : UInt8) : Nat × Nat := ((s.1 + c.toNat) % 65521, (s.2 + (s.1 + c.toNat) % 65521) % 65521)
def adds (s : Nat × Nat) (xs : List UInt8) : Nat × Nat := xs.foldl addB s
theorem adds_lt (xs : List UInt8) : ∀ s : Nat × Nat, s.1 < 65521 → s.2 < 65521 → (adds s xs).1 < 65521 ∧ (adds s xs).2 < 65521 := by
 induction xs with
 | nil => intro s h1 h2; exact ⟨h1, h2⟩
 | cons x r ih => intro s h1 h2; exact ih _ (Nat.mod_lt _ Z64) (Nat.mod_lt _ Z64)
theorem take_snoc {α : Type} (xs : List α) (k : Nat) (h : k < xs.length) : xs.take (k + 1) = xs.take k ++ [xs[k]] := List.take_succ_eq_append_getElem h
theorem adds_snoc (s : Nat × Nat) (xs : List UInt8) (k : Nat) (h : k < xs.length) : adds s (xs.take (k + 1)) = addB (adds s (xs.take k)) xs[k] := by
 unfold adds
 rw [take_snoc xs k h, List.foldl_append]
 rfl
theorem add_spec (g : Nat) (s : Nat × Nat) (h1 : s.1 < 65521) (h2 : s.2 < 65521) (v : Value) (xs : List UInt8) (H : Own D w w [blk g 278 [.int .u32 s.1, .int .u32 s.2]]) (HA : Old D w (Rep.rep xs [v])) :
  Calls Tryz.prog 170 #[.pointer (some ⟨g, 0, none⟩), v] w fun e w' => e = .returned (.tuple #[]) ∧ Own D w w' [blk g 278 [.int .u32 (adds s xs).1, .int .u32 (adds s xs).2]] := by
 obtain ⟨A, cap, rfl, hc1, hc2, HS⟩ := HA.openB
 refine hc_enter (vs := [.pointer (some ⟨g, 0, none⟩), .slice A xs.length cap]) Tryz.func170 rfl _ Tryz.ntmps170 rfl H ?_
 simp only [argSlots, Nat.zero_add]
 repeat (first | refine hc_seq ?_ | refine hc_region ?_ | refine zt ?_ | refine hc_block ?_ | refine hc_skip ?_ | refine zq ?_ | refine hc_exit ?_ | refine zr ?_ | refine ze ?_ | refine zb ?_ | refine hx_block_ret ?_ | refine hx_block_out ?_ | refine hx_block_on rfl ?_ | refine hl_nil ?_ | refine hl_val Z0 rfl rfl rfl ?_ | refine hl_new (on_alloc) rfl rfl rfl (fun _ => ?_) | refine hl_new (on_buildSliceN rfl rfl rfl) rfl rfl rfl (fun _ => ?_) | refine hl_u0 (on_storeN rfl rfl rfl rfl rfl) rfl rfl ?_ | refine hl_u0 (on_storeGN rfl rfl rfl rfl rfl rfl) rfl rfl ?_ | refine hl_u (on_mark rfl) rfl rfl rfl ?_ | refine hl_on rfl rfl ?_ | refine hl_off rfl rfl rfl rfl rfl rfl ?_)
 refine hc_loop (σ := Nat) (fun k => [(8, .int .i64 k), (7, .int .i64 xs.length), (6, .slice A xs.length cap), (0, .pointer (some ⟨g, 0, none⟩))])
  (fun k => [blk g 278 [.int .u32 (adds s (xs.take k)).1, .int .u32 (adds s (xs.take k)).2]]) (fun k => k ≤ xs.length) (fun k => xs.length - k) 0 (Nat.zero_le _) Z16 (Ent.refl _) ?_
 intro k hk K hK
 have hb := adds_lt (xs.take k) s h1 h2
 generalize hs : adds s (xs.take k) = q at hb
 repeat (first | refine hc_seq ?_ | refine hc_region ?_ | refine zt ?_ | refine hc_block ?_ | refine hc_skip ?_ | refine zq ?_ | refine hc_exit ?_ | refine zr ?_ | refine ze ?_ | refine zb ?_ | refine hx_block_ret ?_ | refine hx_block_out ?_ | refine hx_block_on rfl ?_ | refine hl_nil ?_ | refine hl_val Z0 rfl rfl rfl ?_ | refine hl_new (on_alloc) rfl rfl rfl (fun _ => ?_) | refine hl_new (on_buildSliceN rfl rfl rfl) rfl rfl rfl (fun _ => ?_) | refine hl_u0 (on_storeN rfl rfl rfl rfl rfl) rfl rfl ?_ | refine hl_u0 (on_storeGN rfl rfl rfl rfl rfl rfl) rfl rfl ?_ | refine hl_u (on_mark rfl) rfl rfl rfl ?_ | refine hl_on rfl rfl ?_ | refine hl_off rfl rfl rfl rfl rfl rfl ?_)
 refine hc_cond rfl (fun hlt => ?_) (fun hge => ?_)
 ·have hlt : k < xs.length := by omega
  have hA : isA A := HS.isA Z27
  have hcell : CellIs D w [blk g 278 [.int .u32 q.1, .int .u32 q.2]] (ab A) (ao A + k * 1) (u8v xs[k]) := by
   rw [Nat.mul_one]
   exact (SrcIs.old HS).cell (by simp [hlt])
  have hx := xs[k].toNat_lt
  have hsn := adds_snoc s xs k hlt
  rw [hs] at hsn
  generalize xs[k] = x at *
  unfold u8v at hcell
  repeat (first | refine hc_seq ?_ | refine hc_region ?_ | refine zt ?_ | refine hc_block ?_ | refine hc_skip ?_ | refine zq ?_ | refine hc_exit ?_ | refine zr ?_ | refine ze ?_ | refine zb ?_ | refine hx_block_ret ?_ | refine hx_block_out ?_ | refine hx_block_on rfl ?_ | refine hl_nil ?_ | refine hl_val Z0 rfl rfl rfl ?_ | refine hl_new (on_alloc) rfl rfl rfl (fun _ => ?_) | refine hl_new (on_buildSliceN rfl rfl rfl) rfl rfl rfl (fun _ => ?_) | refine hl_u0 (on_storeN rfl rfl rfl rfl rfl) rfl rfl ?_ | refine hl_u0 (on_storeGN rfl rfl rfl rfl rfl rfl) rfl rfl ?_ | refine hl_u (on_mark rfl) rfl rfl rfl ?_ | refine hl_on rfl rfl ?_ | refine hl_off rfl rfl rfl rfl rfl rfl ?_)
  refine hc_tail 13 mixed Z61 ?_
  repeat (first | refine ht_nil ?_ | refine ht_val Z0 rfl rfl rfl ?_ | refine ht_on rfl rfl ?_ | refine ht_off rfl rfl rfl rfl rfl rfl ?_)
  repeat (first | refine hc_seq ?_ | refine hc_region ?_ | refine zt ?_ | refine hc_block ?_ | refine hc_skip ?_ | refine zq ?_ | refine hc_exit ?_ | refine zr ?_ | refine ze ?_ | refine zb ?_ | refine hx_block_ret ?_ | refine hx_block_out ?_ | refine hx_block_on rfl ?_ | refine hl_nil ?_ | refine hl_val Z0 rfl rfl rfl ?_ | refine hl_new (on_alloc) rfl rfl rfl (fun _ => ?_) | refine hl_new (on_buildSliceN rfl rfl rfl) rfl rfl rfl (fun _ => ?_) | refine hl_u0 (on_storeN rfl rfl rfl rfl rfl) rfl rfl ?_ | refine hl_u0 (on_storeGN rfl rfl rfl rfl rfl rfl) rfl rfl ?_ | refine hl_u (on_mark rfl) rfl rfl rfl ?_ | refine hl_on rfl rfl ?_ | refine hl_off rfl rfl rfl rfl rfl rfl ?_)
  refine hx_then_k fun a w S => hK (k + 1) a w hlt Z64 ⟨S.env.sub Z16, S.own.ent (Ent.head ?_)⟩
  rw [hsn]
  exact fun h hh => hh
 ·have : k = xs.length := by omega
  subst this
  rw [List.take_length] at hs
  repeat (first | refine hc_seq ?_ | refine hc_region ?_ | refine zt ?_ | refine hc_block ?_ | refine hc_skip ?_ | refine zq ?_ | refine hc_exit ?_ | refine zr ?_ | refine ze ?_ | refine zb ?_ | refine hx_block_ret ?_ | refine hx_block_out ?_ | refine hx_block_on rfl ?_ | refine hl_nil ?_ | refine hl_val Z0 rfl rfl rfl ?_ | refine hl_new (on_alloc) rfl rfl rfl (fun _ => ?_) | refine hl_new (on_buildSliceN rfl rfl rfl) rfl rfl rfl (fun _ => ?_) | refine hl_u0 (on_storeN rfl rfl rfl rfl rfl) rfl rfl ?_ | refine hl_u0 (on_storeGN rfl rfl rfl rfl rfl rfl) rfl rfl ?_ | refine hl_u (on_mark rfl) rfl rfl rfl ?_ | refine hl_on rfl rfl ?_ | refine hl_off rfl rfl rfl rfl rfl rfl ?_)
  refine results_0 (.inl rfl) rfl fun w' H' => ⟨rfl, ?_⟩
  rw [hs]
  exact H'
def sumOf (s : Nat × Nat) : Nat := s.2 * 65536 + s.1
theorem or_sum (a b : Nat) (ha : a < 65536) (hb : b < 65536) : IntKind.u32.wrap (BitVec.ofInt 32 ((a : Int) * 65536) ||| BitVec.ofInt 32 (b : Int)).toNat = ((a * 65536 + b : Nat) : Int) := by
 have e1 : BitVec.ofInt 32 ((a : Int) * 65536) = BitVec.ofNat 32 (a * 65536) := by
  rw [show ((a : Int) * 65536) = ((a * 65536 : Nat) : Int) by omega]; rfl
 have e2 : BitVec.ofInt 32 (b : Int) = BitVec.ofNat 32 b := rfl
 rw [e1, e2, BitVec.toNat_or, BitVec.toNat_ofNat, BitVec.toNat_ofNat]
 rw [Nat.mod_eq_of_lt Z64, Nat.mod_eq_of_lt Z64]
 have := Nat.two_pow_add_eq_or_of_lt (i := 16) (b := b) Z64 a
 rw [show a * 65536 = 2 ^ 16 * a by omega, ← this]
 exact wrap_u32 Z64
theorem sum_spec (g : Nat) (s : Nat × Nat) (h1 : s.1 < 65521) (h2 : s.2 < 65521) (H : Own D w w [blk g 278 [.int .u32 s.1, .int .u32 s.2]]) :
  Calls Tryz.prog 171 #[.pointer (some ⟨g, 0, none⟩)] w fun e w' => e = .returned (.int .u32 (sumOf s)) ∧ Own D w w' [blk g 278 [.int .u32 s.1, .int .u32 s.2]] := by
 refine hc_enter (vs := [.pointer (some ⟨g, 0, none⟩)]) Tryz.func171 rfl _ Tryz.ntmps171 rfl H ?_
 simp only [argSlots, Nat.zero_add]
 repeat (first | refine hc_seq ?_ | refine hc_region ?_ | refine zt ?_ | refine hc_block ?_ | refine hc_skip ?_ | refine zq ?_ | refine hc_exit ?_ | refine zr ?_ | refine ze ?_ | refine zb ?_ | refine hx_block_ret ?_ | refine hx_block_out ?_ | refine hx_block_on rfl ?_ | refine hl_nil ?_ | refine hl_val Z0 rfl rfl rfl ?_ | refine hl_new (on_alloc) rfl rfl rfl (fun _ => ?_) | refine hl_new (on_buildSliceN rfl rfl rfl) rfl rfl rfl (fun _ => ?_) | refine hl_u0 (on_storeN rfl rfl rfl rfl rfl) rfl rfl ?_ | refine hl_u0 (on_storeGN rfl rfl rfl rfl rfl rfl) rfl rfl ?_ | refine hl_u (on_mark rfl) rfl rfl rfl ?_ | refine hl_on rfl rfl ?_ | refine hl_off rfl rfl rfl rfl rfl rfl ?_)
 refine hc_quiet mixed Z61 ?_
 repeat (first | refine hq_nil ?_ | refine hq_val Z0 rfl rfl rfl ?_ | refine hq_on rfl rfl ?_ | refine hq_off rfl rfl rfl rfl rfl rfl ?_)
 refine hq_val (ov_shl (m := (s.2 : Int) * 65536) rfl rfl Z63 ?_) rfl rfl rfl ?_
 ·exact wrap_u32 (by show 0 ≤ (s.2 : Int) * 65536 ∧ (s.2 : Int) * 65536 ≤ 4294967295; omega)
 repeat (first | refine hq_nil ?_ | refine hq_val Z0 rfl rfl rfl ?_ | refine hq_on rfl rfl ?_ | refine hq_off rfl rfl rfl rfl rfl rfl ?_)
 refine hq_val (ov_or (m := ((s.2 * 65536 + s.1 : Nat) : Int)) rfl rfl (or_sum s.2 s.1 Z64 Z64)) rfl rfl rfl ?_
 repeat (first | refine hq_nil ?_ | refine hq_val Z0 rfl rfl rfl ?_ | refine hq_on rfl rfl ?_ | refine hq_off rfl rfl rfl rfl rfl rfl ?_)
 repeat (first | refine hc_seq ?_ | refine hc_region ?_ | refine zt ?_ | refine hc_block ?_ | refine hc_skip ?_ | refine zq ?_ | refine hc_exit ?_ | refine zr ?_ | refine ze ?_ | refine zb ?_ | refine hx_block_ret ?_ | refine hx_block_out ?_ | refine hx_block_on rfl ?_ | refine hl_nil ?_ | refine hl_val Z0 rfl rfl rfl ?_ | refine hl_new (on_alloc) rfl rfl rfl (fun _ => ?_) | refine hl_new (on_buildSliceN rfl rfl rfl) rfl rfl rfl (fun _ => ?_) | refine hl_u0 (on_storeN rfl rfl rfl rfl rfl) rfl rfl ?_ | refine hl_u0 (on_storeGN rfl rfl rfl rfl rfl rfl) rfl rfl ?_ | refine hl_u (on_mark rfl) rfl rfl rfl ?_ | refine hl_on rfl rfl ?_ | refine hl_off rfl rfl rfl rfl rfl rfl ?_)
 exact zz rfl rfl fun w' H' => ⟨rfl, H'⟩

def addAll (s : Nat × Nat) (xss : List (List UInt8)) : Nat × Nat := xss.foldl adds s
theorem addAll_lt (xss : List (List UInt8)) : ∀ s : Nat × Nat, s.1 < 65521 → s.2 < 65521 → (addAll s xss).1 < 65521 ∧ (addAll s xss).2 < 65521 := by
 induction xss with
 | nil => intro s h1 h2; exact ⟨h1, h2⟩
 | cons x r ih => intro s h1 h2; exact ih _ (adds_lt x s h1 h2).1 (adds_lt x s h1 h2).2
theorem addAll_snoc (s : Nat × Nat) (xss : List (List UInt8)) (k : Nat) (h : k < xss.length) : addAll s (xss.take (k + 1)) = adds (addAll s (xss.take k)) xss[k] := by
 unfold addAll
 rw [take_snoc xss k h, List.foldl_append]
 rfl
def Sm (xss : List (List UInt8)) : Nat := sumOf (addAll (1, 0) xss)
def Mr (n : Nat) (xs : List UInt8) : Nat := sumOf (adds (n % 65536 % 65521, n / 65536 % 65521) xs)
theorem sumOf_lt {s : Nat × Nat} (h1 : s.1 < 65521) (h2 : s.2 < 65521) : sumOf s < 4294967296 := by unfold sumOf; omega
theorem Sm_lt (xss : List (List UInt8)) : Sm xss < 4294967296 := sumOf_lt (addAll_lt xss (1, 0) Z63 Z63).1 (addAll_lt xss (1, 0) Z63 Z63).2
theorem Sum_spec (v : Value) (xss : List (List UInt8)) (HA : Old D w (Rep.rep xss [v])) :
  Calls Tryz.prog 159 #[v] w fun e w' => e = .returned (.int .u32 (Sm xss)) ∧ Own D w w' [] := by
 obtain ⟨A, cap, hs, rfl, hc1, hc2, HS, hl, _, hel⟩ := HA.open
 refine hc_enter (vs := [.slice A xss.length cap]) Tryz.func159 rfl _ Tryz.ntmps159 rfl (Own.start D w) ?_
 simp only [argSlots, Nat.zero_add]
 repeat (first | refine hc_seq ?_ | refine hc_region ?_ | refine zt ?_ | refine hc_block ?_ | refine hc_skip ?_ | refine zq ?_ | refine hc_exit ?_ | refine zr ?_ | refine ze ?_ | refine zb ?_ | refine hx_block_ret ?_ | refine hx_block_out ?_ | refine hx_block_on rfl ?_ | refine hl_nil ?_ | refine hl_val Z0 rfl rfl rfl ?_ | refine hl_new (on_alloc) rfl rfl rfl (fun _ => ?_) | refine hl_new (on_buildSliceN rfl rfl rfl) rfl rfl rfl (fun _ => ?_) | refine hl_u0 (on_storeN rfl rfl rfl rfl rfl) rfl rfl ?_ | refine hl_u0 (on_storeGN rfl rfl rfl rfl rfl rfl) rfl rfl ?_ | refine hl_u (on_mark rfl) rfl rfl rfl ?_ | refine hl_on rfl rfl ?_ | refine hl_off rfl rfl rfl rfl rfl rfl ?_)
 rename_i g
 refine hc_loop (σ := Nat) (fun k => [(9, .int .i64 k), (8, .int .i64 xss.length), (7, .slice A xss.length cap), (3, .pointer (some ⟨g, 0, none⟩))])
  (fun k => [blk g 278 [.int .u32 (addAll (1, 0) (xss.take k)).1, .int .u32 (addAll (1, 0) (xss.take k)).2]]) (fun k => k ≤ xss.length) (fun k => xss.length - k) 0 (Nat.zero_le _) Z16 (Ent.refl _) ?_
 intro k hk K hK
 have hb := addAll_lt (xss.take k) (1, 0) Z63 Z63
 generalize hq : addAll (1, 0) (xss.take k) = q at hb
 repeat (first | refine hc_seq ?_ | refine hc_region ?_ | refine zt ?_ | refine hc_block ?_ | refine hc_skip ?_ | refine zq ?_ | refine hc_exit ?_ | refine zr ?_ | refine ze ?_ | refine zb ?_ | refine hx_block_ret ?_ | refine hx_block_out ?_ | refine hx_block_on rfl ?_ | refine hl_nil ?_ | refine hl_val Z0 rfl rfl rfl ?_ | refine hl_new (on_alloc) rfl rfl rfl (fun _ => ?_) | refine hl_new (on_buildSliceN rfl rfl rfl) rfl rfl rfl (fun _ => ?_) | refine hl_u0 (on_storeN rfl rfl rfl rfl rfl) rfl rfl ?_ | refine hl_u0 (on_storeGN rfl rfl rfl rfl rfl rfl) rfl rfl ?_ | refine hl_u (on_mark rfl) rfl rfl rfl ?_ | refine hl_on rfl rfl ?_ | refine hl_off rfl rfl rfl rfl rfl rfl ?_)
 refine hc_cond rfl (fun hlt => ?_) (fun hge => ?_)
 ·have hlt : k < xss.length := by omega
  have hlk : k < hs.length := by rw [hl]; show k < xss.length * 1; omega
  have hA : isA A := HS.isA (by intro h; simp [h] at hlk)
  have hu : Old D w (Rep.rep xss[k] [hs[k]]) := by
   have := hel k _ (List.getElem?_eq_getElem hlt)
   have e1 : (hs.drop (k * 1)).take 1 = [hs[k]] := by rw [Nat.mul_one, List.drop_eq_getElem_cons hlk]; rfl
   rw [show Rep.sz (List UInt8) = 1 from rfl, e1] at this
   exact this
  have hcell : CellIs D w [blk g 278 [.int .u32 q.1, .int .u32 q.2]] (ab A) (ao A + k * 1) hs[k] := by
   rw [Nat.mul_one]
   exact (SrcIs.old HS).cell (by simp [hlk])
  have hsn := addAll_snoc (1, 0) xss k hlt
  rw [hq] at hsn
  generalize hs[k] = u at *
  generalize xss[k] = xs at *
  repeat (first | refine hc_seq ?_ | refine hc_region ?_ | refine zt ?_ | refine hc_block ?_ | refine hc_skip ?_ | refine zq ?_ | refine hc_exit ?_ | refine zr ?_ | refine ze ?_ | refine zb ?_ | refine hx_block_ret ?_ | refine hx_block_out ?_ | refine hx_block_on rfl ?_ | refine hl_nil ?_ | refine hl_val Z0 rfl rfl rfl ?_ | refine hl_new (on_alloc) rfl rfl rfl (fun _ => ?_) | refine hl_new (on_buildSliceN rfl rfl rfl) rfl rfl rfl (fun _ => ?_) | refine hl_u0 (on_storeN rfl rfl rfl rfl rfl) rfl rfl ?_ | refine hl_u0 (on_storeGN rfl rfl rfl rfl rfl rfl) rfl rfl ?_ | refine hl_u (on_mark rfl) rfl rfl rfl ?_ | refine hl_on rfl rfl ?_ | refine hl_off rfl rfl rfl rfl rfl rfl ?_)
  refine hl_c Tryz.call170 rfl rfl (fun w1 H1 => Own.call (pre := [blk g 278 [.int .u32 q.1, .int .u32 q.2]]) (l := []) H1 fun D' hold _ H2 => add_spec D' w1 g q hb.1 hb.2 u xs H2 (hold _ hu)) ?_
  repeat (first | refine hc_seq ?_ | refine hc_region ?_ | refine zt ?_ | refine hc_block ?_ | refine hc_skip ?_ | refine zq ?_ | refine hc_exit ?_ | refine zr ?_ | refine ze ?_ | refine zb ?_ | refine hx_block_ret ?_ | refine hx_block_out ?_ | refine hx_block_on rfl ?_ | refine hl_nil ?_ | refine hl_val Z0 rfl rfl rfl ?_ | refine hl_new (on_alloc) rfl rfl rfl (fun _ => ?_) | refine hl_new (on_buildSliceN rfl rfl rfl) rfl rfl rfl (fun _ => ?_) | refine hl_u0 (on_storeN rfl rfl rfl rfl rfl) rfl rfl ?_ | refine hl_u0 (on_storeGN rfl rfl rfl rfl rfl rfl) rfl rfl ?_ | refine hl_u (on_mark rfl) rfl rfl rfl ?_ | refine hl_on rfl rfl ?_ | refine hl_off rfl rfl rfl rfl rfl rfl ?_)
  refine hx_then_k fun a w S => hK (k + 1) a w hlt Z64 ⟨S.env.sub Z16, S.own.ent (Ent.head ?_)⟩
  rw [hsn]
  exact fun h hh => hh
 ·have : k = xss.length := by omega
  subst this
  rw [List.take_length] at hq
  repeat (first | refine hc_seq ?_ | refine hc_region ?_ | refine zt ?_ | refine hc_block ?_ | refine hc_skip ?_ | refine zq ?_ | refine hc_exit ?_ | refine zr ?_ | refine ze ?_ | refine zb ?_ | refine hx_block_ret ?_ | refine hx_block_out ?_ | refine hx_block_on rfl ?_ | refine hl_nil ?_ | refine hl_val Z0 rfl rfl rfl ?_ | refine hl_new (on_alloc) rfl rfl rfl (fun _ => ?_) | refine hl_new (on_buildSliceN rfl rfl rfl) rfl rfl rfl (fun _ => ?_) | refine hl_u0 (on_storeN rfl rfl rfl rfl rfl) rfl rfl ?_ | refine hl_u0 (on_storeGN rfl rfl rfl rfl rfl rfl) rfl rfl ?_ | refine hl_u (on_mark rfl) rfl rfl rfl ?_ | refine hl_on rfl rfl ?_ | refine hl_off rfl rfl rfl rfl rfl rfl ?_)
  refine hl_c Tryz.call171 rfl rfl (fun w1 H1 => Own.call (pre := [blk g 278 [.int .u32 q.1, .int .u32 q.2]]) (l := []) H1 fun D' _ _ H2 => sum_spec D' w1 g q hb.1 hb.2 H2) ?_
  repeat (first | refine hc_seq ?_ | refine hc_region ?_ | refine zt ?_ | refine hc_block ?_ | refine hc_skip ?_ | refine zq ?_ | refine hc_exit ?_ | refine zr ?_ | refine ze ?_ | refine zb ?_ | refine hx_block_ret ?_ | refine hx_block_out ?_ | refine hx_block_on rfl ?_ | refine hl_nil ?_ | refine hl_val Z0 rfl rfl rfl ?_ | refine hl_new (on_alloc) rfl rfl rfl (fun _ => ?_) | refine hl_new (on_buildSliceN rfl rfl rfl) rfl rfl rfl (fun _ => ?_) | refine hl_u0 (on_storeN rfl rfl rfl rfl rfl) rfl rfl ?_ | refine hl_u0 (on_storeGN rfl rfl rfl rfl rfl rfl) rfl rfl ?_ | refine hl_u (on_mark rfl) rfl rfl rfl ?_ | refine hl_on rfl rfl ?_ | refine hl_off rfl rfl rfl rfl rfl rfl ?_)
  refine zz rfl rfl fun w' H' => ⟨?_, H'.ent (Ent.nil _)⟩
  unfold Sm
  rw [hq]
def fourB (n : Nat) : List UInt8 := [UInt8.ofNat (n / 16777216), UInt8.ofNat (n / 65536), UInt8.ofNat (n / 256), UInt8.ofNat n]
theorem fourB_length (n : Nat) : (fourB n).length = 4 := rfl
theorem u8v_ofNatE (m : Nat) : u8v (UInt8.ofNat m) = .int .u8 ((m % 256 : Nat) : Int) := by simp [u8v]
theorem fourB_cells (n : Nat) : (fourB n).map u8v = [.int .u8 ((n / 16777216 % 256 : Nat) : Int), .int .u8 ((n / 65536 % 256 : Nat) : Int), .int .u8 ((n / 256 % 256 : Nat) : Int), .int .u8 ((n % 256 : Nat) : Int)] := by
 simp only [fourB, List.map_cons, List.map_nil, u8v_ofNatE]
theorem wrap8E (m : Nat) : IntKind.u8.wrap (m : Int) = ((m % 256 : Nat) : Int) := by
 show ((m : Int) % 2 ^ 8) = _
 omega
theorem shr_nat (n k : Nat) : ((n : Int)).fdiv (2 ^ k) = ((n / 2 ^ k : Nat) : Int) := by
 rw [Int.fdiv_eq_ediv_of_nonneg _ (Int.le_of_lt (Int.pow_pos Z63))]
 simp
theorem four_spec (n : Nat) (hn : n < 4294967296) :
  Calls Tryz.prog 158 #[.int .u32 n] w fun e w' => ∃ b : Nat, e = .returned (.slice (some ⟨b, 0, none⟩) 4 4) ∧ Own D w w' [row (some ⟨b, 0, none⟩) 5 1 4 4 ((fourB n).map u8v)] := by
 rw [fourB_cells]
 refine hc_enter (vs := [.int .u32 n]) Tryz.func158 rfl _ Tryz.ntmps158 rfl (Own.start D w) ?_
 simp only [argSlots, Nat.zero_add]
 refine zg <| zs rfl <| zn <| hc_seq <| hc_region <| zm rfl <| hl_v (ov_shr (m := ((n / 16777216 : Nat) : Int)) rfl rfl Z63 (shr_nat n 24)) rfl ?_
 refine hl_v (ov_conv (m := ((n / 16777216 % 256 : Nat) : Int)) rfl (wrap8E _)) rfl <| zm rfl <| hl_v (ov_shr (m := ((n / 65536 : Nat) : Int)) rfl rfl Z63 (shr_nat n 16)) rfl ?_
 refine hl_v (ov_conv (m := ((n / 65536 % 256 : Nat) : Int)) rfl (wrap8E _)) rfl <| zm rfl <| hl_v (ov_shr (m := ((n / 256 : Nat) : Int)) rfl rfl Z63 (shr_nat n 8)) rfl ?_
 refine hl_v (ov_conv (m := ((n / 256 % 256 : Nat) : Int)) rfl (wrap8E _)) rfl <| zm rfl <| hl_v (ov_conv (m := ((n % 256 : Nat) : Int)) rfl (wrap8E _)) rfl <| hl_new (on_buildSliceN rfl rfl rfl) rfl rfl rfl fun b14 =>
  zs rfl <| zn <| zq <| ?_
 exact zz rfl rfl fun w' H' => ⟨_, rfl, H'.ent (Ent.blk_row 1 4 rfl Z63)⟩
def numE (xs : List UInt8) : Nat := xs.foldl (fun n c => n * 256 + c.toNat) 0
theorem numE_snoc (xs : List UInt8) (k : Nat) (h : k < xs.length) : numE (xs.take (k + 1)) = numE (xs.take k) * 256 + xs[k].toNat := by
 unfold numE
 rw [take_snoc xs k h, List.foldl_append]; rfl
theorem numE_lt (xs : List UInt8) (k : Nat) (hk : k ≤ xs.length) : numE (xs.take k) < 256 ^ k := by
 induction k with
 | zero => simp [numE]
 | succ k ih =>
  rw [numE_snoc xs k Z64]
  have := ih Z64
  have hb := xs[k].toNat_lt
  rw [Nat.pow_succ]; omega
theorem or_byte (a b : Nat) (ha : a < 16777216) (hb : b < 256) : IntKind.u32.wrap (BitVec.ofInt 32 (((a * 256 : Nat) : Int)) ||| BitVec.ofInt 32 (b : Int)).toNat = ((a * 256 + b : Nat) : Int) := by
 have e1 : BitVec.ofInt 32 ((a * 256 : Nat) : Int) = BitVec.ofNat 32 (a * 256) := rfl
 have e2 : BitVec.ofInt 32 (b : Int) = BitVec.ofNat 32 b := rfl
 rw [e1, e2, BitVec.toNat_or, BitVec.toNat_ofNat, BitVec.toNat_ofNat]
 rw [Nat.mod_eq_of_lt Z64, Nat.mod_eq_of_lt Z64]
 have := Nat.two_pow_add_eq_or_of_lt (i := 8) (b := b) Z64 a
 rw [show a * 256 = 2 ^ 8 * a by omega, ← this]
 exact wrap_u32 Z64
theorem number_spec (v : Value) (xs : List UInt8) (hl : xs.length ≤ 4) (HA : Old D w (Rep.rep xs [v])) :
  Calls Tryz.prog 123 #[v] w fun e w' => e = .returned (.int .u32 (numE xs)) ∧ Own D w w' [] := by
 obtain ⟨A, cap, rfl, hc1, hc2, HS⟩ := HA.openB
 refine hc_enter (vs := [.slice A xs.length cap]) Tryz.func123 rfl _ Tryz.ntmps123 rfl (Own.start D w) ?_
 simp only [argSlots, Nat.zero_add]
 refine zg <| zs rfl <| zn <| hc_seq <| hc_region <| zs rfl <| zn <| hc_seq <| hc_seq <| hc_region <| zm rfl <| zv Z25 <| ?_
 refine zm rfl <| zn <| hc_block <| hc_loops2 (σ := Nat) [6, 7] rfl 8 (fun k => .int .i64 (k : Int)) 3 (fun k => .int .u32 ((numE (xs.take k) : Nat) : Int)) (fun k => k ≤ xs.length) (fun k => xs.length - k) (0) (Nat.zero_le _) rfl rfl ?_
 rintro k hj K1 hK1
 refine zg <| zv (ov_lss rfl rfl) <| zn <| hc_seq <| hc_cond rfl (fun h => ?_) (fun h => ?_)
 ·have hlt : k < xs.length := by omega
  have hA : isA A := HS.isA Z27
  have hcell : CellIs D w [] (ab A) (ao A + k * 1) (u8v xs[k]) := by
   rw [Nat.mul_one]
   exact (SrcIs.old HS).cell (by simp [hlt])
  have hx := xs[k].toNat_lt
  have hsn := numE_snoc xs k hlt
  have hb := numE_lt xs k hj
  have hb3 : numE (xs.take k) < 16777216 := Nat.lt_of_lt_of_le hb (by have : 256 ^ k ≤ 256 ^ 3 := Nat.pow_le_pow_right Z63 Z64; exact this)
  obtain ⟨m, hm⟩ : ∃ m, m = numE (xs.take k) := ⟨_, rfl⟩
  rw [← hm] at hsn hb3
  unfold u8v at hcell
  refine zk <| hc_seq <| hc_block <| zg <| zv (ov_idxS rfl Z62 rfl _ rfl Z64) <| zv Z9 <| ?_
  refine zs rfl <| zn <| hc_region <| zm rfl <| hl_v (ov_shl (m := ((m * 256 : Nat) : Int)) rfl rfl Z63 (by rw [← hm]; show IntKind.u32.wrap ((m : Int) * 256) = _; rw [show (m : Int) * 256 = ((m * 256 : Nat) : Int) by omega]; exact wrap_u32 Z64)) rfl ?_
  refine zm rfl <| zv (ov_conv rfl Z30) <| ?_
  refine hl_v (ov_or (m := ((numE (xs.take (k + 1)) : Nat) : Int)) rfl rfl (by rw [hsn]; exact or_byte m _ hb3 hx)) rfl ?_
  refine zs rfl <| hl_nil <| zb <| zt <| hc_region <| zv (ov_add rfl rfl Z28) <| ?_
  refine zm rfl <| hl_nil <| hx_next hK1 (k + 1) Z64 Z64 Z16 Z10
 have : k = xs.length := by omega
 subst this
 refine hc_exit <| ze <| ze <| hx_block_out <| zt <| hc_seq <| hc_region <| zm rfl <| zs rfl <| zn <| zq <| ?_
 exact zz rfl rfl fun w' H' => ⟨by rw [List.take_length], H'⟩
def needN (n : Int) : Int := if n < 0 ∨ 4000 < n then 0 else (n + 77) / 63
theorem Need_spec (n : Int) :
  Calls Tryz.prog 97 #[.int .i64 n] w fun e w' => e = .returned (.int .i64 (needN n)) ∧ Own D w w' [] := by
 refine hc_enter (vs := [.int .i64 n]) Tryz.func97 rfl _ Tryz.ntmps97 rfl (Own.start D w) ?_
 simp only [argSlots, Nat.zero_add]
 refine zg <| zs rfl <| zn <| hc_seq <| zg <| zm rfl <| zv (ov_lss rfl rfl) <| zm rfl <| hl_part (t := 5) rfl (fun h0 => ?_) (fun h0 => ?_)
 ·skip
  have : needN n = 0 := by unfold needN; rw [if_pos (.inl h0)]
  rw [this]
  refine zo rfl rfl <| zo rfl rfl <| zv (ov_pickT rfl rfl) <| zn <| hc_cond_true rfl <| zg <| zs rfl <| zn <| zq <| zr <| ?_
  exact zz rfl rfl fun w' H' => ⟨rfl, H'⟩
 refine hl_on rfl rfl <| zm rfl <| hl_on rfl rfl <| zv (ov_gtr rfl rfl) <| zv (ov_pickF rfl rfl) <| zn <| ?_
 by_cases h1 : 4000 < n
 ·have : needN n = 0 := by unfold needN; rw [if_pos (.inr h1)]
  rw [this]
  refine hc_cond_T rfl Z64 ?_
  refine zg <| zs rfl <| zn <| zq <| zr <| ?_
  exact zz rfl rfl fun w' H' => ⟨rfl, H'⟩
 have : needN n = (n + 77) / 63 := by unfold needN; rw [if_neg Z64]
 rw [this]
 refine hc_cond_F rfl Z64 ?_
 refine zk <| zg <| zm rfl <| zv (ov_add rfl rfl Z28) <| ?_
 refine zv (ov_add rfl rfl Z28) <| ?_
 refine zv (ov_add rfl rfl Z28) <| ?_
 refine zv (ov_sub rfl rfl Z28) <| ?_
 refine hl_v (ov_quo (m := (n + 77) / 63) rfl rfl Z63 (by rw [Int.tdiv_eq_ediv_of_nonneg Z64]; rw [show 11 + n + 4 + 63 - 1 = n + 77 by omega]; exact wrap_i64 Z64)) rfl ?_
 refine zs rfl <| zn <| zq <| ?_
 exact zz rfl rfl fun w' H' => ⟨rfl, H'⟩
theorem cut_zeroE (c : Prop) [Decidable c] (A : Option Addr) (s : Nat) : (if c then A else A.map (·.add (0 * s))) = A := by
 split
 ·rfl
 cases A with
 | none => rfl
 | some a => simp [Addr.add]
theorem Grow_nil (n : Nat) (h0 : 0 < n) (h1 : n ≤ 1000000) :
  Calls Tryz.prog 138 #[.slice none 0 0, .int .i64 n] w fun e w' => ∃ q : Option Addr × Nat, e = .returned (.slice q.1 0 q.2) ∧ Own D w w' [row q.1 5 1 0 q.2 []] := by
 refine hc_enter (vs := [.slice none 0 0, .int .i64 n]) Tryz.func138 rfl _ Tryz.ntmps138 rfl (Own.start D w) ?_
 simp only [argSlots, Nat.zero_add]
 refine zg <| zs rfl <| zn <| hc_seq <| zg <| zm rfl <| zv (ov_lss rfl rfl) <| zn <| hc_cond_F rfl Z64 ?_
 refine zk <| hc_seq <| zg <| zm rfl <| zm rfl <| zv (ov_cap rfl) <| zm rfl <| zv Z25 <| ?_
 refine zv (ov_sub rfl rfl Z28) <| ?_
 refine zv (ov_sub rfl rfl Z28) <| ?_
 refine zs rfl <| zn <| zg <| zm rfl <| zv (ov_gtr rfl rfl) <| zn <| hc_cond_T rfl Z64 ?_
 refine hc_region <| zm rfl <| zm rfl <| zv (ov_cap rfl) <| zv (ov_slice rfl _ _ (.inl ⟨rfl, rfl⟩) (.inr ⟨_, _, rfl, rfl⟩) Z64 Z64) <| zm rfl <| ?_
 refine hl_new (on_appendZ (m := n) rfl rfl Z64 h0 Z63 Z63 Z64) rfl rfl rfl (fun q => ?_)
 refine zm rfl <| zv Z25 <| ?_
 refine zv (ov_slice rfl _ _ (.inl ⟨rfl, rfl⟩) (.inr ⟨_, _, rfl, rfl⟩) Z64 Z64) <| zs rfl <| zn <| zg <| ?_
 refine zm rfl <| zs rfl <| zn <| zq <| ?_
 exact zz rfl rfl fun w' H' => ⟨q, by rw [cut_zeroE]; rfl, H'.ent Ent.row_zero⟩
theorem Grow_none (n : Nat) (h1 : n ≤ 1000000) :
  Calls Tryz.prog 138 #[.slice none 0 0, .int .i64 n] w fun e w' => ∃ q : Option Addr × Nat, e = .returned (.slice q.1 0 q.2) ∧ Own D w w' [row q.1 5 1 0 q.2 []] := by
 rcases Nat.eq_zero_or_pos n with rfl | h0
 ·have _h := h1
  refine hc_enter (vs := [.slice none 0 0, .int .i64 ((0 : Nat) : Int)]) Tryz.func138 rfl _ Tryz.ntmps138 rfl (Own.start D w) ?_
  simp only [argSlots, Nat.zero_add]
  refine zg <| zs rfl <| zn <| hc_seq <| zg <| zm rfl <| zv (ov_lss rfl rfl) <| zn <| hc_cond_F rfl Z64 ?_
  refine zk <| hc_seq <| zg <| zm rfl <| zm rfl <| zv (ov_cap rfl) <| zm rfl <| zv Z25 <| ?_
  refine zv (ov_sub rfl rfl Z28) <| ?_
  refine zv (ov_sub rfl rfl Z28) <| ?_
  refine zs rfl <| zn <| zg <| zm rfl <| zv (ov_gtr rfl rfl) <| zn <| hc_cond_F rfl Z64 ?_
  refine zk <| zg <| zm rfl <| zs rfl <| zn <| zq <| ?_
  exact zz rfl rfl fun w' H' => ⟨(none, 0), rfl, H'.ent (Ent.nil_row _ _)⟩
 exact Grow_nil D w n h0 h1
theorem flat_snoc (xss : List (List UInt8)) (k : Nat) (h : k < xss.length) : (xss.take (k + 1)).flatten = (xss.take k).flatten ++ xss[k] := by
 rw [take_snoc xss k h, List.flatten_append]; simp
theorem flat_le (xss : List (List UInt8)) (k : Nat) : (xss.take k).flatten.length ≤ xss.flatten.length := by
 have : xss.flatten = (xss.take k).flatten ++ (xss.drop k).flatten := by rw [← List.flatten_append, List.take_append_drop]
 rw [this, List.length_append]; omega
theorem Concat_spec (v : Value) (xss : List (List UInt8)) (h1 : xss.flatten.length ≤ 1000000) (HA : Old D w (Rep.rep xss [v])) :
  Calls Tryz.prog 96 #[v] w fun e w' => ∃ q : Option Addr × Nat, e = .returned (.slice q.1 xss.flatten.length q.2) ∧ Own D w w' [row q.1 5 1 xss.flatten.length q.2 (xss.flatten.map u8v)] := by
 obtain ⟨A, cap, hs, rfl, hc1, hc2, HS, hl, _, hel⟩ := HA.open
 have hat : ∀ k, k < xss.length → ∀ l, ∃ B cb, CellIs D w l (ab A) (ao A + k * 1) (.slice B (xss[k]!).length cb) ∧ isA A ∧ SrcIs D w l B ((xss[k]!).map u8v) ∧ xss[k]! = xss[k]! := fun k hlt l => by
  have hlk : k < hs.length := by rw [hl]; show k < xss.length * 1; omega
  have hA : isA A := HS.isA (by intro h; simp [h] at hlk)
  have hu : Old D w (Rep.rep xss[k] [hs[k]]) := by
   have := hel k _ (List.getElem?_eq_getElem hlt)
   have e1 : (hs.drop (k * 1)).take 1 = [hs[k]] := by rw [Nat.mul_one, List.drop_eq_getElem_cons hlk]; rfl
   rw [show Rep.sz (List UInt8) = 1 from rfl, e1] at this
   exact this
  have hcell : CellIs D w l (ab A) (ao A + k * 1) hs[k] := by
   rw [Nat.mul_one]
   exact (SrcIs.old HS).cell (by simp [hlk])
  have hg : xss[k]! = xss[k] := getElem!_pos xss k hlt
  obtain ⟨B, cb, he, _, _, hB⟩ := hu.openB
  rw [he] at hcell
  rw [hg]
  exact ⟨B, cb, hcell, hA, SrcIs.old hB, rfl⟩
 have hsn : ∀ k, k < xss.length → (xss.take (k + 1)).flatten = (xss.take k).flatten ++ xss[k]! := fun k hk => by rw [getElem!_pos xss k hk]; exact flat_snoc xss k hk
 refine hc_enter (vs := [.slice A xss.length cap]) Tryz.func96 rfl _ Tryz.ntmps96 rfl (Own.start D w) ?_
 simp only [argSlots, Nat.zero_add]
 refine zg <| zs rfl <| zn <| hc_seq <| hc_region <| zs rfl <| zn <| hc_seq <| hc_seq <| hc_region <| zm rfl <| zv Z25 <| ?_
 refine zm rfl <| zn <| hc_block <| hc_loops2 (σ := Nat) [0, 9, 10] rfl 11 (fun k => .int .i64 (k : Int)) 3 (fun k => .int .i64 (((xss.take k).flatten.length : Nat) : Int)) (fun k => k ≤ xss.length) (fun k => xss.length - k) (0) (Nat.zero_le _) rfl rfl ?_
 rintro k hj K1 hK1
 have hle := flat_le xss k
 refine zg <| zv (ov_lss rfl rfl) <| zn <| hc_seq <| hc_cond rfl (fun h => ?_) (fun h => ?_)
 ·have hlt : k < xss.length := by omega
  obtain ⟨B, cb, hcell, hA, _, _⟩ := hat k hlt []
  have hk1 := hsn k hlt
  have hle1 := flat_le xss (k + 1)
  have hlen := congrArg List.length hk1
  rw [List.length_append] at hlen
  generalize xss[k]! = xs at *
  refine zk <| hc_seq <| hc_block <| zg <| zv (ov_idxS rfl Z62 rfl _ rfl Z64) <| zv Z9 <| ?_
  refine zs rfl <| zn <| zg <| zm rfl <| zm rfl <| zv Z25 <| ?_
  refine hl_v (ov_add (m := (((xss.take (k + 1)).flatten.length : Nat) : Int)) rfl rfl Z36) rfl ?_
  refine zs rfl <| zn <| zg <| zm rfl <| zv (ov_lss rfl rfl) <| zn <| hc_cond_F rfl Z64 ?_
  refine hc_skip <| zb <| zt <| hc_region <| zv (ov_add rfl rfl Z28) <| ?_
  refine zm rfl <| hl_nil <| hx_next hK1 (k + 1) Z64 Z64 Z16 Z10
 have hk : k = xss.length := by omega
 subst hk
 rw [List.take_length]
 refine hc_exit <| ze <| ze <| hx_block_out <| zt <| hc_seq <| hc_region <| zm rfl <| hl_call (σ := Option Addr × Nat) Tryz.call138 rfl rfl (fun w1 => zu fun D' _ _ _ => Grow_none D' w1 xss.flatten.length h1) ?_
 intro q
 try rw [List.nil_append]
 refine zs rfl <| zn <| hc_seq <| zg <| zm rfl <| zv Z25 <| ?_
 refine zm rfl <| zn <| hc_block <| hc_loopK2 (σ := Nat × Nat × List Value × Option Addr × Nat) [25, 26] rfl 27 (fun s => .int .i64 (s.1 : Int)) 6 (fun s => .slice s.2.2.2.1 s.2.1 s.2.2.2.2) (fun s => [row s.2.2.2.1 5 1 s.2.1 s.2.2.2.2 s.2.2.1]) (fun s => s.1 ≤ xss.length ∧ s.2.1 = (xss.take s.1).flatten.length ∧ s.2.2.1 = (xss.take s.1).flatten.map u8v) (fun s => xss.length - s.1) ((0, 0, [], q)) (⟨Nat.zero_le _, rfl, rfl⟩) rfl rfl Z10 ?_
 rintro ⟨k, n, cs, A2, c2⟩ hj_ K2 hK2
 dsimp only at hj_ ⊢
 obtain ⟨hk, hn, hcs⟩ := hj_
 have hle := flat_le xss k
 refine zg <| zv (ov_lss rfl rfl) <| zn <| hc_seq <| hc_cond rfl (fun h => ?_) (fun h => ?_)
 ·have hlt : k < xss.length := by omega
  obtain ⟨B, cb, hcell, hA, hsrc, _⟩ := hat k hlt [row A2 5 1 n c2 cs]
  have hk1 := hsn k hlt
  have hle1 := flat_le xss (k + 1)
  have hlen := congrArg List.length hk1
  rw [List.length_append] at hlen
  generalize xss[k]! = xs at *
  refine zk <| hc_seq <| hc_block <| zg <| zv (ov_idxS rfl Z62 rfl _ rfl Z64) <| zv Z9 <| ?_
  refine zs rfl <| zn <| hc_region <| zm rfl <| zm rfl <| hl_new (on_appendR (news := xs.map u8v) rfl rfl hsrc (by simp) (u8_one xs) Z63 Z64) rfl rfl rfl (fun q2 => ?_)
  refine zs rfl <| hl_nil <| zb <| zt <| hc_region <| zv (ov_add rfl rfl Z28) <| ?_
  refine zm rfl <| hl_nil <| ?_
  have hn' : n + xs.length = (xss.take (k + 1)).flatten.length := by omega
  have hcs' : cs ++ xs.map u8v = (xss.take (k + 1)).flatten.map u8v := by rw [hcs, hk1, List.map_append]
  have hk2 : k + 1 ≤ xss.length := hlt
  have hk3 : xss.length - (k + 1) < xss.length - k := by omega
  refine hx_next hK2 ((k + 1, n + xs.length, cs ++ xs.map u8v, q2)) (⟨hk2, hn', hcs'⟩) (hk3) Z16 Z10
 have hk' : k = xss.length := by omega
 subst hk'
 rw [List.take_length] at hn hcs
 subst hn; subst hcs
 refine hc_exit <| ze <| ze <| hx_block_out <| zt <| hc_seq <| hc_region <| zm rfl <| zs rfl <| zn <| zq <| ?_
 exact zz rfl rfl fun w' H' => ⟨(A2, c2), rfl, H'⟩
theorem Chunk_spec (A : Option Addr) (n cap : Nat) :
  Calls Tryz.prog 139 #[.slice A n cap, .int .i64 63] w fun e w' => ∃ q : Nat × Nat, e = .returned (.func (.func 157) #[] #[.pointer (some ⟨q.1, 0, none⟩), .pointer (some ⟨q.2, 0, none⟩)]) ∧ Own D w w' [blk q.1 108 [.slice A n cap], blk q.2 3 [.int .i64 63]] := by
 refine hc_enter (vs := [.slice A n cap, .int .i64 63]) Tryz.func139 rfl _ Tryz.ntmps139 rfl (Own.start D w) ?_
 simp only [argSlots, Nat.zero_add]
 refine zg <| hl_new (on_boxN rfl rfl) rfl rfl rfl fun b2 =>  ?_
 refine hl_new (on_boxN rfl rfl) rfl rfl rfl fun b3 =>  ?_
 refine zs rfl <| zn <| hc_seq <| zg <| zl rfl rfl <| zv (ov_lss rfl rfl) <| zn <| hc_cond_F rfl Z63 ?_
 refine zk <| zg <| zv (ov_func rfl rfl) <| zs rfl <| ?_
 refine zn <| zq <| ?_
 exact zz rfl rfl fun w' H' => ⟨(b2, b3), rfl, H'.ent Z8⟩
def preL (k : Nat) (a b : Nat) (xs : List UInt8) : List (List UInt8) := [[UInt8.ofNat k], fourB a, fourB b, [UInt8.ofNat (xs.length / 256), UInt8.ofNat xs.length], xs]
abbrev preB (k a b : Nat) (xs : List UInt8) : List UInt8 := (preL k a b xs).flatten
def fullB (k a b : Nat) (xs : List UInt8) : List UInt8 := preB k a b xs ++ fourB (Sm [preB k a b xs])
theorem preB_length (k a b : Nat) (xs : List UInt8) : (preB k a b xs).length = 11 + xs.length := by
 simp [preB, preL, fourB]; omega
theorem fullB_length (k a b : Nat) (xs : List UInt8) : (fullB k a b xs).length = 15 + xs.length := by
 rw [fullB, List.length_append, preB_length, fourB_length]; omega
theorem u8_small (m : Nat) (h : m < 256) : Value.int .u8 (m : Int) = u8v (UInt8.ofNat m) := by
 rw [u8v_ofNatE, Nat.mod_eq_of_lt h]
theorem bytes_spec (k a b : Nat) (v : Value) (xs : List UInt8) (hk : k < 256) (ha : a < 4294967296) (hb : b < 4294967296) (hx : xs.length ≤ 4000) (HA : Old D w (Rep.rep xs [v])) :
  Calls Tryz.prog 140 #[.agg #[.int .i64 k, .int .u32 a, .int .u32 b, v]] w fun e w' => ∃ q : Option Addr × Nat, e = .returned (.slice q.1 (15 + xs.length) q.2) ∧ Own D w w' [row q.1 5 1 (15 + xs.length) q.2 ((fullB k a b xs).map u8v)] := by
 obtain ⟨A, cap, rfl, hc1, hc2, HS⟩ := HA.openB
 have hk8 : [Value.int .u8 (k : Int)] = [UInt8.ofNat k].map u8v := by rw [u8_small k hk]; rfl
 have hl8 : [Value.int .u8 ((xs.length / 256 : Nat) : Int), Value.int .u8 ((xs.length % 256 : Nat) : Int)] = [UInt8.ofNat (xs.length / 256), UInt8.ofNat xs.length].map u8v := by
  rw [u8_small (xs.length / 256) Z64, ← u8v_ofNatE]; rfl
 refine hc_enter (vs := [.agg #[.int .i64 k, .int .u32 a, .int .u32 b, .slice A xs.length cap]]) Tryz.func140 rfl _ Tryz.ntmps140 rfl (Own.start D w) ?_
 simp only [argSlots, Nat.zero_add]
 refine zg <| hl_new (on_boxN rfl rfl) rfl rfl rfl fun b1 =>  ?_
 refine zs rfl <| zn <| hc_seq <| hc_cutK1 (σ := Option Addr × Nat) [] rfl 3 (fun q => .slice q.1 (preB k a b xs).length q.2) (fun q => [row q.1 5 1 (preB k a b xs).length q.2 ((preB k a b xs).map u8v)]) (fun K1 hK1 => ?_) (fun q => ?_)
 ·refine hc_any [blk b1 246 [.int .i64 k, .int .u32 a, .int .u32 b, .slice A xs.length cap]] mixed 28 rfl ?_
  refine ha_v 0 rfl (ov_fieldA rfl) rfl <| ha_v 1 rfl (ov_fieldA rfl) rfl <| ha_v 2 rfl (zw rfl rfl) rfl <| ha_v 3 rfl (ov_conv rfl Z31) rfl <| ?_
  refine ha_v 5 rfl (ov_fieldA rfl) rfl <| ha_v 6 rfl (ov_fieldA rfl) rfl <| ha_v 7 rfl (zw rfl rfl) rfl <| ha_v 9 rfl (ov_fieldA rfl) rfl <| ha_v 10 rfl (ov_fieldA rfl) rfl <| ha_v 11 rfl (zw rfl rfl) rfl <| ha_v 13 rfl (ov_fieldA rfl) rfl <| ha_v 14 rfl (zw rfl rfl) rfl <| ha_v 15 rfl Z25 rfl <| ?_
  refine ha_v 16 rfl (ov_shr (m := ((xs.length / 256 : Nat) : Int)) rfl rfl Z63 (shr_nat _ 8)) rfl ?_
  refine ha_v 17 rfl (ov_conv rfl Z31) rfl <| ?_
  refine ha_v 18 rfl (ov_fieldA rfl) rfl <| ha_v 19 rfl (zw rfl rfl) rfl <| ha_v 20 rfl Z25 rfl <| ?_
  refine ha_v 23 rfl (ov_fieldA rfl) rfl <| ha_v 24 rfl (zw rfl rfl) rfl <| ha_v 21 rfl (ov_conv (m := ((xs.length % 256 : Nat) : Int)) rfl (wrap8E _)) rfl <| ha_three 4 8 22 Z61 ?_ ?_ ?_
  ·skip
   refine ho_n rfl (on_buildSliceN rfl rfl rfl) rfl (fun b8 => ?_)
   refine ha_two 8 22 Z61 ?_ ?_
   ·skip
    refine ho_kx (σ := Nat) rfl Tryz.call158 rfl (fun w1 => zu fun D' _ _ _ => four_spec D' w1 a ha) ?_
    intro q12
    try rw [List.nil_append]
    refine ha_two 12 22 Z61 ?_ ?_
    ·skip
     refine ho_kx (σ := Nat) rfl Tryz.call158 rfl (fun w1 => zu fun D' _ _ _ => four_spec D' w1 b hb) ?_
     intro q16
     try rw [List.nil_append]
     refine ha_one 22 Z61 <| ho_n rfl (on_buildSliceN rfl rfl rfl) rfl (fun b26 => ?_)
     refine ha_one 25 Z61 <| ho_n rfl (on_buildSliceN rfl rfl rfl) rfl (fun b29 => ?_)
     refine ha_one 26 Z61 <| ho_kx (σ := Option Addr × Nat) rfl Tryz.call96 rfl (fun w1 => zu fun D' _ hin _ => Concat_spec D' w1 _ (preL k a b xs) Z12 (hin _ fun h hs ho => rep_lits (b := b29) hs (preL k a b xs) ⟨[_], [_, _, _, _], rfl, rep_bytes (b := b8) hs [UInt8.ofNat k] hk8 (by simp), [_], [_, _, _], rfl, rep_row (A := some ⟨q12, 0, none⟩) hs (fourB a) rfl (repL_bytes.2 rfl), [_], [_, _], rfl, rep_row (A := some ⟨q16, 0, none⟩) hs (fourB b) rfl (repL_bytes.2 rfl), [_], [_], rfl, rep_bytes (b := b26) hs [UInt8.ofNat (xs.length / 256), UInt8.ofNat xs.length] hl8 (by simp), [_], [], rfl, rep_old ho HA, rfl⟩ Z59)) ?_
     intro q30
     try rw [List.nil_append]
     refine ha_v 27 rfl (ov_assign rfl) rfl <| ha_done Z61 <| ?_
     refine hx_cut hK1 (q30) Z16 Z10
    skip
    refine ho_n rfl (on_buildSliceN rfl rfl rfl) rfl (fun b26 => ?_)
    refine ha_one 12 Z61 <| ho_kx (σ := Nat) rfl Tryz.call158 rfl (fun w1 => zu fun D' _ _ _ => four_spec D' w1 b hb) ?_
    intro q16
    try rw [List.nil_append]
    refine ha_one 25 Z61 <| ho_n rfl (on_buildSliceN rfl rfl rfl) rfl (fun b29 => ?_)
    refine ha_one 26 Z61 <| ho_kx (σ := Option Addr × Nat) rfl Tryz.call96 rfl (fun w1 => zu fun D' _ hin _ => Concat_spec D' w1 _ (preL k a b xs) Z12 (hin _ fun h hs ho => rep_lits (b := b29) hs (preL k a b xs) ⟨[_], [_, _, _, _], rfl, rep_bytes (b := b8) hs [UInt8.ofNat k] hk8 (by simp), [_], [_, _, _], rfl, rep_row (A := some ⟨q12, 0, none⟩) hs (fourB a) rfl (repL_bytes.2 rfl), [_], [_, _], rfl, rep_row (A := some ⟨q16, 0, none⟩) hs (fourB b) rfl (repL_bytes.2 rfl), [_], [_], rfl, rep_bytes (b := b26) hs [UInt8.ofNat (xs.length / 256), UInt8.ofNat xs.length] hl8 (by simp), [_], [], rfl, rep_old ho HA, rfl⟩ Z59)) ?_
    intro q30
    try rw [List.nil_append]
    refine ha_v 27 rfl (ov_assign rfl) rfl <| ha_done Z61 <| ?_
    refine hx_cut hK1 (q30) Z16 Z10
   skip
   refine ho_n rfl (on_buildSliceN rfl rfl rfl) rfl (fun b26 => ?_)
   refine ha_one 8 Z61 <| ho_kx (σ := Nat) rfl Tryz.call158 rfl (fun w1 => zu fun D' _ _ _ => four_spec D' w1 a ha) ?_
   intro q12
   try rw [List.nil_append]
   refine ha_one 12 Z61 <| ho_kx (σ := Nat) rfl Tryz.call158 rfl (fun w1 => zu fun D' _ _ _ => four_spec D' w1 b hb) ?_
   intro q16
   try rw [List.nil_append]
   refine ha_one 25 Z61 <| ho_n rfl (on_buildSliceN rfl rfl rfl) rfl (fun b29 => ?_)
   refine ha_one 26 Z61 <| ho_kx (σ := Option Addr × Nat) rfl Tryz.call96 rfl (fun w1 => zu fun D' _ hin _ => Concat_spec D' w1 _ (preL k a b xs) Z12 (hin _ fun h hs ho => rep_lits (b := b29) hs (preL k a b xs) ⟨[_], [_, _, _, _], rfl, rep_bytes (b := b8) hs [UInt8.ofNat k] hk8 (by simp), [_], [_, _, _], rfl, rep_row (A := some ⟨q12, 0, none⟩) hs (fourB a) rfl (repL_bytes.2 rfl), [_], [_, _], rfl, rep_row (A := some ⟨q16, 0, none⟩) hs (fourB b) rfl (repL_bytes.2 rfl), [_], [_], rfl, rep_bytes (b := b26) hs [UInt8.ofNat (xs.length / 256), UInt8.ofNat xs.length] hl8 (by simp), [_], [], rfl, rep_old ho HA, rfl⟩ Z59)) ?_
   intro q30
   try rw [List.nil_append]
   refine ha_v 27 rfl (ov_assign rfl) rfl <| ha_done Z61 <| ?_
   refine hx_cut hK1 (q30) Z16 Z10
  ·skip
   refine ho_kx (σ := Nat) rfl Tryz.call158 rfl (fun w1 => zu fun D' _ _ _ => four_spec D' w1 a ha) ?_
   intro q12
   try rw [List.nil_append]
   refine ha_three 4 12 22 Z61 ?_ ?_ ?_
   ·skip
    refine ho_n rfl (on_buildSliceN rfl rfl rfl) rfl (fun b8 => ?_)
    refine ha_two 12 22 Z61 ?_ ?_
    ·skip
     refine ho_kx (σ := Nat) rfl Tryz.call158 rfl (fun w1 => zu fun D' _ _ _ => four_spec D' w1 b hb) ?_
     intro q16
     try rw [List.nil_append]
     refine ha_one 22 Z61 <| ho_n rfl (on_buildSliceN rfl rfl rfl) rfl (fun b26 => ?_)
     refine ha_one 25 Z61 <| ho_n rfl (on_buildSliceN rfl rfl rfl) rfl (fun b29 => ?_)
     refine ha_one 26 Z61 <| ho_kx (σ := Option Addr × Nat) rfl Tryz.call96 rfl (fun w1 => zu fun D' _ hin _ => Concat_spec D' w1 _ (preL k a b xs) Z12 (hin _ fun h hs ho => rep_lits (b := b29) hs (preL k a b xs) ⟨[_], [_, _, _, _], rfl, rep_bytes (b := b8) hs [UInt8.ofNat k] hk8 (by simp), [_], [_, _, _], rfl, rep_row (A := some ⟨q12, 0, none⟩) hs (fourB a) rfl (repL_bytes.2 rfl), [_], [_, _], rfl, rep_row (A := some ⟨q16, 0, none⟩) hs (fourB b) rfl (repL_bytes.2 rfl), [_], [_], rfl, rep_bytes (b := b26) hs [UInt8.ofNat (xs.length / 256), UInt8.ofNat xs.length] hl8 (by simp), [_], [], rfl, rep_old ho HA, rfl⟩ Z59)) ?_
     intro q30
     try rw [List.nil_append]
     refine ha_v 27 rfl (ov_assign rfl) rfl <| ha_done Z61 <| ?_
     refine hx_cut hK1 (q30) Z16 Z10
    skip
    refine ho_n rfl (on_buildSliceN rfl rfl rfl) rfl (fun b26 => ?_)
    refine ha_one 12 Z61 <| ho_kx (σ := Nat) rfl Tryz.call158 rfl (fun w1 => zu fun D' _ _ _ => four_spec D' w1 b hb) ?_
    intro q16
    try rw [List.nil_append]
    refine ha_one 25 Z61 <| ho_n rfl (on_buildSliceN rfl rfl rfl) rfl (fun b29 => ?_)
    refine ha_one 26 Z61 <| ho_kx (σ := Option Addr × Nat) rfl Tryz.call96 rfl (fun w1 => zu fun D' _ hin _ => Concat_spec D' w1 _ (preL k a b xs) Z12 (hin _ fun h hs ho => rep_lits (b := b29) hs (preL k a b xs) ⟨[_], [_, _, _, _], rfl, rep_bytes (b := b8) hs [UInt8.ofNat k] hk8 (by simp), [_], [_, _, _], rfl, rep_row (A := some ⟨q12, 0, none⟩) hs (fourB a) rfl (repL_bytes.2 rfl), [_], [_, _], rfl, rep_row (A := some ⟨q16, 0, none⟩) hs (fourB b) rfl (repL_bytes.2 rfl), [_], [_], rfl, rep_bytes (b := b26) hs [UInt8.ofNat (xs.length / 256), UInt8.ofNat xs.length] hl8 (by simp), [_], [], rfl, rep_old ho HA, rfl⟩ Z59)) ?_
    intro q30
    try rw [List.nil_append]
    refine ha_v 27 rfl (ov_assign rfl) rfl <| ha_done Z61 <| ?_
    refine hx_cut hK1 (q30) Z16 Z10
   ·skip
    refine ho_kx (σ := Nat) rfl Tryz.call158 rfl (fun w1 => zu fun D' _ _ _ => four_spec D' w1 b hb) ?_
    intro q16
    try rw [List.nil_append]
    refine ha_two 4 22 Z61 ?_ ?_
    ·skip
     refine ho_n rfl (on_buildSliceN rfl rfl rfl) rfl (fun b8 => ?_)
     refine ha_one 22 Z61 <| ho_n rfl (on_buildSliceN rfl rfl rfl) rfl (fun b26 => ?_)
     refine ha_one 25 Z61 <| ho_n rfl (on_buildSliceN rfl rfl rfl) rfl (fun b29 => ?_)
     refine ha_one 26 Z61 <| ho_kx (σ := Option Addr × Nat) rfl Tryz.call96 rfl (fun w1 => zu fun D' _ hin _ => Concat_spec D' w1 _ (preL k a b xs) Z12 (hin _ fun h hs ho => rep_lits (b := b29) hs (preL k a b xs) ⟨[_], [_, _, _, _], rfl, rep_bytes (b := b8) hs [UInt8.ofNat k] hk8 (by simp), [_], [_, _, _], rfl, rep_row (A := some ⟨q12, 0, none⟩) hs (fourB a) rfl (repL_bytes.2 rfl), [_], [_, _], rfl, rep_row (A := some ⟨q16, 0, none⟩) hs (fourB b) rfl (repL_bytes.2 rfl), [_], [_], rfl, rep_bytes (b := b26) hs [UInt8.ofNat (xs.length / 256), UInt8.ofNat xs.length] hl8 (by simp), [_], [], rfl, rep_old ho HA, rfl⟩ Z59)) ?_
     intro q30
     try rw [List.nil_append]
     refine ha_v 27 rfl (ov_assign rfl) rfl <| ha_done Z61 <| ?_
     refine hx_cut hK1 (q30) Z16 Z10
    skip
    refine ho_n rfl (on_buildSliceN rfl rfl rfl) rfl (fun b26 => ?_)
    refine ha_one 4 Z61 <| ho_n rfl (on_buildSliceN rfl rfl rfl) rfl (fun b8 => ?_)
    refine ha_one 25 Z61 <| ho_n rfl (on_buildSliceN rfl rfl rfl) rfl (fun b29 => ?_)
    refine ha_one 26 Z61 <| ho_kx (σ := Option Addr × Nat) rfl Tryz.call96 rfl (fun w1 => zu fun D' _ hin _ => Concat_spec D' w1 _ (preL k a b xs) Z12 (hin _ fun h hs ho => rep_lits (b := b29) hs (preL k a b xs) ⟨[_], [_, _, _, _], rfl, rep_bytes (b := b8) hs [UInt8.ofNat k] hk8 (by simp), [_], [_, _, _], rfl, rep_row (A := some ⟨q12, 0, none⟩) hs (fourB a) rfl (repL_bytes.2 rfl), [_], [_, _], rfl, rep_row (A := some ⟨q16, 0, none⟩) hs (fourB b) rfl (repL_bytes.2 rfl), [_], [_], rfl, rep_bytes (b := b26) hs [UInt8.ofNat (xs.length / 256), UInt8.ofNat xs.length] hl8 (by simp), [_], [], rfl, rep_old ho HA, rfl⟩ Z59)) ?_
    intro q30
    try rw [List.nil_append]
    refine ha_v 27 rfl (ov_assign rfl) rfl <| ha_done Z61 <| ?_
    refine hx_cut hK1 (q30) Z16 Z10
   skip
   refine ho_n rfl (on_buildSliceN rfl rfl rfl) rfl (fun b26 => ?_)
   refine ha_two 4 12 Z61 ?_ ?_
   ·skip
    refine ho_n rfl (on_buildSliceN rfl rfl rfl) rfl (fun b8 => ?_)
    refine ha_one 12 Z61 <| ho_kx (σ := Nat) rfl Tryz.call158 rfl (fun w1 => zu fun D' _ _ _ => four_spec D' w1 b hb) ?_
    intro q16
    try rw [List.nil_append]
    refine ha_one 25 Z61 <| ho_n rfl (on_buildSliceN rfl rfl rfl) rfl (fun b29 => ?_)
    refine ha_one 26 Z61 <| ho_kx (σ := Option Addr × Nat) rfl Tryz.call96 rfl (fun w1 => zu fun D' _ hin _ => Concat_spec D' w1 _ (preL k a b xs) Z12 (hin _ fun h hs ho => rep_lits (b := b29) hs (preL k a b xs) ⟨[_], [_, _, _, _], rfl, rep_bytes (b := b8) hs [UInt8.ofNat k] hk8 (by simp), [_], [_, _, _], rfl, rep_row (A := some ⟨q12, 0, none⟩) hs (fourB a) rfl (repL_bytes.2 rfl), [_], [_, _], rfl, rep_row (A := some ⟨q16, 0, none⟩) hs (fourB b) rfl (repL_bytes.2 rfl), [_], [_], rfl, rep_bytes (b := b26) hs [UInt8.ofNat (xs.length / 256), UInt8.ofNat xs.length] hl8 (by simp), [_], [], rfl, rep_old ho HA, rfl⟩ Z59)) ?_
    intro q30
    try rw [List.nil_append]
    refine ha_v 27 rfl (ov_assign rfl) rfl <| ha_done Z61 <| ?_
    refine hx_cut hK1 (q30) Z16 Z10
   skip
   refine ho_kx (σ := Nat) rfl Tryz.call158 rfl (fun w1 => zu fun D' _ _ _ => four_spec D' w1 b hb) ?_
   intro q16
   try rw [List.nil_append]
   refine ha_one 4 Z61 <| ho_n rfl (on_buildSliceN rfl rfl rfl) rfl (fun b8 => ?_)
   refine ha_one 25 Z61 <| ho_n rfl (on_buildSliceN rfl rfl rfl) rfl (fun b29 => ?_)
   refine ha_one 26 Z61 <| ho_kx (σ := Option Addr × Nat) rfl Tryz.call96 rfl (fun w1 => zu fun D' _ hin _ => Concat_spec D' w1 _ (preL k a b xs) Z12 (hin _ fun h hs ho => rep_lits (b := b29) hs (preL k a b xs) ⟨[_], [_, _, _, _], rfl, rep_bytes (b := b8) hs [UInt8.ofNat k] hk8 (by simp), [_], [_, _, _], rfl, rep_row (A := some ⟨q12, 0, none⟩) hs (fourB a) rfl (repL_bytes.2 rfl), [_], [_, _], rfl, rep_row (A := some ⟨q16, 0, none⟩) hs (fourB b) rfl (repL_bytes.2 rfl), [_], [_], rfl, rep_bytes (b := b26) hs [UInt8.ofNat (xs.length / 256), UInt8.ofNat xs.length] hl8 (by simp), [_], [], rfl, rep_old ho HA, rfl⟩ Z59)) ?_
   intro q30
   try rw [List.nil_append]
   refine ha_v 27 rfl (ov_assign rfl) rfl <| ha_done Z61 <| ?_
   refine hx_cut hK1 (q30) Z16 Z10
  skip
  refine ho_n rfl (on_buildSliceN rfl rfl rfl) rfl (fun b26 => ?_)
  refine ha_two 4 8 Z61 ?_ ?_
  ·skip
   refine ho_n rfl (on_buildSliceN rfl rfl rfl) rfl (fun b8 => ?_)
   refine ha_one 8 Z61 <| ho_kx (σ := Nat) rfl Tryz.call158 rfl (fun w1 => zu fun D' _ _ _ => four_spec D' w1 a ha) ?_
   intro q12
   try rw [List.nil_append]
   refine ha_one 12 Z61 <| ho_kx (σ := Nat) rfl Tryz.call158 rfl (fun w1 => zu fun D' _ _ _ => four_spec D' w1 b hb) ?_
   intro q16
   try rw [List.nil_append]
   refine ha_one 25 Z61 <| ho_n rfl (on_buildSliceN rfl rfl rfl) rfl (fun b29 => ?_)
   refine ha_one 26 Z61 <| ho_kx (σ := Option Addr × Nat) rfl Tryz.call96 rfl (fun w1 => zu fun D' _ hin _ => Concat_spec D' w1 _ (preL k a b xs) Z12 (hin _ fun h hs ho => rep_lits (b := b29) hs (preL k a b xs) ⟨[_], [_, _, _, _], rfl, rep_bytes (b := b8) hs [UInt8.ofNat k] hk8 (by simp), [_], [_, _, _], rfl, rep_row (A := some ⟨q12, 0, none⟩) hs (fourB a) rfl (repL_bytes.2 rfl), [_], [_, _], rfl, rep_row (A := some ⟨q16, 0, none⟩) hs (fourB b) rfl (repL_bytes.2 rfl), [_], [_], rfl, rep_bytes (b := b26) hs [UInt8.ofNat (xs.length / 256), UInt8.ofNat xs.length] hl8 (by simp), [_], [], rfl, rep_old ho HA, rfl⟩ Z59)) ?_
   intro q30
   try rw [List.nil_append]
   refine ha_v 27 rfl (ov_assign rfl) rfl <| ha_done Z61 <| ?_
   refine hx_cut hK1 (q30) Z16 Z10
  skip
  refine ho_kx (σ := Nat) rfl Tryz.call158 rfl (fun w1 => zu fun D' _ _ _ => four_spec D' w1 a ha) ?_
  intro q12
  try rw [List.nil_append]
  refine ha_two 4 12 Z61 ?_ ?_
  ·skip
   refine ho_n rfl (on_buildSliceN rfl rfl rfl) rfl (fun b8 => ?_)
   refine ha_one 12 Z61 <| ho_kx (σ := Nat) rfl Tryz.call158 rfl (fun w1 => zu fun D' _ _ _ => four_spec D' w1 b hb) ?_
   intro q16
   try rw [List.nil_append]
   refine ha_one 25 Z61 <| ho_n rfl (on_buildSliceN rfl rfl rfl) rfl (fun b29 => ?_)
   refine ha_one 26 Z61 <| ho_kx (σ := Option Addr × Nat) rfl Tryz.call96 rfl (fun w1 => zu fun D' _ hin _ => Concat_spec D' w1 _ (preL k a b xs) Z12 (hin _ fun h hs ho => rep_lits (b := b29) hs (preL k a b xs) ⟨[_], [_, _, _, _], rfl, rep_bytes (b := b8) hs [UInt8.ofNat k] hk8 (by simp), [_], [_, _, _], rfl, rep_row (A := some ⟨q12, 0, none⟩) hs (fourB a) rfl (repL_bytes.2 rfl), [_], [_, _], rfl, rep_row (A := some ⟨q16, 0, none⟩) hs (fourB b) rfl (repL_bytes.2 rfl), [_], [_], rfl, rep_bytes (b := b26) hs [UInt8.ofNat (xs.length / 256), UInt8.ofNat xs.length] hl8 (by simp), [_], [], rfl, rep_old ho HA, rfl⟩ Z59)) ?_
   intro q30
   try rw [List.nil_append]
   refine ha_v 27 rfl (ov_assign rfl) rfl <| ha_done Z61 <| ?_
   refine hx_cut hK1 (q30) Z16 Z10
  skip
  refine ho_kx (σ := Nat) rfl Tryz.call158 rfl (fun w1 => zu fun D' _ _ _ => four_spec D' w1 b hb) ?_
  intro q16
  try rw [List.nil_append]
  refine ha_one 4 Z61 <| ho_n rfl (on_buildSliceN rfl rfl rfl) rfl (fun b8 => ?_)
  refine ha_one 25 Z61 <| ho_n rfl (on_buildSliceN rfl rfl rfl) rfl (fun b29 => ?_)
  refine ha_one 26 Z61 <| ho_kx (σ := Option Addr × Nat) rfl Tryz.call96 rfl (fun w1 => zu fun D' _ hin _ => Concat_spec D' w1 _ (preL k a b xs) Z12 (hin _ fun h hs ho => rep_lits (b := b29) hs (preL k a b xs) ⟨[_], [_, _, _, _], rfl, rep_bytes (b := b8) hs [UInt8.ofNat k] hk8 (by simp), [_], [_, _, _], rfl, rep_row (A := some ⟨q12, 0, none⟩) hs (fourB a) rfl (repL_bytes.2 rfl), [_], [_, _], rfl, rep_row (A := some ⟨q16, 0, none⟩) hs (fourB b) rfl (repL_bytes.2 rfl), [_], [_], rfl, rep_bytes (b := b26) hs [UInt8.ofNat (xs.length / 256), UInt8.ofNat xs.length] hl8 (by simp), [_], [], rfl, rep_old ho HA, rfl⟩ Z59)) ?_
  intro q30
  try rw [List.nil_append]
  refine ha_v 27 rfl (ov_assign rfl) rfl <| ha_done Z61 <| ?_
  refine hx_cut hK1 (q30) Z16 Z10
 refine zt <| zg <| zm rfl <| zm rfl <| hl_new (on_buildSliceN rfl rfl rfl) rfl rfl rfl fun b33 =>  ?_
 refine hl_c Tryz.call159 rfl rfl (fun w1 => zun fun D' _ hin _ => Sum_spec D' w1 _ [preB k a b xs] (hin _ fun h hs ho => rep_lits (b := b33) hs _ ⟨[_], [], rfl, rep_row (A := q.1) hs (preB k a b xs) rfl (repL_bytes.2 rfl), rfl⟩ (by simp))) ?_
 refine hl_call (σ := Nat) Tryz.call158 rfl rfl (fun w1 => zu fun D' _ _ _ => four_spec D' w1 (Sm [preB k a b xs]) (Sm_lt _)) ?_
 intro q34
 try rw [List.nil_append]
 refine hl_new (on_appendR (news := (fourB (Sm [preB k a b xs])).map u8v) rfl rfl (SrcIs.rowR (A := some ⟨q34, 0, none⟩) (fun _ => rfl)) (by simp [fourB]) (u8_one _) Z63 (by rw [preB_length]; omega)) rfl rfl rfl (fun q35 => ?_)
 refine zs rfl <| zn <| zq <| ?_
 have e1 : (preB k a b xs).length + 4 = 15 + xs.length := by rw [preB_length]; omega
 have e2 : (preB k a b xs).map u8v ++ (fourB (Sm [preB k a b xs])).map u8v = (fullB k a b xs).map u8v := by rw [fullB, List.map_append]
 rw [e1, e2]
 exact zz rfl rfl fun w' H' => ⟨q35, rfl, H'.ent Z8⟩
end Go.Proofs.YtjlolpmmpafjeaaGreat
