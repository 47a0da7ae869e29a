import Derived.Test.YtnnhopjnpplfcaaRSec2
set_option linter.unusedVariables false
set_option linter.unusedSimpArgs false
namespace Go.Proofs.Ytnnhopjnpplfcaa
open Slk
abbrev Step := Int × Int × Int × UInt8 × List Bool
instance : ReadsAs Try.prog 33 Step := ReadsAs.structG 0 (by kernel_rfl) rfl (ReadsG.cons 0 (ReadsG.cons 1 (ReadsG.cons 2 (ReadsG.cons 3 (ReadsG.last 4 (by decide))))))
theorem step_open {D : Nat → Prop} {w0 : World} {x : Step} {cs : List Value} (k : Old D w0 (Rep.rep x cs)) : ∃ A cap, cs = [.int .i64 x.1, .int .i64 x.2.1, .int .i64 x.2.2.1, .int .u8 x.2.2.2.1.toNat, .slice A x.2.2.2.2.length cap] ∧ inI64 x.1 ∧ inI64 x.2.1 ∧ inI64 x.2.2.1 ∧ Old D w0 (Rep.rep x.2.2.2.2 [.slice A x.2.2.2.2.length cap]) := by
  obtain ⟨h, hh, c1, c2, rfl, ⟨rfl, ia⟩, c3, c4, rfl, ⟨rfl, ib⟩, c5, c6, rfl, ⟨rfl, ic⟩, c7, c8, rfl, k7, hr⟩ := k
  have k7 : c7 = [u8v x.2.2.2.1] := k7
  subst k7
  obtain ⟨A, cap, rfl, hr2⟩ := hr
  exact ⟨A, cap, rfl, ia, ib, ic, h, hh, A, cap, rfl, hr2⟩
def modN (k : Int) (n : Nat) : Nat := (k % (n : Int)).toNat
theorem modN_lt (k : Int) {n : Nat} (h : 0 < n) : modN k n < n := by
  unfold modN
  have := Int.emod_nonneg k (show (n : Int) ≠ 0 by omega)
  have := Int.emod_lt_of_pos k (show (0 : Int) < n by omega)
  omega
theorem Mod_nat (D : Nat → Prop) (w : World) (k : Int) (n : Nat) (hk : inI64 k) (h0 : 0 < n) (hn : n ≤ 1000000) :
    Calls Try.prog 14 #[.int .i64 k, .int .i64 n] w fun e w' => e = .returned (.int .i64 (modN k n : Nat)) ∧ Own D w w' [] := by
  refine (Mod_spec D w k n hk (by unfold inI64; omega) (by omega)).mono fun e w' ⟨he, H'⟩ => ⟨?_, H'⟩
  rw [he, if_neg (by omega)]
  have := Int.emod_nonneg k (show (n : Int) ≠ 0 by omega)
  unfold modN
  rw [Int.toNat_of_nonneg this]
def fullS (v : UInt8) : Sec := Vector.replicate 64 v
theorem secC_full (v : UInt8) : secC (fullS v) = List.replicate 64 (u8v v) := by simp [secC, fullS]
theorem secC_at (s : Sec) {j : Nat} (h : j < 64) : (secC s)[j]? = some (u8v s[j]) := by
  unfold secC
  rw [List.getElem?_map, Vector.getElem?_toList, Vector.getElem?_eq_getElem h]; rfl
theorem full_at (v : UInt8) {j : Nat} (h : j < 64) : (secC (fullS v))[j]? = some (u8v v) := by
  rw [secC_at _ h]; simp [fullS]
theorem secC_ok (s : Sec) : (cellsOk (List.replicate 64 (.i .u8)) (secC s)).isSome = true := by
  have := cellsOk_u8 s.toList
  rw [Vector.length_toList] at this
  exact this
section
variable {D : Nat → Prop} {w0 : World} {env : Slots} {l : List HProp} {dst : Option Tmp} {ty : TypeId} {pos : String} {after : Array Edge} {g : Option (Nat × Bool)} {x y : Operand} {t' : TypeId} {s t : Sec}
theorem ov_eqlSec (hx : evalO env x = some (.agg (secC s).toArray)) (hy : evalO env y = some (.agg (secC t).toArray)) : OpVal Try.prog D w0 env l ⟨dst, .binOp .eql 30 x y t', ty, pos, after, g⟩ (.bool (decide (s = t))) := ov_eqlG hx hy (secC_ok s) (secC_ok t) secC_inj
theorem ov_neqSec (hx : evalO env x = some (.agg (secC s).toArray)) (hy : evalO env y = some (.agg (secC t).toArray)) : OpVal Try.prog D w0 env l ⟨dst, .binOp .neq 30 x y t', ty, pos, after, g⟩ (.bool (decide (¬ s = t))) := ov_neqG hx hy (secC_ok s) (secC_ok t) secC_inj
end
theorem rep_set {α : Type} (a b : α) (i n : Nat) (h : i < n) : (List.replicate i a ++ List.replicate (n - i) b).set i a = List.replicate (i + 1) a ++ List.replicate (n - (i + 1)) b := by
  rw [List.set_append_right _ _ (by simp)]
  rw [show n - i = (n - (i + 1)) + 1 by omega, List.replicate_succ]
  simp [List.replicate_succ', List.append_assoc]
theorem full_spec (D : Nat → Prop) (w : World) (v : UInt8) : Calls Try.prog 32 #[.int .u8 v.toNat] w fun e w' => e = .returned (.agg (secC (fullS v)).toArray) ∧ Own D w w' [] := by
  refine hc_enter (vs := [.int .u8 v.toNat]) Try.func32 rfl _ Try.ntmps32 rfl (Own.start D w) ?_
  simp only [argSlots, Nat.zero_add]
  refine hc_seq <|
    hc_region <|
    hl_new (on_alloc) rfl rfl rfl fun b2 => 
    hl_nil <|
    hx_then_normal <|
    hc_seq <| ?_
  refine hc_region <|
    hl_new (on_alloc) rfl rfl rfl fun b3 => 
    hl_nil <|
    hx_then_normal <|
    hc_seq <|
    hc_seq <| ?_
  refine hc_region <|
    hl_val (ov_assign rfl) rfl rfl rfl <|
    hl_nil <|
    hx_then_normal <|
    hc_block <| ?_
  refine hc_loopK1 (σ := Nat) [0, 2, 3] rfl 4 (fun i => .int .i64 i) (fun i => [blk b3 30 (List.replicate i (u8v v) ++ List.replicate (64 - i) (.int .u8 0)), blk b2 30 (List.replicate 64 (.int .u8 0))]) (fun i => i ≤ 64) (fun i => 64 - i) (0) (Nat.zero_le _) rfl (Ent.refl _) ?_
  rintro i hj K1 hK1
  refine hc_seq <|
    hc_seq <|
    hc_region <|
    hl_val (ov_move rfl) rfl rfl rfl <|
    hl_val (ov_lss rfl rfl) rfl rfl rfl <|
    hl_nil <| ?_
  refine hx_then_normal <| ?_
  refine hc_cond rfl (fun h => ?_) (fun h => ?_)
  · refine hc_skip <|
      hx_then_normal <|
      hc_seq <|
      hc_block <|
      hc_region <|
      hl_val (ov_move rfl) rfl rfl rfl <| ?_
    refine hl_val (ov_move rfl) rfl rfl rfl <|
      hl_val (ov_idxP rfl rfl _ rfl (by omega)) rfl rfl rfl <| ?_
    refine hl_u0 (on_storeE (List.replicate (i + 1) (u8v v) ++ List.replicate (64 - (i + 1)) (.int .u8 0)) rfl rfl (by simp; omega) rfl (by rw [show 0 + i * 1 = i by omega]; exact rep_set (u8v v) _ i 64 (by omega))) rfl rfl ?_
    refine hl_nil <|
      hx_block_normal <|
      hx_then_normal <|
      hc_region <|
      hl_val (ov_move rfl) rfl rfl rfl <|
      hl_val (ov_add rfl rfl (by first | exact wrap_i64 (by omega) | rfl)) rfl rfl rfl <| ?_
    refine hl_val (ov_assign rfl) rfl rfl rfl <|
      hl_nil <| ?_
    refine hx_next hK1 (i + 1) (by omega) (by omega) (by repeat (first | exact Slots.sub_nil _ | refine Slots.sub_cons rfl ?_)) (by first | assumption | exact Ent.refl _ | exact Ent.nil _ | (repeat (first | exact Ent.refl _ | exact Ent.nil _ | refine Ent.pick ?_)))
  · have : i = 64 := by omega
    subst this
    refine HC.ent (l' := [blk b3 30 (secC (fullS v)), blk b2 30 (List.replicate 64 (.int .u8 0))]) (by rw [secC_full]; simp only [Nat.sub_self, List.replicate_zero, List.append_nil]; exact Ent.refl _) ?_
    refine hc_exit <|
      hx_then_exit <|
      hx_then_exit <|
      hx_block_out <|
      hx_then_normal <|
      hc_seq <| ?_
    refine hc_region <|
      hl_val (by first | exact ov_loadW rfl (by simp; done) | exact ov_loadGB rfl rfl) rfl rfl rfl <| ?_
    refine hl_u0 (on_storeW rfl rfl (by simp) (by simp) (secC_one _)) rfl rfl ?_
    refine hl_nil <|
      hx_then_normal <|
      hc_ret <| ?_
    exact results_c (.inr rfl) rfl rfl (by simp) fun w' H' => ⟨rfl, H'.ent (Ent.nil _)⟩
def stepSec (x : Step) : Sec := (fullS x.2.2.2.1).setIfInBounds (modN x.2.2.1 64) (x.2.2.2.1 ^^^ 85)
theorem secC_step (x : Step) : secC (stepSec x) = (secC (fullS x.2.2.2.1)).set (modN x.2.2.1 64) (u8v (x.2.2.2.1 ^^^ 85)) := by
  unfold secC stepSec
  rw [Vector.toList_setIfInBounds, List.map_set]
theorem step_set (kind i at' : Int) (v : UInt8) (keep : List Bool) : (secC (fullS v)).set (0 + modN at' 64 * 1) (.int .u8 ((v ^^^ 85).toNat : Int)) = secC (stepSec (kind, i, at', v, keep)) := by
  rw [Nat.zero_add, Nat.mul_one]
  exact (secC_step (kind, i, at', v, keep)).symm
theorem sector_spec (D : Nat → Prop) (w : World) (x : Step) (c : Value) (hc : c.oneCell' = true) (h3 : inI64 x.2.2.1) :
    Calls Try.prog 16 #[.agg #[.int .i64 x.1, .int .i64 x.2.1, .int .i64 x.2.2.1, .int .u8 x.2.2.2.1.toNat, c]] w fun e w' => e = .returned (.agg (secC (stepSec x)).toArray) ∧ Own D w w' [] := by
  obtain ⟨kind, i, at', v, keep⟩ := x
  dsimp only at h3 ⊢
  refine hc_enter (vs := [.agg #[.int .i64 kind, .int .i64 i, .int .i64 at', .int .u8 v.toNat, c]]) Try.func16 rfl _ Try.ntmps16 rfl (Own.start D w) ?_
  simp only [argSlots, Nat.zero_add]
  refine hc_seq <|
    hc_region <|
    hl_new (on_boxN rfl rfl) rfl rfl rfl fun b1 =>  ?_
  refine hl_new (on_alloc) rfl rfl rfl fun b2 => 
    hl_nil <|
    hx_then_normal <|
    hc_seq <|
    hc_region <|
    hl_val (ov_fieldA rfl) rfl rfl rfl <| ?_
  refine hl_val (ov_load rfl (CellIs.blk rfl)) rfl rfl rfl <| ?_
  refine hl_c Try.call32 rfl rfl (fun w1 H1 => Own.calln H1 fun D' hold hin H2 => full_spec D' w1 v) ?_
  refine hl_new (on_alloc) rfl rfl rfl fun b3 =>  ?_
  refine hl_u0 (on_storeW rfl rfl (by simp) (by simp) (secC_one _)) rfl rfl ?_
  refine hl_nil <|
    hx_then_normal <|
    hc_seq <|
    hc_region <|
    hl_val (ov_fieldA rfl) rfl rfl rfl <|
    hl_val (ov_load rfl (CellIs.blk rfl)) rfl rfl rfl <| ?_
  refine hl_c Try.call14 rfl rfl (fun w1 H1 => Own.calln H1 fun D' hold hin H2 => Mod_nat D' w1 at' 64 h3 (by decide) (by decide)) ?_
  have hm := modN_lt at' (show 0 < 64 by decide)
  refine hl_val (ov_idxP rfl rfl _ rfl (by omega)) rfl rfl rfl <| ?_
  refine hl_val (ov_load rfl (CellIs.blk (v := u8v v) (by rw [Nat.zero_add, Nat.mul_one]; exact full_at v hm))) rfl rfl rfl ?_
  refine hl_val (ov_xor_u8 (b := 85) rfl rfl) rfl rfl rfl ?_
  refine hl_val (ov_idxP rfl rfl _ rfl (by omega)) rfl rfl rfl <| ?_
  refine hl_u0 (on_storeE (secC (stepSec (kind, i, at', v, keep))) rfl rfl (by simp; omega) rfl (step_set kind i at' v keep)) rfl rfl ?_
  refine hl_nil <|
    hx_then_normal <|
    hc_seq <|
    hc_region <|
    hl_val (by first | exact ov_loadW rfl (by simp; done) | exact ov_loadGB rfl rfl) rfl rfl rfl <| ?_
  refine hl_u0 (on_storeW rfl rfl (by simp) (by simp) (secC_one _)) rfl rfl ?_
  refine hl_nil <|
    hx_then_normal <|
    hc_ret <| ?_
  exact results_c (.inr rfl) rfl rfl (by simp) fun w' H' => ⟨rfl, H'.ent (Ent.nil _)⟩
def fairP (l : List Step) : Prop := l.length ≤ 200 ∧ ∀ x ∈ l, x.2.2.2.2.length ≤ 500
theorem fair_spec (D : Nat → Prop) (w : World) (v : Value) (l : List Step) (HA : Old D w (Rep.rep l [v])) :
    Calls Try.prog 12 #[v] w fun e w' => ∃ b : { b : Bool // b = true → fairP l }, e = .returned (.bool b.1) ∧ Own D w w' [] := by
  obtain ⟨A, cap, rfl, hc1, hc2, hel⟩ := HA.openX (by decide)
  refine hc_enter (vs := [.slice A l.length cap]) Try.func12 rfl _ Try.ntmps12 rfl (Own.start D w) ?_
  simp only [argSlots, Nat.zero_add]
  refine hc_seq <|
    hc_region <|
    hl_val (ov_assign rfl) rfl rfl rfl <|
    hl_nil <|
    hx_then_normal <|
    hc_seq <| ?_
  refine hc_seq <|
    hc_region <|
    hl_val (ov_assign rfl) rfl rfl rfl <|
    hl_nil <|
    hx_then_normal <|
    hc_block <| ?_
  refine hc_loops1 (σ := Nat) [0] rfl 3 (fun i => .int .i64 i) (fun i => i ≤ l.length ∧ ∀ x ∈ l.take i, x.2.2.2.2.length ≤ 500) (fun i => l.length - i) (0) (⟨Nat.zero_le _, by simp⟩) rfl ?_
  rintro i ⟨hi, hok⟩ K1 hK1
  refine hc_seq <|
    hc_seq <|
    hc_region <|
    hl_val (ov_move rfl) rfl rfl rfl <|
    hl_val (ov_move rfl) rfl rfl rfl <|
    hl_val (by first | exact ov_len rfl | exact ov_lenS rfl) rfl rfl rfl <| ?_
  refine hl_val (ov_lss rfl rfl) rfl rfl rfl <|
    hl_nil <|
    hx_then_normal <| ?_
  refine hc_cond rfl (fun hlt => ?_) (fun hlt => ?_)
  · have hlt : i < l.length := by omega
    obtain ⟨hA, cs, hx, hcs⟩ := hel i hlt
    obtain ⟨B, capB, rfl, _, _, _, hu⟩ := step_open hx
    have hcl := hcs 4 _ rfl
    rw [show Rep.sz Step = 5 from rfl] at hcl
    have hsn := List.take_succ_eq_append_getElem hlt
    refine hc_skip <|
      hx_then_normal <|
      hc_seq <|
      hc_block <|
      hc_seq <|
      hc_region <| ?_
    refine hl_val (ov_move rfl) rfl rfl rfl <|
      hl_val (ov_move rfl) rfl rfl rfl <|
      hl_val (ov_idxS rfl (by assumption) rfl _ rfl (by omega)) rfl rfl rfl <|
      hl_val (ov_fieldA rfl) rfl rfl rfl <|
      hl_val (by first | exact ov_load rfl (by assumption) | exact ov_load rfl (hcl _) | exact ov_load rfl (hcl2 _) | exact ov_load rfl (hcl3 _) | exact ov_load rfl (CellIs.blk rfl)) rfl rfl rfl <| ?_
    refine hl_val (by first | exact ov_len rfl | exact ov_lenS rfl) rfl rfl rfl <| ?_
    refine hl_val (ov_gtr rfl rfl) rfl rfl rfl <|
      hl_nil <|
      hx_then_normal <| ?_
    refine hc_cond rfl (fun hgt => ?_) (fun hgt => ?_)
    · refine hc_seq <|
        hc_region <|
        hl_val (ov_assign rfl) rfl rfl rfl <|
        hl_nil <|
        hx_then_normal <|
        hc_ret <| ?_
      refine hx_block_ret <|
        hx_then_ret <|
        hx_then_ret <|
        hx_block_ret <|
        hx_then_ret <| ?_
      exact results_1 (.inr rfl) rfl rfl fun w' H' => ⟨⟨false, fun h => by cases h⟩, rfl, H'⟩
    · have hok' : ∀ x ∈ l.take (i + 1), x.2.2.2.2.length ≤ 500 := fun x hx => by
        rw [hsn] at hx
        rcases List.mem_append.1 hx with h | h
        · exact hok x h
        · simp only [List.mem_singleton] at h
          subst h; omega
      refine hc_skip <|
        hx_block_normal <|
        hx_then_normal <|
        hc_region <|
        hl_val (ov_move rfl) rfl rfl rfl <|
        hl_val (ov_add rfl rfl (by first | exact wrap_i64 (by omega) | rfl)) rfl rfl rfl <| ?_
      refine hl_val (ov_assign rfl) rfl rfl rfl <|
        hl_nil <| ?_
      refine hx_next hK1 (i + 1) (⟨hlt, hok'⟩) (by omega) (by repeat (first | exact Slots.sub_nil _ | refine Slots.sub_cons rfl ?_)) (by first | assumption | exact Ent.refl _ | exact Ent.nil _ | (repeat (first | exact Ent.refl _ | exact Ent.nil _ | refine Ent.pick ?_)))
  · have : i = l.length := by omega
    subst this
    rw [List.take_length] at hok
    refine hc_exit <|
      hx_then_exit <|
      hx_then_exit <|
      hx_block_out <|
      hx_then_normal <|
      hc_seq <| ?_
    refine hc_region <|
      hl_val (ov_move rfl) rfl rfl rfl <|
      hl_val (by first | exact ov_len rfl | exact ov_lenS rfl) rfl rfl rfl <| ?_
    refine hl_val (ov_leq rfl rfl) rfl rfl rfl <|
      hl_val (ov_assign rfl) rfl rfl rfl <|
      hl_nil <|
      hx_then_normal <|
      hc_ret <| ?_
    exact results_1 (.inr rfl) rfl rfl fun w' H' => ⟨⟨_, fun h => ⟨by have := of_decide_eq_true h; omega, hok⟩⟩, rfl, H'⟩
end Go.Proofs.Ytnnhopjnpplfcaa
