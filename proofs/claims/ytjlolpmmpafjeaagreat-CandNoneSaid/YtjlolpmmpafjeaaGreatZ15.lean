import Derived.Test.YtjlolpmmpafjeaaGreatZ13
import Derived.Test.YtjlolpmmpafjeaaGreatZ02
import Derived.Test.YtjlolpmmpafjeaaGreatZ14
set_option linter.unusedVariables false
set_option linter.unusedSimpArgs false
namespace Go.Proofs.YtjlolpmmpafjeaaGreat
open Slk
/-! ### Four bytes, and a number -/
def fourB (n : Nat) : List UInt8 := [UInt8.ofNat (n / 16777216), UInt8.ofNat (n / 65536), UInt8.ofNat (n / 256), UInt8.ofNat n]
theorem fourB_length (n : Nat) : (fourB n).length = 4 := rfl
theorem u8v_ofNatE (m : Nat) : u8v (UInt8.ofNat m) = .int .u8 ((m % 256 : Nat) : Int) := by simp [u8v]
theorem fourB_cells (n : Nat) : (fourB n).map u8v = [.int .u8 ((n / 16777216 % 256 : Nat) : Int), .int .u8 ((n / 65536 % 256 : Nat) : Int), .int .u8 ((n / 256 % 256 : Nat) : Int), .int .u8 ((n % 256 : Nat) : Int)] := by
  simp only [fourB, List.map_cons, List.map_nil, u8v_ofNatE]
theorem wrap8E (m : Nat) : IntKind.u8.wrap (m : Int) = ((m % 256 : Nat) : Int) := by
  show ((m : Int) % 2 ^ 8) = _
  omega
theorem shr_nat (n k : Nat) : ((n : Int)).fdiv (2 ^ k) = ((n / 2 ^ k : Nat) : Int) := by
  rw [Int.fdiv_eq_ediv_of_nonneg _ (Int.le_of_lt (Int.pow_pos (by decide)))]
  simp
theorem four_spec (D : Nat → Prop) (w : World) (n : Nat) (hn : n < 4294967296) :
    Calls Tryz.prog 158 #[.int .u32 n] w fun e w' => ∃ b : Nat, e = .returned (.slice (some ⟨b, 0, none⟩) 4 4) ∧ Own D w w' [row (some ⟨b, 0, none⟩) 5 1 4 4 ((fourB n).map u8v)] := by
  rw [fourB_cells]
  refine hc_enter (vs := [.int .u32 n]) Tryz.func158 rfl _ Tryz.ntmps158 rfl (Own.start D w) ?_
  simp only [argSlots, Nat.zero_add]
  refine hc_seq <| hc_region <| hl_v (ov_assign rfl) rfl <| hl_nil <| hx_then_normal <| hc_seq <| ?_
  refine hc_region <| hl_v (ov_move rfl) rfl <| ?_
  refine hl_v (ov_shr (m := ((n / 16777216 : Nat) : Int)) rfl rfl (by decide) (shr_nat n 24)) rfl ?_
  refine hl_v (ov_conv (m := ((n / 16777216 % 256 : Nat) : Int)) rfl (wrap8E _)) rfl ?_
  refine hl_v (ov_move rfl) rfl <| ?_
  refine hl_v (ov_shr (m := ((n / 65536 : Nat) : Int)) rfl rfl (by decide) (shr_nat n 16)) rfl ?_
  refine hl_v (ov_conv (m := ((n / 65536 % 256 : Nat) : Int)) rfl (wrap8E _)) rfl ?_
  refine hl_v (ov_move rfl) rfl <| ?_
  refine hl_v (ov_shr (m := ((n / 256 : Nat) : Int)) rfl rfl (by decide) (shr_nat n 8)) rfl ?_
  refine hl_v (ov_conv (m := ((n / 256 % 256 : Nat) : Int)) rfl (wrap8E _)) rfl ?_
  refine hl_v (ov_move rfl) rfl <| ?_
  refine hl_v (ov_conv (m := ((n % 256 : Nat) : Int)) rfl (wrap8E _)) rfl ?_
  refine hl_new (on_buildSliceN rfl rfl rfl) rfl rfl rfl fun b14 => 
    hl_v (ov_assign rfl) rfl <| hl_nil <| hx_then_normal <| hc_ret <| ?_
  exact results_1 (.inr rfl) rfl rfl fun w' H' => ⟨_, rfl, H'.ent (Ent.blk_row 1 4 rfl (by decide))⟩
def numE (xs : List UInt8) : Nat := xs.foldl (fun n c => n * 256 + c.toNat) 0
theorem numE_snoc (xs : List UInt8) (k : Nat) (h : k < xs.length) : numE (xs.take (k + 1)) = numE (xs.take k) * 256 + xs[k].toNat := by
  unfold numE
  rw [take_snoc xs k h, List.foldl_append]; rfl
theorem numE_lt (xs : List UInt8) (k : Nat) (hk : k ≤ xs.length) : numE (xs.take k) < 256 ^ k := by
  induction k with
  | zero => simp [numE]
  | succ k ih =>
    rw [numE_snoc xs k (by omega)]
    have := ih (by omega)
    have hb := xs[k].toNat_lt
    rw [Nat.pow_succ]; omega
theorem or_byte (a b : Nat) (ha : a < 16777216) (hb : b < 256) : IntKind.u32.wrap (BitVec.ofInt 32 (((a * 256 : Nat) : Int)) ||| BitVec.ofInt 32 (b : Int)).toNat = ((a * 256 + b : Nat) : Int) := by
  have e1 : BitVec.ofInt 32 ((a * 256 : Nat) : Int) = BitVec.ofNat 32 (a * 256) := rfl
  have e2 : BitVec.ofInt 32 (b : Int) = BitVec.ofNat 32 b := rfl
  rw [e1, e2, BitVec.toNat_or, BitVec.toNat_ofNat, BitVec.toNat_ofNat]
  rw [Nat.mod_eq_of_lt (by omega), Nat.mod_eq_of_lt (by omega)]
  have := Nat.two_pow_add_eq_or_of_lt (i := 8) (b := b) (by omega) a
  rw [show a * 256 = 2 ^ 8 * a by omega, ← this]
  exact wrap_u32 (by omega)
theorem number_spec (D : Nat → Prop) (w : World) (v : Value) (xs : List UInt8) (hl : xs.length ≤ 4) (HA : Old D w (Rep.rep xs [v])) :
    Calls Tryz.prog 123 #[v] w fun e w' => e = .returned (.int .u32 (numE xs)) ∧ Own D w w' [] := by
  obtain ⟨A, cap, rfl, hc1, hc2, HS⟩ := HA.openB
  refine hc_enter (vs := [.slice A xs.length cap]) Tryz.func123 rfl _ Tryz.ntmps123 rfl (Own.start D w) ?_
  simp only [argSlots, Nat.zero_add]
  refine hc_seq <| hc_region <| hl_v (ov_assign rfl) rfl <| hl_nil <| hx_then_normal <| hc_seq <| ?_
  refine hc_region <| hl_v (ov_assign rfl) rfl <| hl_nil <| hx_then_normal <| hc_seq <| hc_seq <| ?_
  refine hc_region <| hl_v (ov_move rfl) rfl <| hl_v (by first | exact ov_len rfl | exact ov_lenS rfl) rfl <| ?_
  refine hl_v (ov_move rfl) rfl <| hl_nil <| hx_then_normal <| hc_block <| ?_
  refine hc_loops2 (σ := Nat) [6, 7] rfl 8 (fun k => .int .i64 (k : Int)) 3 (fun k => .int .u32 ((numE (xs.take k) : Nat) : Int)) (fun k => k ≤ xs.length) (fun k => xs.length - k) (0) (Nat.zero_le _) rfl rfl ?_
  rintro k hj K1 hK1
  refine hc_seq <| hc_region <| hl_v (ov_lss rfl rfl) rfl <| hl_nil <| hx_then_normal <| hc_seq <| ?_
  refine hc_cond rfl (fun h => ?_) (fun h => ?_)
  · have hlt : k < xs.length := by omega
    have hA : isA A := HS.isA (by intro h; simp at h; subst h; simp at hlt)
    have hcell : CellIs D w [] (ab A) (ao A + k * 1) (u8v xs[k]) := by
      rw [Nat.mul_one]
      exact (SrcIs.old HS).cell (by simp [hlt])
    have hx := xs[k].toNat_lt
    have hsn := numE_snoc xs k hlt
    have hb := numE_lt xs k hj
    have hb3 : numE (xs.take k) < 16777216 := Nat.lt_of_lt_of_le hb (by have : 256 ^ k ≤ 256 ^ 3 := Nat.pow_le_pow_right (by decide) (by omega); exact this)
    obtain ⟨m, hm⟩ : ∃ m, m = numE (xs.take k) := ⟨_, rfl⟩
    rw [← hm] at hsn hb3
    unfold u8v at hcell
    refine hc_skip <| hx_then_normal <| hc_seq <| hc_block <| hc_seq <| hc_region <| ?_
    refine hl_v (ov_idxS rfl (by assumption) rfl _ rfl (by omega)) rfl <| hl_v (by first | exact ov_load rfl (by assumption) | exact ov_load rfl (hcl _) | exact ov_load rfl (hcl2 _) | exact ov_load rfl (hcl3 _) | exact ov_load rfl (CellIs.blk rfl)) rfl <| ?_
    refine hl_v (ov_assign rfl) rfl <| hl_nil <| hx_then_normal <| hc_region <| hl_v (ov_move rfl) rfl <| ?_
    refine hl_v (ov_shl (m := ((m * 256 : Nat) : Int)) rfl rfl (by decide) (by rw [← hm]; show IntKind.u32.wrap ((m : Int) * 256) = _; rw [show (m : Int) * 256 = ((m * 256 : Nat) : Int) by omega]; exact wrap_u32 (by omega))) rfl ?_
    refine hl_v (ov_move rfl) rfl <| hl_v (ov_conv rfl (by first | exact wrap_u32 (by omega) | rfl)) rfl <| ?_
    refine hl_v (ov_or (m := ((numE (xs.take (k + 1)) : Nat) : Int)) rfl rfl (by rw [hsn]; exact or_byte m _ hb3 hx)) rfl ?_
    refine hl_v (ov_assign rfl) rfl <| hl_nil <| hx_block_normal <| hx_then_normal <| hc_region <| hl_v (ov_add rfl rfl (by first | exact wrap_i64 (by omega) | rfl)) rfl <| ?_
    refine hl_v (ov_move rfl) rfl <| hl_nil <| ?_
    refine hx_next hK1 (k + 1) (by omega) (by omega) (by repeat (first | exact Slots.sub_nil _ | refine Slots.sub_cons rfl ?_)) (by first | assumption | exact Ent.refl _ | exact Ent.nil _ | (repeat (first | exact Ent.refl _ | exact Ent.nil _ | refine Ent.pick ?_)))
  have : k = xs.length := by omega
  subst this
  refine hc_exit <| hx_then_exit <| hx_then_exit <| hx_block_out <| hx_then_normal <| hc_seq <| ?_
  refine hc_region <| hl_v (ov_move rfl) rfl <| hl_v (ov_assign rfl) rfl <| hl_nil <| hx_then_normal <| hc_ret <| ?_
  exact results_1 (.inr rfl) rfl rfl fun w' H' => ⟨by rw [List.take_length], H'⟩
def needN (n : Int) : Int := if n < 0 ∨ 4000 < n then 0 else (n + 77) / 63
theorem Need_spec (D : Nat → Prop) (w : World) (n : Int) :
    Calls Tryz.prog 97 #[.int .i64 n] w fun e w' => e = .returned (.int .i64 (needN n)) ∧ Own D w w' [] := by
  refine hc_enter (vs := [.int .i64 n]) Tryz.func97 rfl _ Tryz.ntmps97 rfl (Own.start D w) ?_
  simp only [argSlots, Nat.zero_add]
  refine hc_seq <| hc_region <| hl_v (ov_assign rfl) rfl <| hl_nil <| hx_then_normal <| hc_seq <| ?_
  refine hc_seq <| hc_region <| hl_v (ov_move rfl) rfl <| hl_v (ov_lss rfl rfl) rfl <| hl_v (ov_move rfl) rfl <| ?_
  refine hl_part (t := 5) rfl (fun h0 => ?_) (fun h0 => ?_)
  · skip
    have : needN n = 0 := by unfold needN; rw [if_pos (.inl h0)]
    rw [this]
    refine hl_off rfl rfl rfl rfl rfl rfl <| hl_off rfl rfl rfl rfl rfl rfl <| hl_v (ov_pickT rfl rfl) rfl <| hl_nil <| hx_then_normal <| hc_cond_true rfl <| ?_
    refine hc_seq <| hc_region <| hl_v (ov_assign rfl) rfl <| hl_nil <| hx_then_normal <| hc_ret <| ?_
    refine hx_then_ret <| ?_
    exact results_1 (.inr rfl) rfl rfl fun w' H' => ⟨rfl, H'⟩
  refine hl_on rfl rfl <| hl_v (ov_move rfl) rfl <| hl_on rfl rfl <| hl_v (ov_gtr rfl rfl) rfl <| hl_v (ov_pickF rfl rfl) rfl <| hl_nil <| hx_then_normal <| ?_
  by_cases h1 : 4000 < n
  · have : needN n = 0 := by unfold needN; rw [if_pos (.inr h1)]
    rw [this]
    refine hc_cond_T rfl (by omega) ?_
    refine hc_seq <| hc_region <| hl_v (ov_assign rfl) rfl <| hl_nil <| hx_then_normal <| hc_ret <| ?_
    refine hx_then_ret <| ?_
    exact results_1 (.inr rfl) rfl rfl fun w' H' => ⟨rfl, H'⟩
  have : needN n = (n + 77) / 63 := by unfold needN; rw [if_neg (by omega)]
  rw [this]
  refine hc_cond_F rfl (by omega) ?_
  refine hc_skip <| hx_then_normal <| hc_seq <| hc_region <| hl_v (ov_move rfl) rfl <| hl_v (ov_add rfl rfl (by first | exact wrap_i64 (by omega) | rfl)) rfl <| ?_
  refine hl_v (ov_add rfl rfl (by first | exact wrap_i64 (by omega) | rfl)) rfl <| ?_
  refine hl_v (ov_add rfl rfl (by first | exact wrap_i64 (by omega) | rfl)) rfl <| ?_
  refine hl_v (ov_sub rfl rfl (by first | exact wrap_i64 (by omega) | rfl)) rfl <| ?_
  refine hl_v (ov_quo (m := (n + 77) / 63) rfl rfl (by decide) (by rw [Int.tdiv_eq_ediv_of_nonneg (by omega)]; rw [show 11 + n + 4 + 63 - 1 = n + 77 by omega]; exact wrap_i64 (by omega))) rfl ?_
  refine hl_v (ov_assign rfl) rfl <| hl_nil <| hx_then_normal <| hc_ret <| ?_
  exact results_1 (.inr rfl) rfl rfl fun w' H' => ⟨rfl, H'⟩
/-! ### The library's Grow, Concat, Chunk -/
theorem cut_zeroE (c : Prop) [Decidable c] (A : Option Addr) (s : Nat) : (if c then A else A.map (·.add (0 * s))) = A := by
  split
  · rfl
  cases A with
  | none => rfl
  | some a => simp [Addr.add]
theorem Grow_nil (D : Nat → Prop) (w : World) (n : Nat) (h0 : 0 < n) (h1 : n ≤ 1000000) :
    Calls Tryz.prog 138 #[.slice none 0 0, .int .i64 n] w fun e w' => ∃ q : Option Addr × Nat, e = .returned (.slice q.1 0 q.2) ∧ Own D w w' [row q.1 5 1 0 q.2 []] := by
  refine hc_enter (vs := [.slice none 0 0, .int .i64 n]) Tryz.func138 rfl _ Tryz.ntmps138 rfl (Own.start D w) ?_
  simp only [argSlots, Nat.zero_add]
  refine hc_seq <| hc_region <| hl_v (ov_assign rfl) rfl <| hl_nil <| hx_then_normal <| hc_seq <| ?_
  refine hc_seq <| hc_region <| hl_v (ov_move rfl) rfl <| hl_v (ov_lss rfl rfl) rfl <| hl_nil <| hx_then_normal <| ?_
  refine hc_cond_F rfl (by omega) ?_
  refine hc_skip <| hx_then_normal <| hc_seq <| hc_seq <| hc_region <| hl_v (ov_move rfl) rfl <| ?_
  refine hl_v (ov_move rfl) rfl <| hl_v (ov_cap rfl) rfl <| hl_v (ov_move rfl) rfl <| hl_v (by first | exact ov_len rfl | exact ov_lenS rfl) rfl <| ?_
  refine hl_v (ov_sub rfl rfl (by first | exact wrap_i64 (by omega) | rfl)) rfl <| ?_
  refine hl_v (ov_sub rfl rfl (by first | exact wrap_i64 (by omega) | rfl)) rfl <| ?_
  refine hl_v (ov_assign rfl) rfl <| hl_nil <| hx_then_normal <| hc_seq <| hc_region <| hl_v (ov_move rfl) rfl <| ?_
  refine hl_v (ov_gtr rfl rfl) rfl <| hl_nil <| hx_then_normal <| ?_
  refine hc_cond_T rfl (by omega) ?_
  refine hc_region <| hl_v (ov_move rfl) rfl <| hl_v (ov_move rfl) rfl <| hl_v (ov_cap rfl) rfl <| hl_v (ov_slice rfl _ _ (.inl ⟨rfl, rfl⟩) (.inr ⟨_, _, rfl, rfl⟩) (by omega) (by omega)) rfl <| hl_v (ov_move rfl) rfl <| ?_
  refine hl_new (on_appendZ (m := n) rfl rfl (by omega) h0 (by decide) (by decide) (by omega)) rfl rfl rfl (fun q => ?_)
  refine hl_v (ov_move rfl) rfl <| hl_v (by first | exact ov_len rfl | exact ov_lenS rfl) rfl <| ?_
  refine hl_v (ov_slice rfl _ _ (.inl ⟨rfl, rfl⟩) (.inr ⟨_, _, rfl, rfl⟩) (by omega) (by omega)) rfl <| hl_v (ov_assign rfl) rfl <| hl_nil <| hx_then_normal <| hc_seq <| hc_region <| ?_
  refine hl_v (ov_move rfl) rfl <| hl_v (ov_assign rfl) rfl <| hl_nil <| hx_then_normal <| hc_ret <| ?_
  exact results_1 (.inr rfl) rfl rfl fun w' H' => ⟨q, by rw [cut_zeroE]; rfl, H'.ent Ent.row_zero⟩
theorem Grow_none (D : Nat → Prop) (w : World) (n : Nat) (h1 : n ≤ 1000000) :
    Calls Tryz.prog 138 #[.slice none 0 0, .int .i64 n] w fun e w' => ∃ q : Option Addr × Nat, e = .returned (.slice q.1 0 q.2) ∧ Own D w w' [row q.1 5 1 0 q.2 []] := by
  rcases Nat.eq_zero_or_pos n with rfl | h0
  · have _h := h1
    refine hc_enter (vs := [.slice none 0 0, .int .i64 ((0 : Nat) : Int)]) Tryz.func138 rfl _ Tryz.ntmps138 rfl (Own.start D w) ?_
    simp only [argSlots, Nat.zero_add]
    refine hc_seq <| hc_region <| hl_v (ov_assign rfl) rfl <| hl_nil <| hx_then_normal <| hc_seq <| ?_
    refine hc_seq <| hc_region <| hl_v (ov_move rfl) rfl <| hl_v (ov_lss rfl rfl) rfl <| hl_nil <| hx_then_normal <| ?_
    refine hc_cond_F rfl (by omega) ?_
    refine hc_skip <| hx_then_normal <| hc_seq <| hc_seq <| hc_region <| hl_v (ov_move rfl) rfl <| ?_
    refine hl_v (ov_move rfl) rfl <| hl_v (ov_cap rfl) rfl <| hl_v (ov_move rfl) rfl <| hl_v (by first | exact ov_len rfl | exact ov_lenS rfl) rfl <| ?_
    refine hl_v (ov_sub rfl rfl (by first | exact wrap_i64 (by omega) | rfl)) rfl <| ?_
    refine hl_v (ov_sub rfl rfl (by first | exact wrap_i64 (by omega) | rfl)) rfl <| ?_
    refine hl_v (ov_assign rfl) rfl <| hl_nil <| hx_then_normal <| hc_seq <| hc_region <| hl_v (ov_move rfl) rfl <| ?_
    refine hl_v (ov_gtr rfl rfl) rfl <| hl_nil <| hx_then_normal <| ?_
    refine hc_cond_F rfl (by omega) ?_
    refine hc_skip <| hx_then_normal <| hc_seq <| hc_region <| hl_v (ov_move rfl) rfl <| hl_v (ov_assign rfl) rfl <| ?_
    refine hl_nil <| hx_then_normal <| hc_ret <| ?_
    exact results_1 (.inr rfl) rfl rfl fun w' H' => ⟨(none, 0), rfl, H'.ent (Ent.nil_row _ _)⟩
  exact Grow_nil D w n h0 h1
theorem flat_snoc (xss : List (List UInt8)) (k : Nat) (h : k < xss.length) : (xss.take (k + 1)).flatten = (xss.take k).flatten ++ xss[k] := by
  rw [take_snoc xss k h, List.flatten_append]; simp
theorem flat_le (xss : List (List UInt8)) (k : Nat) : (xss.take k).flatten.length ≤ xss.flatten.length := by
  have : xss.flatten = (xss.take k).flatten ++ (xss.drop k).flatten := by rw [← List.flatten_append, List.take_append_drop]
  rw [this, List.length_append]; omega
theorem Concat_spec (D : Nat → Prop) (w : World) (v : Value) (xss : List (List UInt8)) (h1 : xss.flatten.length ≤ 1000000) (HA : Old D w (Rep.rep xss [v])) :
    Calls Tryz.prog 96 #[v] w fun e w' => ∃ q : Option Addr × Nat, e = .returned (.slice q.1 xss.flatten.length q.2) ∧ Own D w w' [row q.1 5 1 xss.flatten.length q.2 (xss.flatten.map u8v)] := by
  obtain ⟨A, cap, hs, rfl, hc1, hc2, HS, hl, _, hel⟩ := HA.open
  have hat : ∀ k, k < xss.length → ∀ l, ∃ B cb, CellIs D w l (ab A) (ao A + k * 1) (.slice B (xss[k]!).length cb) ∧ isA A ∧ SrcIs D w l B ((xss[k]!).map u8v) ∧ xss[k]! = xss[k]! := fun k hlt l => by
    have hlk : k < hs.length := by rw [hl]; show k < xss.length * 1; omega
    have hA : isA A := HS.isA (by intro h; simp [h] at hlk)
    have hu : Old D w (Rep.rep xss[k] [hs[k]]) := by
      have := hel k _ (List.getElem?_eq_getElem hlt)
      have e1 : (hs.drop (k * 1)).take 1 = [hs[k]] := by rw [Nat.mul_one, List.drop_eq_getElem_cons hlk]; rfl
      rw [show Rep.sz (List UInt8) = 1 from rfl, e1] at this
      exact this
    have hcell : CellIs D w l (ab A) (ao A + k * 1) hs[k] := by
      rw [Nat.mul_one]
      exact (SrcIs.old HS).cell (by simp [hlk])
    have hg : xss[k]! = xss[k] := getElem!_pos xss k hlt
    obtain ⟨B, cb, he, _, _, hB⟩ := hu.openB
    rw [he] at hcell
    rw [hg]
    exact ⟨B, cb, hcell, hA, SrcIs.old hB, rfl⟩
  have hsn : ∀ k, k < xss.length → (xss.take (k + 1)).flatten = (xss.take k).flatten ++ xss[k]! := fun k hk => by rw [getElem!_pos xss k hk]; exact flat_snoc xss k hk
  refine hc_enter (vs := [.slice A xss.length cap]) Tryz.func96 rfl _ Tryz.ntmps96 rfl (Own.start D w) ?_
  simp only [argSlots, Nat.zero_add]
  refine hc_seq <| hc_region <| hl_v (ov_assign rfl) rfl <| hl_nil <| hx_then_normal <| hc_seq <| ?_
  refine hc_region <| hl_v (ov_assign rfl) rfl <| hl_nil <| hx_then_normal <| hc_seq <| hc_seq <| ?_
  refine hc_region <| hl_v (ov_move rfl) rfl <| hl_v (by first | exact ov_len rfl | exact ov_lenS rfl) rfl <| ?_
  refine hl_v (ov_move rfl) rfl <| hl_nil <| hx_then_normal <| hc_block <| ?_
  refine hc_loops2 (σ := Nat) [0, 9, 10] rfl 11 (fun k => .int .i64 (k : Int)) 3 (fun k => .int .i64 (((xss.take k).flatten.length : Nat) : Int)) (fun k => k ≤ xss.length) (fun k => xss.length - k) (0) (Nat.zero_le _) rfl rfl ?_
  rintro k hj K1 hK1
  have hle := flat_le xss k
  refine hc_seq <| hc_region <| hl_v (ov_lss rfl rfl) rfl <| hl_nil <| hx_then_normal <| hc_seq <| ?_
  refine hc_cond rfl (fun h => ?_) (fun h => ?_)
  · have hlt : k < xss.length := by omega
    obtain ⟨B, cb, hcell, hA, _, _⟩ := hat k hlt []
    have hk1 := hsn k hlt
    have hle1 := flat_le xss (k + 1)
    have hlen := congrArg List.length hk1
    rw [List.length_append] at hlen
    generalize xss[k]! = xs at *
    refine hc_skip <| hx_then_normal <| hc_seq <| hc_block <| hc_seq <| hc_region <| ?_
    refine hl_v (ov_idxS rfl (by assumption) rfl _ rfl (by omega)) rfl <| hl_v (by first | exact ov_load rfl (by assumption) | exact ov_load rfl (hcl _) | exact ov_load rfl (hcl2 _) | exact ov_load rfl (hcl3 _) | exact ov_load rfl (CellIs.blk rfl)) rfl <| ?_
    refine hl_v (ov_assign rfl) rfl <| hl_nil <| hx_then_normal <| hc_seq <| hc_region <| hl_v (ov_move rfl) rfl <| ?_
    refine hl_v (ov_move rfl) rfl <| hl_v (by first | exact ov_len rfl | exact ov_lenS rfl) rfl <| ?_
    refine hl_v (ov_add (m := (((xss.take (k + 1)).flatten.length : Nat) : Int)) rfl rfl (by rw [wrap_i64 (by omega)]; omega)) rfl ?_
    refine hl_v (ov_assign rfl) rfl <| hl_nil <| hx_then_normal <| hc_seq <| hc_region <| hl_v (ov_move rfl) rfl <| ?_
    refine hl_v (ov_lss rfl rfl) rfl <| hl_nil <| hx_then_normal <| ?_
    refine hc_cond_F rfl (by omega) ?_
    refine hc_skip <| hx_block_normal <| hx_then_normal <| hc_region <| hl_v (ov_add rfl rfl (by first | exact wrap_i64 (by omega) | rfl)) rfl <| ?_
    refine hl_v (ov_move rfl) rfl <| hl_nil <| ?_
    refine hx_next hK1 (k + 1) (by omega) (by omega) (by repeat (first | exact Slots.sub_nil _ | refine Slots.sub_cons rfl ?_)) (by first | assumption | exact Ent.refl _ | exact Ent.nil _ | (repeat (first | exact Ent.refl _ | exact Ent.nil _ | refine Ent.pick ?_)))
  have hk : k = xss.length := by omega
  subst hk
  rw [List.take_length]
  refine hc_exit <| hx_then_exit <| hx_then_exit <| hx_block_out <| hx_then_normal <| hc_seq <| ?_
  refine hc_region <| hl_v (ov_move rfl) rfl <| ?_
  refine hl_call (σ := Option Addr × Nat) Tryz.call138 rfl rfl (fun w1 H1 => Own.callx0 H1 fun D' hold hin H2 => Grow_none D' w1 xss.flatten.length h1) ?_
  intro q
  try rw [List.nil_append]
  refine hl_v (ov_assign rfl) rfl <| hl_nil <| hx_then_normal <| hc_seq <| hc_seq <| hc_region <| ?_
  refine hl_v (ov_move rfl) rfl <| hl_v (by first | exact ov_len rfl | exact ov_lenS rfl) rfl <| ?_
  refine hl_v (ov_move rfl) rfl <| hl_nil <| hx_then_normal <| hc_block <| ?_
  refine hc_loopK2 (σ := Nat × Nat × List Value × Option Addr × Nat) [25, 26] rfl 27 (fun s => .int .i64 (s.1 : Int)) 6 (fun s => .slice s.2.2.2.1 s.2.1 s.2.2.2.2) (fun s => [row s.2.2.2.1 5 1 s.2.1 s.2.2.2.2 s.2.2.1]) (fun s => s.1 ≤ xss.length ∧ s.2.1 = (xss.take s.1).flatten.length ∧ s.2.2.1 = (xss.take s.1).flatten.map u8v) (fun s => xss.length - s.1) ((0, 0, [], q)) (⟨Nat.zero_le _, rfl, rfl⟩) rfl rfl (by first | assumption | exact Ent.refl _ | exact Ent.nil _ | (repeat (first | exact Ent.refl _ | exact Ent.nil _ | refine Ent.pick ?_))) ?_
  rintro ⟨k, n, cs, A2, c2⟩ hj_ K2 hK2
  dsimp only at hj_ ⊢
  obtain ⟨hk, hn, hcs⟩ := hj_
  have hle := flat_le xss k
  refine hc_seq <| hc_region <| hl_v (ov_lss rfl rfl) rfl <| hl_nil <| hx_then_normal <| hc_seq <| ?_
  refine hc_cond rfl (fun h => ?_) (fun h => ?_)
  · have hlt : k < xss.length := by omega
    obtain ⟨B, cb, hcell, hA, hsrc, _⟩ := hat k hlt [row A2 5 1 n c2 cs]
    have hk1 := hsn k hlt
    have hle1 := flat_le xss (k + 1)
    have hlen := congrArg List.length hk1
    rw [List.length_append] at hlen
    generalize xss[k]! = xs at *
    refine hc_skip <| hx_then_normal <| hc_seq <| hc_block <| hc_seq <| hc_region <| ?_
    refine hl_v (ov_idxS rfl (by assumption) rfl _ rfl (by omega)) rfl <| hl_v (by first | exact ov_load rfl (by assumption) | exact ov_load rfl (hcl _) | exact ov_load rfl (hcl2 _) | exact ov_load rfl (hcl3 _) | exact ov_load rfl (CellIs.blk rfl)) rfl <| ?_
    refine hl_v (ov_assign rfl) rfl <| hl_nil <| hx_then_normal <| hc_region <| hl_v (ov_move rfl) rfl <| hl_v (ov_move rfl) rfl <| ?_
    refine hl_new (on_appendR (news := xs.map u8v) rfl rfl hsrc (by simp) (u8_one xs) (by decide) (by omega)) rfl rfl rfl (fun q2 => ?_)
    refine hl_v (ov_assign rfl) rfl <| hl_nil <| hx_block_normal <| hx_then_normal <| hc_region <| hl_v (ov_add rfl rfl (by first | exact wrap_i64 (by omega) | rfl)) rfl <| ?_
    refine hl_v (ov_move rfl) rfl <| hl_nil <| ?_
    have hn' : n + xs.length = (xss.take (k + 1)).flatten.length := by omega
    have hcs' : cs ++ xs.map u8v = (xss.take (k + 1)).flatten.map u8v := by rw [hcs, hk1, List.map_append]
    have hk2 : k + 1 ≤ xss.length := hlt
    have hk3 : xss.length - (k + 1) < xss.length - k := by omega
    refine hx_next hK2 ((k + 1, n + xs.length, cs ++ xs.map u8v, q2)) (⟨hk2, hn', hcs'⟩) (hk3) (by repeat (first | exact Slots.sub_nil _ | refine Slots.sub_cons rfl ?_)) (by first | assumption | exact Ent.refl _ | exact Ent.nil _ | (repeat (first | exact Ent.refl _ | exact Ent.nil _ | refine Ent.pick ?_)))
  have hk' : k = xss.length := by omega
  subst hk'
  rw [List.take_length] at hn hcs
  subst hn; subst hcs
  refine hc_exit <| hx_then_exit <| hx_then_exit <| hx_block_out <| hx_then_normal <| hc_seq <| ?_
  refine hc_region <| hl_v (ov_move rfl) rfl <| hl_v (ov_assign rfl) rfl <| hl_nil <| hx_then_normal <| hc_ret <| ?_
  exact results_1 (.inr rfl) rfl rfl fun w' H' => ⟨(A2, c2), rfl, H'⟩
theorem Chunk_spec (D : Nat → Prop) (w : World) (A : Option Addr) (n cap : Nat) :
    Calls Tryz.prog 139 #[.slice A n cap, .int .i64 63] w fun e w' => ∃ q : Nat × Nat, e = .returned (.func (.func 157) #[] #[.pointer (some ⟨q.1, 0, none⟩), .pointer (some ⟨q.2, 0, none⟩)]) ∧ Own D w w' [blk q.1 108 [.slice A n cap], blk q.2 3 [.int .i64 63]] := by
  refine hc_enter (vs := [.slice A n cap, .int .i64 63]) Tryz.func139 rfl _ Tryz.ntmps139 rfl (Own.start D w) ?_
  simp only [argSlots, Nat.zero_add]
  refine hc_seq <| hc_region <| hl_new (on_boxN rfl rfl) rfl rfl rfl fun b2 =>  ?_
  refine hl_new (on_boxN rfl rfl) rfl rfl rfl fun b3 =>  ?_
  refine hl_v (ov_assign rfl) rfl <| hl_nil <| hx_then_normal <| hc_seq <| hc_seq <| hc_region <| ?_
  refine hl_v (ov_load rfl (CellIs.blk rfl)) rfl <| hl_v (ov_lss rfl rfl) rfl <| hl_nil <| hx_then_normal <| ?_
  refine hc_cond_F rfl (by decide) ?_
  refine hc_skip <| hx_then_normal <| hc_seq <| hc_region <| hl_v (ov_func rfl rfl) rfl <| hl_v (ov_assign rfl) rfl <| ?_
  refine hl_nil <| hx_then_normal <| hc_ret <| ?_
  exact results_1 (.inr rfl) rfl rfl fun w' H' => ⟨(b2, b3), rfl, H'.ent (by first | assumption | exact Ent.refl _ | exact Ent.nil _ | exact Ent.row_any (Ent.refl _) | (repeat (first | exact Ent.refl _ | exact Ent.nil _ | refine Ent.pick ?_)))⟩
end Go.Proofs.YtjlolpmmpafjeaaGreat
