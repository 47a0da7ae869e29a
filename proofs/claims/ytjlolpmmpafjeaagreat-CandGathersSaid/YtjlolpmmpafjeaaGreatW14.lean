import Derived.Test.YtjlolpmmpafjeaaGreatW13
import Derived.Test.YtjlolpmmpafjeaaGreatW02
set_option linter.unusedVariables false
set_option linter.unusedSimpArgs false
namespace Go.Proofs.YtjlolpmmpafjeaaGreat
open Slk
/-! ### Four bytes, and a number -/
def fourB (n : Nat) : List UInt8 := [UInt8.ofNat (n / 16777216), UInt8.ofNat (n / 65536), UInt8.ofNat (n / 256), UInt8.ofNat n]
theorem fourB_length (n : Nat) : (fourB n).length = 4 := rfl
theorem u8v_ofNatE (m : Nat) : u8v (UInt8.ofNat m) = .int .u8 ((m % 256 : Nat) : Int) := by simp [u8v]
theorem fourB_cells (n : Nat) : (fourB n).map u8v = [.int .u8 ((n / 16777216 % 256 : Nat) : Int), .int .u8 ((n / 65536 % 256 : Nat) : Int), .int .u8 ((n / 256 % 256 : Nat) : Int), .int .u8 ((n % 256 : Nat) : Int)] := by
  simp only [fourB, List.map_cons, List.map_nil, u8v_ofNatE]
theorem wrap8E (m : Nat) : IntKind.u8.wrap (m : Int) = ((m % 256 : Nat) : Int) := by
  show ((m : Int) % 2 ^ 8) = _
  omega
theorem shr_nat (n k : Nat) : ((n : Int)).fdiv (2 ^ k) = ((n / 2 ^ k : Nat) : Int) := by
  rw [Int.fdiv_eq_ediv_of_nonneg _ (Int.le_of_lt (Int.pow_pos (by decide)))]
  simp
theorem four_spec (D : Nat → Prop) (w : World) (n : Nat) (hn : n < 4294967296) :
    Calls Tryz.prog 158 #[.int .u32 n] w fun e w' => ∃ b : Nat, e = .returned (.slice (some ⟨b, 0, none⟩) 4 4) ∧ Own D w w' [row (some ⟨b, 0, none⟩) 5 1 4 4 ((fourB n).map u8v)] := by
  rw [fourB_cells]
  refine hc_enter (vs := [.int .u32 n]) Tryz.func158 rfl _ Tryz.ntmps158 rfl (Own.start D w) ?_
  simp only [argSlots, Nat.zero_add]
  refine zg <| hl_v (ov_assign rfl) rfl <| zn <| hc_seq <| ?_
  refine hc_region <| hl_v (ov_move rfl) rfl <| ?_
  refine hl_v (ov_shr (m := ((n / 16777216 : Nat) : Int)) rfl rfl (by decide) (shr_nat n 24)) rfl ?_
  refine hl_v (ov_conv (m := ((n / 16777216 % 256 : Nat) : Int)) rfl (wrap8E _)) rfl ?_
  refine hl_v (ov_move rfl) rfl <| ?_
  refine hl_v (ov_shr (m := ((n / 65536 : Nat) : Int)) rfl rfl (by decide) (shr_nat n 16)) rfl ?_
  refine hl_v (ov_conv (m := ((n / 65536 % 256 : Nat) : Int)) rfl (wrap8E _)) rfl ?_
  refine hl_v (ov_move rfl) rfl <| ?_
  refine hl_v (ov_shr (m := ((n / 256 : Nat) : Int)) rfl rfl (by decide) (shr_nat n 8)) rfl ?_
  refine hl_v (ov_conv (m := ((n / 256 % 256 : Nat) : Int)) rfl (wrap8E _)) rfl ?_
  refine hl_v (ov_move rfl) rfl <| ?_
  refine hl_v (ov_conv (m := ((n % 256 : Nat) : Int)) rfl (wrap8E _)) rfl ?_
  refine hl_new (on_buildSliceN rfl rfl rfl) rfl rfl rfl fun b14 => 
    hl_v (ov_assign rfl) rfl <| zn <| hc_ret <| ?_
  exact results_1 (.inr rfl) rfl rfl fun w' H' => ⟨_, rfl, H'.ent (Ent.blk_row 1 4 rfl (by decide))⟩
def numE (xs : List UInt8) : Nat := xs.foldl (fun n c => n * 256 + c.toNat) 0
theorem numE_snoc (xs : List UInt8) (k : Nat) (h : k < xs.length) : numE (xs.take (k + 1)) = numE (xs.take k) * 256 + xs[k].toNat := by
  unfold numE
  rw [take_snoc xs k h, List.foldl_append]; rfl
theorem numE_lt (xs : List UInt8) (k : Nat) (hk : k ≤ xs.length) : numE (xs.take k) < 256 ^ k := by
  induction k with
  | zero => simp [numE]
  | succ k ih =>
    rw [numE_snoc xs k (by omega)]
    have := ih (by omega)
    have hb := xs[k].toNat_lt
    rw [Nat.pow_succ]; omega
theorem or_byte (a b : Nat) (ha : a < 16777216) (hb : b < 256) : IntKind.u32.wrap (BitVec.ofInt 32 (((a * 256 : Nat) : Int)) ||| BitVec.ofInt 32 (b : Int)).toNat = ((a * 256 + b : Nat) : Int) := by
  have e1 : BitVec.ofInt 32 ((a * 256 : Nat) : Int) = BitVec.ofNat 32 (a * 256) := rfl
  have e2 : BitVec.ofInt 32 (b : Int) = BitVec.ofNat 32 b := rfl
  rw [e1, e2, BitVec.toNat_or, BitVec.toNat_ofNat, BitVec.toNat_ofNat]
  rw [Nat.mod_eq_of_lt (by omega), Nat.mod_eq_of_lt (by omega)]
  have := Nat.two_pow_add_eq_or_of_lt (i := 8) (b := b) (by omega) a
  rw [show a * 256 = 2 ^ 8 * a by omega, ← this]
  exact wrap_u32 (by omega)
theorem number_spec (D : Nat → Prop) (w : World) (v : Value) (xs : List UInt8) (hl : xs.length ≤ 4) (HA : Old D w (Rep.rep xs [v])) :
    Calls Tryz.prog 123 #[v] w fun e w' => e = .returned (.int .u32 (numE xs)) ∧ Own D w w' [] := by
  obtain ⟨A, cap, rfl, hc1, hc2, HS⟩ := HA.openB
  refine hc_enter (vs := [.slice A xs.length cap]) Tryz.func123 rfl _ Tryz.ntmps123 rfl (Own.start D w) ?_
  simp only [argSlots, Nat.zero_add]
  refine zg <| hl_v (ov_assign rfl) rfl <| zn <| hc_seq <| ?_
  refine hc_region <| hl_v (ov_assign rfl) rfl <| zn <| hc_seq <| hc_seq <| ?_
  refine hc_region <| hl_v (ov_move rfl) rfl <| hl_v za15 rfl <| ?_
  refine hl_v (ov_move rfl) rfl <| zn <| hc_block <| ?_
  refine hc_loops2 (σ := Nat) [6, 7] rfl 8 (fun k => .int .i64 (k : Int)) 3 (fun k => .int .u32 ((numE (xs.take k) : Nat) : Int)) (fun k => k ≤ xs.length) (fun k => xs.length - k) (0) (Nat.zero_le _) rfl rfl ?_
  rintro k hj K1 hK1
  refine zg <| hl_v (ov_lss rfl rfl) rfl <| zn <| hc_seq <| ?_
  refine hc_cond rfl (fun h => ?_) (fun h => ?_)
  · have hlt : k < xs.length := by omega
    have hA : isA A := HS.isA za17
    have hcell : CellIs D w [] (ab A) (ao A + k * 1) (u8v xs[k]) := by
      rw [Nat.mul_one]
      exact (SrcIs.old HS).cell (by simp [hlt])
    have hx := xs[k].toNat_lt
    have hsn := numE_snoc xs k hlt
    have hb := numE_lt xs k hj
    have hb3 : numE (xs.take k) < 16777216 := Nat.lt_of_lt_of_le hb (by have : 256 ^ k ≤ 256 ^ 3 := Nat.pow_le_pow_right (by decide) (by omega); exact this)
    obtain ⟨m, hm⟩ : ∃ m, m = numE (xs.take k) := ⟨_, rfl⟩
    rw [← hm] at hsn hb3
    unfold u8v at hcell
    refine zk <| hc_seq <| hc_block <| zg <| ?_
    refine hl_v (ov_idxS rfl (by assumption) rfl _ rfl (by omega)) rfl <| hl_v za5 rfl <| ?_
    refine hl_v (ov_assign rfl) rfl <| zn <| hc_region <| hl_v (ov_move rfl) rfl <| ?_
    refine hl_v (ov_shl (m := ((m * 256 : Nat) : Int)) rfl rfl (by decide) (by rw [← hm]; show IntKind.u32.wrap ((m : Int) * 256) = _; rw [show (m : Int) * 256 = ((m * 256 : Nat) : Int) by omega]; exact wrap_u32 (by omega))) rfl ?_
    refine hl_v (ov_move rfl) rfl <| hl_v (ov_conv rfl za20) rfl <| ?_
    refine hl_v (ov_or (m := ((numE (xs.take (k + 1)) : Nat) : Int)) rfl rfl (by rw [hsn]; exact or_byte m _ hb3 hx)) rfl ?_
    refine hl_v (ov_assign rfl) rfl <| hl_nil <| hx_block_normal <| hx_then_normal <| hc_region <| hl_v (ov_add rfl rfl za18) rfl <| ?_
    refine hl_v (ov_move rfl) rfl <| hl_nil <| ?_
    refine hx_next hK1 (k + 1) (by omega) (by omega) za9 za6
  have : k = xs.length := by omega
  subst this
  refine hc_exit <| hx_then_exit <| hx_then_exit <| hx_block_out <| hx_then_normal <| hc_seq <| ?_
  refine hc_region <| hl_v (ov_move rfl) rfl <| hl_v (ov_assign rfl) rfl <| zn <| hc_ret <| ?_
  exact results_1 (.inr rfl) rfl rfl fun w' H' => ⟨by rw [List.take_length], H'⟩
def needN (n : Int) : Int := if n < 0 ∨ 4000 < n then 0 else (n + 77) / 63
theorem Need_spec (D : Nat → Prop) (w : World) (n : Int) :
    Calls Tryz.prog 97 #[.int .i64 n] w fun e w' => e = .returned (.int .i64 (needN n)) ∧ Own D w w' [] := by
  refine hc_enter (vs := [.int .i64 n]) Tryz.func97 rfl _ Tryz.ntmps97 rfl (Own.start D w) ?_
  simp only [argSlots, Nat.zero_add]
  refine zg <| hl_v (ov_assign rfl) rfl <| zn <| hc_seq <| ?_
  refine zg <| hl_v (ov_move rfl) rfl <| hl_v (ov_lss rfl rfl) rfl <| hl_v (ov_move rfl) rfl <| ?_
  refine hl_part (t := 5) rfl (fun h0 => ?_) (fun h0 => ?_)
  · skip
    have : needN n = 0 := by unfold needN; rw [if_pos (.inl h0)]
    rw [this]
    refine hl_off rfl rfl rfl rfl rfl rfl <| hl_off rfl rfl rfl rfl rfl rfl <| hl_v (ov_pickT rfl rfl) rfl <| zn <| hc_cond_true rfl <| ?_
    refine zg <| hl_v (ov_assign rfl) rfl <| zn <| hc_ret <| ?_
    refine hx_then_ret <| ?_
    exact results_1 (.inr rfl) rfl rfl fun w' H' => ⟨rfl, H'⟩
  refine hl_on rfl rfl <| hl_v (ov_move rfl) rfl <| hl_on rfl rfl <| hl_v (ov_gtr rfl rfl) rfl <| hl_v (ov_pickF rfl rfl) rfl <| zn <| ?_
  by_cases h1 : 4000 < n
  · have : needN n = 0 := by unfold needN; rw [if_pos (.inr h1)]
    rw [this]
    refine hc_cond_T rfl (by omega) ?_
    refine zg <| hl_v (ov_assign rfl) rfl <| zn <| hc_ret <| ?_
    refine hx_then_ret <| ?_
    exact results_1 (.inr rfl) rfl rfl fun w' H' => ⟨rfl, H'⟩
  have : needN n = (n + 77) / 63 := by unfold needN; rw [if_neg (by omega)]
  rw [this]
  refine hc_cond_F rfl (by omega) ?_
  refine zk <| zg <| hl_v (ov_move rfl) rfl <| hl_v (ov_add rfl rfl za18) rfl <| ?_
  refine hl_v (ov_add rfl rfl za18) rfl <| ?_
  refine hl_v (ov_add rfl rfl za18) rfl <| ?_
  refine hl_v (ov_sub rfl rfl za18) rfl <| ?_
  refine hl_v (ov_quo (m := (n + 77) / 63) rfl rfl (by decide) (by rw [Int.tdiv_eq_ediv_of_nonneg (by omega)]; rw [show 11 + n + 4 + 63 - 1 = n + 77 by omega]; exact wrap_i64 (by omega))) rfl ?_
  refine hl_v (ov_assign rfl) rfl <| zn <| hc_ret <| ?_
  exact results_1 (.inr rfl) rfl rfl fun w' H' => ⟨rfl, H'⟩
/-! ### The library's Grow, Concat, Chunk -/
theorem cut_zeroE (c : Prop) [Decidable c] (A : Option Addr) (s : Nat) : (if c then A else A.map (·.add (0 * s))) = A := by
  split
  · rfl
  cases A with
  | none => rfl
  | some a => simp [Addr.add]
theorem Grow_nil (D : Nat → Prop) (w : World) (n : Nat) (h0 : 0 < n) (h1 : n ≤ 1000000) :
    Calls Tryz.prog 138 #[.slice none 0 0, .int .i64 n] w fun e w' => ∃ q : Option Addr × Nat, e = .returned (.slice q.1 0 q.2) ∧ Own D w w' [row q.1 5 1 0 q.2 []] := by
  refine hc_enter (vs := [.slice none 0 0, .int .i64 n]) Tryz.func138 rfl _ Tryz.ntmps138 rfl (Own.start D w) ?_
  simp only [argSlots, Nat.zero_add]
  refine zg <| hl_v (ov_assign rfl) rfl <| zn <| hc_seq <| ?_
  refine zg <| hl_v (ov_move rfl) rfl <| hl_v (ov_lss rfl rfl) rfl <| zn <| ?_
  refine hc_cond_F rfl (by omega) ?_
  refine zk <| hc_seq <| zg <| hl_v (ov_move rfl) rfl <| ?_
  refine hl_v (ov_move rfl) rfl <| hl_v (ov_cap rfl) rfl <| hl_v (ov_move rfl) rfl <| hl_v za15 rfl <| ?_
  refine hl_v (ov_sub rfl rfl za18) rfl <| ?_
  refine hl_v (ov_sub rfl rfl za18) rfl <| ?_
  refine hl_v (ov_assign rfl) rfl <| zn <| zg <| hl_v (ov_move rfl) rfl <| ?_
  refine hl_v (ov_gtr rfl rfl) rfl <| zn <| ?_
  refine hc_cond_T rfl (by omega) ?_
  refine hc_region <| hl_v (ov_move rfl) rfl <| hl_v (ov_move rfl) rfl <| hl_v (ov_cap rfl) rfl <| hl_v (ov_slice rfl _ _ (.inl ⟨rfl, rfl⟩) (.inr ⟨_, _, rfl, rfl⟩) (by omega) (by omega)) rfl <| hl_v (ov_move rfl) rfl <| ?_
  refine hl_new (on_appendZ (m := n) rfl rfl (by omega) h0 (by decide) (by decide) (by omega)) rfl rfl rfl (fun q => ?_)
  refine hl_v (ov_move rfl) rfl <| hl_v za15 rfl <| ?_
  refine hl_v (ov_slice rfl _ _ (.inl ⟨rfl, rfl⟩) (.inr ⟨_, _, rfl, rfl⟩) (by omega) (by omega)) rfl <| hl_v (ov_assign rfl) rfl <| zn <| zg <| ?_
  refine hl_v (ov_move rfl) rfl <| hl_v (ov_assign rfl) rfl <| zn <| hc_ret <| ?_
  exact results_1 (.inr rfl) rfl rfl fun w' H' => ⟨q, by rw [cut_zeroE]; rfl, H'.ent Ent.row_zero⟩
theorem Grow_none (D : Nat → Prop) (w : World) (n : Nat) (h1 : n ≤ 1000000) :
    Calls Tryz.prog 138 #[.slice none 0 0, .int .i64 n] w fun e w' => ∃ q : Option Addr × Nat, e = .returned (.slice q.1 0 q.2) ∧ Own D w w' [row q.1 5 1 0 q.2 []] := by
  rcases Nat.eq_zero_or_pos n with rfl | h0
  · have _h := h1
    refine hc_enter (vs := [.slice none 0 0, .int .i64 ((0 : Nat) : Int)]) Tryz.func138 rfl _ Tryz.ntmps138 rfl (Own.start D w) ?_
    simp only [argSlots, Nat.zero_add]
    refine zg <| hl_v (ov_assign rfl) rfl <| zn <| hc_seq <| ?_
    refine zg <| hl_v (ov_move rfl) rfl <| hl_v (ov_lss rfl rfl) rfl <| zn <| ?_
    refine hc_cond_F rfl (by omega) ?_
    refine zk <| hc_seq <| zg <| hl_v (ov_move rfl) rfl <| ?_
    refine hl_v (ov_move rfl) rfl <| hl_v (ov_cap rfl) rfl <| hl_v (ov_move rfl) rfl <| hl_v za15 rfl <| ?_
    refine hl_v (ov_sub rfl rfl za18) rfl <| ?_
    refine hl_v (ov_sub rfl rfl za18) rfl <| ?_
    refine hl_v (ov_assign rfl) rfl <| zn <| zg <| hl_v (ov_move rfl) rfl <| ?_
    refine hl_v (ov_gtr rfl rfl) rfl <| zn <| ?_
    refine hc_cond_F rfl (by omega) ?_
    refine zk <| zg <| hl_v (ov_move rfl) rfl <| hl_v (ov_assign rfl) rfl <| ?_
    refine zn <| hc_ret <| ?_
    exact results_1 (.inr rfl) rfl rfl fun w' H' => ⟨(none, 0), rfl, H'.ent (Ent.nil_row _ _)⟩
  exact Grow_nil D w n h0 h1
theorem flat_snoc (xss : List (List UInt8)) (k : Nat) (h : k < xss.length) : (xss.take (k + 1)).flatten = (xss.take k).flatten ++ xss[k] := by
  rw [take_snoc xss k h, List.flatten_append]; simp
theorem flat_le (xss : List (List UInt8)) (k : Nat) : (xss.take k).flatten.length ≤ xss.flatten.length := by
  have : xss.flatten = (xss.take k).flatten ++ (xss.drop k).flatten := by rw [← List.flatten_append, List.take_append_drop]
  rw [this, List.length_append]; omega
theorem Concat_spec (D : Nat → Prop) (w : World) (v : Value) (xss : List (List UInt8)) (h1 : xss.flatten.length ≤ 1000000) (HA : Old D w (Rep.rep xss [v])) :
    Calls Tryz.prog 96 #[v] w fun e w' => ∃ q : Option Addr × Nat, e = .returned (.slice q.1 xss.flatten.length q.2) ∧ Own D w w' [row q.1 5 1 xss.flatten.length q.2 (xss.flatten.map u8v)] := by
  obtain ⟨A, cap, hs, rfl, hc1, hc2, HS, hl, _, hel⟩ := HA.open
  have hat : ∀ k, k < xss.length → ∀ l, ∃ B cb, CellIs D w l (ab A) (ao A + k * 1) (.slice B (xss[k]!).length cb) ∧ isA A ∧ SrcIs D w l B ((xss[k]!).map u8v) ∧ xss[k]! = xss[k]! := fun k hlt l => by
    have hlk : k < hs.length := by rw [hl]; show k < xss.length * 1; omega
    have hA : isA A := HS.isA (by intro h; simp [h] at hlk)
    have hu : Old D w (Rep.rep xss[k] [hs[k]]) := by
      have := hel k _ (List.getElem?_eq_getElem hlt)
      have e1 : (hs.drop (k * 1)).take 1 = [hs[k]] := by rw [Nat.mul_one, List.drop_eq_getElem_cons hlk]; rfl
      rw [show Rep.sz (List UInt8) = 1 from rfl, e1] at this
      exact this
    have hcell : CellIs D w l (ab A) (ao A + k * 1) hs[k] := by
      rw [Nat.mul_one]
      exact (SrcIs.old HS).cell (by simp [hlk])
    have hg : xss[k]! = xss[k] := getElem!_pos xss k hlt
    obtain ⟨B, cb, he, _, _, hB⟩ := hu.openB
    rw [he] at hcell
    rw [hg]
    exact ⟨B, cb, hcell, hA, SrcIs.old hB, rfl⟩
  have hsn : ∀ k, k < xss.length → (xss.take (k + 1)).flatten = (xss.take k).flatten ++ xss[k]! := fun k hk => by rw [getElem!_pos xss k hk]; exact flat_snoc xss k hk
  refine hc_enter (vs := [.slice A xss.length cap]) Tryz.func96 rfl _ Tryz.ntmps96 rfl (Own.start D w) ?_
  simp only [argSlots, Nat.zero_add]
  refine zg <| hl_v (ov_assign rfl) rfl <| zn <| hc_seq <| ?_
  refine hc_region <| hl_v (ov_assign rfl) rfl <| zn <| hc_seq <| hc_seq <| ?_
  refine hc_region <| hl_v (ov_move rfl) rfl <| hl_v za15 rfl <| ?_
  refine hl_v (ov_move rfl) rfl <| zn <| hc_block <| ?_
  refine hc_loops2 (σ := Nat) [0, 9, 10] rfl 11 (fun k => .int .i64 (k : Int)) 3 (fun k => .int .i64 (((xss.take k).flatten.length : Nat) : Int)) (fun k => k ≤ xss.length) (fun k => xss.length - k) (0) (Nat.zero_le _) rfl rfl ?_
  rintro k hj K1 hK1
  have hle := flat_le xss k
  refine zg <| hl_v (ov_lss rfl rfl) rfl <| zn <| hc_seq <| ?_
  refine hc_cond rfl (fun h => ?_) (fun h => ?_)
  · have hlt : k < xss.length := by omega
    obtain ⟨B, cb, hcell, hA, _, _⟩ := hat k hlt []
    have hk1 := hsn k hlt
    have hle1 := flat_le xss (k + 1)
    have hlen := congrArg List.length hk1
    rw [List.length_append] at hlen
    generalize xss[k]! = xs at *
    refine zk <| hc_seq <| hc_block <| zg <| ?_
    refine hl_v (ov_idxS rfl (by assumption) rfl _ rfl (by omega)) rfl <| hl_v za5 rfl <| ?_
    refine hl_v (ov_assign rfl) rfl <| zn <| zg <| hl_v (ov_move rfl) rfl <| ?_
    refine hl_v (ov_move rfl) rfl <| hl_v za15 rfl <| ?_
    refine hl_v (ov_add (m := (((xss.take (k + 1)).flatten.length : Nat) : Int)) rfl rfl za25) rfl ?_
    refine hl_v (ov_assign rfl) rfl <| zn <| zg <| hl_v (ov_move rfl) rfl <| ?_
    refine hl_v (ov_lss rfl rfl) rfl <| zn <| ?_
    refine hc_cond_F rfl (by omega) ?_
    refine hc_skip <| hx_block_normal <| hx_then_normal <| hc_region <| hl_v (ov_add rfl rfl za18) rfl <| ?_
    refine hl_v (ov_move rfl) rfl <| hl_nil <| ?_
    refine hx_next hK1 (k + 1) (by omega) (by omega) za9 za6
  have hk : k = xss.length := by omega
  subst hk
  rw [List.take_length]
  refine hc_exit <| hx_then_exit <| hx_then_exit <| hx_block_out <| hx_then_normal <| hc_seq <| ?_
  refine hc_region <| hl_v (ov_move rfl) rfl <| ?_
  refine hl_call (σ := Option Addr × Nat) Tryz.call138 rfl rfl (fun w1 H1 => Own.callx0 H1 fun D' hold hin H2 => Grow_none D' w1 xss.flatten.length h1) ?_
  intro q
  try rw [List.nil_append]
  refine hl_v (ov_assign rfl) rfl <| zn <| hc_seq <| zg <| ?_
  refine hl_v (ov_move rfl) rfl <| hl_v za15 rfl <| ?_
  refine hl_v (ov_move rfl) rfl <| zn <| hc_block <| ?_
  refine hc_loopK2 (σ := Nat × Nat × List Value × Option Addr × Nat) [25, 26] rfl 27 (fun s => .int .i64 (s.1 : Int)) 6 (fun s => .slice s.2.2.2.1 s.2.1 s.2.2.2.2) (fun s => [row s.2.2.2.1 5 1 s.2.1 s.2.2.2.2 s.2.2.1]) (fun s => s.1 ≤ xss.length ∧ s.2.1 = (xss.take s.1).flatten.length ∧ s.2.2.1 = (xss.take s.1).flatten.map u8v) (fun s => xss.length - s.1) ((0, 0, [], q)) (⟨Nat.zero_le _, rfl, rfl⟩) rfl rfl za6 ?_
  rintro ⟨k, n, cs, A2, c2⟩ hj_ K2 hK2
  dsimp only at hj_ ⊢
  obtain ⟨hk, hn, hcs⟩ := hj_
  have hle := flat_le xss k
  refine zg <| hl_v (ov_lss rfl rfl) rfl <| zn <| hc_seq <| ?_
  refine hc_cond rfl (fun h => ?_) (fun h => ?_)
  · have hlt : k < xss.length := by omega
    obtain ⟨B, cb, hcell, hA, hsrc, _⟩ := hat k hlt [row A2 5 1 n c2 cs]
    have hk1 := hsn k hlt
    have hle1 := flat_le xss (k + 1)
    have hlen := congrArg List.length hk1
    rw [List.length_append] at hlen
    generalize xss[k]! = xs at *
    refine zk <| hc_seq <| hc_block <| zg <| ?_
    refine hl_v (ov_idxS rfl (by assumption) rfl _ rfl (by omega)) rfl <| hl_v za5 rfl <| ?_
    refine hl_v (ov_assign rfl) rfl <| zn <| hc_region <| hl_v (ov_move rfl) rfl <| hl_v (ov_move rfl) rfl <| ?_
    refine hl_new (on_appendR (news := xs.map u8v) rfl rfl hsrc (by simp) (u8_one xs) (by decide) (by omega)) rfl rfl rfl (fun q2 => ?_)
    refine hl_v (ov_assign rfl) rfl <| hl_nil <| hx_block_normal <| hx_then_normal <| hc_region <| hl_v (ov_add rfl rfl za18) rfl <| ?_
    refine hl_v (ov_move rfl) rfl <| hl_nil <| ?_
    have hn' : n + xs.length = (xss.take (k + 1)).flatten.length := by omega
    have hcs' : cs ++ xs.map u8v = (xss.take (k + 1)).flatten.map u8v := by rw [hcs, hk1, List.map_append]
    have hk2 : k + 1 ≤ xss.length := hlt
    have hk3 : xss.length - (k + 1) < xss.length - k := by omega
    refine hx_next hK2 ((k + 1, n + xs.length, cs ++ xs.map u8v, q2)) (⟨hk2, hn', hcs'⟩) (hk3) za9 za6
  have hk' : k = xss.length := by omega
  subst hk'
  rw [List.take_length] at hn hcs
  subst hn; subst hcs
  refine hc_exit <| hx_then_exit <| hx_then_exit <| hx_block_out <| hx_then_normal <| hc_seq <| ?_
  refine hc_region <| hl_v (ov_move rfl) rfl <| hl_v (ov_assign rfl) rfl <| zn <| hc_ret <| ?_
  exact results_1 (.inr rfl) rfl rfl fun w' H' => ⟨(A2, c2), rfl, H'⟩
theorem Chunk_spec (D : Nat → Prop) (w : World) (A : Option Addr) (n cap : Nat) :
    Calls Tryz.prog 139 #[.slice A n cap, .int .i64 63] w fun e w' => ∃ q : Nat × Nat, e = .returned (.func (.func 157) #[] #[.pointer (some ⟨q.1, 0, none⟩), .pointer (some ⟨q.2, 0, none⟩)]) ∧ Own D w w' [blk q.1 108 [.slice A n cap], blk q.2 3 [.int .i64 63]] := by
  refine hc_enter (vs := [.slice A n cap, .int .i64 63]) Tryz.func139 rfl _ Tryz.ntmps139 rfl (Own.start D w) ?_
  simp only [argSlots, Nat.zero_add]
  refine zg <| hl_new (on_boxN rfl rfl) rfl rfl rfl fun b2 =>  ?_
  refine hl_new (on_boxN rfl rfl) rfl rfl rfl fun b3 =>  ?_
  refine hl_v (ov_assign rfl) rfl <| zn <| hc_seq <| zg <| ?_
  refine hl_v (ov_load rfl (CellIs.blk rfl)) rfl <| hl_v (ov_lss rfl rfl) rfl <| zn <| ?_
  refine hc_cond_F rfl (by decide) ?_
  refine zk <| zg <| hl_v (ov_func rfl rfl) rfl <| hl_v (ov_assign rfl) rfl <| ?_
  refine zn <| hc_ret <| ?_
  exact results_1 (.inr rfl) rfl rfl fun w' H' => ⟨(b2, b3), rfl, H'.ent za4⟩
end Go.Proofs.YtjlolpmmpafjeaaGreat
set_option linter.unusedVariables false
set_option linter.unusedSimpArgs false
namespace Go.Proofs.YtjlolpmmpafjeaaGreat
open Slk
def preL (k : Nat) (a b : Nat) (xs : List UInt8) : List (List UInt8) := [[UInt8.ofNat k], fourB a, fourB b, [UInt8.ofNat (xs.length / 256), UInt8.ofNat xs.length], xs]
abbrev preB (k a b : Nat) (xs : List UInt8) : List UInt8 := (preL k a b xs).flatten
def fullB (k a b : Nat) (xs : List UInt8) : List UInt8 := preB k a b xs ++ fourB (Sm [preB k a b xs])
theorem preB_length (k a b : Nat) (xs : List UInt8) : (preB k a b xs).length = 11 + xs.length := by
  simp [preB, preL, fourB]; omega
theorem fullB_length (k a b : Nat) (xs : List UInt8) : (fullB k a b xs).length = 15 + xs.length := by
  rw [fullB, List.length_append, preB_length, fourB_length]; omega
theorem u8_small (m : Nat) (h : m < 256) : Value.int .u8 (m : Int) = u8v (UInt8.ofNat m) := by
  rw [u8v_ofNatE, Nat.mod_eq_of_lt h]
theorem bytes_spec (D : Nat → Prop) (w : World) (k a b : Nat) (v : Value) (xs : List UInt8) (hk : k < 256) (ha : a < 4294967296) (hb : b < 4294967296) (hx : xs.length ≤ 4000) (HA : Old D w (Rep.rep xs [v])) :
    Calls Tryz.prog 140 #[.agg #[.int .i64 k, .int .u32 a, .int .u32 b, v]] w fun e w' => ∃ q : Option Addr × Nat, e = .returned (.slice q.1 (15 + xs.length) q.2) ∧ Own D w w' [row q.1 5 1 (15 + xs.length) q.2 ((fullB k a b xs).map u8v)] := by
  obtain ⟨A, cap, rfl, hc1, hc2, HS⟩ := HA.openB
  have hk8 : [Value.int .u8 (k : Int)] = [UInt8.ofNat k].map u8v := by rw [u8_small k hk]; rfl
  have hl8 : [Value.int .u8 ((xs.length / 256 : Nat) : Int), Value.int .u8 ((xs.length % 256 : Nat) : Int)] = [UInt8.ofNat (xs.length / 256), UInt8.ofNat xs.length].map u8v := by
    rw [u8_small (xs.length / 256) (by omega), ← u8v_ofNatE]; rfl
  refine hc_enter (vs := [.agg #[.int .i64 k, .int .u32 a, .int .u32 b, .slice A xs.length cap]]) Tryz.func140 rfl _ Tryz.ntmps140 rfl (Own.start D w) ?_
  simp only [argSlots, Nat.zero_add]
  refine zg <| hl_new (on_boxN rfl rfl) rfl rfl rfl fun b1 =>  ?_
  refine hl_v (ov_assign rfl) rfl <| zn <| hc_seq <| ?_
  refine hc_cutK1 (σ := Option Addr × Nat) [] rfl 3 (fun q => .slice q.1 (preB k a b xs).length q.2) (fun q => [row q.1 5 1 (preB k a b xs).length q.2 ((preB k a b xs).map u8v)]) (fun K1 hK1 => ?_) (fun q => ?_)
  · refine hc_any [blk b1 246 [.int .i64 k, .int .u32 a, .int .u32 b, .slice A xs.length cap]] mixed 28 rfl ?_
    refine ha_v 0 rfl (ov_fieldA rfl) rfl <| ?_
    refine ha_v 1 rfl (ov_fieldA rfl) rfl <| ?_
    refine ha_v 2 rfl (ov_load rfl (CellIs.blk rfl)) rfl <| ?_
    refine ha_v 3 rfl (ov_conv rfl za21) rfl <| ?_
    refine ha_v 5 rfl (ov_fieldA rfl) rfl <| ?_
    refine ha_v 6 rfl (ov_fieldA rfl) rfl <| ?_
    refine ha_v 7 rfl (ov_load rfl (CellIs.blk rfl)) rfl <| ?_
    refine ha_v 9 rfl (ov_fieldA rfl) rfl <| ?_
    refine ha_v 10 rfl (ov_fieldA rfl) rfl <| ?_
    refine ha_v 11 rfl (ov_load rfl (CellIs.blk rfl)) rfl <| ?_
    refine ha_v 13 rfl (ov_fieldA rfl) rfl <| ?_
    refine ha_v 14 rfl (ov_load rfl (CellIs.blk rfl)) rfl <| ?_
    refine ha_v 15 rfl za15 rfl <| ?_
    refine ha_v 16 rfl (ov_shr (m := ((xs.length / 256 : Nat) : Int)) rfl rfl (by decide) (shr_nat _ 8)) rfl ?_
    refine ha_v 17 rfl (ov_conv rfl za21) rfl <| ?_
    refine ha_v 18 rfl (ov_fieldA rfl) rfl <| ?_
    refine ha_v 19 rfl (ov_load rfl (CellIs.blk rfl)) rfl <| ?_
    refine ha_v 20 rfl za15 rfl <| ?_
    refine ha_v 23 rfl (ov_fieldA rfl) rfl <| ?_
    refine ha_v 24 rfl (ov_load rfl (CellIs.blk rfl)) rfl <| ?_
    refine ha_v 21 rfl (ov_conv (m := ((xs.length % 256 : Nat) : Int)) rfl (wrap8E _)) rfl ?_
    refine ha_three 4 8 22 (by kernel_rfl) ?_ ?_ ?_
    · skip
      refine ho_n rfl (on_buildSliceN rfl rfl rfl) rfl (fun b8 => ?_)
      refine ha_two 8 22 (by kernel_rfl) ?_ ?_
      · skip
        refine ho_kx (σ := Nat) rfl Tryz.call158 rfl (fun w1 H1 => Own.callx0 H1 fun D' hold hin H2 => four_spec D' w1 a ha) ?_
        intro q12
        try rw [List.nil_append]
        refine ha_two 12 22 (by kernel_rfl) ?_ ?_
        · skip
          refine ho_kx (σ := Nat) rfl Tryz.call158 rfl (fun w1 H1 => Own.callx0 H1 fun D' hold hin H2 => four_spec D' w1 b hb) ?_
          intro q16
          try rw [List.nil_append]
          refine ha_one 22 (by kernel_rfl) <| ?_
          refine ho_n rfl (on_buildSliceN rfl rfl rfl) rfl (fun b26 => ?_)
          refine ha_one 25 (by kernel_rfl) <| ?_
          refine ho_n rfl (on_buildSliceN rfl rfl rfl) rfl (fun b29 => ?_)
          refine ha_one 26 (by kernel_rfl) <| ?_
          refine ho_kx (σ := Option Addr × Nat) rfl Tryz.call96 rfl (fun w1 H1 => Own.callx0 H1 fun D' hold hin H2 => Concat_spec D' w1 _ (preL k a b xs) za7 (hin _ fun h hs ho => rep_lits (b := b29) hs (preL k a b xs) ⟨[_], [_, _, _, _], rfl, rep_bytes (b := b8) hs [UInt8.ofNat k] hk8 (by simp), [_], [_, _, _], rfl, rep_row (A := some ⟨q12, 0, none⟩) hs (fourB a) rfl (repL_bytes.2 rfl), [_], [_, _], rfl, rep_row (A := some ⟨q16, 0, none⟩) hs (fourB b) rfl (repL_bytes.2 rfl), [_], [_], rfl, rep_bytes (b := b26) hs [UInt8.ofNat (xs.length / 256), UInt8.ofNat xs.length] hl8 (by simp), [_], [], rfl, rep_old ho HA, rfl⟩ (by simp [preL]))) ?_
          intro q30
          try rw [List.nil_append]
          refine ha_v 27 rfl (ov_assign rfl) rfl <| ?_
          refine ha_done (by kernel_rfl) <| ?_
          refine hx_cut hK1 (q30) za9 za6
        skip
        refine ho_n rfl (on_buildSliceN rfl rfl rfl) rfl (fun b26 => ?_)
        refine ha_one 12 (by kernel_rfl) <| ?_
        refine ho_kx (σ := Nat) rfl Tryz.call158 rfl (fun w1 H1 => Own.callx0 H1 fun D' hold hin H2 => four_spec D' w1 b hb) ?_
        intro q16
        try rw [List.nil_append]
        refine ha_one 25 (by kernel_rfl) <| ?_
        refine ho_n rfl (on_buildSliceN rfl rfl rfl) rfl (fun b29 => ?_)
        refine ha_one 26 (by kernel_rfl) <| ?_
        refine ho_kx (σ := Option Addr × Nat) rfl Tryz.call96 rfl (fun w1 H1 => Own.callx0 H1 fun D' hold hin H2 => Concat_spec D' w1 _ (preL k a b xs) za7 (hin _ fun h hs ho => rep_lits (b := b29) hs (preL k a b xs) ⟨[_], [_, _, _, _], rfl, rep_bytes (b := b8) hs [UInt8.ofNat k] hk8 (by simp), [_], [_, _, _], rfl, rep_row (A := some ⟨q12, 0, none⟩) hs (fourB a) rfl (repL_bytes.2 rfl), [_], [_, _], rfl, rep_row (A := some ⟨q16, 0, none⟩) hs (fourB b) rfl (repL_bytes.2 rfl), [_], [_], rfl, rep_bytes (b := b26) hs [UInt8.ofNat (xs.length / 256), UInt8.ofNat xs.length] hl8 (by simp), [_], [], rfl, rep_old ho HA, rfl⟩ (by simp [preL]))) ?_
        intro q30
        try rw [List.nil_append]
        refine ha_v 27 rfl (ov_assign rfl) rfl <| ?_
        refine ha_done (by kernel_rfl) <| ?_
        refine hx_cut hK1 (q30) za9 za6
      skip
      refine ho_n rfl (on_buildSliceN rfl rfl rfl) rfl (fun b26 => ?_)
      refine ha_one 8 (by kernel_rfl) <| ?_
      refine ho_kx (σ := Nat) rfl Tryz.call158 rfl (fun w1 H1 => Own.callx0 H1 fun D' hold hin H2 => four_spec D' w1 a ha) ?_
      intro q12
      try rw [List.nil_append]
      refine ha_one 12 (by kernel_rfl) <| ?_
      refine ho_kx (σ := Nat) rfl Tryz.call158 rfl (fun w1 H1 => Own.callx0 H1 fun D' hold hin H2 => four_spec D' w1 b hb) ?_
      intro q16
      try rw [List.nil_append]
      refine ha_one 25 (by kernel_rfl) <| ?_
      refine ho_n rfl (on_buildSliceN rfl rfl rfl) rfl (fun b29 => ?_)
      refine ha_one 26 (by kernel_rfl) <| ?_
      refine ho_kx (σ := Option Addr × Nat) rfl Tryz.call96 rfl (fun w1 H1 => Own.callx0 H1 fun D' hold hin H2 => Concat_spec D' w1 _ (preL k a b xs) za7 (hin _ fun h hs ho => rep_lits (b := b29) hs (preL k a b xs) ⟨[_], [_, _, _, _], rfl, rep_bytes (b := b8) hs [UInt8.ofNat k] hk8 (by simp), [_], [_, _, _], rfl, rep_row (A := some ⟨q12, 0, none⟩) hs (fourB a) rfl (repL_bytes.2 rfl), [_], [_, _], rfl, rep_row (A := some ⟨q16, 0, none⟩) hs (fourB b) rfl (repL_bytes.2 rfl), [_], [_], rfl, rep_bytes (b := b26) hs [UInt8.ofNat (xs.length / 256), UInt8.ofNat xs.length] hl8 (by simp), [_], [], rfl, rep_old ho HA, rfl⟩ (by simp [preL]))) ?_
      intro q30
      try rw [List.nil_append]
      refine ha_v 27 rfl (ov_assign rfl) rfl <| ?_
      refine ha_done (by kernel_rfl) <| ?_
      refine hx_cut hK1 (q30) za9 za6
    · skip
      refine ho_kx (σ := Nat) rfl Tryz.call158 rfl (fun w1 H1 => Own.callx0 H1 fun D' hold hin H2 => four_spec D' w1 a ha) ?_
      intro q12
      try rw [List.nil_append]
      refine ha_three 4 12 22 (by kernel_rfl) ?_ ?_ ?_
      · skip
        refine ho_n rfl (on_buildSliceN rfl rfl rfl) rfl (fun b8 => ?_)
        refine ha_two 12 22 (by kernel_rfl) ?_ ?_
        · skip
          refine ho_kx (σ := Nat) rfl Tryz.call158 rfl (fun w1 H1 => Own.callx0 H1 fun D' hold hin H2 => four_spec D' w1 b hb) ?_
          intro q16
          try rw [List.nil_append]
          refine ha_one 22 (by kernel_rfl) <| ?_
          refine ho_n rfl (on_buildSliceN rfl rfl rfl) rfl (fun b26 => ?_)
          refine ha_one 25 (by kernel_rfl) <| ?_
          refine ho_n rfl (on_buildSliceN rfl rfl rfl) rfl (fun b29 => ?_)
          refine ha_one 26 (by kernel_rfl) <| ?_
          refine ho_kx (σ := Option Addr × Nat) rfl Tryz.call96 rfl (fun w1 H1 => Own.callx0 H1 fun D' hold hin H2 => Concat_spec D' w1 _ (preL k a b xs) za7 (hin _ fun h hs ho => rep_lits (b := b29) hs (preL k a b xs) ⟨[_], [_, _, _, _], rfl, rep_bytes (b := b8) hs [UInt8.ofNat k] hk8 (by simp), [_], [_, _, _], rfl, rep_row (A := some ⟨q12, 0, none⟩) hs (fourB a) rfl (repL_bytes.2 rfl), [_], [_, _], rfl, rep_row (A := some ⟨q16, 0, none⟩) hs (fourB b) rfl (repL_bytes.2 rfl), [_], [_], rfl, rep_bytes (b := b26) hs [UInt8.ofNat (xs.length / 256), UInt8.ofNat xs.length] hl8 (by simp), [_], [], rfl, rep_old ho HA, rfl⟩ (by simp [preL]))) ?_
          intro q30
          try rw [List.nil_append]
          refine ha_v 27 rfl (ov_assign rfl) rfl <| ?_
          refine ha_done (by kernel_rfl) <| ?_
          refine hx_cut hK1 (q30) za9 za6
        skip
        refine ho_n rfl (on_buildSliceN rfl rfl rfl) rfl (fun b26 => ?_)
        refine ha_one 12 (by kernel_rfl) <| ?_
        refine ho_kx (σ := Nat) rfl Tryz.call158 rfl (fun w1 H1 => Own.callx0 H1 fun D' hold hin H2 => four_spec D' w1 b hb) ?_
        intro q16
        try rw [List.nil_append]
        refine ha_one 25 (by kernel_rfl) <| ?_
        refine ho_n rfl (on_buildSliceN rfl rfl rfl) rfl (fun b29 => ?_)
        refine ha_one 26 (by kernel_rfl) <| ?_
        refine ho_kx (σ := Option Addr × Nat) rfl Tryz.call96 rfl (fun w1 H1 => Own.callx0 H1 fun D' hold hin H2 => Concat_spec D' w1 _ (preL k a b xs) za7 (hin _ fun h hs ho => rep_lits (b := b29) hs (preL k a b xs) ⟨[_], [_, _, _, _], rfl, rep_bytes (b := b8) hs [UInt8.ofNat k] hk8 (by simp), [_], [_, _, _], rfl, rep_row (A := some ⟨q12, 0, none⟩) hs (fourB a) rfl (repL_bytes.2 rfl), [_], [_, _], rfl, rep_row (A := some ⟨q16, 0, none⟩) hs (fourB b) rfl (repL_bytes.2 rfl), [_], [_], rfl, rep_bytes (b := b26) hs [UInt8.ofNat (xs.length / 256), UInt8.ofNat xs.length] hl8 (by simp), [_], [], rfl, rep_old ho HA, rfl⟩ (by simp [preL]))) ?_
        intro q30
        try rw [List.nil_append]
        refine ha_v 27 rfl (ov_assign rfl) rfl <| ?_
        refine ha_done (by kernel_rfl) <| ?_
        refine hx_cut hK1 (q30) za9 za6
      · skip
        refine ho_kx (σ := Nat) rfl Tryz.call158 rfl (fun w1 H1 => Own.callx0 H1 fun D' hold hin H2 => four_spec D' w1 b hb) ?_
        intro q16
        try rw [List.nil_append]
        refine ha_two 4 22 (by kernel_rfl) ?_ ?_
        · skip
          refine ho_n rfl (on_buildSliceN rfl rfl rfl) rfl (fun b8 => ?_)
          refine ha_one 22 (by kernel_rfl) <| ?_
          refine ho_n rfl (on_buildSliceN rfl rfl rfl) rfl (fun b26 => ?_)
          refine ha_one 25 (by kernel_rfl) <| ?_
          refine ho_n rfl (on_buildSliceN rfl rfl rfl) rfl (fun b29 => ?_)
          refine ha_one 26 (by kernel_rfl) <| ?_
          refine ho_kx (σ := Option Addr × Nat) rfl Tryz.call96 rfl (fun w1 H1 => Own.callx0 H1 fun D' hold hin H2 => Concat_spec D' w1 _ (preL k a b xs) za7 (hin _ fun h hs ho => rep_lits (b := b29) hs (preL k a b xs) ⟨[_], [_, _, _, _], rfl, rep_bytes (b := b8) hs [UInt8.ofNat k] hk8 (by simp), [_], [_, _, _], rfl, rep_row (A := some ⟨q12, 0, none⟩) hs (fourB a) rfl (repL_bytes.2 rfl), [_], [_, _], rfl, rep_row (A := some ⟨q16, 0, none⟩) hs (fourB b) rfl (repL_bytes.2 rfl), [_], [_], rfl, rep_bytes (b := b26) hs [UInt8.ofNat (xs.length / 256), UInt8.ofNat xs.length] hl8 (by simp), [_], [], rfl, rep_old ho HA, rfl⟩ (by simp [preL]))) ?_
          intro q30
          try rw [List.nil_append]
          refine ha_v 27 rfl (ov_assign rfl) rfl <| ?_
          refine ha_done (by kernel_rfl) <| ?_
          refine hx_cut hK1 (q30) za9 za6
        skip
        refine ho_n rfl (on_buildSliceN rfl rfl rfl) rfl (fun b26 => ?_)
        refine ha_one 4 (by kernel_rfl) <| ?_
        refine ho_n rfl (on_buildSliceN rfl rfl rfl) rfl (fun b8 => ?_)
        refine ha_one 25 (by kernel_rfl) <| ?_
        refine ho_n rfl (on_buildSliceN rfl rfl rfl) rfl (fun b29 => ?_)
        refine ha_one 26 (by kernel_rfl) <| ?_
        refine ho_kx (σ := Option Addr × Nat) rfl Tryz.call96 rfl (fun w1 H1 => Own.callx0 H1 fun D' hold hin H2 => Concat_spec D' w1 _ (preL k a b xs) za7 (hin _ fun h hs ho => rep_lits (b := b29) hs (preL k a b xs) ⟨[_], [_, _, _, _], rfl, rep_bytes (b := b8) hs [UInt8.ofNat k] hk8 (by simp), [_], [_, _, _], rfl, rep_row (A := some ⟨q12, 0, none⟩) hs (fourB a) rfl (repL_bytes.2 rfl), [_], [_, _], rfl, rep_row (A := some ⟨q16, 0, none⟩) hs (fourB b) rfl (repL_bytes.2 rfl), [_], [_], rfl, rep_bytes (b := b26) hs [UInt8.ofNat (xs.length / 256), UInt8.ofNat xs.length] hl8 (by simp), [_], [], rfl, rep_old ho HA, rfl⟩ (by simp [preL]))) ?_
        intro q30
        try rw [List.nil_append]
        refine ha_v 27 rfl (ov_assign rfl) rfl <| ?_
        refine ha_done (by kernel_rfl) <| ?_
        refine hx_cut hK1 (q30) za9 za6
      skip
      refine ho_n rfl (on_buildSliceN rfl rfl rfl) rfl (fun b26 => ?_)
      refine ha_two 4 12 (by kernel_rfl) ?_ ?_
      · skip
        refine ho_n rfl (on_buildSliceN rfl rfl rfl) rfl (fun b8 => ?_)
        refine ha_one 12 (by kernel_rfl) <| ?_
        refine ho_kx (σ := Nat) rfl Tryz.call158 rfl (fun w1 H1 => Own.callx0 H1 fun D' hold hin H2 => four_spec D' w1 b hb) ?_
        intro q16
        try rw [List.nil_append]
        refine ha_one 25 (by kernel_rfl) <| ?_
        refine ho_n rfl (on_buildSliceN rfl rfl rfl) rfl (fun b29 => ?_)
        refine ha_one 26 (by kernel_rfl) <| ?_
        refine ho_kx (σ := Option Addr × Nat) rfl Tryz.call96 rfl (fun w1 H1 => Own.callx0 H1 fun D' hold hin H2 => Concat_spec D' w1 _ (preL k a b xs) za7 (hin _ fun h hs ho => rep_lits (b := b29) hs (preL k a b xs) ⟨[_], [_, _, _, _], rfl, rep_bytes (b := b8) hs [UInt8.ofNat k] hk8 (by simp), [_], [_, _, _], rfl, rep_row (A := some ⟨q12, 0, none⟩) hs (fourB a) rfl (repL_bytes.2 rfl), [_], [_, _], rfl, rep_row (A := some ⟨q16, 0, none⟩) hs (fourB b) rfl (repL_bytes.2 rfl), [_], [_], rfl, rep_bytes (b := b26) hs [UInt8.ofNat (xs.length / 256), UInt8.ofNat xs.length] hl8 (by simp), [_], [], rfl, rep_old ho HA, rfl⟩ (by simp [preL]))) ?_
        intro q30
        try rw [List.nil_append]
        refine ha_v 27 rfl (ov_assign rfl) rfl <| ?_
        refine ha_done (by kernel_rfl) <| ?_
        refine hx_cut hK1 (q30) za9 za6
      skip
      refine ho_kx (σ := Nat) rfl Tryz.call158 rfl (fun w1 H1 => Own.callx0 H1 fun D' hold hin H2 => four_spec D' w1 b hb) ?_
      intro q16
      try rw [List.nil_append]
      refine ha_one 4 (by kernel_rfl) <| ?_
      refine ho_n rfl (on_buildSliceN rfl rfl rfl) rfl (fun b8 => ?_)
      refine ha_one 25 (by kernel_rfl) <| ?_
      refine ho_n rfl (on_buildSliceN rfl rfl rfl) rfl (fun b29 => ?_)
      refine ha_one 26 (by kernel_rfl) <| ?_
      refine ho_kx (σ := Option Addr × Nat) rfl Tryz.call96 rfl (fun w1 H1 => Own.callx0 H1 fun D' hold hin H2 => Concat_spec D' w1 _ (preL k a b xs) za7 (hin _ fun h hs ho => rep_lits (b := b29) hs (preL k a b xs) ⟨[_], [_, _, _, _], rfl, rep_bytes (b := b8) hs [UInt8.ofNat k] hk8 (by simp), [_], [_, _, _], rfl, rep_row (A := some ⟨q12, 0, none⟩) hs (fourB a) rfl (repL_bytes.2 rfl), [_], [_, _], rfl, rep_row (A := some ⟨q16, 0, none⟩) hs (fourB b) rfl (repL_bytes.2 rfl), [_], [_], rfl, rep_bytes (b := b26) hs [UInt8.ofNat (xs.length / 256), UInt8.ofNat xs.length] hl8 (by simp), [_], [], rfl, rep_old ho HA, rfl⟩ (by simp [preL]))) ?_
      intro q30
      try rw [List.nil_append]
      refine ha_v 27 rfl (ov_assign rfl) rfl <| ?_
      refine ha_done (by kernel_rfl) <| ?_
      refine hx_cut hK1 (q30) za9 za6
    skip
    refine ho_n rfl (on_buildSliceN rfl rfl rfl) rfl (fun b26 => ?_)
    refine ha_two 4 8 (by kernel_rfl) ?_ ?_
    · skip
      refine ho_n rfl (on_buildSliceN rfl rfl rfl) rfl (fun b8 => ?_)
      refine ha_one 8 (by kernel_rfl) <| ?_
      refine ho_kx (σ := Nat) rfl Tryz.call158 rfl (fun w1 H1 => Own.callx0 H1 fun D' hold hin H2 => four_spec D' w1 a ha) ?_
      intro q12
      try rw [List.nil_append]
      refine ha_one 12 (by kernel_rfl) <| ?_
      refine ho_kx (σ := Nat) rfl Tryz.call158 rfl (fun w1 H1 => Own.callx0 H1 fun D' hold hin H2 => four_spec D' w1 b hb) ?_
      intro q16
      try rw [List.nil_append]
      refine ha_one 25 (by kernel_rfl) <| ?_
      refine ho_n rfl (on_buildSliceN rfl rfl rfl) rfl (fun b29 => ?_)
      refine ha_one 26 (by kernel_rfl) <| ?_
      refine ho_kx (σ := Option Addr × Nat) rfl Tryz.call96 rfl (fun w1 H1 => Own.callx0 H1 fun D' hold hin H2 => Concat_spec D' w1 _ (preL k a b xs) za7 (hin _ fun h hs ho => rep_lits (b := b29) hs (preL k a b xs) ⟨[_], [_, _, _, _], rfl, rep_bytes (b := b8) hs [UInt8.ofNat k] hk8 (by simp), [_], [_, _, _], rfl, rep_row (A := some ⟨q12, 0, none⟩) hs (fourB a) rfl (repL_bytes.2 rfl), [_], [_, _], rfl, rep_row (A := some ⟨q16, 0, none⟩) hs (fourB b) rfl (repL_bytes.2 rfl), [_], [_], rfl, rep_bytes (b := b26) hs [UInt8.ofNat (xs.length / 256), UInt8.ofNat xs.length] hl8 (by simp), [_], [], rfl, rep_old ho HA, rfl⟩ (by simp [preL]))) ?_
      intro q30
      try rw [List.nil_append]
      refine ha_v 27 rfl (ov_assign rfl) rfl <| ?_
      refine ha_done (by kernel_rfl) <| ?_
      refine hx_cut hK1 (q30) za9 za6
    skip
    refine ho_kx (σ := Nat) rfl Tryz.call158 rfl (fun w1 H1 => Own.callx0 H1 fun D' hold hin H2 => four_spec D' w1 a ha) ?_
    intro q12
    try rw [List.nil_append]
    refine ha_two 4 12 (by kernel_rfl) ?_ ?_
    · skip
      refine ho_n rfl (on_buildSliceN rfl rfl rfl) rfl (fun b8 => ?_)
      refine ha_one 12 (by kernel_rfl) <| ?_
      refine ho_kx (σ := Nat) rfl Tryz.call158 rfl (fun w1 H1 => Own.callx0 H1 fun D' hold hin H2 => four_spec D' w1 b hb) ?_
      intro q16
      try rw [List.nil_append]
      refine ha_one 25 (by kernel_rfl) <| ?_
      refine ho_n rfl (on_buildSliceN rfl rfl rfl) rfl (fun b29 => ?_)
      refine ha_one 26 (by kernel_rfl) <| ?_
      refine ho_kx (σ := Option Addr × Nat) rfl Tryz.call96 rfl (fun w1 H1 => Own.callx0 H1 fun D' hold hin H2 => Concat_spec D' w1 _ (preL k a b xs) za7 (hin _ fun h hs ho => rep_lits (b := b29) hs (preL k a b xs) ⟨[_], [_, _, _, _], rfl, rep_bytes (b := b8) hs [UInt8.ofNat k] hk8 (by simp), [_], [_, _, _], rfl, rep_row (A := some ⟨q12, 0, none⟩) hs (fourB a) rfl (repL_bytes.2 rfl), [_], [_, _], rfl, rep_row (A := some ⟨q16, 0, none⟩) hs (fourB b) rfl (repL_bytes.2 rfl), [_], [_], rfl, rep_bytes (b := b26) hs [UInt8.ofNat (xs.length / 256), UInt8.ofNat xs.length] hl8 (by simp), [_], [], rfl, rep_old ho HA, rfl⟩ (by simp [preL]))) ?_
      intro q30
      try rw [List.nil_append]
      refine ha_v 27 rfl (ov_assign rfl) rfl <| ?_
      refine ha_done (by kernel_rfl) <| ?_
      refine hx_cut hK1 (q30) za9 za6
    skip
    refine ho_kx (σ := Nat) rfl Tryz.call158 rfl (fun w1 H1 => Own.callx0 H1 fun D' hold hin H2 => four_spec D' w1 b hb) ?_
    intro q16
    try rw [List.nil_append]
    refine ha_one 4 (by kernel_rfl) <| ?_
    refine ho_n rfl (on_buildSliceN rfl rfl rfl) rfl (fun b8 => ?_)
    refine ha_one 25 (by kernel_rfl) <| ?_
    refine ho_n rfl (on_buildSliceN rfl rfl rfl) rfl (fun b29 => ?_)
    refine ha_one 26 (by kernel_rfl) <| ?_
    refine ho_kx (σ := Option Addr × Nat) rfl Tryz.call96 rfl (fun w1 H1 => Own.callx0 H1 fun D' hold hin H2 => Concat_spec D' w1 _ (preL k a b xs) za7 (hin _ fun h hs ho => rep_lits (b := b29) hs (preL k a b xs) ⟨[_], [_, _, _, _], rfl, rep_bytes (b := b8) hs [UInt8.ofNat k] hk8 (by simp), [_], [_, _, _], rfl, rep_row (A := some ⟨q12, 0, none⟩) hs (fourB a) rfl (repL_bytes.2 rfl), [_], [_, _], rfl, rep_row (A := some ⟨q16, 0, none⟩) hs (fourB b) rfl (repL_bytes.2 rfl), [_], [_], rfl, rep_bytes (b := b26) hs [UInt8.ofNat (xs.length / 256), UInt8.ofNat xs.length] hl8 (by simp), [_], [], rfl, rep_old ho HA, rfl⟩ (by simp [preL]))) ?_
    intro q30
    try rw [List.nil_append]
    refine ha_v 27 rfl (ov_assign rfl) rfl <| ?_
    refine ha_done (by kernel_rfl) <| ?_
    refine hx_cut hK1 (q30) za9 za6
  refine hx_then_normal <| zg <| hl_v (ov_move rfl) rfl <| hl_v (ov_move rfl) rfl <| hl_new (on_buildSliceN rfl rfl rfl) rfl rfl rfl fun b33 =>  ?_
  refine hl_c Tryz.call159 rfl rfl (fun w1 H1 => Own.calln H1 fun D' hold hin H2 => Sum_spec D' w1 _ [preB k a b xs] (hin _ fun h hs ho => rep_lits (b := b33) hs _ ⟨[_], [], rfl, rep_row (A := q.1) hs (preB k a b xs) rfl (repL_bytes.2 rfl), rfl⟩ (by simp))) ?_
  refine hl_call (σ := Nat) Tryz.call158 rfl rfl (fun w1 H1 => Own.callx0 H1 fun D' hold hin H2 => four_spec D' w1 (Sm [preB k a b xs]) (Sm_lt _)) ?_
  intro q34
  try rw [List.nil_append]
  refine hl_new (on_appendR (news := (fourB (Sm [preB k a b xs])).map u8v) rfl rfl (SrcIs.rowR (A := some ⟨q34, 0, none⟩) (fun _ => rfl)) (by simp [fourB]) (u8_one _) (by decide) (by rw [preB_length]; omega)) rfl rfl rfl (fun q35 => ?_)
  refine hl_v (ov_assign rfl) rfl <| zn <| hc_ret <| ?_
  have e1 : (preB k a b xs).length + 4 = 15 + xs.length := by rw [preB_length]; omega
  have e2 : (preB k a b xs).map u8v ++ (fourB (Sm [preB k a b xs])).map u8v = (fullB k a b xs).map u8v := by rw [fullB, List.map_append]
  rw [e1, e2]
  exact results_1 (.inr rfl) rfl rfl fun w' H' => ⟨q35, rfl, H'.ent za4⟩
end Go.Proofs.YtjlolpmmpafjeaaGreat
set_option linter.unusedVariables false
set_option linter.unusedSimpArgs false
namespace Go.Proofs.YtjlolpmmpafjeaaGreat
open Slk
abbrev Sec := Vector UInt8 64
def secC (s : Sec) : List Value := s.toList.map u8v
@[simp] theorem secC_len (s : Sec) : (secC s).length = 64 := by simp [secC]
theorem secC_one (s : Sec) : ∀ v ∈ secC s, v.oneCell' = true := u8_one _
theorem secC_inj {s t : Sec} : secC s = secC t ↔ s = t := by
  unfold secC
  rw [u8v_inj]
  exact ⟨fun h => Vector.toList_inj.1 h, fun h => by rw [h]⟩
def zeroSec : Sec := Vector.replicate 64 0
theorem secC_zero : secC zeroSec = List.replicate 64 (.int .u8 0) := by simp [secC, zeroSec, u8v]
theorem secC_at (s : Sec) {j : Nat} (h : j < 64) : (secC s)[j]? = some (u8v s[j]) := by
  unfold secC
  rw [List.getElem?_map, Vector.getElem?_toList, Vector.getElem?_eq_getElem h]; rfl
theorem secC_ok (s : Sec) : (cellsOk (List.replicate 64 (.i .u8)) (secC s)).isSome = true := by
  have := cellsOk_u8 s.toList
  rw [Vector.length_toList] at this
  exact this
section
variable {D : Nat → Prop} {w0 : World} {env : Slots} {l : List HProp} {dst : Option Tmp} {ty : TypeId} {pos : String} {after : Array Edge} {g : Option (Nat × Bool)} {x y : Operand} {t' : TypeId} {s t : Sec}
theorem ov_neqSec (hx : evalO env x = some (.agg (secC s).toArray)) (hy : evalO env y = some (.agg (secC t).toArray)) : OpVal Tryz.prog D w0 env l ⟨dst, .binOp .neq 61 x y t', ty, pos, after, g⟩ (.bool (decide (¬ s = t))) := ov_neqG hx hy (secC_ok s) (secC_ok t) secC_inj
end
end Go.Proofs.YtjlolpmmpafjeaaGreat
