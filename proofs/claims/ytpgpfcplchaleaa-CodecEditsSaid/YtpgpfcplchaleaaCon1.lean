import Derived.Test.YtpgpfcplchaleaaSlkU
import Derived.Test.YtpgpfcplchaleaaKMod
import Derived.Test.YtpgpfcplchaleaaKMixed
set_option linter.unusedVariables false
set_option linter.unusedSimpArgs false
namespace Go.Proofs.Ytpgpfcplchaleaa
open Slk
/-! ### Lists of flat things -/
class Flat (α : Type) [Rep α] where
  f : α → List Value
  ok : α → Prop
  iff : ∀ {x : α} {c : List Value} {h : Heap}, Rep.rep x c h ↔ c = f x ∧ ok x
section
variable {α : Type} [Rep α] [F : Flat α]
theorem flat_len1 (hF : ∀ x : α, F.ok x → True) (x : α) (hx : F.ok x) : (F.f x).length = Rep.sz α := Rep.len (h := fun _ => none) (F.iff.2 ⟨rfl, hx⟩)
theorem repL_F : ∀ {xs : List α} {cs : List Value} {h : Heap}, repL xs cs h ↔ cs = xs.flatMap F.f ∧ ∀ x ∈ xs, F.ok x
  | [], cs, h => ⟨fun e => ⟨e, fun x hx => by cases hx⟩, fun e => e.1⟩
  | x :: r, cs, h => by
    constructor
    · rintro ⟨c1, c2, rfl, h1, h2⟩
      obtain ⟨e1, o1⟩ := F.iff.1 h1
      obtain ⟨e2, o2⟩ := repL_F.1 h2
      subst e1; subst e2
      exact ⟨by rw [List.flatMap_cons], fun y hy => by
        rcases List.mem_cons.1 hy with rfl | hy
        · exact o1
        · exact o2 y hy⟩
    · rintro ⟨rfl, ho⟩
      exact ⟨F.f x, _, List.flatMap_cons, F.iff.2 ⟨rfl, ho x (by simp)⟩, repL_F.2 ⟨rfl, fun y hy => ho y (by simp [hy])⟩⟩
theorem _root_.Slk.Old.openF {D : Nat → Prop} {w0 : World} {S : List α} {v : Value} (k : Old D w0 (Rep.rep S [v])) :
    ∃ A cap, v = .slice A S.length cap ∧ S.length ≤ cap ∧ cap ≤ 9223372036854775807 ∧ OldS D w0 A (S.flatMap F.f) ∧ ∀ x ∈ S, F.ok x := by
  obtain ⟨h, hh, A, cap, e, h1, h2, ecs, k1, k2⟩ := k
  obtain ⟨rfl, ho⟩ := repL_F.1 k1
  exact ⟨A, cap, by simpa using e, h1, h2, OldS.of_old ⟨h, hh, k2⟩, ho⟩
end
abbrev PortC := Bool × UInt32 × Int
abbrev VlanC := Int × UInt8 × UInt8
abbrev StatC := UInt64 × Int × Int
abbrev EditC := Int × Int × Int × Int × UInt8 × UInt8 × UInt64
abbrev ConfC := Int × Int × Int × List PortC × List VlanC × List StatC
abbrev portV (x : PortC) : List Value := [.bool x.1, .int .u32 x.2.1.toNat, .int .i64 x.2.2]
abbrev vlanV (x : VlanC) : List Value := [.int .i64 x.1, u8v x.2.1, u8v x.2.2]
abbrev statV (x : StatC) : List Value := [.int .u64 x.1.toNat, .int .i64 x.2.1, .int .i64 x.2.2]
abbrev editV (x : EditC) : List Value := [.int .i64 x.1, .int .i64 x.2.1, .int .i64 x.2.2.1, .int .i64 x.2.2.2.1, u8v x.2.2.2.2.1, u8v x.2.2.2.2.2.1, .int .u64 x.2.2.2.2.2.2.toNat]
instance : Flat PortC where
  f := portV
  ok x := inI64 x.2.2
  iff := by
    intro x c h
    constructor
    · rintro ⟨c1, c2, rfl, k1, c3, c4, rfl, k3, k4⟩
      have k1 : c1 = [.bool x.1] := k1
      have k3 : c3 = [.int .u32 (x.2.1.toNat : Int)] := k3
      obtain ⟨k4, k5⟩ : c4 = [.int .i64 x.2.2] ∧ inI64 x.2.2 := k4
      subst k1; subst k3; subst k4
      exact ⟨rfl, k5⟩
    · rintro ⟨rfl, k⟩
      exact ⟨[.bool x.1], _, rfl, rfl, [.int .u32 (x.2.1.toNat : Int)], [.int .i64 x.2.2], rfl, rfl, rfl, k⟩
instance : Flat VlanC where
  f := vlanV
  ok x := inI64 x.1
  iff := by
    intro x c h
    constructor
    · rintro ⟨c1, c2, rfl, k1, c3, c4, rfl, k3, k4⟩
      obtain ⟨k1, k2⟩ : c1 = [.int .i64 x.1] ∧ inI64 x.1 := k1
      have k3 : c3 = [u8v x.2.1] := k3
      have k4 : c4 = [u8v x.2.2] := k4
      subst k1; subst k3; subst k4
      exact ⟨rfl, k2⟩
    · rintro ⟨rfl, k⟩
      exact ⟨[.int .i64 x.1], _, rfl, ⟨rfl, k⟩, [u8v x.2.1], [u8v x.2.2], rfl, rfl, rfl⟩
instance : Flat StatC where
  f := statV
  ok x := inI64 x.2.1 ∧ inI64 x.2.2
  iff := by
    intro x c h
    constructor
    · rintro ⟨c1, c2, rfl, k1, c3, c4, rfl, k3, k4⟩
      have k1 : c1 = [.int .u64 (x.1.toNat : Int)] := k1
      obtain ⟨k3, k5⟩ : c3 = [.int .i64 x.2.1] ∧ inI64 x.2.1 := k3
      obtain ⟨k4, k6⟩ : c4 = [.int .i64 x.2.2] ∧ inI64 x.2.2 := k4
      subst k1; subst k3; subst k4
      exact ⟨rfl, k5, k6⟩
    · rintro ⟨rfl, k1, k2⟩
      exact ⟨[.int .u64 (x.1.toNat : Int)], _, rfl, rfl, [.int .i64 x.2.1], [.int .i64 x.2.2], rfl, ⟨rfl, k1⟩, rfl, k2⟩
/-! ### Comparisons -/
def cmpI (a b : Int) : Int := if a < b then -1 else if b < a then 1 else 0
theorem NanI_spec (D : Nat → Prop) (w : World) (a : Int) : Calls Try.prog 87 #[.int .i64 a] w fun e w' => e = .returned (.bool false) ∧ Own D w w' [] := by
  refine hc_enter (vs := [.int .i64 a]) Try.func87 rfl _ Try.ntmps87 rfl (Own.start D w) ?_
  simp only [argSlots, Nat.zero_add]
  refine hc_seq <|
    hc_region <|
    hl_val (ov_assign rfl) rfl rfl rfl <|
    hl_nil <|
    hx_then_normal <|
    hc_seq <| ?_
  refine hc_region <|
    hl_val (ov_move rfl) rfl rfl rfl <|
    hl_val (ov_move rfl) rfl rfl rfl <|
    hl_val (ov_neq rfl rfl) rfl rfl rfl <|
    hl_val (ov_assign rfl) rfl rfl rfl <|
    hl_nil <| ?_
  refine hx_then_normal <|
    hc_ret <| ?_
  exact results_1 (.inr rfl) rfl rfl fun w' H' => ⟨by simp, H'⟩
theorem NanU_spec (D : Nat → Prop) (w : World) (a : Int) : Calls Try.prog 90 #[.int .u64 a] w fun e w' => e = .returned (.bool false) ∧ Own D w w' [] := by
  refine hc_enter (vs := [.int .u64 a]) Try.func90 rfl _ Try.ntmps90 rfl (Own.start D w) ?_
  simp only [argSlots, Nat.zero_add]
  refine hc_seq <|
    hc_region <|
    hl_val (ov_assign rfl) rfl rfl rfl <|
    hl_nil <|
    hx_then_normal <|
    hc_seq <| ?_
  refine hc_region <|
    hl_val (ov_move rfl) rfl rfl rfl <|
    hl_val (ov_move rfl) rfl rfl rfl <|
    hl_val (ov_neq rfl rfl) rfl rfl rfl <|
    hl_val (ov_assign rfl) rfl rfl rfl <|
    hl_nil <| ?_
  refine hx_then_normal <|
    hc_ret <| ?_
  exact results_1 (.inr rfl) rfl rfl fun w' H' => ⟨by simp, H'⟩
theorem CmpI_spec (D : Nat → Prop) (w : World) (a b : Int) : Calls Try.prog 77 #[.int .i64 a, .int .i64 b] w fun e w' => e = .returned (.int .i64 (cmpI a b)) ∧ Own D w w' [] := by
  refine hc_enter (vs := [.int .i64 a, .int .i64 b]) Try.func77 rfl _ Try.ntmps77 rfl (Own.start D w) ?_
  simp only [argSlots, Nat.zero_add]
  refine hc_seq <|
    hc_region <|
    hl_val (ov_assign rfl) rfl rfl rfl <|
    hl_nil <|
    hx_then_normal <|
    hc_seq <| ?_
  refine hc_region <|
    hl_val (ov_move rfl) rfl rfl rfl <| ?_
  refine hl_c Try.call87 rfl rfl (fun w1 H1 => Own.calln H1 fun D' hold hin H2 => NanI_spec D' w1 a) ?_
  refine hl_val (ov_assign rfl) rfl rfl rfl <|
    hl_nil <|
    hx_then_normal <|
    hc_seq <|
    hc_region <|
    hl_val (ov_move rfl) rfl rfl rfl <| ?_
  refine hl_c Try.call87 rfl rfl (fun w1 H1 => Own.calln H1 fun D' hold hin H2 => NanI_spec D' w1 b) ?_
  refine hl_val (ov_assign rfl) rfl rfl rfl <|
    hl_nil <|
    hx_then_normal <|
    hc_seq <|
    hc_seq <|
    hc_region <| ?_
  refine hl_val (ov_move rfl) rfl rfl rfl <|
    hl_nil <|
    hx_then_normal <| ?_
  refine hc_cond_false rfl ?_
  refine hc_skip <|
    hx_then_normal <|
    hc_seq <|
    hc_seq <|
    hc_region <|
    hl_val (ov_move rfl) rfl rfl rfl <| ?_
  refine hl_nil <|
    hx_then_normal <| ?_
  refine hc_cond_false rfl ?_
  refine hc_skip <|
    hx_then_normal <|
    hc_seq <|
    hc_seq <|
    hc_region <|
    hl_val (ov_move rfl) rfl rfl rfl <| ?_
  refine hl_val (ov_move rfl) rfl rfl rfl <|
    hl_val (ov_lss rfl rfl) rfl rfl rfl <|
    hl_nil <|
    hx_then_normal <| ?_
  refine hc_cond rfl (fun h1 => ?_) (fun h1 => ?_)
  · refine hc_seq <|
      hc_region <|
      hl_val (ov_assign rfl) rfl rfl rfl <|
      hl_nil <|
      hx_then_normal <|
      hc_ret <| ?_
    refine hx_then_ret <| ?_
    exact results_1 (.inr rfl) rfl rfl fun w' H' => ⟨by rw [cmpI, if_pos h1], H'⟩
  · refine hc_skip <|
      hx_then_normal <|
      hc_seq <|
      hc_seq <|
      hc_region <|
      hl_val (ov_move rfl) rfl rfl rfl <| ?_
    refine hl_val (ov_move rfl) rfl rfl rfl <|
      hl_val (ov_gtr rfl rfl) rfl rfl rfl <|
      hl_nil <|
      hx_then_normal <| ?_
    refine hc_cond rfl (fun h2 => ?_) (fun h2 => ?_)
    · refine hc_seq <|
        hc_region <|
        hl_val (ov_assign rfl) rfl rfl rfl <|
        hl_nil <|
        hx_then_normal <|
        hc_ret <| ?_
      refine hx_then_ret <| ?_
      exact results_1 (.inr rfl) rfl rfl fun w' H' => ⟨by rw [cmpI, if_neg h1, if_pos h2], H'⟩
    · refine hc_skip <|
        hx_then_normal <|
        hc_seq <|
        hc_region <|
        hl_val (ov_assign rfl) rfl rfl rfl <|
        hl_nil <| ?_
      refine hx_then_normal <|
        hc_ret <| ?_
      exact results_1 (.inr rfl) rfl rfl fun w' H' => ⟨by rw [cmpI, if_neg h1, if_neg h2], H'⟩
theorem CmpU_spec (D : Nat → Prop) (w : World) (a b : Int) : Calls Try.prog 80 #[.int .u64 a, .int .u64 b] w fun e w' => e = .returned (.int .i64 (cmpI a b)) ∧ Own D w w' [] := by
  refine hc_enter (vs := [.int .u64 a, .int .u64 b]) Try.func80 rfl _ Try.ntmps80 rfl (Own.start D w) ?_
  simp only [argSlots, Nat.zero_add]
  refine hc_seq <|
    hc_region <|
    hl_val (ov_assign rfl) rfl rfl rfl <|
    hl_nil <|
    hx_then_normal <|
    hc_seq <| ?_
  refine hc_region <|
    hl_val (ov_move rfl) rfl rfl rfl <| ?_
  refine hl_c Try.call90 rfl rfl (fun w1 H1 => Own.calln H1 fun D' hold hin H2 => NanU_spec D' w1 a) ?_
  refine hl_val (ov_assign rfl) rfl rfl rfl <|
    hl_nil <|
    hx_then_normal <|
    hc_seq <|
    hc_region <|
    hl_val (ov_move rfl) rfl rfl rfl <| ?_
  refine hl_c Try.call90 rfl rfl (fun w1 H1 => Own.calln H1 fun D' hold hin H2 => NanU_spec D' w1 b) ?_
  refine hl_val (ov_assign rfl) rfl rfl rfl <|
    hl_nil <|
    hx_then_normal <|
    hc_seq <|
    hc_seq <|
    hc_region <| ?_
  refine hl_val (ov_move rfl) rfl rfl rfl <|
    hl_nil <|
    hx_then_normal <| ?_
  refine hc_cond_false rfl ?_
  refine hc_skip <|
    hx_then_normal <|
    hc_seq <|
    hc_seq <|
    hc_region <|
    hl_val (ov_move rfl) rfl rfl rfl <| ?_
  refine hl_nil <|
    hx_then_normal <| ?_
  refine hc_cond_false rfl ?_
  refine hc_skip <|
    hx_then_normal <|
    hc_seq <|
    hc_seq <|
    hc_region <|
    hl_val (ov_move rfl) rfl rfl rfl <| ?_
  refine hl_val (ov_move rfl) rfl rfl rfl <|
    hl_val (ov_lss rfl rfl) rfl rfl rfl <|
    hl_nil <|
    hx_then_normal <| ?_
  refine hc_cond rfl (fun h1 => ?_) (fun h1 => ?_)
  · refine hc_seq <|
      hc_region <|
      hl_val (ov_assign rfl) rfl rfl rfl <|
      hl_nil <|
      hx_then_normal <|
      hc_ret <| ?_
    refine hx_then_ret <| ?_
    exact results_1 (.inr rfl) rfl rfl fun w' H' => ⟨by rw [cmpI, if_pos h1], H'⟩
  · refine hc_skip <|
      hx_then_normal <|
      hc_seq <|
      hc_seq <|
      hc_region <|
      hl_val (ov_move rfl) rfl rfl rfl <| ?_
    refine hl_val (ov_move rfl) rfl rfl rfl <|
      hl_val (ov_gtr rfl rfl) rfl rfl rfl <|
      hl_nil <|
      hx_then_normal <| ?_
    refine hc_cond rfl (fun h2 => ?_) (fun h2 => ?_)
    · refine hc_seq <|
        hc_region <|
        hl_val (ov_assign rfl) rfl rfl rfl <|
        hl_nil <|
        hx_then_normal <|
        hc_ret <| ?_
      refine hx_then_ret <| ?_
      exact results_1 (.inr rfl) rfl rfl fun w' H' => ⟨by rw [cmpI, if_neg h1, if_pos h2], H'⟩
    · refine hc_skip <|
        hx_then_normal <|
        hc_seq <|
        hc_region <|
        hl_val (ov_assign rfl) rfl rfl rfl <|
        hl_nil <| ?_
      refine hx_then_normal <|
        hc_ret <| ?_
      exact results_1 (.inr rfl) rfl rfl fun w' H' => ⟨by rw [cmpI, if_neg h1, if_neg h2], H'⟩
instance : Flat Int where
  f x := [.int .i64 x]
  ok x := inI64 x
  iff := by
    intro x c h
    exact Iff.rfl
theorem cmpI_in (a b : Int) : inI64 (cmpI a b) := by
  unfold cmpI inI64
  split
  · omega
  · split <;> omega
theorem Or_spec (D : Nat → Prop) (w : World) (v : Value) (a b : Int) (HA : Old D w (Rep.rep [a, b] [v])) : Calls Try.prog 79 #[v] w fun e w' => e = .returned (.int .i64 (if a = 0 then b else a)) ∧ Own D w w' [] := by
  obtain ⟨A, cap, rfl, hc1, hc2, HS, hok⟩ := HA.openF
  have HS : OldS D w A [.int .i64 a, .int .i64 b] := HS
  have hA : isA A := HS.isA (by simp)
  refine hc_enter (vs := [.slice A [a, b].length cap]) Try.func79 rfl _ Try.ntmps79 rfl (Own.start D w) ?_
  simp only [argSlots, Nat.zero_add]
  refine hc_seq <|
    hc_region <|
    hl_val (ov_assign rfl) rfl rfl rfl <|
    hl_nil <|
    hx_then_normal <|
    hc_seq <| ?_
  refine hc_region <|
    hl_val (ov_assign rfl) rfl rfl rfl <|
    hl_nil <|
    hx_then_normal <|
    hc_seq <|
    hc_seq <| ?_
  refine hc_region <|
    hl_val (ov_move rfl) rfl rfl rfl <|
    hl_val (by first | exact ov_len rfl | exact ov_lenS rfl) rfl rfl rfl <| ?_
  refine hl_val (ov_move rfl) rfl rfl rfl <|
    hl_nil <|
    hx_then_normal <|
    hc_block <| ?_
  refine hc_loops1 (σ := Nat) [3, 6, 7] rfl 8 (fun k => .int .i64 (k : Int)) (fun k => k ≤ 2 ∧ (0 < k → a = 0) ∧ (1 < k → b = 0)) (fun k => 2 - k) (0) (⟨by decide, fun h => absurd h (by decide), fun h => absurd h (by decide)⟩) rfl ?_
  rintro k ⟨hk, hka, hkb⟩ K1 hK1
  refine hc_seq <|
    hc_region <|
    hl_val (ov_lss rfl rfl) rfl rfl rfl <|
    hl_nil <|
    hx_then_normal <|
    hc_seq <| ?_
  refine hc_cond rfl (fun h => ?_) (fun h => ?_)
  · have hl2 : [a, b].length = 2 := rfl
    have hlt : k < 2 := by omega
    have hcell : CellIs D w [] (ab A) (ao A + k * 1) (.int .i64 (if k = 0 then a else b)) := by
      rw [Nat.mul_one]
      refine (SrcIs.old HS).cell (i := k) ?_
      match k, hlt with
      | 0, _ => rfl
      | 1, _ => rfl
    have hkl : k < [a, b].length := hlt
    have hres : (if k = 0 then a else b) ≠ 0 → (if a = 0 then b else a) = (if k = 0 then a else b) := fun hne => by
      by_cases h0 : k = 0
      · rw [if_pos h0] at hne ⊢
        rw [if_neg hne]
      · rw [if_neg h0] at hne ⊢
        rw [if_pos (hka (by omega))]
    have hnx : (if k = 0 then a else b) = 0 → k + 1 ≤ 2 ∧ (0 < k + 1 → a = 0) ∧ (1 < k + 1 → b = 0) := fun hx => by
      by_cases h0 : k = 0
      · rw [if_pos h0] at hx
        exact ⟨by omega, fun _ => hx, fun h => by omega⟩
      · rw [if_neg h0] at hx
        exact ⟨by omega, fun _ => hka (by omega), fun _ => hx⟩
    generalize hx : (if k = 0 then a else b) = x at *
    refine hc_skip <|
      hx_then_normal <|
      hc_seq <|
      hc_block <|
      hc_seq <|
      hc_region <| ?_
    refine hl_val (ov_idxS rfl (by assumption) rfl _ rfl (by omega)) rfl rfl rfl <|
      hl_val (by first | exact ov_load rfl (by assumption) | exact ov_load rfl (hcl _) | exact ov_load rfl (hcl2 _) | exact ov_load rfl (hcl3 _) | exact ov_load rfl (CellIs.blk rfl)) rfl rfl rfl <| ?_
    refine hl_val (ov_assign rfl) rfl rfl rfl <|
      hl_nil <|
      hx_then_normal <|
      hc_seq <|
      hc_region <|
      hl_val (ov_move rfl) rfl rfl rfl <| ?_
    refine hl_val (ov_move rfl) rfl rfl rfl <|
      hl_val (ov_neq rfl rfl) rfl rfl rfl <|
      hl_nil <|
      hx_then_normal <| ?_
    refine hc_cond rfl (fun hne => ?_) (fun hne => ?_)
    · have := hres hne
      refine hc_seq <|
        hc_region <|
        hl_val (ov_move rfl) rfl rfl rfl <|
        hl_val (ov_assign rfl) rfl rfl rfl <|
        hl_nil <|
        hx_then_normal <| ?_
      refine hc_ret <|
        hx_block_ret <|
        hx_then_ret <|
        hx_then_ret <|
        hx_block_ret <|
        hx_then_ret <| ?_
      exact results_1 (.inr rfl) rfl rfl fun w' H' => ⟨by rw [this], H'⟩
    · have hx0 : x = 0 := Classical.not_not.1 hne
      have hn := hnx hx0
      refine hc_skip <|
        hx_block_normal <|
        hx_then_normal <|
        hc_region <|
        hl_val (ov_add rfl rfl (by first | exact wrap_i64 (by omega) | rfl)) rfl rfl rfl <| ?_
      refine hl_val (ov_move rfl) rfl rfl rfl <|
        hl_nil <| ?_
      refine hx_next hK1 (k + 1) (hn) (by omega) (by repeat (first | exact Slots.sub_nil _ | refine Slots.sub_cons rfl ?_)) (by first | assumption | exact Ent.refl _ | exact Ent.nil _ | (repeat (first | exact Ent.refl _ | exact Ent.nil _ | refine Ent.pick ?_)))
  · have hl2 : [a, b].length = 2 := rfl
    have hk2 : k = 2 := by omega
    subst hk2
    refine hc_exit <|
      hx_then_exit <|
      hx_then_exit <|
      hx_block_out <|
      hx_then_normal <|
      hc_seq <| ?_
    refine hc_region <|
      hl_val (ov_move rfl) rfl rfl rfl <|
      hl_val (ov_assign rfl) rfl rfl rfl <|
      hl_nil <|
      hx_then_normal <|
      hc_ret <| ?_
    exact results_1 (.inr rfl) rfl rfl fun w' H' => ⟨by rw [if_pos (hka (by decide)), hkb (by decide)], H'⟩
def byPl (x y : StatC) : Int := if cmpI x.2.1 y.2.1 = 0 then cmpI x.1.toNat y.1.toNat else cmpI x.2.1 y.2.1
theorem byPlace_spec (D : Nat → Prop) (w : World) (x y : StatC) : Calls Try.prog 57 #[.agg (statV x).toArray, .agg (statV y).toArray] w fun e w' => e = .returned (.int .i64 (byPl x y)) ∧ Own D w w' [] := by
  refine hc_enter (vs := [.agg (statV x).toArray, .agg (statV y).toArray]) Try.func57 rfl _ Try.ntmps57 rfl (Own.start D w) ?_
  simp only [argSlots, Nat.zero_add]
  refine hc_seq <|
    hc_region <|
    hl_new (on_boxN rfl rfl) rfl rfl rfl fun b2 =>  ?_
  refine hl_new (on_boxN rfl rfl) rfl rfl rfl fun b3 =>  ?_
  refine hl_val (ov_assign rfl) rfl rfl rfl <|
    hl_nil <|
    hx_then_normal <|
    hc_seq <| ?_
  refine hc_any [blk b3 72 (statV y), blk b2 72 (statV x)] mixed 13 rfl ?_
  refine ha_take 0 rfl (ov_fieldA rfl) rfl rfl rfl (by kernel_rfl) (by kernel_rfl) (by kernel_rfl) (by first | assumption | exact Ent.refl _ | exact Ent.nil _ | (repeat (first | exact Ent.refl _ | exact Ent.nil _ | refine Ent.pick ?_))) <| ?_
  refine ha_take 1 rfl (ov_load rfl (CellIs.blk rfl)) rfl rfl rfl (by kernel_rfl) (by kernel_rfl) (by kernel_rfl) (by first | assumption | exact Ent.refl _ | exact Ent.nil _ | (repeat (first | exact Ent.refl _ | exact Ent.nil _ | refine Ent.pick ?_))) <| ?_
  refine ha_take 2 rfl (ov_fieldA rfl) rfl rfl rfl (by kernel_rfl) (by kernel_rfl) (by kernel_rfl) (by first | assumption | exact Ent.refl _ | exact Ent.nil _ | (repeat (first | exact Ent.refl _ | exact Ent.nil _ | refine Ent.pick ?_))) <| ?_
  refine ha_take 3 rfl (ov_load rfl (CellIs.blk rfl)) rfl rfl rfl (by kernel_rfl) (by kernel_rfl) (by kernel_rfl) (by first | assumption | exact Ent.refl _ | exact Ent.nil _ | (repeat (first | exact Ent.refl _ | exact Ent.nil _ | refine Ent.pick ?_))) <| ?_
  refine ha_take 5 rfl (ov_fieldA rfl) rfl rfl rfl (by kernel_rfl) (by kernel_rfl) (by kernel_rfl) (by first | assumption | exact Ent.refl _ | exact Ent.nil _ | (repeat (first | exact Ent.refl _ | exact Ent.nil _ | refine Ent.pick ?_))) <| ?_
  refine ha_take 6 rfl (ov_load rfl (CellIs.blk rfl)) rfl rfl rfl (by kernel_rfl) (by kernel_rfl) (by kernel_rfl) (by first | assumption | exact Ent.refl _ | exact Ent.nil _ | (repeat (first | exact Ent.refl _ | exact Ent.nil _ | refine Ent.pick ?_))) <| ?_
  refine ha_take 7 rfl (ov_fieldA rfl) rfl rfl rfl (by kernel_rfl) (by kernel_rfl) (by kernel_rfl) (by first | assumption | exact Ent.refl _ | exact Ent.nil _ | (repeat (first | exact Ent.refl _ | exact Ent.nil _ | refine Ent.pick ?_))) <| ?_
  refine ha_take 8 rfl (ov_load rfl (CellIs.blk rfl)) rfl rfl rfl (by kernel_rfl) (by kernel_rfl) (by kernel_rfl) (by first | assumption | exact Ent.refl _ | exact Ent.nil _ | (repeat (first | exact Ent.refl _ | exact Ent.nil _ | refine Ent.pick ?_))) <| ?_
  refine ha_one 4 (by kernel_rfl) <| ?_
  refine ho_c rfl Try.call77 rfl rfl rfl (fun w1 H1 => Own.calln H1 fun D' hold hin H2 => CmpI_spec D' w1 x.2.1 y.2.1) (by first | assumption | exact Ent.refl _ | exact Ent.nil _ | (repeat (first | exact Ent.refl _ | exact Ent.nil _ | refine Ent.pick ?_))) ?_
  refine ha_one 9 (by kernel_rfl) <| ?_
  refine ho_c rfl Try.call80 rfl rfl rfl (fun w1 H1 => Own.calln H1 fun D' hold hin H2 => CmpU_spec D' w1 x.1.toNat y.1.toNat) (by first | assumption | exact Ent.refl _ | exact Ent.nil _ | (repeat (first | exact Ent.refl _ | exact Ent.nil _ | refine Ent.pick ?_))) ?_
  refine ha_one 10 (by kernel_rfl) <|
    ho_new rfl (on_buildSliceN rfl rfl rfl) rfl rfl rfl (fun _ => (by first | assumption | exact Ent.refl _ | exact Ent.nil _ | (repeat (first | exact Ent.refl _ | exact Ent.nil _ | refine Ent.pick ?_)))) fun b15 =>  ?_
  refine ha_one 11 (by kernel_rfl) <| ?_
  refine ho_c rfl Try.call79 rfl rfl rfl (fun w1 H1 => Own.calln H1 fun D' hold hin H2 => Or_spec D' w1 _ (cmpI x.2.1 y.2.1) (cmpI x.1.toNat y.1.toNat) (hin _ fun h hs ho => rep_lits (b := b15) hs [_, _] ⟨[_], [_], rfl, ⟨rfl, cmpI_in _ _⟩, [_], [], rfl, ⟨rfl, cmpI_in _ _⟩, rfl⟩ (by simp))) (by first | assumption | exact Ent.refl _ | exact Ent.nil _ | (repeat (first | exact Ent.refl _ | exact Ent.nil _ | refine Ent.pick ?_))) ?_
  refine ha_take 12 rfl (ov_assign rfl) rfl rfl rfl (by kernel_rfl) (by kernel_rfl) (by kernel_rfl) (by first | assumption | exact Ent.refl _ | exact Ent.nil _ | (repeat (first | exact Ent.refl _ | exact Ent.nil _ | refine Ent.pick ?_))) <| ?_
  refine ha_done (by kernel_rfl) <|
    hx_then_normal <|
    hc_ret <| ?_
  exact results_1 (.inr rfl) rfl rfl fun w' H' => ⟨rfl, H'.ent (Ent.nil _)⟩
theorem vlans1_spec (D : Nat → Prop) (w : World) (x y : VlanC) : Calls Try.prog 76 #[.agg (vlanV x).toArray, .agg (vlanV y).toArray] w fun e w' => e = .returned (.int .i64 (cmpI x.1 y.1)) ∧ Own D w w' [] := by
  refine hc_enter (vs := [.agg (vlanV x).toArray, .agg (vlanV y).toArray]) Try.func76 rfl _ Try.ntmps76 rfl (Own.start D w) ?_
  simp only [argSlots, Nat.zero_add]
  refine hc_seq <|
    hc_region <|
    hl_new (on_boxN rfl rfl) rfl rfl rfl fun b2 =>  ?_
  refine hl_new (on_boxN rfl rfl) rfl rfl rfl fun b3 =>  ?_
  refine hl_val (ov_assign rfl) rfl rfl rfl <|
    hl_nil <|
    hx_then_normal <|
    hc_seq <|
    hc_region <|
    hl_val (ov_fieldA rfl) rfl rfl rfl <| ?_
  refine hl_val (ov_load rfl (CellIs.blk rfl)) rfl rfl rfl <|
    hl_val (ov_fieldA rfl) rfl rfl rfl <|
    hl_val (ov_load rfl (CellIs.blk rfl)) rfl rfl rfl <| ?_
  refine hl_c Try.call77 rfl rfl (fun w1 H1 => Own.calln H1 fun D' hold hin H2 => CmpI_spec D' w1 x.1 y.1) ?_
  refine hl_val (ov_assign rfl) rfl rfl rfl <|
    hl_nil <|
    hx_then_normal <|
    hc_ret <| ?_
  exact results_1 (.inr rfl) rfl rfl fun w' H' => ⟨rfl, H'.ent (Ent.nil _)⟩
theorem find1_spec (D : Nat → Prop) (w : World) (x : VlanC) (i : Int) : Calls Try.prog 89 #[.agg (vlanV x).toArray, .int .i64 i] w fun e w' => e = .returned (.int .i64 (cmpI x.1 i)) ∧ Own D w w' [] := by
  refine hc_enter (vs := [.agg (vlanV x).toArray, .int .i64 i]) Try.func89 rfl _ Try.ntmps89 rfl (Own.start D w) ?_
  simp only [argSlots, Nat.zero_add]
  refine hc_seq <|
    hc_region <|
    hl_new (on_boxN rfl rfl) rfl rfl rfl fun b2 =>  ?_
  refine hl_val (ov_assign rfl) rfl rfl rfl <|
    hl_nil <|
    hx_then_normal <|
    hc_seq <|
    hc_region <|
    hl_val (ov_fieldA rfl) rfl rfl rfl <| ?_
  refine hl_val (ov_load rfl (CellIs.blk rfl)) rfl rfl rfl <|
    hl_val (ov_move rfl) rfl rfl rfl <| ?_
  refine hl_c Try.call77 rfl rfl (fun w1 H1 => Own.calln H1 fun D' hold hin H2 => CmpI_spec D' w1 x.1 i) ?_
  refine hl_val (ov_assign rfl) rfl rfl rfl <|
    hl_nil <|
    hx_then_normal <|
    hc_ret <| ?_
  exact results_1 (.inr rfl) rfl rfl fun w' H' => ⟨rfl, H'.ent (Ent.nil _)⟩
end Go.Proofs.Ytpgpfcplchaleaa
