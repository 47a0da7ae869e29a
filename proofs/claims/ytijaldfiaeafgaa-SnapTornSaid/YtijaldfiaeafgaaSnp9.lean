import Derived.Test.YtijaldfiaeafgaaRSn2
import Derived.Test.YtijaldfiaeafgaaSnp6
import Derived.Test.YtijaldfiaeafgaaM2
set_option linter.unusedVariables false
set_option linter.unusedSimpArgs false
namespace Go.Proofs.Ytijaldfiaeafgaa
open Slk
/-! ### Disks that there may be or not -/
abbrev pO (o : Option Nat) : Value := .pointer (o.map fun g => ⟨g, 0, none⟩)
def dO (o : Option Nat) (S : List Sec) : HProp := match o with
  | none => pureP True
  | some g => dsk g S []
def rdO (o : Option Nat) (S : List Sec) : HProp := match o with
  | none => pureP True
  | some g => rdsk g S []
def okO (o : Option Nat) (S : List Sec) : Prop := o = none → S = []
def saveR (S : List Sec) (a : Nat) (xs : List UInt8) : Int × List Sec := if S.length < 32 then (1, S) else if 993 < xs.length then (2, S) else (0, saveS S a xs)
def loadR (S : List Sec) : Nat × List UInt8 × Int := if S.length < 32 then (0, [], 1) else loadE S
theorem saveR_len (S : List Sec) (a : Nat) (xs : List UInt8) : (saveR S a xs).2.length = S.length := by
  unfold saveR
  split
  · rfl
  split
  · rfl
  exact save_len (by omega) (by omega)
theorem okO_len {o : Option Nat} {S S' : List Sec} (h : okO o S) (hl : S'.length = S.length) : okO o S' := fun ho => by
  have := h ho
  subst this
  exact List.eq_nil_of_length_eq_zero hl
theorem Save_any (D : Nat → Prop) (w : World) (o : Option Nat) (S : List Sec) (a : Nat) (v : Value) (xs : List UInt8) (ho : okO o S) (ha : a < 4294967296) (hx : xs.length ≤ 4000) (HA : Old D w (Rep.rep xs [v])) (H : Own D w w [dO o S]) :
    Calls Try.prog 16 #[pO o, .int .u32 (a : Int), v] w fun e w' => e = .returned (.int .i64 (saveR S a xs).1) ∧ Own D w w' [dO o (saveR S a xs).2] := by
  cases o with
  | none =>
    have := ho rfl
    subst this
    exact (Save_nil D w a v).mono fun e w' ⟨he, H'⟩ => ⟨he, H'.ent (Ent.pure_cons trivial (Ent.refl _))⟩
  | some g =>
    unfold saveR
    by_cases h : S.length < 32
    · rw [if_pos h]; exact Save_small D w g S a v h H
    · rw [if_neg h]
      by_cases h2 : 993 < xs.length
      · rw [if_pos h2]; exact Save_long D w g S a v xs (by omega) ha hx h2 HA H
      · rw [if_neg h2]; exact Save_ok D w g S a v xs (by omega) ha (by omega) HA H
theorem RSave_any (D : Nat → Prop) (w : World) (o : Option Nat) (S : List Sec) (a : Nat) (v : Value) (xs : List UInt8) (ho : okO o S) (hS : S.length ≤ 100000) (ha : a < 4294967296) (hx : xs.length ≤ 4000) (HA : Old D w (Rep.rep xs [v])) (H : Own D w w [rdO o S]) :
    Calls Try.prog 21 #[pO o, .int .u32 (a : Int), v] w fun e w' => e = .returned (.int .i64 (saveR S a xs).1) ∧ Own D w w' [rdO o (saveR S a xs).2] := by
  cases o with
  | none =>
    have := ho rfl
    subst this
    exact (RSave_nil D w a v).mono fun e w' ⟨he, H'⟩ => ⟨he, H'.ent (Ent.pure_cons trivial (Ent.refl _))⟩
  | some g =>
    unfold saveR
    by_cases h : S.length < 32
    · rw [if_pos h]; exact RSave_small D w g S a v h H
    · rw [if_neg h]
      by_cases h2 : 993 < xs.length
      · rw [if_pos h2]; exact RSave_long D w g S a v xs (by omega) ha hx h2 HA H
      · rw [if_neg h2]; exact RSave_ok D w g S a v xs (by omega) hS ha (by omega) HA H
theorem Load_any (D : Nat → Prop) (w : World) (o : Option Nat) (S : List Sec) (a : Nat) (xs : List UInt8) (er : Int) (hL : loadR S = (a, xs, er)) (ho : okO o S) (H : Own D w w [dO o S]) :
    Calls Try.prog 15 #[pO o] w fun e w' => ∃ q : Option Addr × Nat, e = .returned (.tuple #[.int .u32 (a : Int), .slice q.1 xs.length q.2, .int .i64 er]) ∧ Own D w w' [dO o S, row q.1 5 1 xs.length q.2 (xs.map u8v)] := by
  unfold loadR at hL
  cases o with
  | none =>
    have := ho rfl
    subst this
    rw [if_pos (by decide)] at hL
    obtain ⟨rfl, h2⟩ := Prod.mk.inj hL
    obtain ⟨rfl, rfl⟩ := Prod.mk.inj h2
    exact (Load_nil D w).mono fun e w' ⟨he, H'⟩ => ⟨(none, 0), he, H'.ent (Ent.pure_cons trivial ((Ent.nil _).trans (Ent.nil_row 5 1)))⟩
  | some g =>
    by_cases h : S.length < 32
    · rw [if_pos h] at hL
      obtain ⟨rfl, h2⟩ := Prod.mk.inj hL
      obtain ⟨rfl, rfl⟩ := Prod.mk.inj h2
      exact (Load_small D w g S h H).mono fun e w' ⟨he, H'⟩ => ⟨(none, 0), he, H'.ent (Ent.cons (Ent.nil_row 5 1))⟩
    · rw [if_neg h] at hL
      exact Load_is D w g S a xs er hL (by omega) H
theorem RLoad_any (D : Nat → Prop) (w : World) (o : Option Nat) (S : List Sec) (a : Nat) (xs : List UInt8) (er : Int) (hL : loadR S = (a, xs, er)) (ho : okO o S) (H : Own D w w [rdO o S]) :
    Calls Try.prog 22 #[pO o] w fun e w' => ∃ q : (Option Addr × Nat) × Nat, e = .returned (.agg #[.int .u32 (a : Int), .slice q.1.1 xs.length q.1.2, .int .i64 (q.2 : Int), .int .i64 er]) ∧ Own D w w' [rdO o S, row q.1.1 5 1 xs.length q.1.2 (xs.map u8v)] := by
  unfold loadR at hL
  cases o with
  | none =>
    have := ho rfl
    subst this
    rw [if_pos (by decide)] at hL
    obtain ⟨rfl, h2⟩ := Prod.mk.inj hL
    obtain ⟨rfl, rfl⟩ := Prod.mk.inj h2
    exact (RLoad_nil D w).mono fun e w' ⟨he, H'⟩ => ⟨((none, 0), 0), he, H'.ent (Ent.pure_cons trivial ((Ent.nil _).trans (Ent.nil_row 5 1)))⟩
  | some g =>
    by_cases h : S.length < 32
    · rw [if_pos h] at hL
      obtain ⟨rfl, h2⟩ := Prod.mk.inj hL
      obtain ⟨rfl, rfl⟩ := Prod.mk.inj h2
      exact (RLoad_small D w g S h H).mono fun e w' ⟨he, H'⟩ => ⟨((none, 0), 0), he, H'.ent (Ent.cons (Ent.nil_row 5 1))⟩
    · rw [if_neg h] at hL
      refine (RLoad_spec D w g S (by omega) H).mono fun e w' ⟨q, he, H'⟩ => ?_
      rcases hn : newS S with _ | y
      · rw [hn] at he H'
        rw [loadE_none hn] at hL
        obtain ⟨rfl, h2⟩ := Prod.mk.inj hL
        obtain ⟨rfl, rfl⟩ := Prod.mk.inj h2
        exact ⟨((none, 0), 0), he, H'.ent (Ent.cons (Ent.nil_row 5 1))⟩
      · rw [hn] at he H'
        rw [loadE_some hn] at hL
        obtain ⟨rfl, h2⟩ := Prod.mk.inj hL
        obtain ⟨rfl, rfl⟩ := Prod.mk.inj h2
        exact ⟨(q, y.2 / 16), he, H'⟩
theorem Crash_any (D : Nat → Prop) (w : World) (o : Option Nat) (S : List Sec) (H : Own D w w [dO o S]) :
    Calls Try.prog 27 #[pO o, .slice none 0 0] w fun e w' => e = .returned (.tuple #[]) ∧ Own D w w' [dO o S] := by
  cases o with
  | none => exact (Crash_nil D w _).mono fun e w' ⟨he, H'⟩ => ⟨he, H'.ent (Ent.pure_cons trivial (Ent.refl _))⟩
  | some g => exact Crash_spec D w g S [] (.slice none 0 0) [] (fun p hp => by cases hp) Old.nil H
/-! ### Steps -/
abbrev SStep := Int × Int × UInt32 × List UInt8 × UInt8
instance : ReadsAs Try.prog 47 SStep := ReadsAs.structG 0 (by kernel_rfl) rfl (ReadsG.cons 0 (ReadsG.cons 1 (ReadsG.cons 2 (ReadsG.cons 3 (ReadsG.last 4 (by decide))))))
theorem sstep_open {D : Nat → Prop} {w0 : World} {x : SStep} {cs : List Value} (k : Old D w0 (Rep.rep x cs)) : ∃ A cap, cs = [.int .i64 x.1, .int .i64 x.2.1, .int .u32 x.2.2.1.toNat, .slice A x.2.2.2.1.length cap, .int .u8 x.2.2.2.2.toNat] ∧ inI64 x.1 ∧ inI64 x.2.1 ∧ Old D w0 (Rep.rep x.2.2.2.1 [.slice A x.2.2.2.1.length cap]) := by
  obtain ⟨h, hh, c1, c2, rfl, ⟨rfl, ia⟩, c3, c4, rfl, ⟨rfl, ib⟩, c5, c6, rfl, k5, c7, c8, rfl, hr, k8⟩ := k
  have k5 : c5 = [.int .u32 x.2.2.1.toNat] := k5
  have k8 : c8 = [u8v x.2.2.2.2] := k8
  subst k5; subst k8
  obtain ⟨A, cap, rfl, hr2⟩ := hr
  exact ⟨A, cap, rfl, ia, ib, h, hh, A, cap, rfl, hr2⟩
def fairS (l : List SStep) : Prop := l.length ≤ 60 ∧ ∀ x ∈ l, x.2.2.2.1.length ≤ 1500
theorem fair7_spec (D : Nat → Prop) (w : World) (v : Value) (l : List SStep) (HA : Old D w (Rep.rep l [v])) :
    Calls Try.prog 19 #[v] w fun e w' => ∃ b : { b : Bool // b = true → fairS l }, e = .returned (.bool b.1) ∧ Own D w w' [] := by
  obtain ⟨A, cap, rfl, hc1, hc2, hel⟩ := HA.openX (by decide)
  refine hc_enter (vs := [.slice A l.length cap]) Try.func19 rfl _ Try.ntmps19 rfl (Own.start D w) ?_
  simp only [argSlots, Nat.zero_add]
  refine hc_seq <| hc_region <| hl_v (ov_assign rfl) rfl <| hl_nil <| hx_then_normal <| hc_seq <| ?_
  refine hc_seq <| hc_region <| hl_v (ov_assign rfl) rfl <| hl_nil <| hx_then_normal <| hc_block <| ?_
  refine hc_loops1 (σ := Nat) [0] rfl 3 (fun i => .int .i64 i) (fun i => i ≤ l.length ∧ ∀ x ∈ l.take i, x.2.2.2.1.length ≤ 1500) (fun i => l.length - i) (0) (⟨Nat.zero_le _, by simp⟩) rfl ?_
  rintro i ⟨hi, hok⟩ K1 hK1
  refine hc_seq <| hc_seq <| hc_region <| hl_v (ov_move rfl) rfl <| hl_v (ov_move rfl) rfl <| hl_v (by first | exact ov_len rfl | exact ov_lenS rfl) rfl <| ?_
  refine hl_v (ov_lss rfl rfl) rfl <| hl_nil <| hx_then_normal <| ?_
  refine hc_cond rfl (fun hlt => ?_) (fun hlt => ?_)
  · have hlt : i < l.length := by omega
    obtain ⟨hA, cs, hx, hcs⟩ := hel i hlt
    obtain ⟨B, capB, rfl, _, _, hu⟩ := sstep_open hx
    have hcl := hcs 3 _ rfl
    rw [show Rep.sz SStep = 5 from rfl] at hcl
    have hsn := List.take_succ_eq_append_getElem hlt
    refine hc_skip <| hx_then_normal <| hc_seq <| hc_block <| hc_seq <| hc_region <| ?_
    refine hl_v (ov_move rfl) rfl <| hl_v (ov_move rfl) rfl <| hl_v (ov_idxS rfl (by assumption) rfl _ rfl (by omega)) rfl <| hl_v (ov_fieldA rfl) rfl <| hl_v (by first | exact ov_load rfl (by assumption) | exact ov_load rfl (hcl _) | exact ov_load rfl (hcl2 _) | exact ov_load rfl (hcl3 _) | exact ov_load rfl (CellIs.blk rfl)) rfl <| ?_
    refine hl_v (by first | exact ov_len rfl | exact ov_lenS rfl) rfl <| ?_
    refine hl_v (ov_gtr rfl rfl) rfl <| hl_nil <| hx_then_normal <| ?_
    refine hc_cond rfl (fun hgt => ?_) (fun hgt => ?_)
    · refine hc_seq <| hc_region <| hl_v (ov_assign rfl) rfl <| hl_nil <| hx_then_normal <| hc_ret <| ?_
      refine hx_block_ret <| hx_then_ret <| hx_then_ret <| hx_block_ret <| hx_then_ret <| ?_
      exact results_1 (.inr rfl) rfl rfl fun w' H' => ⟨⟨false, fun h => by cases h⟩, rfl, H'⟩
    have hok' : ∀ x ∈ l.take (i + 1), x.2.2.2.1.length ≤ 1500 := fun x hx => by
      rw [hsn] at hx
      rcases List.mem_append.1 hx with h | h
      · exact hok x h
      · simp only [List.mem_singleton] at h
        subst h; omega
    refine hc_skip <| hx_block_normal <| hx_then_normal <| hc_region <| hl_v (ov_move rfl) rfl <| hl_v (ov_add rfl rfl (by first | exact wrap_i64 (by omega) | rfl)) rfl <| ?_
    refine hl_v (ov_assign rfl) rfl <| hl_nil <| ?_
    refine hx_next hK1 (i + 1) (⟨hlt, hok'⟩) (by omega) (by repeat (first | exact Slots.sub_nil _ | refine Slots.sub_cons rfl ?_)) (by first | assumption | exact Ent.refl _ | exact Ent.nil _ | (repeat (first | exact Ent.refl _ | exact Ent.nil _ | refine Ent.pick ?_)))
  have : i = l.length := by omega
  subst this
  rw [List.take_length] at hok
  refine hc_exit <| hx_then_exit <| hx_then_exit <| hx_block_out <| hx_then_normal <| hc_seq <| ?_
  refine hc_region <| hl_v (ov_move rfl) rfl <| hl_v (by first | exact ov_len rfl | exact ov_lenS rfl) rfl <| ?_
  refine hl_v (ov_leq rfl rfl) rfl <| hl_v (ov_assign rfl) rfl <| hl_nil <| hx_then_normal <| hc_ret <| ?_
  exact results_1 (.inr rfl) rfl rfl fun w' H' => ⟨⟨_, fun h => ⟨by have := of_decide_eq_true h; omega, hok⟩⟩, rfl, H'⟩
end Go.Proofs.Ytijaldfiaeafgaa
