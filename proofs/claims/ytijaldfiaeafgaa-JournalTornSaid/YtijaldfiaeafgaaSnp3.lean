import Derived.Test.YtijaldfiaeafgaaSnp2
set_option linter.unusedVariables false
set_option linter.unusedSimpArgs false
namespace Go.Proofs.Ytijaldfiaeafgaa
open Slk
theorem newest_spec (D : Nat → Prop) (w : World) (g : Nat) (S : List Sec) (hS : 32 ≤ S.length) (H : Own D w w [dsk g S []]) :
    Calls Try.prog 46 #[.pointer (some ⟨g, 0, none⟩)] w fun e w' => ∃ s : Nat × Option Addr × Nat, e = .returned (fndP (newS S) s.1) ∧ Own D w w' (dsk g S [] :: fndO (newS S) s.1 s.2) := by
  refine hc_enter (vs := [.pointer (some ⟨g, 0, none⟩)]) Try.func46 rfl _ Try.ntmps46 rfl H ?_
  simp only [argSlots, Nat.zero_add]
  refine hc_seq <| hc_region <| hl_v (ov_assign rfl) rfl <| hl_nil <| hx_then_normal <| hc_seq <| ?_
  refine hc_region <| hl_v (ov_move rfl) rfl <| hl_new (on_buildSliceN rfl rfl rfl) rfl rfl rfl fun b4 =>  ?_
  refine hl_call (σ := Nat × Option Addr × Nat) Try.call64 rfl rfl (fun w1 H1 => Own.callpx (dsk g S []) H1 fun D' hold hin H2 => look_spec D' w1 g b4 S hS (hin _ fun h hs _ => stars_blk hs) H2) ?_
  intro s
  refine hl_v (ov_assign rfl) rfl <| hl_nil <| hx_then_normal <| hc_ret <| ?_
  exact results_1 (.inr rfl) rfl rfl fun w' H' => ⟨s, rfl, H'.ent (Ent.trans (b := dsk g S [] :: fndO (newS S) s.1 s.2 ++ [blk b4 3 [.int .i64 0, .int .i64 16]]) (fun _ h => h) Ent.append_l)⟩
def loadE (S : List Sec) : Nat × List UInt8 × Int := match newS S with
  | none => (0, [], 13)
  | some y => (y.1.2.1, y.1.2.2.2, 0)
theorem Load_nil (D : Nat → Prop) (w : World) : Calls Try.prog 15 #[.pointer none] w fun e w' => e = .returned (.tuple #[.int .u32 0, .slice none 0 0, .int .i64 1]) ∧ Own D w w' [] := by
  refine hc_enter (vs := [.pointer none]) Try.func15 rfl _ Try.ntmps15 rfl (Own.start D w) ?_
  simp only [argSlots, Nat.zero_add]
  refine hc_seq <| hc_region <| hl_v (ov_assign rfl) rfl <| hl_v (ov_assign rfl) rfl <| hl_v (ov_assign rfl) rfl <| hl_nil <| ?_
  refine hx_then_normal <| hc_seq <| hc_seq <| hc_region <| hl_v (ov_move rfl) rfl <| ?_
  refine hl_c Try.call45 rfl rfl (fun w1 H1 => Own.calln H1 fun D' hold hin H2 => Len_nil D' w1) ?_
  refine hl_v (ov_lss rfl rfl) rfl <| hl_nil <| hx_then_normal <| ?_
  refine hc_cond_T rfl ((by decide)) ?_
  refine hc_seq <| hc_region <| hl_v (ov_assign rfl) rfl <| hl_v (ov_assign rfl) rfl <| hl_v (ov_assign rfl) rfl <| hl_nil <| ?_
  refine hx_then_normal <| hc_ret <| hx_then_ret <| ?_
  exact results_3 (.inr rfl) rfl rfl rfl rfl fun w' H' => ⟨rfl, H'.ent (Ent.nil _)⟩
theorem Load_small (D : Nat → Prop) (w : World) (g : Nat) (S : List Sec) (hS : S.length < 32) (H : Own D w w [dsk g S []]) : Calls Try.prog 15 #[.pointer (some ⟨g, 0, none⟩)] w fun e w' => e = .returned (.tuple #[.int .u32 0, .slice none 0 0, .int .i64 1]) ∧ Own D w w' [dsk g S []] := by
  refine hc_enter (vs := [.pointer (some ⟨g, 0, none⟩)]) Try.func15 rfl _ Try.ntmps15 rfl H ?_
  simp only [argSlots, Nat.zero_add]
  refine hc_seq <| hc_region <| hl_v (ov_assign rfl) rfl <| hl_v (ov_assign rfl) rfl <| hl_v (ov_assign rfl) rfl <| hl_nil <| ?_
  refine hx_then_normal <| hc_seq <| hc_seq <| hc_region <| hl_v (ov_move rfl) rfl <| ?_
  refine hl_c Try.call45 rfl rfl (fun w1 H1 => Own.callp (dsk g S []) H1 fun D' hold hin H2 => Len_spec D' w1 g S [] H2) ?_
  refine hl_v (ov_lss rfl rfl) rfl <| hl_nil <| hx_then_normal <| ?_
  refine hc_cond_T rfl ((by omega)) ?_
  refine hc_seq <| hc_region <| hl_v (ov_assign rfl) rfl <| hl_v (ov_assign rfl) rfl <| hl_v (ov_assign rfl) rfl <| hl_nil <| ?_
  refine hx_then_normal <| hc_ret <| hx_then_ret <| ?_
  exact results_3 (.inr rfl) rfl rfl rfl rfl fun w' H' => ⟨rfl, H'⟩
theorem Load_spec (D : Nat → Prop) (w : World) (g : Nat) (S : List Sec) (hS : 32 ≤ S.length) (H : Own D w w [dsk g S []]) :
    Calls Try.prog 15 #[.pointer (some ⟨g, 0, none⟩)] w fun e w' => ∃ q : Option Addr × Nat, e = .returned (.tuple #[.int .u32 (loadE S).1, .slice q.1 (loadE S).2.1.length q.2, .int .i64 (loadE S).2.2]) ∧ Own D w w' [dsk g S [], row q.1 5 1 (loadE S).2.1.length q.2 ((loadE S).2.1.map u8v)] := by
  refine hc_enter (vs := [.pointer (some ⟨g, 0, none⟩)]) Try.func15 rfl _ Try.ntmps15 rfl H ?_
  simp only [argSlots, Nat.zero_add]
  refine hc_seq <| hc_region <| hl_v (ov_assign rfl) rfl <| hl_v (ov_assign rfl) rfl <| hl_v (ov_assign rfl) rfl <| hl_nil <| ?_
  refine hx_then_normal <| hc_seq <| hc_seq <| hc_region <| hl_v (ov_move rfl) rfl <| ?_
  refine hl_c Try.call45 rfl rfl (fun w1 H1 => Own.callp (dsk g S []) H1 fun D' hold hin H2 => Len_spec D' w1 g S [] H2) ?_
  refine hl_v (ov_lss rfl rfl) rfl <| hl_nil <| hx_then_normal <| ?_
  refine hc_cond_F rfl ((by omega)) ?_
  refine hc_skip <| hx_then_normal <| hc_seq <| hc_region <| hl_v (ov_move rfl) rfl <| ?_
  refine hl_call (σ := Nat × Option Addr × Nat) Try.call46 rfl rfl (fun w1 H1 => Own.callpx (dsk g S []) H1 fun D' hold hin H2 => newest_spec D' w1 g S hS H2) ?_
  intro s
  obtain ⟨f, q⟩ := s
  unfold loadE
  rcases hn : newS S with _ | y
  · dsimp only [fndP, fndO]
    refine hl_v (ov_assign rfl) rfl <| hl_nil <| hx_then_normal <| hc_seq <| hc_seq <| hc_region <| ?_
    refine hl_v (ov_move rfl) rfl <| hl_v (ov_eqlP rfl rfl) rfl <| hl_nil <| hx_then_normal <| ?_
    refine hc_cond_true rfl ?_
    refine hc_seq <| hc_region <| hl_v (ov_assign rfl) rfl <| hl_v (ov_assign rfl) rfl <| hl_v (ov_assign rfl) rfl <| hl_nil <| ?_
    refine hx_then_normal <| hc_ret <| hx_then_ret <| ?_
    exact results_3 (.inr rfl) rfl rfl rfl rfl fun w' H' => ⟨(none, 0), rfl, H'.ent (Ent.trans (b := dsk g S [] :: []) (by first | assumption | exact Ent.refl _ | exact Ent.nil _ | exact Ent.row_any (Ent.refl _) | (repeat (first | exact Ent.refl _ | exact Ent.nil _ | refine Ent.pick ?_))) (Ent.cons (Ent.nil_row 5 1)))⟩
  dsimp only [fndP, fndO]
  refine hl_v (ov_assign rfl) rfl <| hl_nil <| hx_then_normal <| hc_seq <| hc_seq <| hc_region <| ?_
  refine hl_v (ov_move rfl) rfl <| hl_v (ov_eqlP rfl rfl) rfl <| hl_nil <| hx_then_normal <| ?_
  refine hc_cond_false rfl ?_
  refine hc_skip <| hx_then_normal <| hc_seq <| hc_quiet mixed (by kernel_rfl) <| hq_v (ov_move rfl) rfl <| hq_v (ov_nil rfl) rfl <| ?_
  refine hq_v (ov_fieldA rfl) rfl <| hq_v (ov_fieldA rfl) rfl <| hq_v (ov_load rfl (CellIs.blk rfl)) rfl <| hq_v (ov_move rfl) rfl <| hq_v (ov_nil rfl) rfl <| hq_v (ov_fieldA rfl) rfl <| ?_
  refine hq_v (ov_fieldA rfl) rfl <| hq_v (ov_load rfl (CellIs.blk rfl)) rfl <| hq_v (ov_assign rfl) rfl <| hq_v (ov_assign rfl) rfl <| hq_v (ov_assign rfl) rfl <| hq_nil <| ?_
  refine hx_then_normal <| hc_ret <| ?_
  exact results_3 (.inr rfl) rfl rfl rfl rfl fun w' H' => ⟨q, rfl, H'.ent (by first | assumption | exact Ent.refl _ | exact Ent.nil _ | exact Ent.row_any (Ent.refl _) | (repeat (first | exact Ent.refl _ | exact Ent.nil _ | refine Ent.pick ?_)))⟩
end Go.Proofs.Ytijaldfiaeafgaa
