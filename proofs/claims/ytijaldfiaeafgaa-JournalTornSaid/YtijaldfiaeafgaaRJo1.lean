import Derived.Test.YtijaldfiaeafgaaJou3
import Derived.Test.YtijaldfiaeafgaaRSn1
set_option linter.unusedVariables false
set_option linter.unusedSimpArgs false
namespace Go.Proofs.Ytijaldfiaeafgaa
open Slk
theorem rowsB_one {D : Nat → Prop} {w0 w : World} {l r : List HProp} {t : TypeId} {xs : List (List UInt8)} {cs : List Value} [h : Pick l (rowsB t xs cs) r] (H : Own D w0 w l) : ∀ v ∈ cs, v.oneCell' = true := by
  obtain ⟨x, _, hs⟩ := H.own
  exact repL_one (stars_rowsB (t := t) (xs := xs) hs)
abbrev rjouB (jb g from_ to_ ep end_ n : Nat) (q : Option Addr × Nat) : HProp := blk jb 91 [.pointer (some ⟨g, 0, none⟩), .int .i64 (from_ : Int), .int .i64 (to_ : Int), .int .u32 (ep : Int), .slice q.1 n q.2, .int .i64 (end_ : Int)]
/-- The reference's journal at jb on the disk at g. -/
def rjouL (jb g from_ to_ ep end_ : Nat) (L : List (List UInt8)) (q : Option Addr × Nat × List Value) : List HProp :=
  [rjouB jb g from_ to_ ep end_ L.length (q.1, q.2.1), row q.1 23 1 L.length q.2.1 q.2.2, rowsB 5 L q.2.2]
def rjou (jb g from_ to_ ep end_ : Nat) (L : List (List UInt8)) : HProp := exS (rjouL jb g from_ to_ ep end_ L)
section
variable {jb g from_ to_ ep end_ : Nat} {L : List (List UInt8)} {l : List HProp}
theorem rjou_mk {A : Option Addr} {cap : Nat} {cs : List Value} : Ent (rjouB jb g from_ to_ ep end_ L.length (A, cap) :: row A 23 1 L.length cap cs :: rowsB 5 L cs :: l) (rjou jb g from_ to_ ep end_ L :: l) :=
  Ent.exS (L := rjouL jb g from_ to_ ep end_ L) (l := l) (A, cap, cs)
theorem rjou_mk0 : Ent (rjouB jb g from_ to_ ep end_ 0 (none, 0) :: l) (rjou jb g from_ to_ ep end_ [] :: l) :=
  Ent.trans (Ent.cons (rowsB_nil.trans (Ent.nil_row 23 1))) (rjou_mk (L := []) (A := none) (cap := 0) (cs := []))
end
theorem RRoom_spec (D : Nat → Prop) (w : World) (jb g from_ to_ ep end_ : Nat) (L : List (List UInt8)) (hle : end_ ≤ to_) (hto : to_ ≤ 100000) (H : Own D w w [rjou jb g from_ to_ ep end_ L]) :
    Calls Try.prog 42 #[.pointer (some ⟨jb, 0, none⟩)] w fun e w' => e = .returned (.int .i64 ((to_ - end_ : Nat) : Int)) ∧ Own D w w' [rjou jb g from_ to_ ep end_ L] := by
  refine hc_enter (vs := [.pointer (some ⟨jb, 0, none⟩)]) Try.func42 rfl _ Try.ntmps42 rfl H ?_
  simp only [argSlots, Nat.zero_add]
  refine HC.exs ?_
  rintro ⟨A, cap, cs⟩
  refine HC.ent (l' := rjouB jb g from_ to_ ep end_ L.length (A, cap) :: row A 23 1 L.length cap cs :: rowsB 5 L cs :: []) (fun _ h => h) ?_
  refine hc_seq <| hc_region <| hl_v (ov_assign rfl) rfl <| hl_nil <| hx_then_normal <| hc_seq <| ?_
  refine hc_quiet mixed (by kernel_rfl) <| hq_v (ov_move rfl) rfl <| hq_v (ov_nil rfl) rfl <| hq_v (ov_fieldA rfl) rfl <| hq_v (ov_load rfl (CellIs.blk rfl)) rfl <| hq_v (ov_move rfl) rfl <| ?_
  refine hq_v (ov_nil rfl) rfl <| hq_v (ov_fieldA rfl) rfl <| hq_v (ov_load rfl (CellIs.blk rfl)) rfl <| ?_
  refine hq_v (ov_sub (m := ((to_ - end_ : Nat) : Int)) rfl rfl ((wrap_i64 (by omega)).trans (by omega))) rfl ?_
  refine hq_v (ov_assign rfl) rfl <| hq_nil <| hx_then_normal <| hc_ret <| ?_
  exact results_1 (.inr rfl) rfl rfl fun w' H' => ⟨rfl, H'.ent rjou_mk⟩
theorem RNext_spec (D : Nat → Prop) (w : World) (jb g from_ to_ ep end_ : Nat) (L : List (List UInt8)) (ep' : Nat) (H : Own D w w [rjou jb g from_ to_ ep end_ L]) :
    Calls Try.prog 40 #[.pointer (some ⟨jb, 0, none⟩), .int .u32 (ep' : Int)] w fun e w' => e = .returned (.tuple #[]) ∧ Own D w w' [rjou jb g from_ to_ ep' from_ []] := by
  refine hc_enter (vs := [.pointer (some ⟨jb, 0, none⟩), .int .u32 (ep' : Int)]) Try.func40 rfl _ Try.ntmps40 rfl H ?_
  simp only [argSlots, Nat.zero_add]
  refine HC.exs ?_
  rintro ⟨A, cap, cs⟩
  refine HC.ent (l' := rjouB jb g from_ to_ ep end_ L.length (A, cap) :: row A 23 1 L.length cap cs :: rowsB 5 L cs :: []) (fun _ h => h) ?_
  refine hc_region <| hl_v (ov_move rfl) rfl <| hl_v (ov_move rfl) rfl <| hl_v (ov_move rfl) rfl <| hl_v (ov_move rfl) rfl <| hl_v (ov_move rfl) rfl <| ?_
  refine hl_v (ov_nil rfl) rfl <| hl_v (ov_fieldA rfl) rfl <| hl_v (ov_load rfl (CellIs.blk rfl)) rfl <| hl_v (ov_nil rfl) rfl <| hl_v (ov_fieldA rfl) rfl <| hl_u0 (on_storeN rfl rfl rfl rfl rfl) rfl rfl <| ?_
  refine hl_v (ov_nil rfl) rfl <| hl_v (ov_fieldA rfl) rfl <| hl_u0 (on_storeN rfl rfl rfl rfl rfl) rfl rfl <| hl_v (ov_nil rfl) rfl <| hl_v (ov_fieldA rfl) rfl <| hl_u0 (on_storeN rfl rfl rfl rfl rfl) rfl rfl <| ?_
  refine hl_nil <| ?_
  exact results_0 (.inl rfl) rfl fun w' H' => ⟨rfl, H'.ent (Ent.trans (b := [rjouB jb g from_ to_ ep' from_ 0 (none, 0)]) (by first | assumption | exact Ent.refl _ | exact Ent.nil _ | exact Ent.row_any (Ent.refl _) | (repeat (first | exact Ent.refl _ | exact Ent.nil _ | refine Ent.pick ?_))) rjou_mk0)⟩
theorem REnc_long (D : Nat → Prop) (w : World) (a b : Nat) (v : Value) (xs : List UInt8) (hx : 4000 < xs.length) (HA : Old D w (Rep.rep xs [v])) :
    Calls Try.prog 55 #[.agg #[.int .i64 1, .int .u32 a, .int .u32 b, v]] w fun e w' => e = .returned (.tuple #[.slice none 0 0, .int .i64 2]) ∧ Own D w w' [] := by
  obtain ⟨Ax, capx, rfl, hc1, hc2, HS⟩ := HA.openB
  refine hc_enter (vs := [.agg #[.int .i64 1, .int .u32 a, .int .u32 b, .slice Ax xs.length capx]]) Try.func55 rfl _ Try.ntmps55 rfl (Own.start D w) ?_
  simp only [argSlots, Nat.zero_add]
  refine hc_seq <| hc_region <| hl_new (on_boxN rfl rfl) rfl rfl rfl fun b1 =>  ?_
  refine hl_v (ov_assign rfl) rfl <| hl_v (ov_assign rfl) rfl <| hl_nil <| hx_then_normal <| hc_seq <| hc_seq <| ?_
  refine hc_region <| hl_v (ov_fieldA rfl) rfl <| hl_v (ov_load rfl (CellIs.blk rfl)) rfl <| hl_v (ov_lss rfl rfl) rfl <| hl_v (ov_move rfl) rfl <| ?_
  refine hl_partF (t := 11) rfl ((by omega)) ?_
  refine hl_on rfl rfl <| hl_v (ov_fieldA rfl) rfl <| hl_on rfl rfl <| hl_v (ov_load rfl (CellIs.blk rfl)) rfl <| hl_on rfl rfl <| hl_v (ov_gtr rfl rfl) rfl <| hl_v (ov_pickF rfl rfl) rfl <| hl_nil <| hx_then_normal <| ?_
  refine hc_cond_F rfl ((by omega)) ?_
  refine hc_skip <| hx_then_normal <| hc_seq <| hc_seq <| hc_region <| hl_v (ov_fieldA rfl) rfl <| ?_
  refine hl_v (ov_load rfl (CellIs.blk rfl)) rfl <| hl_v (by first | exact ov_len rfl | exact ov_lenS rfl) rfl <| ?_
  refine hl_v (ov_gtr rfl rfl) rfl <| hl_nil <| hx_then_normal <| ?_
  refine hc_cond_T rfl ((by omega)) ?_
  refine hc_seq <| hc_region <| hl_v (ov_assign rfl) rfl <| hl_v (ov_assign rfl) rfl <| hl_nil <| hx_then_normal <| ?_
  refine hc_ret <| hx_then_ret <| ?_
  exact results_2 (.inr rfl) rfl rfl rfl fun w' H' => ⟨rfl, H'.ent (Ent.nil _)⟩
theorem RSectors_long (D : Nat → Prop) (w : World) (jb g from_ to_ ep end_ : Nat) (L : List (List UInt8)) (v : Value) (x : List UInt8) (hx : 4000 < x.length) (hL : L.length ≤ 1000000) (HA : Old D w (Rep.rep x [v])) (H : Own D w w [rjou jb g from_ to_ ep end_ L]) :
    Calls Try.prog 44 #[.pointer (some ⟨jb, 0, none⟩), v] w fun e w' => e = .returned (.tuple #[.slice none 0 0, .int .i64 2]) ∧ Own D w w' [rjou jb g from_ to_ ep end_ L] := by
  obtain ⟨Ax, capx, rfl, _⟩ := HA.openB
  refine hc_enter (vs := [.pointer (some ⟨jb, 0, none⟩), .slice Ax x.length capx]) Try.func44 rfl _ Try.ntmps44 rfl H ?_
  simp only [argSlots, Nat.zero_add]
  refine hc_seq <| hc_region <| hl_v (ov_assign rfl) rfl <| hl_v (ov_assign rfl) rfl <| hl_nil <| hx_then_normal <| ?_
  refine hc_seq <| ?_
  refine HC.exs ?_
  rintro ⟨A, cap, cs⟩
  refine HC.ent (l' := rjouB jb g from_ to_ ep end_ L.length (A, cap) :: row A 23 1 L.length cap cs :: rowsB 5 L cs :: []) (fun _ h => h) ?_
  refine hc_any [rjouB jb g from_ to_ ep end_ L.length (A, cap)] mixed 18 rfl ?_
  refine ha_v 0 rfl (ov_move rfl) rfl <| ?_
  refine ha_v 1 rfl (ov_nil rfl) rfl <| ?_
  refine ha_v 2 rfl (ov_fieldA rfl) rfl <| ?_
  refine ha_v 3 rfl (ov_load rfl (CellIs.blk rfl)) rfl <| ?_
  refine ha_v 4 rfl (ov_move rfl) rfl <| ?_
  refine ha_v 5 rfl (ov_nil rfl) rfl <| ?_
  refine ha_v 6 rfl (ov_fieldA rfl) rfl <| ?_
  refine ha_v 7 rfl (ov_load rfl (CellIs.blk rfl)) rfl <| ?_
  refine ha_v 8 rfl (by first | exact ov_len rfl | exact ov_lenS rfl) rfl <| ?_
  refine ha_v 10 rfl (ov_move rfl) rfl <| ?_
  refine ha_one 9 (by kernel_rfl) <| ?_
  refine ho_v rfl (ov_conv (m := ((L.length : Nat) : Int)) rfl (wrap_u32 (by omega))) rfl ?_
  refine ha_v 11 rfl (ov_buildSN rfl rfl) rfl <| ?_
  refine ha_one 12 (by kernel_rfl) <| ?_
  refine ho_k rfl Try.call55 rfl (fun w1 H1 => Own.calln H1 fun D' hold hin H2 => REnc_long D' w1 ep L.length _ x hx (hold _ HA)) ?_
  refine ha_v 13 rfl (ov_move rfl) rfl <| ?_
  refine ha_v 14 rfl (ov_extract rfl rfl) rfl <| ?_
  refine ha_v 15 rfl (ov_extract rfl rfl) rfl <| ?_
  refine ha_v 16 rfl (ov_assign rfl) rfl <| ?_
  refine ha_v 17 rfl (ov_assign rfl) rfl <| ?_
  refine ha_done (by kernel_rfl) <| hx_then_normal <| hc_seq <| hc_seq <| hc_region <| hl_v (ov_move rfl) rfl <| ?_
  refine hl_v (ov_neq rfl rfl) rfl <| hl_nil <| hx_then_normal <| ?_
  refine hc_cond_T rfl ((by decide)) ?_
  refine hc_seq <| hc_region <| hl_v (ov_assign rfl) rfl <| hl_v (ov_assign rfl) rfl <| hl_nil <| hx_then_normal <| ?_
  refine hc_ret <| hx_then_ret <| ?_
  exact results_2 (.inr rfl) rfl rfl rfl fun w' H' => ⟨rfl, H'.ent rjou_mk⟩
theorem RSectors_full (D : Nat → Prop) (w : World) (jb g from_ to_ ep end_ : Nat) (L : List (List UInt8)) (v : Value) (x : List UInt8) (hx : x.length ≤ 4000) (n : Nat) (hn : needM x.length = n) (hfull : to_ - end_ < n) (hle : end_ ≤ to_) (hto : to_ ≤ 100000) (hep : ep < 4294967296) (hL : L.length ≤ 1000000) (HA : Old D w (Rep.rep x [v])) (H : Own D w w [rjou jb g from_ to_ ep end_ L]) :
    Calls Try.prog 44 #[.pointer (some ⟨jb, 0, none⟩), v] w fun e w' => e = .returned (.tuple #[.slice none 0 0, .int .i64 12]) ∧ Own D w w' [rjou jb g from_ to_ ep end_ L] := by
  obtain ⟨Ax, capx, rfl, _⟩ := HA.openB
  obtain ⟨E, hE⟩ : ∃ E, E = encE (jouE ep L.length x) := ⟨_, rfl⟩
  have hEl : E.length = n := by rw [hE, encE_len _ hx, hn]
  refine hc_enter (vs := [.pointer (some ⟨jb, 0, none⟩), .slice Ax x.length capx]) Try.func44 rfl _ Try.ntmps44 rfl H ?_
  simp only [argSlots, Nat.zero_add]
  refine hc_seq <| hc_region <| hl_v (ov_assign rfl) rfl <| hl_v (ov_assign rfl) rfl <| hl_nil <| hx_then_normal <| ?_
  refine hc_seq <| ?_
  refine HC.exs ?_
  rintro ⟨A, cap, cs⟩
  refine HC.ent (l' := rjouB jb g from_ to_ ep end_ L.length (A, cap) :: row A 23 1 L.length cap cs :: rowsB 5 L cs :: []) (fun _ h => h) ?_
  refine hc_any [rjouB jb g from_ to_ ep end_ L.length (A, cap)] mixed 18 rfl ?_
  refine ha_v 0 rfl (ov_move rfl) rfl <| ?_
  refine ha_v 1 rfl (ov_nil rfl) rfl <| ?_
  refine ha_v 2 rfl (ov_fieldA rfl) rfl <| ?_
  refine ha_v 3 rfl (ov_load rfl (CellIs.blk rfl)) rfl <| ?_
  refine ha_v 4 rfl (ov_move rfl) rfl <| ?_
  refine ha_v 5 rfl (ov_nil rfl) rfl <| ?_
  refine ha_v 6 rfl (ov_fieldA rfl) rfl <| ?_
  refine ha_v 7 rfl (ov_load rfl (CellIs.blk rfl)) rfl <| ?_
  refine ha_v 8 rfl (by first | exact ov_len rfl | exact ov_lenS rfl) rfl <| ?_
  refine ha_v 10 rfl (ov_move rfl) rfl <| ?_
  refine ha_one 9 (by kernel_rfl) <| ?_
  refine ho_v rfl (ov_conv (m := ((L.length : Nat) : Int)) rfl (wrap_u32 (by omega))) rfl ?_
  refine ha_v 11 rfl (ov_buildSN rfl rfl) rfl <| ?_
  refine ha_one 12 (by kernel_rfl) <| ?_
  refine ho_kx (σ := Option Addr × Nat) rfl Try.call55 rfl (fun w1 H1 => Own.callx0 H1 fun D' hold hin H2 => REnc_at D' w1 (jouE ep L.length x) _ E n hE hEl.symm ⟨show 1 < 256 by decide, hep, show L.length < 4294967296 by omega, hx⟩ (hold _ HA)) ?_
  intro qe
  try rw [List.nil_append]
  refine ha_v 13 rfl (ov_move rfl) rfl <| ?_
  refine ha_v 14 rfl (ov_extract rfl rfl) rfl <| ?_
  refine ha_v 15 rfl (ov_extract rfl rfl) rfl <| ?_
  refine ha_v 16 rfl (ov_assign rfl) rfl <| ?_
  refine ha_v 17 rfl (ov_assign rfl) rfl <| ?_
  refine ha_done (by kernel_rfl) <| hx_then_normal <| hc_seq <| hc_seq <| hc_region <| hl_v (ov_move rfl) rfl <| ?_
  refine hl_v (ov_neq rfl rfl) rfl <| hl_nil <| hx_then_normal <| ?_
  refine hc_cond_F rfl ((fun h => h rfl)) ?_
  refine HC.ent (Ent.trans (b := rjouB jb g from_ to_ ep end_ L.length (A, cap) :: row A 23 1 L.length cap cs :: rowsB 5 L cs :: [row qe.1 34 64 n qe.2 (E.flatMap secC)]) (by first | assumption | exact Ent.refl _ | exact Ent.nil _ | exact Ent.row_any (Ent.refl _) | (repeat (first | exact Ent.refl _ | exact Ent.nil _ | refine Ent.pick ?_))) rjou_mk) ?_
  refine hc_skip <| hx_then_normal <| hc_seq <| hc_seq <| hc_region <| hl_v (ov_move rfl) rfl <| ?_
  refine hl_v (by first | exact ov_len rfl | exact ov_lenS rfl) rfl <| ?_
  refine hl_v (ov_move rfl) rfl <| ?_
  refine hl_c Try.call42 rfl rfl (fun w1 H1 => Own.callp (rjou jb g from_ to_ ep end_ L) H1 fun D' hold hin H2 => RRoom_spec D' w1 jb g from_ to_ ep end_ L hle hto H2) ?_
  refine hl_v (ov_gtr rfl rfl) rfl <| hl_nil <| hx_then_normal <| ?_
  refine hc_cond_T rfl ((by omega)) ?_
  refine hc_seq <| hc_region <| hl_v (ov_assign rfl) rfl <| hl_v (ov_assign rfl) rfl <| hl_nil <| hx_then_normal <| ?_
  refine hc_ret <| hx_then_ret <| ?_
  exact results_2 (.inr rfl) rfl rfl rfl fun w' H' => ⟨rfl, H'.ent (by first | assumption | exact Ent.refl _ | exact Ent.nil _ | exact Ent.row_any (Ent.refl _) | (repeat (first | exact Ent.refl _ | exact Ent.nil _ | refine Ent.pick ?_)))⟩
theorem RSectors_ok (D : Nat → Prop) (w : World) (jb g from_ to_ ep end_ : Nat) (L : List (List UInt8)) (v : Value) (x : List UInt8) (hx : x.length ≤ 4000) (n : Nat) (hn : needM x.length = n) (E : List Sec) (hE : E = encE (jouE ep L.length x)) (hfit : n ≤ to_ - end_) (hle : end_ ≤ to_) (hto : to_ ≤ 100000) (hep : ep < 4294967296) (hL : L.length ≤ 1000000) (HA : Old D w (Rep.rep x [v])) (H : Own D w w [rjou jb g from_ to_ ep end_ L]) :
    Calls Try.prog 44 #[.pointer (some ⟨jb, 0, none⟩), v] w fun e w' => ∃ qe : Option Addr × Nat, e = .returned (.tuple #[.slice qe.1 n qe.2, .int .i64 0]) ∧ Own D w w' [rjou jb g from_ to_ ep end_ L, row qe.1 34 64 n qe.2 (E.flatMap secC)] := by
  obtain ⟨Ax, capx, rfl, _⟩ := HA.openB
  have hEl : E.length = n := by rw [hE, encE_len _ hx, hn]
  refine hc_enter (vs := [.pointer (some ⟨jb, 0, none⟩), .slice Ax x.length capx]) Try.func44 rfl _ Try.ntmps44 rfl H ?_
  simp only [argSlots, Nat.zero_add]
  refine hc_seq <| hc_region <| hl_v (ov_assign rfl) rfl <| hl_v (ov_assign rfl) rfl <| hl_nil <| hx_then_normal <| ?_
  refine hc_seq <| ?_
  refine HC.exs ?_
  rintro ⟨A, cap, cs⟩
  refine HC.ent (l' := rjouB jb g from_ to_ ep end_ L.length (A, cap) :: row A 23 1 L.length cap cs :: rowsB 5 L cs :: []) (fun _ h => h) ?_
  refine hc_any [rjouB jb g from_ to_ ep end_ L.length (A, cap)] mixed 18 rfl ?_
  refine ha_v 0 rfl (ov_move rfl) rfl <| ?_
  refine ha_v 1 rfl (ov_nil rfl) rfl <| ?_
  refine ha_v 2 rfl (ov_fieldA rfl) rfl <| ?_
  refine ha_v 3 rfl (ov_load rfl (CellIs.blk rfl)) rfl <| ?_
  refine ha_v 4 rfl (ov_move rfl) rfl <| ?_
  refine ha_v 5 rfl (ov_nil rfl) rfl <| ?_
  refine ha_v 6 rfl (ov_fieldA rfl) rfl <| ?_
  refine ha_v 7 rfl (ov_load rfl (CellIs.blk rfl)) rfl <| ?_
  refine ha_v 8 rfl (by first | exact ov_len rfl | exact ov_lenS rfl) rfl <| ?_
  refine ha_v 10 rfl (ov_move rfl) rfl <| ?_
  refine ha_one 9 (by kernel_rfl) <| ?_
  refine ho_v rfl (ov_conv (m := ((L.length : Nat) : Int)) rfl (wrap_u32 (by omega))) rfl ?_
  refine ha_v 11 rfl (ov_buildSN rfl rfl) rfl <| ?_
  refine ha_one 12 (by kernel_rfl) <| ?_
  refine ho_kx (σ := Option Addr × Nat) rfl Try.call55 rfl (fun w1 H1 => Own.callx0 H1 fun D' hold hin H2 => REnc_at D' w1 (jouE ep L.length x) _ E n hE hEl.symm ⟨show 1 < 256 by decide, hep, show L.length < 4294967296 by omega, hx⟩ (hold _ HA)) ?_
  intro qe
  try rw [List.nil_append]
  refine ha_v 13 rfl (ov_move rfl) rfl <| ?_
  refine ha_v 14 rfl (ov_extract rfl rfl) rfl <| ?_
  refine ha_v 15 rfl (ov_extract rfl rfl) rfl <| ?_
  refine ha_v 16 rfl (ov_assign rfl) rfl <| ?_
  refine ha_v 17 rfl (ov_assign rfl) rfl <| ?_
  refine ha_done (by kernel_rfl) <| hx_then_normal <| hc_seq <| hc_seq <| hc_region <| hl_v (ov_move rfl) rfl <| ?_
  refine hl_v (ov_neq rfl rfl) rfl <| hl_nil <| hx_then_normal <| ?_
  refine hc_cond_F rfl ((fun h => h rfl)) ?_
  refine HC.ent (Ent.trans (b := rjouB jb g from_ to_ ep end_ L.length (A, cap) :: row A 23 1 L.length cap cs :: rowsB 5 L cs :: [row qe.1 34 64 n qe.2 (E.flatMap secC)]) (by first | assumption | exact Ent.refl _ | exact Ent.nil _ | exact Ent.row_any (Ent.refl _) | (repeat (first | exact Ent.refl _ | exact Ent.nil _ | refine Ent.pick ?_))) rjou_mk) ?_
  refine hc_skip <| hx_then_normal <| hc_seq <| hc_seq <| hc_region <| hl_v (ov_move rfl) rfl <| ?_
  refine hl_v (by first | exact ov_len rfl | exact ov_lenS rfl) rfl <| ?_
  refine hl_v (ov_move rfl) rfl <| ?_
  refine hl_c Try.call42 rfl rfl (fun w1 H1 => Own.callp (rjou jb g from_ to_ ep end_ L) H1 fun D' hold hin H2 => RRoom_spec D' w1 jb g from_ to_ ep end_ L hle hto H2) ?_
  refine hl_v (ov_gtr rfl rfl) rfl <| hl_nil <| hx_then_normal <| ?_
  refine hc_cond_F rfl ((by omega)) ?_
  refine hc_skip <| hx_then_normal <| hc_seq <| hc_region <| hl_v (ov_move rfl) rfl <| hl_v (ov_assign rfl) rfl <| ?_
  refine hl_v (ov_assign rfl) rfl <| hl_nil <| hx_then_normal <| hc_ret <| ?_
  exact results_2 (.inr rfl) rfl rfl rfl fun w' H' => ⟨qe, rfl, H'.ent (by first | assumption | exact Ent.refl _ | exact Ent.nil _ | exact Ent.row_any (Ent.refl _) | (repeat (first | exact Ent.refl _ | exact Ent.nil _ | refine Ent.pick ?_)))⟩
theorem RAppend_long (D : Nat → Prop) (w : World) (jb g from_ to_ ep end_ : Nat) (L : List (List UInt8)) (v : Value) (x : List UInt8) (hx : 4000 < x.length) (hL : L.length ≤ 1000000) (HA : Old D w (Rep.rep x [v])) (H : Own D w w [rjou jb g from_ to_ ep end_ L]) :
    Calls Try.prog 38 #[.pointer (some ⟨jb, 0, none⟩), v] w fun e w' => e = .returned (.int .i64 2) ∧ Own D w w' [rjou jb g from_ to_ ep end_ L] := by
  refine hc_enter (vs := [.pointer (some ⟨jb, 0, none⟩), v]) Try.func38 rfl _ Try.ntmps38 rfl H ?_
  simp only [argSlots, Nat.zero_add]
  refine hc_seq <| hc_region <| hl_v (ov_assign rfl) rfl <| hl_nil <| hx_then_normal <| hc_seq <| ?_
  refine hc_region <| hl_v (ov_move rfl) rfl <| hl_v (ov_move rfl) rfl <| ?_
  refine hl_c Try.call44 rfl rfl (fun w1 H1 => Own.callp (rjou jb g from_ to_ ep end_ L) H1 fun D' hold hin H2 => RSectors_long D' w1 jb g from_ to_ ep end_ L v x hx hL (hold _ HA) H2) ?_
  refine hl_v (ov_move rfl) rfl <| hl_v (ov_extract rfl rfl) rfl <| hl_v (ov_extract rfl rfl) rfl <| hl_v (ov_assign rfl) rfl <| hl_v (ov_assign rfl) rfl <| hl_nil <| ?_
  refine hx_then_normal <| hc_seq <| hc_seq <| hc_region <| hl_v (ov_move rfl) rfl <| hl_v (ov_neq rfl rfl) rfl <| ?_
  refine hl_nil <| hx_then_normal <| ?_
  refine hc_cond_T rfl ((by decide)) ?_
  refine hc_seq <| hc_region <| hl_v (ov_move rfl) rfl <| hl_v (ov_assign rfl) rfl <| hl_nil <| hx_then_normal <| ?_
  refine hc_ret <| hx_then_ret <| ?_
  exact results_1 (.inr rfl) rfl rfl fun w' H' => ⟨rfl, H'⟩
theorem RAppend_full (D : Nat → Prop) (w : World) (jb g from_ to_ ep end_ : Nat) (L : List (List UInt8)) (v : Value) (x : List UInt8) (hx : x.length ≤ 4000) (n : Nat) (hn : needM x.length = n) (hfull : to_ - end_ < n) (hle : end_ ≤ to_) (hto : to_ ≤ 100000) (hep : ep < 4294967296) (hL : L.length ≤ 1000000) (HA : Old D w (Rep.rep x [v])) (H : Own D w w [rjou jb g from_ to_ ep end_ L]) :
    Calls Try.prog 38 #[.pointer (some ⟨jb, 0, none⟩), v] w fun e w' => e = .returned (.int .i64 12) ∧ Own D w w' [rjou jb g from_ to_ ep end_ L] := by
  refine hc_enter (vs := [.pointer (some ⟨jb, 0, none⟩), v]) Try.func38 rfl _ Try.ntmps38 rfl H ?_
  simp only [argSlots, Nat.zero_add]
  refine hc_seq <| hc_region <| hl_v (ov_assign rfl) rfl <| hl_nil <| hx_then_normal <| hc_seq <| ?_
  refine hc_region <| hl_v (ov_move rfl) rfl <| hl_v (ov_move rfl) rfl <| ?_
  refine hl_c Try.call44 rfl rfl (fun w1 H1 => Own.callp (rjou jb g from_ to_ ep end_ L) H1 fun D' hold hin H2 => RSectors_full D' w1 jb g from_ to_ ep end_ L v x hx n hn hfull hle hto hep hL (hold _ HA) H2) ?_
  refine hl_v (ov_move rfl) rfl <| hl_v (ov_extract rfl rfl) rfl <| hl_v (ov_extract rfl rfl) rfl <| hl_v (ov_assign rfl) rfl <| hl_v (ov_assign rfl) rfl <| hl_nil <| ?_
  refine hx_then_normal <| hc_seq <| hc_seq <| hc_region <| hl_v (ov_move rfl) rfl <| hl_v (ov_neq rfl rfl) rfl <| ?_
  refine hl_nil <| hx_then_normal <| ?_
  refine hc_cond_T rfl ((by decide)) ?_
  refine hc_seq <| hc_region <| hl_v (ov_move rfl) rfl <| hl_v (ov_assign rfl) rfl <| hl_nil <| hx_then_normal <| ?_
  refine hc_ret <| hx_then_ret <| ?_
  exact results_1 (.inr rfl) rfl rfl fun w' H' => ⟨rfl, H'⟩
set_option maxHeartbeats 1000000 in
theorem RAppend_ok (D : Nat → Prop) (w : World) (jb g from_ to_ ep end_ : Nat) (L : List (List UInt8)) (v : Value) (S : List Sec) (x : List UInt8) (n end' : Nat) (L' : List (List UInt8)) (S' : List Sec) (hn : needM x.length = n) (he : end' = end_ + n) (hL' : L' = L ++ [x]) (hS' : S' = putS S end_ (encE (jouE ep L.length x))) (hle : end_ ≤ to_) (hto : to_ ≤ S.length) (hS : S.length ≤ 100000) (hp : x.length ≤ 4000) (hfit : n ≤ to_ - end_) (hep : ep < 4294967296) (hL : L.length ≤ 1000000) (HA : Old D w (Rep.rep x [v])) (H : Own D w w [rjou jb g from_ to_ ep end_ L, rdsk g S []]) :
    Calls Try.prog 38 #[.pointer (some ⟨jb, 0, none⟩), v] w fun e w' => e = .returned (.int .i64 0) ∧ Own D w w' [rjou jb g from_ to_ ep end' L', rdsk g S' []] := by
  obtain ⟨E, hE⟩ : ∃ E, E = encE (jouE ep L.length x) := ⟨_, rfl⟩
  have hEl : E.length = n := by rw [hE, encE_len _ hp, hn]
  have hpos := enc_pos (jouE ep L.length x)
  rw [← hE] at hpos hS'
  obtain ⟨Ax, capx, rfl, _, _, HS⟩ := HA.openB
  refine hc_enter (vs := [.pointer (some ⟨jb, 0, none⟩), .slice Ax x.length capx]) Try.func38 rfl _ Try.ntmps38 rfl H ?_
  simp only [argSlots, Nat.zero_add]
  refine hc_seq <| hc_region <| hl_v (ov_assign rfl) rfl <| hl_nil <| hx_then_normal <| hc_seq <| ?_
  refine hc_region <| hl_v (ov_move rfl) rfl <| hl_v (ov_move rfl) rfl <| ?_
  refine hl_call (σ := Option Addr × Nat) Try.call44 rfl rfl (fun w1 H1 => Own.callpx (rjou jb g from_ to_ ep end_ L) H1 fun D' hold hin H2 => RSectors_ok D' w1 jb g from_ to_ ep end_ L _ x hp n hn E hE hfit hle (by omega) hep hL (hold _ HA) H2) ?_
  intro qe
  refine HL.fact (fun w H => Own.factR qe.1 H) ?_
  rintro ⟨_, _, _, hAe'⟩
  have hAe : isA qe.1 := hAe' (by intro h; have := congrArg List.length h; rw [flat_len secC_len] at this; simp only [List.length_nil] at this; omega)
  refine hl_v (ov_move rfl) rfl <| hl_v (ov_extract rfl rfl) rfl <| hl_v (ov_extract rfl rfl) rfl <| hl_v (ov_assign rfl) rfl <| hl_v (ov_assign rfl) rfl <| hl_nil <| ?_
  refine hx_then_normal <| hc_seq <| hc_seq <| hc_region <| hl_v (ov_move rfl) rfl <| hl_v (ov_neq rfl rfl) rfl <| ?_
  refine hl_nil <| hx_then_normal <| ?_
  refine hc_cond_F rfl ((fun h => h rfl)) ?_
  refine hc_skip <| hx_then_normal <| hc_seq <| hc_seq <| ?_
  refine HC.exs ?_
  rintro ⟨A, cap, cs⟩
  refine HC.ent (l' := rjouB jb g from_ to_ ep end_ L.length (A, cap) :: row A 23 1 L.length cap cs :: rowsB 5 L cs :: [row qe.1 34 64 n qe.2 (E.flatMap secC), rdsk g S []]) (fun _ h => h) ?_
  refine HC.fact (fun w H => Own.factR A H) (fun hf => ?_)
  obtain ⟨hcl0, hcap, hcap2, hA⟩ := hf
  refine HC.fact (fun w H => rowsB_one (t := 5) (xs := L) (cs := cs) H) (fun hone => ?_)
  refine hc_region <| hl_v (ov_assign rfl) rfl <| hl_nil <| hx_then_normal <| hc_block <| ?_
  refine hc_loopK1 (σ := Nat) [0, 1, 5] rfl 7 (fun i => .int .i64 (i : Int)) (fun i => [rdsk g S (PW end_ E i), row qe.1 34 64 n qe.2 (E.flatMap secC), rjouB jb g from_ to_ ep end_ L.length (A, cap), row A 23 1 L.length cap cs, rowsB 5 L cs]) (fun i => i ≤ n) (fun i => n - i) (0) (Nat.zero_le _) rfl (show Ent _ [rdsk g S [], row qe.1 34 64 n qe.2 (E.flatMap secC), rjouB jb g from_ to_ ep end_ L.length (A, cap), row A 23 1 L.length cap cs, rowsB 5 L cs] from (by first | assumption | exact Ent.refl _ | exact Ent.nil _ | exact Ent.row_any (Ent.refl _) | (repeat (first | exact Ent.refl _ | exact Ent.nil _ | refine Ent.pick ?_)))) ?_
  rintro i hi K1 hK1
  refine hc_seq <| hc_seq <| hc_region <| hl_v (ov_move rfl) rfl <| hl_v (ov_move rfl) rfl <| hl_v (by first | exact ov_len rfl | exact ov_lenS rfl) rfl <| ?_
  refine hl_v (ov_lss rfl rfl) rfl <| hl_nil <| hx_then_normal <| ?_
  refine hc_cond rfl (fun h => ?_) (fun h => ?_)
  · have hin : i < n := by omega
    have hiE : i < E.length := by omega
    refine hc_skip <| hx_then_normal <| hc_seq <| hc_block <| ?_
    refine hc_tail 14 mixed (by kernel_rfl) ?_
    refine ht_v (ov_move rfl) rfl <| ht_v (ov_nil rfl) rfl <| ht_v (ov_fieldA rfl) rfl <| ht_v (ov_load rfl (CellIs.blk rfl)) rfl <| ht_v (ov_move rfl) rfl <| ht_v (ov_nil rfl) rfl <| ?_
    refine ht_v (ov_fieldA rfl) rfl <| ht_v (ov_load rfl (CellIs.blk rfl)) rfl <| ht_v (ov_move rfl) rfl <| ?_
    refine ht_v (ov_add (m := ((end_ + i : Nat) : Int)) rfl rfl ((wrap_i64 (by omega)).trans (by omega))) rfl ?_
    refine ht_v (ov_move rfl) rfl <| ht_v (ov_move rfl) rfl <| ?_
    refine ht_v (ov_idxS rfl hAe rfl i rfl hin) rfl ?_
    refine ht_v (ov_loadG (cs := secC E[i]) rfl (secC_len _) (CellsAre.flat (f := secC) (A := qe.1) secC_len hAe (i := i) hiE)) rfl ?_
    refine ht_nil <| ?_
    refine hl_c Try.call25 rfl rfl (fun w1 H1 => Own.callp (rdsk g S (PW end_ E i)) H1 fun D' hold hin H2 => RWrite_ok D' w1 g (end_ + i) E[i] S (PW end_ E i) (by omega) (by have := PW_len (at_ := end_) (l := E) (i := i); omega) H2) ?_
    rw [← PW_succ hiE]
    refine hl_nil <| hx_block_normal <| hx_then_normal <| hc_region <| hl_v (ov_move rfl) rfl <| hl_v (ov_add rfl rfl (by first | exact wrap_i64 (by omega) | rfl)) rfl <| ?_
    refine hl_v (ov_assign rfl) rfl <| hl_nil <| ?_
    refine hx_next hK1 (i + 1) (hin) (by omega) (by repeat (first | exact Slots.sub_nil _ | refine Slots.sub_cons rfl ?_)) (by first | assumption | exact Ent.refl _ | exact Ent.nil _ | (repeat (first | exact Ent.refl _ | exact Ent.nil _ | refine Ent.pick ?_)))
  have hin : i = n := by omega
  have hPd : settleL (fun _ => true) 0 S (PW end_ E E.length) = S' := by rw [hS']; exact PW_done (by omega)
  rw [hin, ← hEl]
  refine hc_exit <| hx_then_exit <| hx_then_exit <| hx_block_out <| hx_then_normal <| hc_seq <| ?_
  refine hc_region <| hl_v (ov_move rfl) rfl <| hl_v (ov_nil rfl) rfl <| hl_v (ov_fieldA rfl) rfl <| hl_v (ov_load rfl (CellIs.blk rfl)) rfl <| ?_
  refine hl_c Try.call26 rfl rfl (fun w1 H1 => Own.callp (rdsk g S (PW end_ E E.length)) H1 fun D' hold hin H2 => RFlush_spec D' w1 g S (PW end_ E E.length) (PW_lt (by omega)) H2) ?_
  rw [hPd]
  refine hl_nil <| hx_then_normal <| hc_seq <| hc_region <| hl_v (ov_move rfl) rfl <| ?_
  refine hl_new (on_buildSliceN rfl rfl rfl) rfl rfl rfl (fun b44 => ?_)
  refine HL.ent (Ent.blk_row (b := b44) 1 0 rfl (by decide)) ?_
  refine hl_v (ov_move rfl) rfl <| hl_v (ov_nil rfl) rfl <| hl_v (ov_fieldA rfl) rfl <| hl_v (ov_load rfl (CellIs.blk rfl)) rfl <| ?_
  refine hl_new (on_appendR (A := some ⟨b44, 0, none⟩) (news := cs) rfl rfl (SrcIs.rowR (A := A) hA) (by omega) hone (by decide) (by omega)) rfl rfl rfl ?_
  rintro ⟨A2, cap2⟩
  dsimp only
  simp only [Nat.zero_add, List.nil_append]
  refine hl_new (on_buildSliceN rfl rfl rfl) rfl rfl rfl (fun b50 => ?_)
  refine HL.ent (Ent.blk_row (b := b50) 1 0 rfl (by decide)) ?_
  refine hl_v (ov_move rfl) rfl <| ?_
  refine hl_new (on_appendR (A := some ⟨b50, 0, none⟩) (news := x.map u8v) rfl rfl (SrcIs.old HS) (by simp) (u8_one _) (by decide) (by omega)) rfl rfl rfl ?_
  rintro ⟨A3, cap3⟩
  dsimp only
  simp only [Nat.zero_add, List.nil_append]
  refine hl_new (on_buildSliceN rfl rfl rfl) rfl rfl rfl fun b53 =>  ?_
  refine hl_new (on_appendR (A := A2) (news := [.slice A3 x.length cap3]) rfl rfl (SrcIs.blk (b := b53)) rfl (by simp [Value.oneCell']) (by decide) (by omega)) rfl rfl rfl ?_
  rintro ⟨A4, cap4⟩
  dsimp only
  refine hl_v (ov_nil rfl) rfl <| hl_v (ov_fieldA rfl) rfl <| hl_u0 (on_storeN rfl rfl rfl rfl rfl) rfl rfl <| hl_nil <| hx_then_normal <| hc_seq <| ?_
  refine hc_region <| hl_v (ov_move rfl) rfl <| hl_v (ov_nil rfl) rfl <| hl_v (ov_fieldA rfl) rfl <| hl_v (ov_load rfl (CellIs.blk rfl)) rfl <| hl_v (ov_move rfl) rfl <| ?_
  refine hl_v (by first | exact ov_len rfl | exact ov_lenS rfl) rfl <| ?_
  refine hl_v (ov_add (m := ((end' : Nat) : Int)) rfl rfl ((wrap_i64 (by omega)).trans (by omega))) rfl ?_
  refine hl_v (ov_nil rfl) rfl <| hl_v (ov_fieldA rfl) rfl <| hl_u0 (on_storeN rfl rfl rfl rfl rfl) rfl rfl <| hl_nil <| hx_then_normal <| hc_seq <| ?_
  refine hc_region <| hl_v (ov_assign rfl) rfl <| hl_nil <| hx_then_normal <| hc_ret <| ?_
  exact results_1 (.inr rfl) rfl rfl fun w' H' => ⟨rfl, H'.ent (Ent.trans (b := rowsB 5 L cs :: row A3 5 1 x.length cap3 (x.map u8v) :: [rjouB jb g from_ to_ ep end' (L.length + 1) (A4, cap4), row A4 23 1 (L.length + 1) cap4 (cs ++ [.slice A3 x.length cap3]), rdsk g S' []]) (by first | assumption | exact Ent.refl _ | exact Ent.nil _ | exact Ent.row_any (Ent.refl _) | (repeat (first | exact Ent.refl _ | exact Ent.nil _ | refine Ent.pick ?_))) (Ent.trans rowsB_snoc (by have hj := rjou_mk (jb := jb) (g := g) (from_ := from_) (to_ := to_) (ep := ep) (end_ := end') (L := L ++ [x]) (A := A4) (cap := cap4) (cs := cs ++ [.slice A3 x.length cap3]) (l := [rdsk g S' []]); rw [List.length_append] at hj; rw [hL']; exact Ent.trans (by first | assumption | exact Ent.refl _ | exact Ent.nil _ | exact Ent.row_any (Ent.refl _) | (repeat (first | exact Ent.refl _ | exact Ent.nil _ | refine Ent.pick ?_))) hj)))⟩
end Go.Proofs.Ytijaldfiaeafgaa
