import Derived.Test.YtjlolpmmpafjeaaGreatZ16
import Derived.Test.YtjlolpmmpafjeaaGreatZ17
set_option linter.unusedVariables false
set_option linter.unusedSimpArgs false
namespace Go.Proofs.YtjlolpmmpafjeaaGreat
open Slk
def latC (p : Nat × Sec) : List Value := .int .i64 (p.1 : Int) :: secC p.2
@[simp] theorem latC_len (p : Nat × Sec) : (latC p).length = 65 := by simp [latC, secC_len]
theorem latC_one (p : Nat × Sec) : ∀ v ∈ latC p, v.oneCell' = true := fun v hv => by
  rcases List.mem_cons.1 hv with rfl | h
  · rfl
  · exact secC_one _ v h
def dskL (tD tL g : Nat) (S : List Sec) (P : List (Nat × Sec)) (q : (Option Addr × Nat) × (Option Addr × Nat)) : List HProp :=
  [blk g tD [.slice q.1.1 S.length q.1.2, .slice q.2.1 P.length q.2.2], row q.1.1 61 64 S.length q.1.2 (S.flatMap secC), row q.2.1 tL 65 P.length q.2.2 (P.flatMap latC)]
def dskT (tD tL g : Nat) (S : List Sec) (P : List (Nat × Sec)) : HProp := exS (dskL tD tL g S P)
abbrev dsk (g : Nat) (S : List Sec) (P : List (Nat × Sec)) : HProp := dskT 107 143 g S P
theorem dsk_mk {tD tL g : Nat} {S : List Sec} {P : List (Nat × Sec)} {A0 A1 : Option Addr} {c0 c1 : Nat} {l : List HProp} :
    Ent (blk g tD [.slice A0 S.length c0, .slice A1 P.length c1] :: row A0 61 64 S.length c0 (S.flatMap secC) :: row A1 tL 65 P.length c1 (P.flatMap latC) :: l) (dskT tD tL g S P :: l) :=
  Ent.exS (L := dskL tD tL g S P) (l := l) ((A0, c0), (A1, c1))
theorem zeros_sec (n : Nat) : zerosL (List.replicate 64 (Value.int .u8 0)) n = (List.replicate n zeroSec).flatMap secC := by
  rw [zerosL, List.flatMap_replicate, secC_zero]
theorem New_ok (D : Nat → Prop) (w : World) (n : Nat) (h1 : 1 ≤ n) (h2 : n ≤ 4096) :
    Calls Tryz.prog 15 #[.int .i64 n] w fun e w' => ∃ g : Nat, e = .returned (.tuple #[.pointer (some ⟨g, 0, none⟩), .int .i64 0]) ∧ Own D w w' [dsk g (List.replicate n zeroSec) []] := by
  refine hc_enter (vs := [.int .i64 n]) Tryz.func15 rfl _ Tryz.ntmps15 rfl (Own.start D w) ?_
  simp only [argSlots, Nat.zero_add]
  refine hc_seq <| hc_region <| hl_v (ov_assign rfl) rfl <| hl_v (ov_assign rfl) rfl <| hl_nil <| hx_then_normal <| ?_
  refine hc_seq <| hc_seq <| hc_region <| hl_v (ov_move rfl) rfl <| hl_v (ov_lss rfl rfl) rfl <| hl_v (ov_move rfl) rfl <| ?_
  refine hl_partF (t := 6) rfl (by omega) ?_
  refine hl_on rfl rfl <| hl_v (ov_move rfl) rfl <| hl_on rfl rfl <| hl_v (ov_gtr rfl rfl) rfl <| hl_v (ov_pickF rfl rfl) rfl <| hl_nil <| hx_then_normal <| ?_
  refine hc_cond_F rfl (by omega) ?_
  refine hc_skip <| hx_then_normal <| hc_seq <| hc_region <| hl_v (ov_move rfl) rfl <| ?_
  refine hl_new (on_make rfl rfl n rfl (by omega) (by omega)) rfl rfl rfl (fun b => ?_)
  refine hl_v (ov_buildSN rfl rfl) rfl <| ?_
  refine hl_new (on_boxN rfl rfl) rfl rfl rfl fun b13 =>  ?_
  refine hl_v (ov_assign rfl) rfl <| hl_v (ov_assign rfl) rfl <| hl_nil <| hx_then_normal <| hc_ret <| ?_
  refine results_2 (.inr rfl) rfl rfl rfl fun w' H' => ⟨_, rfl, H'.ent ?_⟩
  refine Ent.trans (b := [blk b13 107 [.slice (some ⟨b, 0, none⟩) (List.replicate n zeroSec).length n, .slice none ([] : List (Nat × Sec)).length 0], row (some ⟨b, 0, none⟩) 61 64 (List.replicate n zeroSec).length n ((List.replicate n zeroSec).flatMap secC), row none 143 65 0 0 []]) ?_ dsk_mk
  rw [List.length_replicate, ← zeros_sec]
  exact Ent.cons ((Ent.blk_row 64 n (by rw [zerosL_length]; simp) (by omega)).trans (Ent.cons (Ent.nil_row _ _)))
theorem has_spec (D : Nat → Prop) (w : World) (g : Nat) (i : Int) (A0 A1 : Option Addr) (n c0 m c1 : Nat) (H : Own D w w [blk g 107 [.slice A0 n c0, .slice A1 m c1]]) :
    Calls Tryz.prog 61 #[.pointer (some ⟨g, 0, none⟩), .int .i64 i] w fun e w' => e = .returned (.bool (decide (0 ≤ i ∧ i < n))) ∧ Own D w w' [blk g 107 [.slice A0 n c0, .slice A1 m c1]] := by
  refine hc_enter (vs := [.pointer (some ⟨g, 0, none⟩), .int .i64 i]) Tryz.func61 rfl _ Tryz.ntmps61 rfl H ?_
  simp only [argSlots, Nat.zero_add]
  refine hc_seq <| hc_region <| hl_v (ov_assign rfl) rfl <| hl_nil <| hx_then_normal <| hc_seq <| ?_
  refine hc_region <| hl_v (ov_move rfl) rfl <| hl_v (ov_neqP rfl rfl) rfl <| hl_v (ov_move rfl) rfl <| ?_
  refine hl_on rfl rfl <| hl_v (ov_move rfl) rfl <| hl_on rfl rfl <| hl_v (ov_geq rfl rfl) rfl <| hl_v (ov_pickT rfl rfl) rfl <| hl_v (ov_move rfl) rfl <| ?_
  refine hl_part (t := 11) rfl (fun h1 => ?_) (fun h1 => ?_)
  · refine hl_on rfl rfl <| hl_v (ov_move rfl) rfl <| hl_on rfl rfl <| hl_v (ov_move rfl) rfl <| hl_on rfl rfl <| hl_v (ov_nil rfl) rfl <| hl_on rfl rfl <| hl_v (ov_fieldA rfl) rfl <| hl_on rfl rfl <| hl_v (ov_load rfl (CellIs.blk rfl)) rfl <| hl_on rfl rfl <| hl_v (by first | exact ov_len rfl | exact ov_lenS rfl) rfl <| ?_
    refine hl_on rfl rfl <| hl_v (ov_lss rfl rfl) rfl <| hl_v (ov_pickT rfl rfl) rfl <| hl_v (ov_assign rfl) rfl <| hl_nil <| hx_then_normal <| hc_ret <| ?_
    exact results_1 (.inr rfl) rfl rfl fun w' H' => ⟨by simp [h1], H'⟩
  refine hl_off rfl rfl rfl rfl rfl rfl <| hl_off rfl rfl rfl rfl rfl rfl <| hl_off rfl rfl rfl rfl rfl rfl <| hl_off rfl rfl rfl rfl rfl rfl <| hl_off rfl rfl rfl rfl rfl rfl <| hl_off rfl rfl rfl rfl rfl rfl <| ?_
  refine hl_off rfl rfl rfl rfl rfl rfl <| hl_v (ov_pickF rfl rfl) rfl <| hl_v (ov_assign rfl) rfl <| hl_nil <| hx_then_normal <| hc_ret <| ?_
  exact results_1 (.inr rfl) rfl rfl fun w' H' => ⟨by simp [h1], H'⟩
theorem fill_lat (i : Nat) (s : Sec) : fillL (fun j => [(0, 1), (1, 64)][j]?) ([.int .i64 0] ++ List.replicate 64 (.int .u8 0)) [(0, .int .i64 (i : Int)), (1, .agg (secC s).toArray)] = some (latC (i, s)) := by
  have h : setSeg (.int .i64 (i : Int) :: List.replicate 64 (.int .u8 0)) 1 (secC s) = .int .i64 (i : Int) :: secC s := by
    have := setSeg_mid [.int .i64 (i : Int)] (List.replicate 64 (.int .u8 0)) [] (secC s) 1 rfl (by rw [secC_len]; simp)
    simpa using this
  simp only [fillL, Value.cells, List.getElem?_cons_zero, List.getElem?_cons_succ, List.size_toArray, secC_len]
  simp only [setSeg, List.length_cons, List.length_nil, List.cons_append, List.nil_append, List.length_replicate, List.set_cons_zero, h, and_self]
  simp [latC]
theorem fill_one (i : Nat) (s : Sec) : fillL (fun j => some (j * 65, 65)) (zerosL ([.int .i64 0] ++ List.replicate 64 (.int .u8 0)) 1) [(0, .agg (latC (i, s)).toArray)] = some (latC (i, s)) := by
  simp only [fillL, Value.cells, List.size_toArray, latC_len, Nat.zero_mul]
  rw [if_pos ⟨trivial, by rw [zerosL_length]; simp⟩, setSeg_all (by rw [latC_len, zerosL_length]; simp)]
theorem Write_ok (D : Nat → Prop) (w : World) (g : Nat) (i : Nat) (s : Sec) (S : List Sec) (P : List (Nat × Sec)) (hi : i < S.length) (hP : P.length ≤ 1000000) (H : Own D w w [dsk g S P]) :
    Calls Tryz.prog 23 #[.pointer (some ⟨g, 0, none⟩), .int .i64 i, .agg (secC s).toArray] w fun e w' => e = .returned (.int .i64 0) ∧ Own D w w' [dsk g S (P ++ [(i, s)])] := by
  refine hc_enter (vs := [.pointer (some ⟨g, 0, none⟩), .int .i64 i, .agg (secC s).toArray]) Tryz.func23 rfl _ Tryz.ntmps23 rfl H ?_
  simp only [argSlots, Nat.zero_add]
  refine HC.exs ?_
  rintro ⟨⟨A0, c0⟩, A1, c1⟩
  refine HC.ent (l' := [blk g 107 [.slice A0 S.length c0, .slice A1 P.length c1], row A0 61 64 S.length c0 (S.flatMap secC), row A1 143 65 P.length c1 (P.flatMap latC)]) (fun _ h => h) ?_
  refine hc_seq <| hc_region <| ?_
  refine hl_new (on_boxG (cs := secC s) rfl) rfl rfl rfl (fun b5 => ?_)
  refine hl_v (ov_assign rfl) rfl <| hl_nil <| hx_then_normal <| hc_seq <| hc_seq <| hc_region <| ?_
  refine hl_v (ov_move rfl) rfl <| hl_v (ov_move rfl) rfl <| ?_
  refine hl_c Tryz.call61 rfl rfl (fun w1 H1 => Own.callp (blk g 107 [.slice A0 S.length c0, .slice A1 P.length c1]) H1 fun D' hold hin H2 => has_spec D' w1 g i A0 A1 _ c0 _ c1 H2) ?_
  refine hl_v (by first | exact ov_notd rfl | exact ov_not rfl) rfl <| ?_
  refine hl_nil <| hx_then_normal <| ?_
  refine hc_cond_F rfl (by simp [hi]) ?_
  refine hc_skip <| hx_then_normal <| hc_seq <| ?_
  refine hc_cutK0 (σ := Option Addr × Nat) [] rfl  (fun q => [blk g 107 [.slice A0 S.length c0, .slice q.1 (P.length + 1) q.2], row A0 61 64 S.length c0 (S.flatMap secC), row q.1 143 65 (P.length + 1) q.2 ((P ++ [(i, s)]).flatMap latC)]) (fun K1 hK1 => ?_) (fun q => ?_)
  · refine HC.ent (Ent.trans (b := [blk b5 61 (secC s), blk g 107 [.slice A0 S.length c0, .slice A1 P.length c1], row A0 61 64 S.length c0 (S.flatMap secC), row A1 143 65 P.length c1 (P.flatMap latC)]) (by first | assumption | exact Ent.refl _ | exact Ent.nil _ | exact Ent.row_any (Ent.refl _) | (repeat (first | exact Ent.refl _ | exact Ent.nil _ | refine Ent.pick ?_))) (Ent.refl _)) ?_
    refine hc_any [blk b5 61 (secC s)] mixed 13 rfl ?_
    refine ha_v 0 rfl (ov_move rfl) rfl <| ?_
    refine ha_v 1 rfl (ov_move rfl) rfl <| ?_
    refine ha_v 2 rfl (ov_nil rfl) rfl <| ?_
    refine ha_v 3 rfl (ov_fieldA rfl) rfl <| ?_
    refine ha_v 5 rfl (ov_move rfl) rfl <| ?_
    refine ha_v 6 rfl (by first | exact ov_loadW rfl (by simp; done) | exact ov_loadGB rfl rfl) rfl <| ?_
    refine ha_v 7 rfl (ov_buildS (res := latC (i, s)) rfl (fill_lat i s)) rfl ?_
    refine ha_two 4 8 (by kernel_rfl) ?_ ?_
    · skip
      refine ho_v rfl (ov_load rfl (CellIs.blk rfl)) rfl ?_
      refine ha_one 8 (by kernel_rfl) <| ?_
      refine ho_n rfl (on_buildSlice (res := latC (i, s)) rfl rfl (fill_one i s)) rfl (fun b19 => ?_)
      refine ha_one 9 (by kernel_rfl) <| ?_
      refine ho_n rfl (on_appendR (A := A1) (news := latC (i, s)) rfl rfl (SrcIs.blk (b := b19)) (by rw [latC_len]) (latC_one _) (by decide) (by omega)) rfl ?_
      rintro ⟨B, cB⟩
      dsimp only
      refine ha_v 10 rfl (ov_nil rfl) rfl <| ?_
      refine ha_v 11 rfl (ov_fieldA rfl) rfl <| ?_
      refine ha_one 12 (by kernel_rfl) <| ?_
      refine ho_w0 rfl (on_storeN rfl rfl rfl rfl rfl) rfl ?_
      refine ha_done (by kernel_rfl) <| ?_
      exact hx_cut hK1 ((B, cB)) (by repeat (first | exact Slots.sub_nil _ | refine Slots.sub_cons rfl ?_)) (by rw [List.flatMap_append, List.flatMap_singleton]; exact (by first | assumption | exact Ent.refl _ | exact Ent.nil _ | exact Ent.row_any (Ent.refl _) | (repeat (first | exact Ent.refl _ | exact Ent.nil _ | refine Ent.pick ?_))))
    skip
    refine ho_n rfl (on_buildSlice (res := latC (i, s)) rfl rfl (fill_one i s)) rfl (fun b19 => ?_)
    refine ha_one 4 (by kernel_rfl) <| ?_
    refine ho_v rfl (ov_load rfl (CellIs.blk rfl)) rfl ?_
    refine ha_one 9 (by kernel_rfl) <| ?_
    refine ho_n rfl (on_appendR (A := A1) (news := latC (i, s)) rfl rfl (SrcIs.blk (b := b19)) (by rw [latC_len]) (latC_one _) (by decide) (by omega)) rfl ?_
    rintro ⟨B, cB⟩
    dsimp only
    refine ha_v 10 rfl (ov_nil rfl) rfl <| ?_
    refine ha_v 11 rfl (ov_fieldA rfl) rfl <| ?_
    refine ha_one 12 (by kernel_rfl) <| ?_
    refine ho_w0 rfl (on_storeN rfl rfl rfl rfl rfl) rfl ?_
    refine ha_done (by kernel_rfl) <| ?_
    exact hx_cut hK1 ((B, cB)) (by repeat (first | exact Slots.sub_nil _ | refine Slots.sub_cons rfl ?_)) (by rw [List.flatMap_append, List.flatMap_singleton]; exact (by first | assumption | exact Ent.refl _ | exact Ent.nil _ | exact Ent.row_any (Ent.refl _) | (repeat (first | exact Ent.refl _ | exact Ent.nil _ | refine Ent.pick ?_))))
  refine hx_then_normal <| hc_seq <| hc_region <| hl_v (ov_assign rfl) rfl <| hl_nil <| hx_then_normal <| ?_
  refine hc_ret <| ?_
  exact results_1 (.inr rfl) rfl rfl fun w' H' => ⟨rfl, H'.ent (by have := dsk_mk (tD := 107) (tL := 143) (g := g) (S := S) (P := P ++ [(i, s)]) (A0 := A0) (c0 := c0) (A1 := q.1) (c1 := q.2) (l := []); rw [List.length_append] at this; exact this)⟩
end Go.Proofs.YtjlolpmmpafjeaaGreat
set_option linter.unusedVariables false
set_option linter.unusedSimpArgs false
namespace Go.Proofs.YtjlolpmmpafjeaaGreat
open Slk
def lastW (i : Nat) (P : List (Nat × Sec)) (s : Sec) : Sec := P.foldl (fun s p => if p.1 = i then p.2 else s) s
theorem lastW_snoc (i : Nat) (P : List (Nat × Sec)) (p : Nat × Sec) (s : Sec) : lastW i (P ++ [p]) s = if p.1 = i then p.2 else lastW i P s := by simp [lastW]
def settleL (kept : Nat → Bool) : Nat → List Sec → List (Nat × Sec) → List Sec
  | _, S, [] => S
  | k, S, p :: r => settleL kept (k + 1) (if kept k then S.set p.1 p.2 else S) r
theorem settleL_snoc (kept : Nat → Bool) : ∀ (P : List (Nat × Sec)) (k : Nat) (S : List Sec) (p : Nat × Sec), settleL kept k S (P ++ [p]) = if kept (k + P.length) then (settleL kept k S P).set p.1 p.2 else settleL kept k S P
  | [], k, S, p => by simp [settleL]
  | q :: r, k, S, p => by
    simp only [List.cons_append, settleL]
    rw [settleL_snoc kept r (k + 1)]
    simp only [List.length_cons]
    rw [show k + 1 + r.length = k + (r.length + 1) by omega]
theorem settleL_len (kept : Nat → Bool) : ∀ (P : List (Nat × Sec)) (k : Nat) (S : List Sec), (settleL kept k S P).length = S.length
  | [], _, _ => rfl
  | p :: r, k, S => by
    simp only [settleL]
    rw [settleL_len kept r]
    split <;> simp
theorem latC_at (p : Nat × Sec) (k : Nat) (v : Value) (h : (secC p.2)[k]? = some v) : (latC p)[0 + 1 + k]? = some v := by
  rw [show 0 + 1 + k = k + 1 by omega]
  exact h
theorem dsk_facts {D : Nat → Prop} {w0 w : World} {l r : List HProp} {A : Option Addr} {t : TypeId} {sz n cap : Nat} {cs : List Value} [h : PickR l A t sz n cap cs r] (H : Own D w0 w l) : n ≤ 9223372036854775807 ∧ (cs ≠ [] → isA A) := by
  have := Own.factR A H
  exact ⟨by omega, this.2.2.2⟩
theorem flat_ne {α : Type} {f : α → List Value} {sz : Nat} (hf : ∀ x, (f x).length = sz) (hz : 0 < sz) {xs : List α} (h : 0 < xs.length) : xs.flatMap f ≠ [] := by
  intro e
  have := flat_len hf xs
  rw [e, List.length_nil] at this
  have := Nat.mul_pos h hz
  omega
theorem Read_ok (D : Nat → Prop) (w : World) (g : Nat) (i : Nat) (S : List Sec) (P : List (Nat × Sec)) (hi : i < S.length) (H : Own D w w [dsk g S P]) :
    Calls Tryz.prog 35 #[.pointer (some ⟨g, 0, none⟩), .int .i64 i] w fun e w' => e = .returned (.tuple #[.agg (secC (lastW i P S[i])).toArray, .int .i64 0]) ∧ Own D w w' [dsk g S P] := by
  refine hc_enter (vs := [.pointer (some ⟨g, 0, none⟩), .int .i64 i]) Tryz.func35 rfl _ Tryz.ntmps35 rfl H ?_
  simp only [argSlots, Nat.zero_add]
  refine HC.exs ?_
  rintro ⟨⟨A0, c0⟩, A1, c1⟩
  refine HC.ent (l' := [blk g 107 [.slice A0 S.length c0, .slice A1 P.length c1], row A0 61 64 S.length c0 (S.flatMap secC), row A1 143 65 P.length c1 (P.flatMap latC)]) (fun _ h => h) ?_
  refine HC.fact (fun w H => dsk_facts (A := A0) H) (fun hf0 => ?_)
  refine HC.fact (fun w H => dsk_facts (A := A1) H) (fun hf1 => ?_)
  have hA0 : isA A0 := hf0.2 (flat_ne secC_len (by decide) (by omega))
  refine hc_seq <| hc_region <| hl_new (on_alloc) rfl rfl rfl fun b4 =>
    hl_v (ov_assign rfl) rfl <| hl_nil <| hx_then_normal <| ?_
  refine hc_seq <| hc_seq <| hc_region <| hl_v (ov_move rfl) rfl <| hl_v (ov_move rfl) rfl <| ?_
  refine hl_c Tryz.call61 rfl rfl (fun w1 H1 => Own.callp (blk g 107 [.slice A0 S.length c0, .slice A1 P.length c1]) H1 fun D' hold hin H2 => has_spec D' w1 g i A0 A1 _ c0 _ c1 H2) ?_
  refine hl_v (by first | exact ov_notd rfl | exact ov_not rfl) rfl <| ?_
  refine hl_nil <| hx_then_normal <| ?_
  refine hc_cond_F rfl (by simp [hi]) ?_
  refine hc_skip <| hx_then_normal <| hc_seq <| hc_region <| hl_v (ov_move rfl) rfl <| hl_v (ov_nil rfl) rfl <| ?_
  refine hl_v (ov_fieldA rfl) rfl <| hl_v (ov_load rfl (CellIs.blk rfl)) rfl <| hl_v (ov_move rfl) rfl <| hl_v (ov_idxS rfl (by assumption) rfl _ rfl (by omega)) rfl <| ?_
  refine hl_v (ov_loadG (cs := secC S[i]) rfl (secC_len _) (CellsAre.flat secC_len hA0 hi)) rfl ?_
  refine hl_new (on_alloc) rfl rfl rfl fun b6 =>  ?_
  refine hl_u0 (on_storeW rfl rfl (by simp) (by simp) (secC_one _)) rfl rfl ?_
  refine hl_nil <| hx_then_normal <| hc_seq <| hc_seq <| hc_region <| hl_v (ov_move rfl) rfl <| ?_
  refine hl_v (ov_nil rfl) rfl <| hl_v (ov_fieldA rfl) rfl <| hl_v (ov_load rfl (CellIs.blk rfl)) rfl <| hl_v (by first | exact ov_len rfl | exact ov_lenS rfl) rfl <| ?_
  refine hl_v (ov_move rfl) rfl <| hl_nil <| hx_then_normal <| hc_block <| ?_
  refine hc_loopK1 (σ := Nat) [1, 4, 6, 24, 25] rfl 26 (fun j => .int .i64 j) (fun j => [blk b6 61 (secC (lastW i (P.take j) S[i])), blk b4 61 (List.replicate 64 (.int .u8 0)), blk g 107 [.slice A0 S.length c0, .slice A1 P.length c1], row A0 61 64 S.length c0 (S.flatMap secC), row A1 143 65 P.length c1 (P.flatMap latC)]) (fun j => j ≤ P.length) (fun j => P.length - j) (0) (Nat.zero_le _) rfl ((show Ent _ (blk b6 61 (secC S[i]) :: _) from (by first | assumption | exact Ent.refl _ | exact Ent.nil _ | exact Ent.row_any (Ent.refl _) | (repeat (first | exact Ent.refl _ | exact Ent.nil _ | refine Ent.pick ?_))))) ?_
  rintro j hj K1 hK1
  refine hc_seq <| hc_region <| hl_v (ov_lss rfl rfl) rfl <| hl_nil <| hx_then_normal <| hc_seq <| ?_
  refine hc_cond rfl (fun hlt => ?_) (fun hlt => ?_)
  · have hlt : j < P.length := by omega
    have hA1 : isA A1 := hf1.2 (flat_ne latC_len (by decide) (by omega))
    have hsn := List.take_succ_eq_append_getElem hlt
    refine hc_skip <| hx_then_normal <| hc_seq <| hc_block <| hc_seq <| hc_region <| ?_
    refine hl_v (ov_idxS rfl (by assumption) rfl _ rfl (by omega)) rfl <| ?_
    refine hl_v (ov_loadG (cs := latC P[j]) rfl (latC_len _) (CellsAre.flat latC_len hA1 hlt)) rfl ?_
    refine hl_new (on_alloc) rfl rfl rfl fun b8 =>  ?_
    refine hl_u0 (on_storeW rfl rfl (by simp) (by simp) (latC_one _)) rfl rfl ?_
    refine hl_nil <| hx_then_normal <| hc_seq <| hc_region <| hl_v (ov_fieldA rfl) rfl <| hl_v (ov_load rfl (CellIs.blk rfl)) rfl <| ?_
    refine hl_v (ov_move rfl) rfl <| hl_v (ov_eql rfl rfl) rfl <| hl_nil <| hx_then_normal <| ?_
    refine hc_cutK0 (σ := Unit) [1, 4, 6, 24, 25, 26] rfl  (fun _u => [blk b6 61 (secC (lastW i (P.take (j + 1)) S[i])), blk b4 61 (List.replicate 64 (.int .u8 0)), blk g 107 [.slice A0 S.length c0, .slice A1 P.length c1], row A0 61 64 S.length c0 (S.flatMap secC), row A1 143 65 P.length c1 (P.flatMap latC)]) (fun K2 hK2 => ?_) (fun _u => ?_)
    · rw [hsn, lastW_snoc] at hK2
      refine hc_cond rfl (fun he => ?_) (fun he => ?_)
      · rw [if_pos (by omega)] at hK2
        refine hc_region <| hl_v (ov_fieldA rfl) rfl <| ?_
        refine hl_v (ov_loadG (cs := secC P[j].2) rfl (secC_len _) (CellsAre.blk (latC_at P[j]))) rfl ?_
        refine hl_u0 (on_storeW rfl rfl (by simp) (by simp) (secC_one _)) rfl rfl ?_
        refine hl_nil <| ?_
        refine hx_cut hK2 (()) (by repeat (first | exact Slots.sub_nil _ | refine Slots.sub_cons rfl ?_)) (by first | assumption | exact Ent.refl _ | exact Ent.nil _ | (repeat (first | exact Ent.refl _ | exact Ent.nil _ | refine Ent.pick ?_)))
      rw [if_neg (by omega)] at hK2
      refine hc_skip <| ?_
      refine hx_cut hK2 (()) (by repeat (first | exact Slots.sub_nil _ | refine Slots.sub_cons rfl ?_)) (by first | assumption | exact Ent.refl _ | exact Ent.nil _ | (repeat (first | exact Ent.refl _ | exact Ent.nil _ | refine Ent.pick ?_)))
    refine hx_block_normal <| hx_then_normal <| hc_region <| hl_v (ov_add rfl rfl (by first | exact wrap_i64 (by omega) | rfl)) rfl <| ?_
    refine hl_v (ov_move rfl) rfl <| hl_nil <| ?_
    refine hx_next hK1 (j + 1) (hlt) (by omega) (by repeat (first | exact Slots.sub_nil _ | refine Slots.sub_cons rfl ?_)) (by first | assumption | exact Ent.refl _ | exact Ent.nil _ | (repeat (first | exact Ent.refl _ | exact Ent.nil _ | refine Ent.pick ?_)))
  have : j = P.length := by omega
  subst this
  rw [List.take_length]
  refine hc_exit <| hx_then_exit <| hx_then_exit <| hx_block_out <| hx_then_normal <| hc_seq <| ?_
  refine hc_region <| hl_v (by first | exact ov_loadW rfl (by simp; done) | exact ov_loadGB rfl rfl) rfl <| ?_
  refine hl_u0 (on_storeW rfl rfl (by simp) (by simp) (secC_one _)) rfl rfl ?_
  refine hl_v (ov_assign rfl) rfl <| hl_nil <| hx_then_normal <| hc_ret <| ?_
  exact results_ct (.inr rfl) rfl rfl (by simp) rfl fun w' H' => ⟨rfl, H'.ent (Ent.trans (by first | assumption | exact Ent.refl _ | exact Ent.nil _ | exact Ent.row_any (Ent.refl _) | (repeat (first | exact Ent.refl _ | exact Ent.nil _ | refine Ent.pick ?_))) (dsk_mk (A0 := A0) (c0 := c0) (A1 := A1) (c1 := c1)))⟩
theorem settle_spec (D : Nat → Prop) (w : World) (g f : Nat) (cap : List Value) (kept : Nat → Bool) (S : List Sec) (P : List (Nat × Sec)) (hP : ∀ p ∈ P, p.1 < S.length) (hcf : ∀ args w, (callFunc f args).run Tryz.prog w = .ok (.enter f args) w)
    (HK : ∀ D' w1, (∀ A, Old D w A → Old D' w1 A) → ∀ at' : Nat, at' < P.length → Calls Tryz.prog f ([Value.int .i64 (at' : Int)] ++ cap).toArray w1 fun e w' => e = .returned (.bool (kept at')) ∧ Own D' w1 w' []) (H : Own D w w [dsk g S P]) :
    Calls Tryz.prog 62 #[.pointer (some ⟨g, 0, none⟩), .func (.func f) #[] cap.toArray] w fun e w' => e = .returned (.tuple #[]) ∧ Own D w w' [dsk g (settleL kept 0 S P) []] := by
  refine hc_enter (vs := [.pointer (some ⟨g, 0, none⟩), .func (.func f) #[] cap.toArray]) Tryz.func62 rfl _ Tryz.ntmps62 rfl H ?_
  simp only [argSlots, Nat.zero_add]
  refine HC.exs ?_
  rintro ⟨⟨A0, c0⟩, A1, c1⟩
  refine HC.ent (l' := [blk g 107 [.slice A0 S.length c0, .slice A1 P.length c1], row A0 61 64 S.length c0 (S.flatMap secC), row A1 143 65 P.length c1 (P.flatMap latC)]) (fun _ h => h) ?_
  refine HC.fact (fun w H => dsk_facts (A := A0) H) (fun hf0 => ?_)
  refine HC.fact (fun w H => dsk_facts (A := A1) H) (fun hf1 => ?_)
  refine hc_seq <| hc_seq <| hc_region <| hl_v (ov_move rfl) rfl <| hl_v (ov_nil rfl) rfl <| hl_v (ov_fieldA rfl) rfl <| ?_
  refine hl_v (ov_load rfl (CellIs.blk rfl)) rfl <| hl_v (by first | exact ov_len rfl | exact ov_lenS rfl) rfl <| ?_
  refine hl_v (ov_move rfl) rfl <| hl_nil <| hx_then_normal <| hc_block <| ?_
  refine hc_loopK1 (σ := Nat) [0, 1, 9, 10] rfl 11 (fun j => .int .i64 j) (fun j => [blk g 107 [.slice A0 S.length c0, .slice A1 P.length c1], row A0 61 64 S.length c0 ((settleL kept 0 S (P.take j)).flatMap secC), row A1 143 65 P.length c1 (P.flatMap latC)]) (fun j => j ≤ P.length) (fun j => P.length - j) (0) (Nat.zero_le _) rfl (Ent.refl _) ?_
  rintro j hj K1 hK1
  refine hc_seq <| hc_region <| hl_v (ov_lss rfl rfl) rfl <| hl_nil <| hx_then_normal <| hc_seq <| ?_
  refine hc_cond rfl (fun hlt => ?_) (fun hlt => ?_)
  · have hlt : j < P.length := by omega
    have hA1 : isA A1 := hf1.2 (flat_ne latC_len (by decide) (by omega))
    have hsn := List.take_succ_eq_append_getElem hlt
    have hpj := hP _ (List.getElem_mem hlt)
    have hA0 : isA A0 := hf0.2 (flat_ne secC_len (by decide) (by omega))
    have hsl := settleL_len kept (P.take j) 0 S
    refine hc_skip <| hx_then_normal <| hc_seq <| hc_block <| hc_seq <| hc_region <| ?_
    refine hl_v (ov_move rfl) rfl <| hl_v (ov_idxS rfl (by assumption) rfl _ rfl (by omega)) rfl <| ?_
    refine hl_v (ov_loadG (cs := latC P[j]) rfl (latC_len _) (CellsAre.flat latC_len hA1 hlt)) rfl ?_
    refine hl_new (on_alloc) rfl rfl rfl fun b5 => 
      hl_v (ov_assign rfl) rfl <| ?_
    refine hl_u0 (on_storeW rfl rfl (by simp) (by simp) (latC_one _)) rfl rfl ?_
    refine hl_nil <| hx_then_normal <| hc_seq <| hc_region <| hl_v (ov_move rfl) rfl <| hl_v (ov_move rfl) rfl <| ?_
    refine hl_cv rfl hcf rfl rfl (fun w1 H1 => Own.calln H1 fun D' hold hin H2 => HK D' w1 hold j hlt) ?_
    refine hl_nil <| hx_then_normal <| ?_
    refine hc_cutK0 (σ := Unit) [0, 1, 9, 10, 11] rfl  (fun _u => [blk g 107 [.slice A0 S.length c0, .slice A1 P.length c1], row A0 61 64 S.length c0 ((settleL kept 0 S (P.take (j + 1))).flatMap secC), row A1 143 65 P.length c1 (P.flatMap latC)]) (fun K2 hK2 => ?_) (fun _u => ?_)
    · rw [hsn, settleL_snoc, List.length_take, Nat.zero_add, Nat.min_eq_left (by omega)] at hK2
      refine hc_cond_bool rfl (fun hk => ?_) (fun hk => ?_)
      · rw [if_pos hk] at hK2
        generalize settleL kept 0 S (P.take j) = T at *
        generalize P[j] = p at *
        refine hc_any [blk g 107 [.slice A0 S.length c0, .slice A1 P.length c1], blk b5 143 (latC p)] mixed 10 rfl ?_
        refine ha_v 0 rfl (ov_move rfl) rfl <| ?_
        refine ha_v 1 rfl (ov_nil rfl) rfl <| ?_
        refine ha_v 2 rfl (ov_fieldA rfl) rfl <| ?_
        refine ha_v 3 rfl (ov_load rfl (CellIs.blk rfl)) rfl <| ?_
        refine ha_v 4 rfl (ov_fieldA rfl) rfl <| ?_
        refine ha_v 5 rfl (ov_load rfl (CellIs.blk rfl)) rfl <| ?_
        refine ha_v 6 rfl (ov_fieldA rfl) rfl <| ?_
        refine ha_one 7 (by kernel_rfl) <| ?_
        refine ho_v rfl (ov_loadG (cs := secC p.2) rfl (secC_len _) (CellsAre.blk (latC_at p))) rfl ?_
        refine ha_v 8 rfl (ov_idxS rfl (by assumption) rfl _ rfl (by omega)) rfl <| ?_
        refine ha_one 9 (by kernel_rfl) <| ?_
        refine ho_w0 rfl (on_storeRG (A := A0) (vs := secC p.2) rfl rfl (secC_len _) (by rw [flat_len secC_len]; omega) (by rw [flat_len secC_len, secC_len, ← Nat.succ_mul]; exact Nat.mul_le_mul_right _ (by omega)) (secC_one _)) rfl ?_
        rw [flat_set secC_len T p.1 p.2 (by omega)]
        refine ha_done (by kernel_rfl) <| ?_
        refine hx_cut hK2 (()) (by repeat (first | exact Slots.sub_nil _ | refine Slots.sub_cons rfl ?_)) (by first | assumption | exact Ent.refl _ | exact Ent.nil _ | (repeat (first | exact Ent.refl _ | exact Ent.nil _ | refine Ent.pick ?_)))
      rw [if_neg (by simp [hk])] at hK2
      refine hc_skip <| ?_
      refine hx_cut hK2 (()) (by repeat (first | exact Slots.sub_nil _ | refine Slots.sub_cons rfl ?_)) (by first | assumption | exact Ent.refl _ | exact Ent.nil _ | (repeat (first | exact Ent.refl _ | exact Ent.nil _ | refine Ent.pick ?_)))
    refine hx_block_normal <| hx_then_normal <| hc_region <| hl_v (ov_add rfl rfl (by first | exact wrap_i64 (by omega) | rfl)) rfl <| ?_
    refine hl_v (ov_move rfl) rfl <| hl_nil <| ?_
    refine hx_next hK1 (j + 1) (hlt) (by omega) (by repeat (first | exact Slots.sub_nil _ | refine Slots.sub_cons rfl ?_)) (by first | assumption | exact Ent.refl _ | exact Ent.nil _ | (repeat (first | exact Ent.refl _ | exact Ent.nil _ | refine Ent.pick ?_)))
  have : j = P.length := by omega
  subst this
  rw [List.take_length]
  have hsl := settleL_len kept P 0 S
  refine hc_exit <| hx_then_exit <| hx_then_exit <| hx_block_out <| hx_then_normal <| hc_region <| ?_
  refine hl_v (ov_move rfl) rfl <| hl_v (ov_nil rfl) rfl <| hl_v (ov_fieldA rfl) rfl <| hl_u0 (on_storeN rfl rfl rfl rfl rfl) rfl rfl <| hl_nil <| ?_
  refine results_0 (.inl rfl) rfl fun w' H' => ⟨rfl, H'.ent ?_⟩
  have hd := dsk_mk (tD := 107) (tL := 143) (g := g) (S := settleL kept 0 S P) (P := []) (A0 := A0) (c0 := c0) (A1 := none) (c1 := 0) (l := [])
  rw [hsl] at hd
  exact Ent.trans (Ent.cons (Ent.cons ((Ent.nil _).trans (Ent.nil_row _ _)))) hd
theorem Flush1_spec (D : Nat → Prop) (w : World) (i : Int) : Calls Tryz.prog 63 #[.int .i64 i] w fun e w' => e = .returned (.bool true) ∧ Own D w w' [] := by
  refine hc_enter (vs := [.int .i64 i]) Tryz.func63 rfl _ Tryz.ntmps63 rfl (Own.start D w) ?_
  simp only [argSlots, Nat.zero_add]
  refine hc_seq <| hc_region <| hl_v (ov_assign rfl) rfl <| hl_nil <| hx_then_normal <| hc_seq <| ?_
  refine hc_region <| hl_v (ov_assign rfl) rfl <| hl_nil <| hx_then_normal <| hc_ret <| ?_
  exact results_1 (.inr rfl) rfl rfl fun w' H' => ⟨rfl, H'⟩
theorem Flush_spec (D : Nat → Prop) (w : World) (g : Nat) (S : List Sec) (P : List (Nat × Sec)) (hP : ∀ p ∈ P, p.1 < S.length) (H : Own D w w [dsk g S P]) :
    Calls Tryz.prog 24 #[.pointer (some ⟨g, 0, none⟩)] w fun e w' => e = .returned (.int .i64 0) ∧ Own D w w' [dsk g (settleL (fun _ => true) 0 S P) []] := by
  refine hc_enter (vs := [.pointer (some ⟨g, 0, none⟩)]) Tryz.func24 rfl _ Tryz.ntmps24 rfl H ?_
  simp only [argSlots, Nat.zero_add]
  refine hc_seq <| hc_region <| hl_v (ov_assign rfl) rfl <| hl_nil <| hx_then_normal <| hc_seq <| ?_
  refine hc_seq <| hc_region <| hl_v (ov_move rfl) rfl <| hl_v (ov_eqlP rfl rfl) rfl <| hl_nil <| hx_then_normal <| ?_
  refine hc_cond_false rfl ?_
  refine hc_skip <| hx_then_normal <| hc_seq <| hc_region <| hl_v (ov_move rfl) rfl <| ?_
  refine hl_c Tryz.call62 rfl rfl (fun w1 H1 => Own.callp (dsk g S P) H1 fun D' hold hin H2 => settle_spec D' w1 g 63 [] (fun _ => true) S P hP Tryz.call63 (fun D2 w2 _ k _ => Flush1_spec D2 w2 k) H2) ?_
  refine hl_nil <| hx_then_normal <| hc_seq <| hc_region <| hl_v (ov_assign rfl) rfl <| hl_nil <| ?_
  refine hx_then_normal <| hc_ret <| ?_
  exact results_1 (.inr rfl) rfl rfl fun w' H' => ⟨rfl, H'⟩
theorem Crash1_spec (D : Nat → Prop) (w : World) (i b : Nat) (v : Value) (keep : List Bool) (h1 : Old D w (blk b 24 [v])) (h2 : Old D w (Rep.rep keep [v])) :
    Calls Tryz.prog 64 #[.int .i64 i, .pointer (some ⟨b, 0, none⟩)] w fun e w' => e = .returned (.bool (keep.getD i false)) ∧ Own D w w' [] := by
  obtain ⟨A, cap, rfl, hc1, hc2, hel⟩ := h2.openE rfl
  have hb : ∀ l, CellIs D w l b 0 (.slice A keep.length cap) := fun l => CellIs.old (Old.blk h1)
  refine hc_enter (vs := [.int .i64 i, .pointer (some ⟨b, 0, none⟩)]) Tryz.func64 rfl _ Tryz.ntmps64 rfl (Own.start D w) ?_
  simp only [argSlots, Nat.zero_add]
  refine hc_seq <| hc_region <| hl_v (ov_assign rfl) rfl <| hl_nil <| hx_then_normal <| hc_seq <| ?_
  refine hc_region <| hl_v (ov_move rfl) rfl <| ?_
  refine hl_v (ov_load rfl (hb _)) rfl ?_
  refine hl_v (by first | exact ov_len rfl | exact ov_lenS rfl) rfl <| ?_
  refine hl_v (ov_lss rfl rfl) rfl <| hl_v (ov_move rfl) rfl <| ?_
  refine hl_part (t := 8) rfl (fun hlt => ?_) (fun hlt => ?_)
  · have hlt : i < keep.length := by omega
    obtain ⟨hA, u, hu, hcl⟩ := hel i hlt
    have hu := hu.pure
    simp only [List.cons.injEq, and_true] at hu
    subst hu
    refine hl_on rfl rfl <| hl_v (ov_load rfl (hb _)) rfl ?_
    refine hl_on rfl rfl <| hl_v (ov_move rfl) rfl <| hl_on rfl rfl <| hl_v (ov_idxS rfl (by assumption) rfl _ rfl (by omega)) rfl <| hl_on rfl rfl <| hl_v (by first | exact ov_load rfl (by assumption) | exact ov_load rfl (hcl _) | exact ov_load rfl (hcl2 _) | exact ov_load rfl (hcl3 _) | exact ov_load rfl (CellIs.blk rfl)) rfl <| ?_
    refine hl_v (ov_pickT rfl rfl) rfl <| hl_v (ov_assign rfl) rfl <| hl_nil <| hx_then_normal <| hc_ret <| ?_
    exact results_1 (.inr rfl) rfl rfl fun w' H' => ⟨by simp [List.getD_eq_getElem?_getD, List.getElem?_eq_getElem hlt], H'⟩
  refine hl_off rfl rfl rfl rfl rfl rfl <| hl_off rfl rfl rfl rfl rfl rfl <| hl_off rfl rfl rfl rfl rfl rfl <| hl_off rfl rfl rfl rfl rfl rfl <| hl_v (ov_pickF rfl rfl) rfl <| hl_v (ov_assign rfl) rfl <| ?_
  refine hl_nil <| hx_then_normal <| hc_ret <| ?_
  exact results_1 (.inr rfl) rfl rfl fun w' H' => ⟨by rw [List.getD_eq_getElem?_getD, List.getElem?_eq_none (by omega)]; rfl, H'⟩
theorem Crash_spec (D : Nat → Prop) (w : World) (g : Nat) (S : List Sec) (P : List (Nat × Sec)) (v : Value) (keep : List Bool) (hP : ∀ p ∈ P, p.1 < S.length) (hv : Old D w (Rep.rep keep [v])) (H : Own D w w [dsk g S P]) :
    Calls Tryz.prog 25 #[.pointer (some ⟨g, 0, none⟩), v] w fun e w' => e = .returned (.tuple #[]) ∧ Own D w w' [dsk g (settleL (fun k => keep.getD k false) 0 S P) []] := by
  obtain ⟨A, cap, rfl, hc1, hc2, _⟩ := hv.openE rfl
  refine hc_enter (vs := [.pointer (some ⟨g, 0, none⟩), .slice A keep.length cap]) Tryz.func25 rfl _ Tryz.ntmps25 rfl H ?_
  simp only [argSlots, Nat.zero_add]
  refine hc_seq <| hc_region <| hl_new (on_boxN rfl rfl) rfl rfl rfl fun b3 =>  ?_
  refine hl_nil <| hx_then_normal <| hc_seq <| hc_region <| hl_v (ov_move rfl) rfl <| hl_v (ov_neqP rfl rfl) rfl <| ?_
  refine hl_nil <| hx_then_normal <| ?_
  refine hc_cond_true rfl ?_
  refine hc_region <| hl_v (ov_move rfl) rfl <| ?_
  refine hl_v (ov_func (first := []) (captured := [.tmp 3]) rfl rfl) rfl ?_
  refine hl_c Tryz.call62 rfl rfl (fun w1 H1 => Own.callp (dsk g S P) H1 fun D' hold hin H2 => settle_spec D' w1 g 64 [.pointer (some ⟨b3, 0, none⟩)] (fun k => keep.getD k false) S P hP Tryz.call64 (fun D2 w2 ho k _ => Crash1_spec D2 w2 k b3 (.slice A keep.length cap) keep (ho _ (hin _ fun h hs _ => stars_blk hs)) (ho _ (hold _ hv))) H2) ?_
  refine hl_nil <| ?_
  exact results_0 (.inl rfl) rfl fun w' H' => ⟨rfl, H'.ent (by first | assumption | exact Ent.refl _ | exact Ent.nil _ | exact Ent.row_any (Ent.refl _) | (repeat (first | exact Ent.refl _ | exact Ent.nil _ | refine Ent.pick ?_)))⟩
theorem Len_nil (D : Nat → Prop) (w : World) : Calls Tryz.prog 44 #[.pointer none] w fun e w' => e = .returned (.int .i64 0) ∧ Own D w w' [] := by
  refine hc_enter (vs := [.pointer none]) Tryz.func44 rfl _ Tryz.ntmps44 rfl (Own.start D w) ?_
  simp only [argSlots, Nat.zero_add]
  refine hc_seq <| hc_region <| hl_v (ov_assign rfl) rfl <| hl_nil <| hx_then_normal <| hc_seq <| ?_
  refine hc_seq <| hc_region <| hl_v (ov_move rfl) rfl <| hl_v (ov_eqlP rfl rfl) rfl <| hl_nil <| hx_then_normal <| ?_
  refine hc_cond_true rfl ?_
  refine hc_seq <| hc_region <| hl_v (ov_assign rfl) rfl <| hl_nil <| hx_then_normal <| hc_ret <| ?_
  refine hx_then_ret <| ?_
  exact results_1 (.inr rfl) rfl rfl fun w' H' => ⟨rfl, H'⟩
theorem Len_spec (D : Nat → Prop) (w : World) (g : Nat) (S : List Sec) (P : List (Nat × Sec)) (H : Own D w w [dsk g S P]) : Calls Tryz.prog 44 #[.pointer (some ⟨g, 0, none⟩)] w fun e w' => e = .returned (.int .i64 S.length) ∧ Own D w w' [dsk g S P] := by
  refine hc_enter (vs := [.pointer (some ⟨g, 0, none⟩)]) Tryz.func44 rfl _ Tryz.ntmps44 rfl H ?_
  simp only [argSlots, Nat.zero_add]
  refine HC.exs ?_
  rintro ⟨⟨A0, c0⟩, A1, c1⟩
  refine HC.ent (l' := [blk g 107 [.slice A0 S.length c0, .slice A1 P.length c1], row A0 61 64 S.length c0 (S.flatMap secC), row A1 143 65 P.length c1 (P.flatMap latC)]) (fun _ h => h) ?_
  refine hc_seq <| hc_region <| hl_v (ov_assign rfl) rfl <| hl_nil <| hx_then_normal <| hc_seq <| ?_
  refine hc_seq <| hc_region <| hl_v (ov_move rfl) rfl <| hl_v (ov_eqlP rfl rfl) rfl <| hl_nil <| hx_then_normal <| ?_
  refine hc_cond_false rfl ?_
  refine hc_skip <| hx_then_normal <| hc_seq <| hc_region <| hl_v (ov_move rfl) rfl <| hl_v (ov_nil rfl) rfl <| ?_
  refine hl_v (ov_fieldA rfl) rfl <| hl_v (ov_load rfl (CellIs.blk rfl)) rfl <| hl_v (by first | exact ov_len rfl | exact ov_lenS rfl) rfl <| ?_
  refine hl_v (ov_assign rfl) rfl <| hl_nil <| hx_then_normal <| hc_ret <| ?_
  exact results_1 (.inr rfl) rfl rfl fun w' H' => ⟨rfl, H'.ent (Ent.trans (by first | assumption | exact Ent.refl _ | exact Ent.nil _ | exact Ent.row_any (Ent.refl _) | (repeat (first | exact Ent.refl _ | exact Ent.nil _ | refine Ent.pick ?_))) (dsk_mk (A0 := A0) (c0 := c0) (A1 := A1) (c1 := c1)))⟩
end Go.Proofs.YtjlolpmmpafjeaaGreat
set_option linter.unusedVariables false
set_option linter.unusedSimpArgs false
namespace Go.Proofs.YtjlolpmmpafjeaaGreat
open Slk
/-! ### Snapshots on a disk (plain) -/
def lookS (S : List Sec) (at_ : Nat) : Option EntT :=
  match decS ((S.drop at_).take 16) with
  | some (e, _) => if e.1 = 2 ∧ e.2.2.1 = 0 then some e else none
  | none => none
def pickS (b : Option (EntT × Nat)) (at_ : Nat) (x : Option EntT) : Option (EntT × Nat) :=
  match x with
  | none => b
  | some e => match b with
    | none => some (e, at_)
    | some y => if y.1.2.1 < e.2.1 then some (e, at_) else b
def bestS (S : List Sec) : Nat → Option (EntT × Nat)
  | 0 => none
  | j + 1 => pickS (bestS S j) (16 * j) (lookS S (16 * j))
def newS (S : List Sec) : Option (EntT × Nat) := bestS S 2
def putS (S : List Sec) (at_ : Nat) (l : List Sec) : List Sec := S.take at_ ++ l ++ S.drop (at_ + l.length)
theorem putS_len {S : List Sec} {at_ : Nat} {l : List Sec} (h : at_ + l.length ≤ S.length) : (putS S at_ l).length = S.length := by
  unfold putS; simp only [List.length_append, List.length_take, List.length_drop]; omega
theorem putS_get {S : List Sec} {at_ : Nat} {l : List Sec} (h : at_ + l.length ≤ S.length) (i : Nat) : (putS S at_ l)[i]? = if i < at_ then S[i]? else if i < at_ + l.length then l[i - at_]? else S[i]? := by
  unfold putS
  rw [List.append_assoc]
  rcases Nat.lt_or_ge i at_ with h1 | h1
  · rw [if_pos h1, List.getElem?_append_left (by rw [List.length_take]; omega), List.getElem?_take_of_lt h1]
  · rw [if_neg (by omega), List.getElem?_append_right (by rw [List.length_take]; omega), List.length_take, Nat.min_eq_left (by omega)]
    rcases Nat.lt_or_ge i (at_ + l.length) with h2 | h2
    · rw [if_pos h2, List.getElem?_append_left (by omega)]
    · rw [if_neg (by omega), List.getElem?_append_right (by omega), List.getElem?_drop]
      congr 1; omega
theorem settle_true : ∀ (P : List (Nat × Sec)) (k : Nat) (S : List Sec), settleL (fun _ => true) k S P = P.foldl (fun s p => s.set p.1 p.2) S
  | [], _, _ => rfl
  | p :: r, k, S => by
    show settleL (fun _ => true) (k + 1) (if true = true then S.set p.1 p.2 else S) r = _
    rw [if_pos rfl, settle_true r (k + 1)]; rfl
theorem foldl_row (l : List Sec) : ∀ (at_ : Nat) (S : List Sec), at_ + l.length ≤ S.length → (l.zipIdx.map fun p => (at_ + p.2, p.1)).foldl (fun s p => s.set p.1 p.2) S = putS S at_ l := by
  induction l with
  | nil => intro at_ S h; simp [putS]
  | cons x r ih =>
    intro at_ S h
    rw [List.length_cons] at h
    rw [List.zipIdx_cons, List.map_cons, List.foldl_cons]
    have e : (r.zipIdx (0 + 1)).map (fun p => (at_ + p.2, p.1)) = r.zipIdx.map (fun p => (at_ + 1 + p.2, p.1)) := by
      rw [List.zipIdx_succ, List.map_map]
      refine List.map_congr_left fun p _ => ?_
      show (at_ + (p.2 + 1), p.1) = _
      rw [show at_ + (p.2 + 1) = at_ + 1 + p.2 by omega]
    rw [e, ih (at_ + 1) _ (by rw [List.length_set]; omega)]
    refine List.ext_getElem? fun i => ?_
    rw [putS_get (by rw [List.length_set]; omega), putS_get (by rw [List.length_cons]; omega), List.getElem?_set]
    simp only [List.length_cons, Nat.add_zero]
    rcases Nat.lt_trichotomy i at_ with h1 | h1 | h1
    · rw [if_pos (by omega), if_neg (by omega), if_pos h1]
    · subst h1
      rw [if_pos (by omega), if_pos rfl, if_pos (by omega), if_neg (by omega), if_pos (by omega), Nat.sub_self]; rfl
    · rw [if_neg (by omega), if_neg (by omega : ¬ i < at_)]
      rcases Nat.lt_or_ge i (at_ + 1 + r.length) with h2 | h2
      · rw [if_pos h2, if_pos (by omega), show i - at_ = (i - (at_ + 1)) + 1 by omega, List.getElem?_cons_succ]
      · rw [if_neg (by omega), if_neg (by omega), if_neg (by omega)]
def PW (at_ : Nat) (l : List Sec) (i : Nat) : List (Nat × Sec) := ((l.take i).zipIdx).map fun p => (at_ + p.2, p.1)
theorem PW_succ {at_ : Nat} {l : List Sec} {i : Nat} (h : i < l.length) : PW at_ l (i + 1) = PW at_ l i ++ [(at_ + i, l[i])] := by
  unfold PW
  rw [List.take_succ_eq_append_getElem h, List.zipIdx_append, List.map_append]
  congr 1
  simp only [List.zipIdx_cons, List.zipIdx_nil, List.map_cons, List.map_nil, List.length_take]
  rw [Nat.min_eq_left (by omega), Nat.zero_add]
theorem PW_len {at_ : Nat} {l : List Sec} {i : Nat} : (PW at_ l i).length ≤ l.length := by
  unfold PW; rw [List.length_map, List.length_zipIdx, List.length_take]; omega
theorem PW_lt {at_ : Nat} {l : List Sec} {i n : Nat} (h : at_ + l.length ≤ n) : ∀ p ∈ PW at_ l i, p.1 < n := fun p hp => by
  obtain ⟨⟨x, k⟩, hx, rfl⟩ := List.mem_map.1 hp
  have := List.snd_lt_of_mem_zipIdx hx
  rw [List.length_take] at this
  show at_ + k < n
  omega
theorem PW_done {at_ : Nat} {l : List Sec} {S : List Sec} (h : at_ + l.length ≤ S.length) : settleL (fun _ => true) 0 S (PW at_ l l.length) = putS S at_ l := by
  rw [settle_true]
  unfold PW
  rw [List.take_length]
  exact foldl_row l at_ S h
theorem put_first {S : List Sec} {at_ : Nat} {x : Sec} {r : List Sec} (h : at_ + (x :: r).length ≤ S.length) : (putS S (at_ + 1) r).set at_ x = putS S at_ (x :: r) := by
  rw [List.length_cons] at h
  refine List.ext_getElem? fun i => ?_
  have hl : (putS S (at_ + 1) r).length = S.length := putS_len (by omega)
  rw [List.getElem?_set, putS_get (by omega), putS_get (by rw [List.length_cons]; omega), hl]
  simp only [List.length_cons]
  rcases Nat.lt_trichotomy i at_ with h1 | h1 | h1
  · rw [if_neg (by omega), if_pos (by omega), if_pos h1]
  · subst h1
    rw [if_pos rfl, if_pos (by omega), if_neg (by omega), if_pos (by omega), Nat.sub_self]; rfl
  · rw [if_neg (by omega), if_neg (by omega), if_neg (by omega : ¬ i < at_)]
    rcases Nat.lt_or_ge i (at_ + 1 + r.length) with h2 | h2
    · rw [if_pos h2, if_pos (by omega), show i - at_ = (i - (at_ + 1)) + 1 by omega, List.getElem?_cons_succ]
    · rw [if_neg (by omega), if_neg (by omega)]
theorem bytes_open {D : Nat → Prop} {w0 : World} {xs : List UInt8} {cs : List Value} (k : Old D w0 (Rep.rep xs cs)) : ∃ B cb, cs = [.slice B xs.length cb] ∧ Old D w0 (Rep.rep xs [.slice B xs.length cb]) := by
  obtain ⟨h, hh, B, cb, e, r⟩ := k
  subst e
  exact ⟨B, cb, rfl, h, hh, B, cb, rfl, r⟩
end Go.Proofs.YtjlolpmmpafjeaaGreat
