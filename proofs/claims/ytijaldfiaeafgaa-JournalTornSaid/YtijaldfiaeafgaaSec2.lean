import Derived.Test.YtijaldfiaeafgaaSec1
set_option linter.unusedVariables false
set_option linter.unusedSimpArgs false
namespace Go.Proofs.Ytijaldfiaeafgaa
open Slk
/-- The last pending write of a sector. -/
def lastW (i : Nat) (P : List (Nat × Sec)) (s : Sec) : Sec := P.foldl (fun s p => if p.1 = i then p.2 else s) s
theorem lastW_snoc (i : Nat) (P : List (Nat × Sec)) (p : Nat × Sec) (s : Sec) : lastW i (P ++ [p]) s = if p.1 = i then p.2 else lastW i P s := by simp [lastW]
/-- The pending writes that are kept are done. -/
def settleL (kept : Nat → Bool) : Nat → List Sec → List (Nat × Sec) → List Sec
  | _, S, [] => S
  | k, S, p :: r => settleL kept (k + 1) (if kept k then S.set p.1 p.2 else S) r
theorem settleL_snoc (kept : Nat → Bool) : ∀ (P : List (Nat × Sec)) (k : Nat) (S : List Sec) (p : Nat × Sec), settleL kept k S (P ++ [p]) = if kept (k + P.length) then (settleL kept k S P).set p.1 p.2 else settleL kept k S P
  | [], k, S, p => by simp [settleL]
  | q :: r, k, S, p => by
    simp only [List.cons_append, settleL]
    rw [settleL_snoc kept r (k + 1)]
    simp only [List.length_cons]
    rw [show k + 1 + r.length = k + (r.length + 1) by omega]
theorem settleL_len (kept : Nat → Bool) : ∀ (P : List (Nat × Sec)) (k : Nat) (S : List Sec), (settleL kept k S P).length = S.length
  | [], _, _ => rfl
  | p :: r, k, S => by
    simp only [settleL]
    rw [settleL_len kept r]
    split <;> simp
theorem latC_at (p : Nat × Sec) (k : Nat) (v : Value) (h : (secC p.2)[k]? = some v) : (latC p)[0 + 1 + k]? = some v := by
  rw [show 0 + 1 + k = k + 1 by omega]
  exact h
theorem dsk_facts {D : Nat → Prop} {w0 w : World} {l r : List HProp} {A : Option Addr} {t : TypeId} {sz n cap : Nat} {cs : List Value} [h : PickR l A t sz n cap cs r] (H : Own D w0 w l) : n ≤ 9223372036854775807 ∧ (cs ≠ [] → isA A) := by
  have := Own.factR A H
  exact ⟨by omega, this.2.2.2⟩
theorem flat_ne {α : Type} {f : α → List Value} {sz : Nat} (hf : ∀ x, (f x).length = sz) (hz : 0 < sz) {xs : List α} (h : 0 < xs.length) : xs.flatMap f ≠ [] := by
  intro e
  have := flat_len hf xs
  rw [e, List.length_nil] at this
  have := Nat.mul_pos h hz
  omega
theorem Read_nil (D : Nat → Prop) (w : World) (i : Int) :
    Calls Try.prog 17 #[.pointer none, .int .i64 i] w fun e w' => e = .returned (.tuple #[.agg (secC zeroSec).toArray, .int .i64 1]) ∧ Own D w w' [] := by
  refine hc_enter (vs := [.pointer none, .int .i64 i]) Try.func17 rfl _ Try.ntmps17 rfl (Own.start D w) ?_
  simp only [argSlots, Nat.zero_add]
  refine hc_seq <| hc_region <| hl_new (on_alloc) rfl rfl rfl fun b4 =>
    hl_v (ov_assign rfl) rfl <| hl_nil <| hx_then_normal <| ?_
  refine hc_seq <| hc_seq <| hc_region <| hl_v (ov_move rfl) rfl <| hl_v (ov_move rfl) rfl <| ?_
  refine hl_c Try.call48 rfl rfl (fun w1 H1 => Own.calln H1 fun D' hold hin H2 => has_nil D' w1 i) ?_
  refine hl_v (ov_not rfl) rfl <| hl_nil <| hx_then_normal <| hc_cond_true rfl <| hc_seq <| hc_region <| ?_
  refine hl_v (ov_buildAN rfl rfl) rfl <| ?_
  refine hl_u0 (on_storeW (vs := secC zeroSec) rfl (by rw [secC_zero]; rfl) (by simp) (by simp) (secC_one _)) rfl rfl ?_
  refine hl_v (ov_assign rfl) rfl <| hl_nil <| hx_then_normal <| hc_ret <| hx_then_ret <| ?_
  exact results_ct (.inr rfl) rfl rfl (by simp) rfl fun w' H' => ⟨rfl, H'.ent (Ent.nil _)⟩
theorem Read_no (D : Nat → Prop) (w : World) (g : Nat) (i : Int) (S : List Sec) (P : List (Nat × Sec)) (hi : ¬ (0 ≤ i ∧ i < S.length)) (H : Own D w w [dsk g S P]) :
    Calls Try.prog 17 #[.pointer (some ⟨g, 0, none⟩), .int .i64 i] w fun e w' => e = .returned (.tuple #[.agg (secC zeroSec).toArray, .int .i64 1]) ∧ Own D w w' [dsk g S P] := by
  refine hc_enter (vs := [.pointer (some ⟨g, 0, none⟩), .int .i64 i]) Try.func17 rfl _ Try.ntmps17 rfl H ?_
  simp only [argSlots, Nat.zero_add]
  refine HC.exs ?_
  rintro ⟨⟨A0, c0⟩, A1, c1⟩
  refine HC.ent (l' := [blk g 100 [.slice A0 S.length c0, .slice A1 P.length c1], row A0 34 64 S.length c0 (S.flatMap secC), row A1 111 65 P.length c1 (P.flatMap latC)]) (fun _ h => h) ?_
  refine hc_seq <| hc_region <| hl_new (on_alloc) rfl rfl rfl fun b4 =>
    hl_v (ov_assign rfl) rfl <| hl_nil <| hx_then_normal <| ?_
  refine hc_seq <| hc_seq <| hc_region <| hl_v (ov_move rfl) rfl <| hl_v (ov_move rfl) rfl <| ?_
  refine hl_c Try.call48 rfl rfl (fun w1 H1 => Own.callp (blk g 100 [.slice A0 S.length c0, .slice A1 P.length c1]) H1 fun D' hold hin H2 => has_spec D' w1 g i A0 A1 _ c0 _ c1 H2) ?_
  refine hl_v (by first | exact ov_notd rfl | exact ov_not rfl) rfl <| ?_
  refine hl_nil <| hx_then_normal <| ?_
  refine hc_cond_T rfl (fun h => hi h) ?_
  refine hc_seq <| hc_region <| hl_v (ov_buildAN rfl rfl) rfl <| ?_
  refine hl_u0 (on_storeW (vs := secC zeroSec) rfl (by rw [secC_zero]; rfl) (by simp) (by simp) (secC_one _)) rfl rfl ?_
  refine hl_v (ov_assign rfl) rfl <| hl_nil <| hx_then_normal <| hc_ret <| hx_then_ret <| ?_
  exact results_ct (.inr rfl) rfl rfl (by simp) rfl fun w' H' => ⟨rfl, H'.ent (Ent.trans (by first | assumption | exact Ent.refl _ | exact Ent.nil _ | exact Ent.row_any (Ent.refl _) | (repeat (first | exact Ent.refl _ | exact Ent.nil _ | refine Ent.pick ?_))) (dsk_mk (A0 := A0) (c0 := c0) (A1 := A1) (c1 := c1)))⟩
theorem Read_ok (D : Nat → Prop) (w : World) (g : Nat) (i : Nat) (S : List Sec) (P : List (Nat × Sec)) (hi : i < S.length) (H : Own D w w [dsk g S P]) :
    Calls Try.prog 17 #[.pointer (some ⟨g, 0, none⟩), .int .i64 i] w fun e w' => e = .returned (.tuple #[.agg (secC (lastW i P S[i])).toArray, .int .i64 0]) ∧ Own D w w' [dsk g S P] := by
  refine hc_enter (vs := [.pointer (some ⟨g, 0, none⟩), .int .i64 i]) Try.func17 rfl _ Try.ntmps17 rfl H ?_
  simp only [argSlots, Nat.zero_add]
  refine HC.exs ?_
  rintro ⟨⟨A0, c0⟩, A1, c1⟩
  refine HC.ent (l' := [blk g 100 [.slice A0 S.length c0, .slice A1 P.length c1], row A0 34 64 S.length c0 (S.flatMap secC), row A1 111 65 P.length c1 (P.flatMap latC)]) (fun _ h => h) ?_
  refine HC.fact (fun w H => dsk_facts (A := A0) H) (fun hf0 => ?_)
  refine HC.fact (fun w H => dsk_facts (A := A1) H) (fun hf1 => ?_)
  have hA0 : isA A0 := hf0.2 (flat_ne secC_len (by decide) (by omega))
  refine hc_seq <| hc_region <| hl_new (on_alloc) rfl rfl rfl fun b4 =>
    hl_v (ov_assign rfl) rfl <| hl_nil <| hx_then_normal <| ?_
  refine hc_seq <| hc_seq <| hc_region <| hl_v (ov_move rfl) rfl <| hl_v (ov_move rfl) rfl <| ?_
  refine hl_c Try.call48 rfl rfl (fun w1 H1 => Own.callp (blk g 100 [.slice A0 S.length c0, .slice A1 P.length c1]) H1 fun D' hold hin H2 => has_spec D' w1 g i A0 A1 _ c0 _ c1 H2) ?_
  refine hl_v (by first | exact ov_notd rfl | exact ov_not rfl) rfl <| ?_
  refine hl_nil <| hx_then_normal <| ?_
  refine hc_cond_F rfl (by simp [hi]) ?_
  refine hc_skip <| hx_then_normal <| hc_seq <| hc_region <| hl_v (ov_move rfl) rfl <| hl_v (ov_nil rfl) rfl <| ?_
  refine hl_v (ov_fieldA rfl) rfl <| hl_v (ov_load rfl (CellIs.blk rfl)) rfl <| hl_v (ov_move rfl) rfl <| hl_v (ov_idxS rfl (by assumption) rfl _ rfl (by omega)) rfl <| ?_
  refine hl_v (ov_loadG (cs := secC S[i]) rfl (secC_len _) (CellsAre.flat secC_len hA0 hi)) rfl ?_
  refine hl_new (on_alloc) rfl rfl rfl fun b6 =>  ?_
  refine hl_u0 (on_storeW rfl rfl (by simp) (by simp) (secC_one _)) rfl rfl ?_
  refine hl_nil <| hx_then_normal <| hc_seq <| hc_seq <| hc_region <| hl_v (ov_move rfl) rfl <| ?_
  refine hl_v (ov_nil rfl) rfl <| hl_v (ov_fieldA rfl) rfl <| hl_v (ov_load rfl (CellIs.blk rfl)) rfl <| hl_v (by first | exact ov_len rfl | exact ov_lenS rfl) rfl <| ?_
  refine hl_v (ov_move rfl) rfl <| hl_nil <| hx_then_normal <| hc_block <| ?_
  refine hc_loopK1 (σ := Nat) [1, 4, 6, 24, 25] rfl 26 (fun j => .int .i64 j) (fun j => [blk b6 34 (secC (lastW i (P.take j) S[i])), blk b4 34 (List.replicate 64 (.int .u8 0)), blk g 100 [.slice A0 S.length c0, .slice A1 P.length c1], row A0 34 64 S.length c0 (S.flatMap secC), row A1 111 65 P.length c1 (P.flatMap latC)]) (fun j => j ≤ P.length) (fun j => P.length - j) (0) (Nat.zero_le _) rfl ((show Ent _ (blk b6 34 (secC S[i]) :: _) from (by first | assumption | exact Ent.refl _ | exact Ent.nil _ | exact Ent.row_any (Ent.refl _) | (repeat (first | exact Ent.refl _ | exact Ent.nil _ | refine Ent.pick ?_))))) ?_
  rintro j hj K1 hK1
  refine hc_seq <| hc_region <| hl_v (ov_lss rfl rfl) rfl <| hl_nil <| hx_then_normal <| hc_seq <| ?_
  refine hc_cond rfl (fun hlt => ?_) (fun hlt => ?_)
  · have hlt : j < P.length := by omega
    have hA1 : isA A1 := hf1.2 (flat_ne latC_len (by decide) (by omega))
    have hsn := List.take_succ_eq_append_getElem hlt
    refine hc_skip <| hx_then_normal <| hc_seq <| hc_block <| hc_seq <| hc_region <| ?_
    refine hl_v (ov_idxS rfl (by assumption) rfl _ rfl (by omega)) rfl <| ?_
    refine hl_v (ov_loadG (cs := latC P[j]) rfl (latC_len _) (CellsAre.flat latC_len hA1 hlt)) rfl ?_
    refine hl_new (on_alloc) rfl rfl rfl fun b8 =>  ?_
    refine hl_u0 (on_storeW rfl rfl (by simp) (by simp) (latC_one _)) rfl rfl ?_
    refine hl_nil <| hx_then_normal <| hc_seq <| hc_region <| hl_v (ov_fieldA rfl) rfl <| hl_v (ov_load rfl (CellIs.blk rfl)) rfl <| ?_
    refine hl_v (ov_move rfl) rfl <| hl_v (ov_eql rfl rfl) rfl <| hl_nil <| hx_then_normal <| ?_
    refine hc_cutK0 (σ := Unit) [1, 4, 6, 24, 25, 26] rfl  (fun _u => [blk b6 34 (secC (lastW i (P.take (j + 1)) S[i])), blk b4 34 (List.replicate 64 (.int .u8 0)), blk g 100 [.slice A0 S.length c0, .slice A1 P.length c1], row A0 34 64 S.length c0 (S.flatMap secC), row A1 111 65 P.length c1 (P.flatMap latC)]) (fun K2 hK2 => ?_) (fun _u => ?_)
    · rw [hsn, lastW_snoc] at hK2
      refine hc_cond rfl (fun he => ?_) (fun he => ?_)
      · rw [if_pos (by omega)] at hK2
        refine hc_region <| hl_v (ov_fieldA rfl) rfl <| ?_
        refine hl_v (ov_loadG (cs := secC P[j].2) rfl (secC_len _) (CellsAre.blk (latC_at P[j]))) rfl ?_
        refine hl_u0 (on_storeW rfl rfl (by simp) (by simp) (secC_one _)) rfl rfl ?_
        refine hl_nil <| ?_
        refine hx_cut hK2 (()) (by repeat (first | exact Slots.sub_nil _ | refine Slots.sub_cons rfl ?_)) (by first | assumption | exact Ent.refl _ | exact Ent.nil _ | (repeat (first | exact Ent.refl _ | exact Ent.nil _ | refine Ent.pick ?_)))
      rw [if_neg (by omega)] at hK2
      refine hc_skip <| ?_
      refine hx_cut hK2 (()) (by repeat (first | exact Slots.sub_nil _ | refine Slots.sub_cons rfl ?_)) (by first | assumption | exact Ent.refl _ | exact Ent.nil _ | (repeat (first | exact Ent.refl _ | exact Ent.nil _ | refine Ent.pick ?_)))
    refine hx_block_normal <| hx_then_normal <| hc_region <| hl_v (ov_add rfl rfl (by first | exact wrap_i64 (by omega) | rfl)) rfl <| ?_
    refine hl_v (ov_move rfl) rfl <| hl_nil <| ?_
    refine hx_next hK1 (j + 1) (hlt) (by omega) (by repeat (first | exact Slots.sub_nil _ | refine Slots.sub_cons rfl ?_)) (by first | assumption | exact Ent.refl _ | exact Ent.nil _ | (repeat (first | exact Ent.refl _ | exact Ent.nil _ | refine Ent.pick ?_)))
  have : j = P.length := by omega
  subst this
  rw [List.take_length]
  refine hc_exit <| hx_then_exit <| hx_then_exit <| hx_block_out <| hx_then_normal <| hc_seq <| ?_
  refine hc_region <| hl_v (by first | exact ov_loadW rfl (by simp; done) | exact ov_loadGB rfl rfl) rfl <| ?_
  refine hl_u0 (on_storeW rfl rfl (by simp) (by simp) (secC_one _)) rfl rfl ?_
  refine hl_v (ov_assign rfl) rfl <| hl_nil <| hx_then_normal <| hc_ret <| ?_
  exact results_ct (.inr rfl) rfl rfl (by simp) rfl fun w' H' => ⟨rfl, H'.ent (Ent.trans (by first | assumption | exact Ent.refl _ | exact Ent.nil _ | exact Ent.row_any (Ent.refl _) | (repeat (first | exact Ent.refl _ | exact Ent.nil _ | refine Ent.pick ?_))) (dsk_mk (A0 := A0) (c0 := c0) (A1 := A1) (c1 := c1)))⟩
theorem settle_spec (D : Nat → Prop) (w : World) (g f : Nat) (cap : List Value) (kept : Nat → Bool) (S : List Sec) (P : List (Nat × Sec)) (hP : ∀ p ∈ P, p.1 < S.length) (hcf : ∀ args w, (callFunc f args).run Try.prog w = .ok (.enter f args) w)
    (HK : ∀ D' w1, (∀ A, Old D w A → Old D' w1 A) → ∀ at' : Nat, at' < P.length → Calls Try.prog f ([Value.int .i64 (at' : Int)] ++ cap).toArray w1 fun e w' => e = .returned (.bool (kept at')) ∧ Own D' w1 w' []) (H : Own D w w [dsk g S P]) :
    Calls Try.prog 51 #[.pointer (some ⟨g, 0, none⟩), .func (.func f) #[] cap.toArray] w fun e w' => e = .returned (.tuple #[]) ∧ Own D w w' [dsk g (settleL kept 0 S P) []] := by
  refine hc_enter (vs := [.pointer (some ⟨g, 0, none⟩), .func (.func f) #[] cap.toArray]) Try.func51 rfl _ Try.ntmps51 rfl H ?_
  simp only [argSlots, Nat.zero_add]
  refine HC.exs ?_
  rintro ⟨⟨A0, c0⟩, A1, c1⟩
  refine HC.ent (l' := [blk g 100 [.slice A0 S.length c0, .slice A1 P.length c1], row A0 34 64 S.length c0 (S.flatMap secC), row A1 111 65 P.length c1 (P.flatMap latC)]) (fun _ h => h) ?_
  refine HC.fact (fun w H => dsk_facts (A := A0) H) (fun hf0 => ?_)
  refine HC.fact (fun w H => dsk_facts (A := A1) H) (fun hf1 => ?_)
  refine hc_seq <| hc_seq <| hc_region <| hl_v (ov_move rfl) rfl <| hl_v (ov_nil rfl) rfl <| hl_v (ov_fieldA rfl) rfl <| ?_
  refine hl_v (ov_load rfl (CellIs.blk rfl)) rfl <| hl_v (by first | exact ov_len rfl | exact ov_lenS rfl) rfl <| ?_
  refine hl_v (ov_move rfl) rfl <| hl_nil <| hx_then_normal <| hc_block <| ?_
  refine hc_loopK1 (σ := Nat) [0, 1, 9, 10] rfl 11 (fun j => .int .i64 j) (fun j => [blk g 100 [.slice A0 S.length c0, .slice A1 P.length c1], row A0 34 64 S.length c0 ((settleL kept 0 S (P.take j)).flatMap secC), row A1 111 65 P.length c1 (P.flatMap latC)]) (fun j => j ≤ P.length) (fun j => P.length - j) (0) (Nat.zero_le _) rfl (Ent.refl _) ?_
  rintro j hj K1 hK1
  refine hc_seq <| hc_region <| hl_v (ov_lss rfl rfl) rfl <| hl_nil <| hx_then_normal <| hc_seq <| ?_
  refine hc_cond rfl (fun hlt => ?_) (fun hlt => ?_)
  · have hlt : j < P.length := by omega
    have hA1 : isA A1 := hf1.2 (flat_ne latC_len (by decide) (by omega))
    have hsn := List.take_succ_eq_append_getElem hlt
    have hpj := hP _ (List.getElem_mem hlt)
    have hA0 : isA A0 := hf0.2 (flat_ne secC_len (by decide) (by omega))
    have hsl := settleL_len kept (P.take j) 0 S
    refine hc_skip <| hx_then_normal <| hc_seq <| hc_block <| hc_seq <| hc_region <| ?_
    refine hl_v (ov_move rfl) rfl <| hl_v (ov_idxS rfl (by assumption) rfl _ rfl (by omega)) rfl <| ?_
    refine hl_v (ov_loadG (cs := latC P[j]) rfl (latC_len _) (CellsAre.flat latC_len hA1 hlt)) rfl ?_
    refine hl_new (on_alloc) rfl rfl rfl fun b5 => 
      hl_v (ov_assign rfl) rfl <| ?_
    refine hl_u0 (on_storeW rfl rfl (by simp) (by simp) (latC_one _)) rfl rfl ?_
    refine hl_nil <| hx_then_normal <| hc_seq <| hc_region <| hl_v (ov_move rfl) rfl <| hl_v (ov_move rfl) rfl <| ?_
    refine hl_cv rfl hcf rfl rfl (fun w1 H1 => Own.calln H1 fun D' hold hin H2 => HK D' w1 hold j hlt) ?_
    refine hl_nil <| hx_then_normal <| ?_
    refine hc_cutK0 (σ := Unit) [0, 1, 9, 10, 11] rfl  (fun _u => [blk g 100 [.slice A0 S.length c0, .slice A1 P.length c1], row A0 34 64 S.length c0 ((settleL kept 0 S (P.take (j + 1))).flatMap secC), row A1 111 65 P.length c1 (P.flatMap latC)]) (fun K2 hK2 => ?_) (fun _u => ?_)
    · rw [hsn, settleL_snoc, List.length_take, Nat.zero_add, Nat.min_eq_left (by omega)] at hK2
      refine hc_cond_bool rfl (fun hk => ?_) (fun hk => ?_)
      · rw [if_pos hk] at hK2
        generalize settleL kept 0 S (P.take j) = T at *
        generalize P[j] = p at *
        refine hc_any [blk g 100 [.slice A0 S.length c0, .slice A1 P.length c1], blk b5 111 (latC p)] mixed 10 rfl ?_
        refine ha_v 0 rfl (ov_move rfl) rfl <| ?_
        refine ha_v 1 rfl (ov_nil rfl) rfl <| ?_
        refine ha_v 2 rfl (ov_fieldA rfl) rfl <| ?_
        refine ha_v 3 rfl (ov_load rfl (CellIs.blk rfl)) rfl <| ?_
        refine ha_v 4 rfl (ov_fieldA rfl) rfl <| ?_
        refine ha_v 5 rfl (ov_load rfl (CellIs.blk rfl)) rfl <| ?_
        refine ha_v 6 rfl (ov_fieldA rfl) rfl <| ?_
        refine ha_one 7 (by kernel_rfl) <| ?_
        refine ho_v rfl (ov_loadG (cs := secC p.2) rfl (secC_len _) (CellsAre.blk (latC_at p))) rfl ?_
        refine ha_v 8 rfl (ov_idxS rfl (by assumption) rfl _ rfl (by omega)) rfl <| ?_
        refine ha_one 9 (by kernel_rfl) <| ?_
        refine ho_w0 rfl (on_storeRG (A := A0) (vs := secC p.2) rfl rfl (secC_len _) (by rw [flat_len secC_len]; omega) (by rw [flat_len secC_len, secC_len, ← Nat.succ_mul]; exact Nat.mul_le_mul_right _ (by omega)) (secC_one _)) rfl ?_
        rw [flat_set secC_len T p.1 p.2 (by omega)]
        refine ha_done (by kernel_rfl) <| ?_
        refine hx_cut hK2 (()) (by repeat (first | exact Slots.sub_nil _ | refine Slots.sub_cons rfl ?_)) (by first | assumption | exact Ent.refl _ | exact Ent.nil _ | (repeat (first | exact Ent.refl _ | exact Ent.nil _ | refine Ent.pick ?_)))
      rw [if_neg (by simp [hk])] at hK2
      refine hc_skip <| ?_
      refine hx_cut hK2 (()) (by repeat (first | exact Slots.sub_nil _ | refine Slots.sub_cons rfl ?_)) (by first | assumption | exact Ent.refl _ | exact Ent.nil _ | (repeat (first | exact Ent.refl _ | exact Ent.nil _ | refine Ent.pick ?_)))
    refine hx_block_normal <| hx_then_normal <| hc_region <| hl_v (ov_add rfl rfl (by first | exact wrap_i64 (by omega) | rfl)) rfl <| ?_
    refine hl_v (ov_move rfl) rfl <| hl_nil <| ?_
    refine hx_next hK1 (j + 1) (hlt) (by omega) (by repeat (first | exact Slots.sub_nil _ | refine Slots.sub_cons rfl ?_)) (by first | assumption | exact Ent.refl _ | exact Ent.nil _ | (repeat (first | exact Ent.refl _ | exact Ent.nil _ | refine Ent.pick ?_)))
  have : j = P.length := by omega
  subst this
  rw [List.take_length]
  have hsl := settleL_len kept P 0 S
  refine hc_exit <| hx_then_exit <| hx_then_exit <| hx_block_out <| hx_then_normal <| hc_region <| ?_
  refine hl_v (ov_move rfl) rfl <| hl_v (ov_nil rfl) rfl <| hl_v (ov_fieldA rfl) rfl <| hl_u0 (on_storeN rfl rfl rfl rfl rfl) rfl rfl <| hl_nil <| ?_
  refine results_0 (.inl rfl) rfl fun w' H' => ⟨rfl, H'.ent ?_⟩
  have hd := dsk_mk (tD := 100) (tL := 111) (g := g) (S := settleL kept 0 S P) (P := []) (A0 := A0) (c0 := c0) (A1 := none) (c1 := 0) (l := [])
  rw [hsl] at hd
  exact Ent.trans (Ent.cons (Ent.cons ((Ent.nil _).trans (Ent.nil_row _ _)))) hd
theorem Flush1_spec (D : Nat → Prop) (w : World) (i : Int) : Calls Try.prog 52 #[.int .i64 i] w fun e w' => e = .returned (.bool true) ∧ Own D w w' [] := by
  refine hc_enter (vs := [.int .i64 i]) Try.func52 rfl _ Try.ntmps52 rfl (Own.start D w) ?_
  simp only [argSlots, Nat.zero_add]
  refine hc_seq <| hc_region <| hl_v (ov_assign rfl) rfl <| hl_nil <| hx_then_normal <| hc_seq <| ?_
  refine hc_region <| hl_v (ov_assign rfl) rfl <| hl_nil <| hx_then_normal <| hc_ret <| ?_
  exact results_1 (.inr rfl) rfl rfl fun w' H' => ⟨rfl, H'⟩
theorem Flush_nil (D : Nat → Prop) (w : World) : Calls Try.prog 24 #[.pointer none] w fun e w' => e = .returned (.int .i64 1) ∧ Own D w w' [] := by
  refine hc_enter (vs := [.pointer none]) Try.func24 rfl _ Try.ntmps24 rfl (Own.start D w) ?_
  simp only [argSlots, Nat.zero_add]
  refine hc_seq <| hc_region <| hl_v (ov_assign rfl) rfl <| hl_nil <| hx_then_normal <| hc_seq <| ?_
  refine hc_seq <| hc_region <| hl_v (ov_move rfl) rfl <| hl_v (ov_eqlP rfl rfl) rfl <| hl_nil <| hx_then_normal <| ?_
  refine hc_cond_true rfl ?_
  refine hc_seq <| hc_region <| hl_v (ov_assign rfl) rfl <| hl_nil <| hx_then_normal <| hc_ret <| ?_
  refine hx_then_ret <| ?_
  exact results_1 (.inr rfl) rfl rfl fun w' H' => ⟨rfl, H'⟩
theorem Flush_spec (D : Nat → Prop) (w : World) (g : Nat) (S : List Sec) (P : List (Nat × Sec)) (hP : ∀ p ∈ P, p.1 < S.length) (H : Own D w w [dsk g S P]) :
    Calls Try.prog 24 #[.pointer (some ⟨g, 0, none⟩)] w fun e w' => e = .returned (.int .i64 0) ∧ Own D w w' [dsk g (settleL (fun _ => true) 0 S P) []] := by
  refine hc_enter (vs := [.pointer (some ⟨g, 0, none⟩)]) Try.func24 rfl _ Try.ntmps24 rfl H ?_
  simp only [argSlots, Nat.zero_add]
  refine hc_seq <| hc_region <| hl_v (ov_assign rfl) rfl <| hl_nil <| hx_then_normal <| hc_seq <| ?_
  refine hc_seq <| hc_region <| hl_v (ov_move rfl) rfl <| hl_v (ov_eqlP rfl rfl) rfl <| hl_nil <| hx_then_normal <| ?_
  refine hc_cond_false rfl ?_
  refine hc_skip <| hx_then_normal <| hc_seq <| hc_region <| hl_v (ov_move rfl) rfl <| ?_
  refine hl_c Try.call51 rfl rfl (fun w1 H1 => Own.callp (dsk g S P) H1 fun D' hold hin H2 => settle_spec D' w1 g 52 [] (fun _ => true) S P hP Try.call52 (fun D2 w2 _ k _ => Flush1_spec D2 w2 k) H2) ?_
  refine hl_nil <| hx_then_normal <| hc_seq <| hc_region <| hl_v (ov_assign rfl) rfl <| hl_nil <| ?_
  refine hx_then_normal <| hc_ret <| ?_
  exact results_1 (.inr rfl) rfl rfl fun w' H' => ⟨rfl, H'⟩
theorem Crash1_spec (D : Nat → Prop) (w : World) (i b : Nat) (v : Value) (keep : List Bool) (h1 : Old D w (blk b 61 [v])) (h2 : Old D w (Rep.rep keep [v])) :
    Calls Try.prog 54 #[.int .i64 i, .pointer (some ⟨b, 0, none⟩)] w fun e w' => e = .returned (.bool (keep.getD i false)) ∧ Own D w w' [] := by
  obtain ⟨A, cap, rfl, hc1, hc2, hel⟩ := h2.openE rfl
  have hb : ∀ l, CellIs D w l b 0 (.slice A keep.length cap) := fun l => CellIs.old (Old.blk h1)
  refine hc_enter (vs := [.int .i64 i, .pointer (some ⟨b, 0, none⟩)]) Try.func54 rfl _ Try.ntmps54 rfl (Own.start D w) ?_
  simp only [argSlots, Nat.zero_add]
  refine hc_seq <| hc_region <| hl_v (ov_assign rfl) rfl <| hl_nil <| hx_then_normal <| hc_seq <| ?_
  refine hc_region <| hl_v (ov_move rfl) rfl <| ?_
  refine hl_v (ov_load rfl (hb _)) rfl ?_
  refine hl_v (by first | exact ov_len rfl | exact ov_lenS rfl) rfl <| ?_
  refine hl_v (ov_lss rfl rfl) rfl <| hl_v (ov_move rfl) rfl <| ?_
  refine hl_part (t := 8) rfl (fun hlt => ?_) (fun hlt => ?_)
  · have hlt : i < keep.length := by omega
    obtain ⟨hA, u, hu, hcl⟩ := hel i hlt
    have hu := hu.pure
    simp only [List.cons.injEq, and_true] at hu
    subst hu
    refine hl_on rfl rfl <| hl_v (ov_load rfl (hb _)) rfl ?_
    refine hl_on rfl rfl <| hl_v (ov_move rfl) rfl <| hl_on rfl rfl <| hl_v (ov_idxS rfl (by assumption) rfl _ rfl (by omega)) rfl <| hl_on rfl rfl <| hl_v (by first | exact ov_load rfl (by assumption) | exact ov_load rfl (hcl _) | exact ov_load rfl (hcl2 _) | exact ov_load rfl (hcl3 _) | exact ov_load rfl (CellIs.blk rfl)) rfl <| ?_
    refine hl_v (ov_pickT rfl rfl) rfl <| hl_v (ov_assign rfl) rfl <| hl_nil <| hx_then_normal <| hc_ret <| ?_
    exact results_1 (.inr rfl) rfl rfl fun w' H' => ⟨by simp [List.getD_eq_getElem?_getD, List.getElem?_eq_getElem hlt], H'⟩
  refine hl_off rfl rfl rfl rfl rfl rfl <| hl_off rfl rfl rfl rfl rfl rfl <| hl_off rfl rfl rfl rfl rfl rfl <| hl_off rfl rfl rfl rfl rfl rfl <| hl_v (ov_pickF rfl rfl) rfl <| hl_v (ov_assign rfl) rfl <| ?_
  refine hl_nil <| hx_then_normal <| hc_ret <| ?_
  exact results_1 (.inr rfl) rfl rfl fun w' H' => ⟨by rw [List.getD_eq_getElem?_getD, List.getElem?_eq_none (by omega)]; rfl, H'⟩
theorem Crash_nil (D : Nat → Prop) (w : World) (v : Value) : Calls Try.prog 27 #[.pointer none, v] w fun e w' => e = .returned (.tuple #[]) ∧ Own D w w' [] := by
  refine hc_enter (vs := [.pointer none, v]) Try.func27 rfl _ Try.ntmps27 rfl (Own.start D w) ?_
  simp only [argSlots, Nat.zero_add]
  refine hc_seq <| hc_region <| ?_
  refine hl_new (on_box rfl) rfl rfl rfl (fun b3 => ?_)
  refine hl_nil <| hx_then_normal <| hc_seq <| hc_region <| hl_v (ov_move rfl) rfl <| hl_v (ov_neqP rfl rfl) rfl <| ?_
  refine hl_nil <| hx_then_normal <| ?_
  refine hc_cond_false rfl ?_
  refine hc_skip <| ?_
  exact results_0 (.inl rfl) rfl fun w' H' => ⟨rfl, H'.ent (Ent.nil _)⟩
theorem Crash_spec (D : Nat → Prop) (w : World) (g : Nat) (S : List Sec) (P : List (Nat × Sec)) (v : Value) (keep : List Bool) (hP : ∀ p ∈ P, p.1 < S.length) (hv : Old D w (Rep.rep keep [v])) (H : Own D w w [dsk g S P]) :
    Calls Try.prog 27 #[.pointer (some ⟨g, 0, none⟩), v] w fun e w' => e = .returned (.tuple #[]) ∧ Own D w w' [dsk g (settleL (fun k => keep.getD k false) 0 S P) []] := by
  obtain ⟨A, cap, rfl, hc1, hc2, _⟩ := hv.openE rfl
  refine hc_enter (vs := [.pointer (some ⟨g, 0, none⟩), .slice A keep.length cap]) Try.func27 rfl _ Try.ntmps27 rfl H ?_
  simp only [argSlots, Nat.zero_add]
  refine hc_seq <| hc_region <| hl_new (on_boxN rfl rfl) rfl rfl rfl fun b3 =>  ?_
  refine hl_nil <| hx_then_normal <| hc_seq <| hc_region <| hl_v (ov_move rfl) rfl <| hl_v (ov_neqP rfl rfl) rfl <| ?_
  refine hl_nil <| hx_then_normal <| ?_
  refine hc_cond_true rfl ?_
  refine hc_region <| hl_v (ov_move rfl) rfl <| ?_
  refine hl_v (ov_func (first := []) (captured := [.tmp 3]) rfl rfl) rfl ?_
  refine hl_c Try.call51 rfl rfl (fun w1 H1 => Own.callp (dsk g S P) H1 fun D' hold hin H2 => settle_spec D' w1 g 54 [.pointer (some ⟨b3, 0, none⟩)] (fun k => keep.getD k false) S P hP Try.call54 (fun D2 w2 ho k _ => Crash1_spec D2 w2 k b3 (.slice A keep.length cap) keep (ho _ (hin _ fun h hs _ => stars_blk hs)) (ho _ (hold _ hv))) H2) ?_
  refine hl_nil <| ?_
  exact results_0 (.inl rfl) rfl fun w' H' => ⟨rfl, H'.ent (by first | assumption | exact Ent.refl _ | exact Ent.nil _ | exact Ent.row_any (Ent.refl _) | (repeat (first | exact Ent.refl _ | exact Ent.nil _ | refine Ent.pick ?_)))⟩
theorem Pending_nil (D : Nat → Prop) (w : World) : Calls Try.prog 43 #[.pointer none] w fun e w' => e = .returned (.int .i64 0) ∧ Own D w w' [] := by
  refine hc_enter (vs := [.pointer none]) Try.func43 rfl _ Try.ntmps43 rfl (Own.start D w) ?_
  simp only [argSlots, Nat.zero_add]
  refine hc_seq <| hc_region <| hl_v (ov_assign rfl) rfl <| hl_nil <| hx_then_normal <| hc_seq <| ?_
  refine hc_seq <| hc_region <| hl_v (ov_move rfl) rfl <| hl_v (ov_eqlP rfl rfl) rfl <| hl_nil <| hx_then_normal <| ?_
  refine hc_cond_true rfl ?_
  refine hc_seq <| hc_region <| hl_v (ov_assign rfl) rfl <| hl_nil <| hx_then_normal <| hc_ret <| ?_
  refine hx_then_ret <| ?_
  exact results_1 (.inr rfl) rfl rfl fun w' H' => ⟨rfl, H'⟩
theorem Pending_spec (D : Nat → Prop) (w : World) (g : Nat) (S : List Sec) (P : List (Nat × Sec)) (H : Own D w w [dsk g S P]) : Calls Try.prog 43 #[.pointer (some ⟨g, 0, none⟩)] w fun e w' => e = .returned (.int .i64 P.length) ∧ Own D w w' [dsk g S P] := by
  refine hc_enter (vs := [.pointer (some ⟨g, 0, none⟩)]) Try.func43 rfl _ Try.ntmps43 rfl H ?_
  simp only [argSlots, Nat.zero_add]
  refine HC.exs ?_
  rintro ⟨⟨A0, c0⟩, A1, c1⟩
  refine HC.ent (l' := [blk g 100 [.slice A0 S.length c0, .slice A1 P.length c1], row A0 34 64 S.length c0 (S.flatMap secC), row A1 111 65 P.length c1 (P.flatMap latC)]) (fun _ h => h) ?_
  refine hc_seq <| hc_region <| hl_v (ov_assign rfl) rfl <| hl_nil <| hx_then_normal <| hc_seq <| ?_
  refine hc_seq <| hc_region <| hl_v (ov_move rfl) rfl <| hl_v (ov_eqlP rfl rfl) rfl <| hl_nil <| hx_then_normal <| ?_
  refine hc_cond_false rfl ?_
  refine hc_skip <| hx_then_normal <| hc_seq <| hc_region <| hl_v (ov_move rfl) rfl <| hl_v (ov_nil rfl) rfl <| ?_
  refine hl_v (ov_fieldA rfl) rfl <| hl_v (ov_load rfl (CellIs.blk rfl)) rfl <| hl_v (by first | exact ov_len rfl | exact ov_lenS rfl) rfl <| ?_
  refine hl_v (ov_assign rfl) rfl <| hl_nil <| hx_then_normal <| hc_ret <| ?_
  exact results_1 (.inr rfl) rfl rfl fun w' H' => ⟨rfl, H'.ent (Ent.trans (by first | assumption | exact Ent.refl _ | exact Ent.nil _ | exact Ent.row_any (Ent.refl _) | (repeat (first | exact Ent.refl _ | exact Ent.nil _ | refine Ent.pick ?_))) (dsk_mk (A0 := A0) (c0 := c0) (A1 := A1) (c1 := c1)))⟩
theorem Len_nil (D : Nat → Prop) (w : World) : Calls Try.prog 45 #[.pointer none] w fun e w' => e = .returned (.int .i64 0) ∧ Own D w w' [] := by
  refine hc_enter (vs := [.pointer none]) Try.func45 rfl _ Try.ntmps45 rfl (Own.start D w) ?_
  simp only [argSlots, Nat.zero_add]
  refine hc_seq <| hc_region <| hl_v (ov_assign rfl) rfl <| hl_nil <| hx_then_normal <| hc_seq <| ?_
  refine hc_seq <| hc_region <| hl_v (ov_move rfl) rfl <| hl_v (ov_eqlP rfl rfl) rfl <| hl_nil <| hx_then_normal <| ?_
  refine hc_cond_true rfl ?_
  refine hc_seq <| hc_region <| hl_v (ov_assign rfl) rfl <| hl_nil <| hx_then_normal <| hc_ret <| ?_
  refine hx_then_ret <| ?_
  exact results_1 (.inr rfl) rfl rfl fun w' H' => ⟨rfl, H'⟩
theorem Len_spec (D : Nat → Prop) (w : World) (g : Nat) (S : List Sec) (P : List (Nat × Sec)) (H : Own D w w [dsk g S P]) : Calls Try.prog 45 #[.pointer (some ⟨g, 0, none⟩)] w fun e w' => e = .returned (.int .i64 S.length) ∧ Own D w w' [dsk g S P] := by
  refine hc_enter (vs := [.pointer (some ⟨g, 0, none⟩)]) Try.func45 rfl _ Try.ntmps45 rfl H ?_
  simp only [argSlots, Nat.zero_add]
  refine HC.exs ?_
  rintro ⟨⟨A0, c0⟩, A1, c1⟩
  refine HC.ent (l' := [blk g 100 [.slice A0 S.length c0, .slice A1 P.length c1], row A0 34 64 S.length c0 (S.flatMap secC), row A1 111 65 P.length c1 (P.flatMap latC)]) (fun _ h => h) ?_
  refine hc_seq <| hc_region <| hl_v (ov_assign rfl) rfl <| hl_nil <| hx_then_normal <| hc_seq <| ?_
  refine hc_seq <| hc_region <| hl_v (ov_move rfl) rfl <| hl_v (ov_eqlP rfl rfl) rfl <| hl_nil <| hx_then_normal <| ?_
  refine hc_cond_false rfl ?_
  refine hc_skip <| hx_then_normal <| hc_seq <| hc_region <| hl_v (ov_move rfl) rfl <| hl_v (ov_nil rfl) rfl <| ?_
  refine hl_v (ov_fieldA rfl) rfl <| hl_v (ov_load rfl (CellIs.blk rfl)) rfl <| hl_v (by first | exact ov_len rfl | exact ov_lenS rfl) rfl <| ?_
  refine hl_v (ov_assign rfl) rfl <| hl_nil <| hx_then_normal <| hc_ret <| ?_
  exact results_1 (.inr rfl) rfl rfl fun w' H' => ⟨rfl, H'.ent (Ent.trans (by first | assumption | exact Ent.refl _ | exact Ent.nil _ | exact Ent.row_any (Ent.refl _) | (repeat (first | exact Ent.refl _ | exact Ent.nil _ | refine Ent.pick ?_))) (dsk_mk (A0 := A0) (c0 := c0) (A1 := A1) (c1 := c1)))⟩
end Go.Proofs.Ytijaldfiaeafgaa
