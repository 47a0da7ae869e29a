import Derived.Test.YtnnhopjnpplfcaaSec6
set_option linter.unusedVariables false
set_option linter.unusedSimpArgs false
namespace Go.Proofs.Ytnnhopjnpplfcaa
open Slk
theorem CellsAre.blkflat {D : Nat → Prop} {w0 : World} {l r : List HProp} {α : Type} {f : α → List Value} {sz b : Nat} {t : TypeId} {xs : List α} [h : PickB l b t (xs.flatMap f) r] (hf : ∀ x, (f x).length = sz) {i : Nat} (hi : i < xs.length) : CellsAre D w0 l b (0 + i * sz) (f xs[i]) :=
  CellsAre.blk fun j v hj => by
    have : j < sz := by
      rcases Nat.lt_or_ge j sz with h | h
      · exact h
      · rw [List.getElem?_eq_none (by rw [hf]; exact h)] at hj; cases hj
    rw [Nat.zero_add, flat_at hf xs i j hi this]; exact hj
theorem zeros_flat (n : Nat) : (List.replicate n zeroSec).flatMap secC = List.replicate (n * 64) (.int .u8 0) := by
  rw [List.flatMap_replicate, secC_zero, List.flatten_replicate_replicate]
theorem SectorFlushes_walk (W : World) (v0 v1 : Value) (l : List Step) (keep : List Bool) (h0 : Old none' W (Rep.rep l [v0])) (h1 : Old none' W (Rep.rep keep [v1])) :
    Calls Try.prog 7 #[v0, v1] W fun e w' => e = .returned (.bool true) ∧ Own none' W w' [] := by
  obtain ⟨A, cap, rfl, hc1, hc2, hel⟩ := h0.openX (by decide)
  obtain ⟨K, capK, hs, rfl, hk1, hk2, HS, hsl, hone, hrep, hek⟩ := h1.openES rfl
  obtain ⟨S6, hS6⟩ : ∃ S : List Sec, S = List.replicate 6 zeroSec := ⟨_, rfl⟩
  have hl6 : S6.length = 6 := by rw [hS6]; rfl
  refine hc_enter (vs := [.slice A l.length cap, .slice K keep.length capK]) Try.func7 rfl _ Try.ntmps7 rfl (Own.start none' W) ?_
  simp only [argSlots, Nat.zero_add]
  refine hc_seq <|
    hc_region <|
    hl_val (ov_assign rfl) rfl rfl rfl <|
    hl_nil <|
    hx_then_normal <|
    hc_seq <| ?_
  refine hc_region <| ?_
  refine hl_call (σ := Nat) Try.call11 rfl rfl (fun w1 H1 => Own.callx0 H1 fun D' hold hin H2 => (New_ok D' w1 6 (by decide) (by decide)).mono fun e w' ⟨g, he, H'⟩ => ⟨g, he, show Own D' w1 w' [dsk g S6 []] by rw [hS6]; exact H'⟩) ?_
  intro g
  try rw [List.nil_append]
  refine hl_val (ov_move rfl) rfl rfl rfl <|
    hl_val (ov_extract rfl rfl) rfl rfl rfl <|
    hl_val (ov_extract rfl rfl) rfl rfl rfl <|
    hl_val (ov_assign rfl) rfl rfl rfl <|
    hl_val (ov_assign rfl) rfl rfl rfl <|
    hl_nil <| ?_
  refine hx_then_normal <|
    hc_seq <|
    hc_seq <|
    hc_region <|
    hl_val (ov_move rfl) rfl rfl rfl <|
    hl_val (ov_neq rfl rfl) rfl rfl rfl <| ?_
  refine hl_val (ov_move rfl) rfl rfl rfl <| ?_
  refine hl_partF (t := 19) rfl (by omega) ?_
  refine hl_on rfl rfl <| hl_val (ov_move rfl) rfl rfl rfl <|
    hl_on rfl rfl <| hl_val (ov_eqlP rfl rfl) rfl rfl rfl <|
    hl_val (ov_pickF rfl rfl) rfl rfl rfl <| ?_
  refine hl_val (ov_move rfl) rfl rfl rfl <|
    hl_on rfl rfl <| hl_val (ov_move rfl) rfl rfl rfl <| ?_
  refine hl_on rfl rfl <| hl_call (σ := { b : Bool // b = true → fairP l }) Try.call12 rfl rfl (fun w1 H1 => Own.callx0 H1 fun D' hold hin H2 => fair_spec D' w1 _ l (hold _ h0)) ?_
  rintro ⟨bv, hbv⟩
  try rw [List.nil_append]
  cases bv
  · skip
    refine hl_on rfl rfl <| hl_val (ov_not rfl) rfl rfl rfl <|
      hl_val (ov_pickF rfl rfl) rfl rfl rfl <| ?_
    refine hl_val (ov_move rfl) rfl rfl rfl <|
      hl_off rfl rfl rfl rfl rfl rfl <|
      hl_off rfl rfl rfl rfl rfl rfl <|
      hl_off rfl rfl rfl rfl rfl rfl <|
      hl_val (ov_pickT rfl rfl) rfl rfl rfl <|
      hl_nil <| ?_
    refine hx_then_normal <|
      hc_cond_true rfl <|
      hc_seq <|
      hc_region <|
      hl_val (ov_move rfl) rfl rfl rfl <|
      hl_val (ov_eql rfl rfl) rfl rfl rfl <| ?_
    refine hl_val (ov_move rfl) rfl rfl rfl <| ?_
    refine hl_partT (t := 35) rfl (rfl) ?_
    refine hl_on rfl rfl <| hl_val (ov_move rfl) rfl rfl rfl <|
      hl_on rfl rfl <| hl_val (ov_neqP rfl rfl) rfl rfl rfl <|
      hl_val (ov_pickT rfl rfl) rfl rfl rfl <| ?_
    refine hl_val (ov_move rfl) rfl rfl rfl <| ?_
    refine hl_on rfl rfl <| hl_c Try.call13 rfl rfl (fun w1 H1 => Own.calln H1 fun D' hold hin H2 => wakes_spec D' w1) ?_
    refine hl_val (ov_pickT rfl rfl) rfl rfl rfl <|
      hl_val (ov_assign rfl) rfl rfl rfl <|
      hl_nil <|
      hx_then_normal <|
      hc_ret <|
      hx_then_ret <| ?_
    exact results_1 (.inr rfl) rfl rfl fun w' H' => ⟨rfl, H'.ent (Ent.nil _)⟩
  · skip
    have hfair := hbv rfl
    have hl200 := hfair.1
    refine hl_on rfl rfl <| hl_val (ov_not rfl) rfl rfl rfl <|
      hl_val (ov_pickF rfl rfl) rfl rfl rfl <| ?_
    refine hl_val (ov_move rfl) rfl rfl rfl <|
      hl_on rfl rfl <| hl_val (ov_move rfl) rfl rfl rfl <|
      hl_on rfl rfl <| hl_val (by first | exact ov_len rfl | exact ov_lenS rfl) rfl rfl rfl <| ?_
    refine hl_on rfl rfl <| hl_val (ov_gtr rfl rfl) rfl rfl rfl <|
      hl_val (ov_pickF rfl rfl) rfl rfl rfl <|
      hl_nil <|
      hx_then_normal <| ?_
    refine hc_cond rfl (fun hk500 => ?_) (fun hk500 => ?_)
    · refine hc_seq <|
        hc_region <|
        hl_val (ov_move rfl) rfl rfl rfl <|
        hl_val (ov_eql rfl rfl) rfl rfl rfl <|
        hl_val (ov_move rfl) rfl rfl rfl <| ?_
      refine hl_partT (t := 35) rfl (rfl) ?_
      refine hl_on rfl rfl <| hl_val (ov_move rfl) rfl rfl rfl <|
        hl_on rfl rfl <| hl_val (ov_neqP rfl rfl) rfl rfl rfl <|
        hl_val (ov_pickT rfl rfl) rfl rfl rfl <| ?_
      refine hl_val (ov_move rfl) rfl rfl rfl <| ?_
      refine hl_on rfl rfl <| hl_c Try.call13 rfl rfl (fun w1 H1 => Own.calln H1 fun D' hold hin H2 => wakes_spec D' w1) ?_
      refine hl_val (ov_pickT rfl rfl) rfl rfl rfl <|
        hl_val (ov_assign rfl) rfl rfl rfl <|
        hl_nil <|
        hx_then_normal <|
        hc_ret <|
        hx_then_ret <| ?_
      exact results_1 (.inr rfl) rfl rfl fun w' H' => ⟨rfl, H'.ent (Ent.nil _)⟩
    · have hk500 : keep.length ≤ 500 := by omega
      obtain ⟨kt, hkt⟩ : ∃ kf : Nat → Bool, kf = fun k => true := ⟨_, rfl⟩
      have hsl6 : ∀ P : PL, (settleL kt 0 S6 P).length = 6 := fun P => by rw [settleL_len]; exact hl6
      refine hc_skip <|
        hx_then_normal <|
        hc_seq <|
        hc_region <|
        hl_new (on_alloc) rfl rfl rfl fun b7 => 
        hl_nil <| ?_
      refine hx_then_normal <|
        hc_seq <|
        hc_seq <|
        hc_region <|
        hl_val (ov_assign rfl) rfl rfl rfl <|
        hl_nil <| ?_
      refine hx_then_normal <|
        hc_block <| ?_
      refine hc_loopK1 (σ := Nat) [0, 1, 5, 7] rfl 8 (fun k => .int .i64 k) (fun k => [blk b7 57 ((settleL kt 0 S6 (PW 6 (l.take k))).flatMap secC), dsk g S6 (PW 6 (l.take k))]) (fun k => k ≤ l.length) (fun k => l.length - k) (0) (Nat.zero_le _) rfl ((show Ent _ [blk b7 57 (S6.flatMap secC), dsk g S6 []] by rw [hS6, zeros_flat]; exact (by first | assumption | exact Ent.refl _ | exact Ent.nil _ | exact Ent.row_any (Ent.refl _) | (repeat (first | exact Ent.refl _ | exact Ent.nil _ | refine Ent.pick ?_))))) ?_
      rintro k hj K1 hK1
      have hpl := PW_len 6 (l.take k)
      rw [List.length_take] at hpl
      refine hc_seq <|
        hc_seq <|
        hc_region <|
        hl_val (ov_move rfl) rfl rfl rfl <|
        hl_val (ov_move rfl) rfl rfl rfl <|
        hl_val (by first | exact ov_len rfl | exact ov_lenS rfl) rfl rfl rfl <| ?_
      refine hl_val (ov_lss rfl rfl) rfl rfl rfl <|
        hl_nil <|
        hx_then_normal <| ?_
      refine hc_cond rfl (fun hlt => ?_) (fun hlt => ?_)
      · have hlt : k < l.length := by omega
        obtain ⟨hA, cs, hx, hcs⟩ := hel k hlt
        obtain ⟨B, capB, rfl, hx1, hx2, hx3, hk⟩ := step_open hx
        rw [show Rep.sz Step = 5 from rfl] at hcs
        have hsn := List.take_succ_eq_append_getElem hlt
        have hcl := hcs 1 _ rfl
        generalize l[k] = x at *
        have hpw : PW 6 (l.take (k + 1)) = PW 6 (l.take k) ++ [(modN x.2.1 6, stepSec x)] := by rw [hsn, PW_snoc]
        have hse : settleL kt 0 S6 (PW 6 (l.take (k + 1))) = (settleL kt 0 S6 (PW 6 (l.take k))).set (modN x.2.1 6) (stepSec x) := by
          rw [hpw, settleL_snoc, if_pos (by rw [hkt])]
        refine hc_skip <|
          hx_then_normal <|
          hc_seq <|
          hc_block <|
          hc_seq <|
          hc_region <| ?_
        refine hl_val (ov_move rfl) rfl rfl rfl <|
          hl_val (ov_move rfl) rfl rfl rfl <|
          hl_val (ov_idxS rfl (by assumption) rfl _ rfl (by omega)) rfl rfl rfl <|
          hl_val (ov_fieldA rfl) rfl rfl rfl <|
          hl_val (by first | exact ov_load rfl (by assumption) | exact ov_load rfl (hcl _) | exact ov_load rfl (hcl2 _) | exact ov_load rfl (hcl3 _) | exact ov_load rfl (CellIs.blk rfl)) rfl rfl rfl <| ?_
        refine hl_c Try.call14 rfl rfl (fun w1 H1 => Own.calln H1 fun D' hold hin H2 => Mod_nat D' w1 x.2.1 6 hx2 (by decide) (by decide)) ?_
        have hm := modN_lt x.2.1 (show 0 < 6 by decide)
        refine hl_val (ov_assign rfl) rfl rfl rfl <|
          hl_nil <|
          hx_then_normal <|
          hc_seq <|
          hc_seq <|
          hc_region <| ?_
        refine hl_val (ov_move rfl) rfl rfl rfl <|
          hl_val (ov_move rfl) rfl rfl rfl <|
          hl_val (ov_move rfl) rfl rfl rfl <|
          hl_val (ov_move rfl) rfl rfl rfl <|
          hl_val (ov_idxS rfl (by assumption) rfl _ rfl (by omega)) rfl rfl rfl <| ?_
        refine hl_val (ov_loadG rfl rfl (step_field hcs _)) rfl rfl rfl ?_
        refine hl_c Try.call16 rfl rfl (fun w1 H1 => Own.calln H1 fun D' hold hin H2 => sector_spec D' w1 x _ rfl hx3) ?_
        refine hl_c Try.call15 rfl rfl (fun w1 H1 => Own.callp (dsk g S6 (PW 6 (l.take k))) H1 fun D' hold hin H2 => Write_ok D' w1 g (modN x.2.1 6) (stepSec x) S6 (PW 6 (l.take k)) (by omega) (by omega) H2) ?_
        refine hl_val (ov_neq rfl rfl) rfl rfl rfl <|
          hl_val (ov_move rfl) rfl rfl rfl <| ?_
        refine hl_partF (t := 63) rfl (by omega) ?_
        refine hl_on rfl rfl <| hl_val (ov_move rfl) rfl rfl rfl <| ?_
        refine hl_on rfl rfl <| hl_c Try.call25 rfl rfl (fun w1 H1 => Own.callp (dsk g S6 (PW 6 (l.take k) ++ [(modN x.2.1 6, stepSec x)])) H1 fun D' hold hin H2 => Pending_spec D' w1 g S6 (PW 6 (l.take k) ++ [(modN x.2.1 6, stepSec x)]) H2) ?_
        refine hl_on rfl rfl <| hl_val (ov_move rfl) rfl rfl rfl <|
          hl_on rfl rfl <| hl_val (ov_add rfl rfl (by first | exact wrap_i64 (by omega) | rfl)) rfl rfl rfl <| ?_
        refine hl_on rfl rfl <| hl_val (ov_neq rfl rfl) rfl rfl rfl <|
          hl_val (ov_pickF rfl rfl) rfl rfl rfl <|
          hl_nil <|
          hx_then_normal <| ?_
        refine hc_cond_F rfl (by simp only [List.length_append, List.length_cons, List.length_nil]; omega) ?_
        refine hc_skip <|
          hx_then_normal <|
          hc_region <|
          hl_val (ov_move rfl) rfl rfl rfl <|
          hl_val (ov_move rfl) rfl rfl rfl <|
          hl_val (ov_move rfl) rfl rfl rfl <| ?_
        refine hl_val (ov_idxS rfl (by assumption) rfl _ rfl (by omega)) rfl rfl rfl <| ?_
        refine hl_val (ov_loadG rfl rfl (step_field hcs _)) rfl rfl rfl ?_
        refine hl_c Try.call16 rfl rfl (fun w1 H1 => Own.calln H1 fun D' hold hin H2 => sector_spec D' w1 x _ rfl hx3) ?_
        have h6 := hsl6 (PW 6 (l.take k))
        refine hl_val (ov_idxP rfl rfl _ rfl (by omega)) rfl rfl rfl <| ?_
        refine hl_u0 (on_storeGE ((settleL kt 0 S6 (PW 6 (l.take (k + 1)))).flatMap secC) rfl rfl (secC_len _) (by rw [flat_len secC_len, secC_len, h6]; omega) (secC_one _) (by rw [hse, Nat.zero_add, flat_set secC_len _ _ _ (by omega)])) rfl rfl ?_
        refine hl_nil <|
          hx_block_normal <|
          hx_then_normal <|
          hc_region <|
          hl_val (ov_move rfl) rfl rfl rfl <|
          hl_val (ov_add rfl rfl (by first | exact wrap_i64 (by omega) | rfl)) rfl rfl rfl <| ?_
        refine hl_val (ov_assign rfl) rfl rfl rfl <|
          hl_nil <| ?_
        exact hx_next hK1 (k + 1) (hlt) (by omega) (by repeat (first | exact Slots.sub_nil _ | refine Slots.sub_cons rfl ?_)) (by rw [hpw]; exact (by first | assumption | exact Ent.refl _ | exact Ent.nil _ | exact Ent.row_any (Ent.refl _) | (repeat (first | exact Ent.refl _ | exact Ent.nil _ | refine Ent.pick ?_))))
      · have : k = l.length := by omega
        subst this
        rw [List.take_length]
        have hok := PW_ok 6 l S6 (by decide) hl6
        have h6 := hsl6 (PW 6 l)
        refine hc_exit <|
          hx_then_exit <|
          hx_then_exit <|
          hx_block_out <|
          hx_then_normal <|
          hc_seq <| ?_
        refine hc_seq <|
          hc_region <|
          hl_val (ov_move rfl) rfl rfl rfl <| ?_
        refine hl_c Try.call22 rfl rfl (fun w1 H1 => Own.callp (dsk g S6 (PW 6 l)) H1 fun D' hold hin H2 => (Flush_spec D' w1 g S6 (PW 6 l) hok H2).mono fun e w' ⟨he, H'⟩ => ⟨he, show Own D' w1 w' [dsk g (settleL kt 0 S6 (PW 6 l)) []] by rw [hkt]; exact H'⟩) ?_
        generalize settleL kt 0 S6 (PW 6 l) = T at *
        refine hl_val (ov_neq rfl rfl) rfl rfl rfl <|
          hl_val (ov_move rfl) rfl rfl rfl <| ?_
        refine hl_partF (t := 80) rfl (by omega) ?_
        refine hl_on rfl rfl <| hl_val (ov_move rfl) rfl rfl rfl <| ?_
        refine hl_on rfl rfl <| hl_c Try.call25 rfl rfl (fun w1 H1 => Own.callp (dsk g T []) H1 fun D' hold hin H2 => Pending_spec D' w1 g T [] H2) ?_
        refine hl_on rfl rfl <| hl_val (ov_neq rfl rfl) rfl rfl rfl <|
          hl_val (ov_pickF rfl rfl) rfl rfl rfl <|
          hl_nil <|
          hx_then_normal <| ?_
        refine hc_cond_F rfl (by simp) ?_
        refine hc_skip <|
          hx_then_normal <|
          hc_seq <|
          hc_region <|
          hl_val (ov_move rfl) rfl rfl rfl <| ?_
        refine hl_new (on_buildSliceN rfl rfl rfl) rfl rfl rfl (fun b86 => ?_)
        refine HL.ent (Ent.blk_row (b := b86) 1 0 rfl (by decide)) ?_
        refine hl_val (ov_move rfl) rfl rfl rfl <| ?_
        refine hl_new (on_appendR (A := some ⟨b86, 0, none⟩) (news := hs) rfl rfl (SrcIs.old HS) (by omega) hone (by decide) (by omega)) rfl rfl rfl ?_
        rintro ⟨C, capC⟩
        dsimp only
        refine hl_c Try.call18 rfl rfl (fun w1 H1 => Own.callp (dsk g T []) H1 fun D' hold hin H2 => (Crash_spec D' w1 g T [] _ keep (fun p hp => by cases hp) (hin _ fun h hs' ho => rep_row (A := C) hs' keep (Nat.zero_add _) (by rw [List.nil_append]; exact repL_of_old ho hrep)) H2).mono fun e w' ⟨he, H'⟩ => ⟨he, (show Own D' w1 w' [dsk g T []] from H')⟩) ?_
        refine hl_nil <|
          hx_then_normal <|
          hc_seq <|
          hc_seq <|
          hc_region <|
          hl_val (ov_assign rfl) rfl rfl rfl <| ?_
        refine hl_nil <|
          hx_then_normal <|
          hc_block <| ?_
        refine hc_loopK1 (σ := Nat) [5, 7] rfl 10 (fun i => .int .i64 i) (fun i => [blk b7 57 (T.flatMap secC), dsk g T []]) (fun i => i ≤ 6) (fun i => 6 - i) (0) (Nat.zero_le _) rfl ((show Ent _ [blk b7 57 (T.flatMap secC), dsk g T []] from (by first | assumption | exact Ent.refl _ | exact Ent.nil _ | exact Ent.row_any (Ent.refl _) | (repeat (first | exact Ent.refl _ | exact Ent.nil _ | refine Ent.pick ?_))))) ?_
        rintro i hj K2 hK2
        refine hc_seq <|
          hc_seq <|
          hc_region <|
          hl_val (ov_move rfl) rfl rfl rfl <|
          hl_val (ov_lss rfl rfl) rfl rfl rfl <|
          hl_nil <| ?_
        refine hx_then_normal <| ?_
        refine hc_cond rfl (fun hi6 => ?_) (fun hi6 => ?_)
        · have hi6 : i < T.length := by omega
          refine hc_skip <|
            hx_then_normal <|
            hc_seq <|
            hc_block <|
            hc_seq <|
            hc_region <| ?_
          refine hl_val (ov_move rfl) rfl rfl rfl <|
            hl_val (ov_move rfl) rfl rfl rfl <| ?_
          refine hl_c Try.call17 rfl rfl (fun w1 H1 => Own.callp (dsk g T []) H1 fun D' hold hin H2 => Read_ok D' w1 g i T [] hi6 H2) ?_
          refine hl_val (ov_move rfl) rfl rfl rfl <|
            hl_val (ov_extract rfl rfl) rfl rfl rfl <|
            hl_val (ov_extract rfl rfl) rfl rfl rfl <|
            hl_new (on_alloc) rfl rfl rfl fun b11 =>  ?_
          refine hl_u0 (on_storeW (vs := secC T[i]) rfl rfl (by simp) (by simp) (secC_one _)) rfl rfl ?_
          refine hl_val (ov_assign rfl) rfl rfl rfl <|
            hl_nil <|
            hx_then_normal <|
            hc_seq <|
            hc_quiet mixed (by kernel_rfl) <|
            hq_val (ov_move rfl) rfl rfl rfl <| ?_
          refine hq_val (ov_neq rfl rfl) rfl rfl rfl <|
            hq_val (ov_move rfl) rfl rfl rfl <| ?_
          refine hq_partF (t := 102) rfl (by omega) ?_
          refine hq_on rfl rfl <| hq_val (by first | exact ov_loadW rfl (by simp; done) | exact ov_loadGB rfl rfl) rfl rfl rfl <| ?_
          refine hq_on rfl rfl <| hq_val (ov_move rfl) rfl rfl rfl <|
            hq_on rfl rfl <| hq_val (ov_idxP rfl rfl _ rfl (by omega)) rfl rfl rfl <| ?_
          refine hq_on rfl rfl <| hq_val (ov_loadG (cs := secC T[i]) rfl (secC_len _) (CellsAre.blkflat secC_len hi6)) rfl rfl rfl ?_
          refine hq_on rfl rfl <| hq_val (ov_neqSec rfl rfl) rfl rfl rfl ?_
          refine hq_val (ov_pickF rfl rfl) rfl rfl rfl <|
            hq_nil <|
            hx_then_normal <| ?_
          refine hc_cond_F rfl (fun h => h rfl) ?_
          refine hc_skip <|
            hx_block_normal <|
            hx_then_normal <|
            hc_region <|
            hl_val (ov_move rfl) rfl rfl rfl <|
            hl_val (ov_add rfl rfl (by first | exact wrap_i64 (by omega) | rfl)) rfl rfl rfl <| ?_
          refine hl_val (ov_assign rfl) rfl rfl rfl <|
            hl_nil <| ?_
          refine hx_next hK2 (i + 1) (by omega) (by omega) (by repeat (first | exact Slots.sub_nil _ | refine Slots.sub_cons rfl ?_)) (by first | assumption | exact Ent.refl _ | exact Ent.nil _ | (repeat (first | exact Ent.refl _ | exact Ent.nil _ | refine Ent.pick ?_)))
        · refine hc_exit <|
            hx_then_exit <|
            hx_then_exit <|
            hx_block_out <|
            hx_then_normal <|
            hc_seq <| ?_
          refine hc_region <| ?_
          refine hl_c Try.call13 rfl rfl (fun w1 H1 => Own.calln H1 fun D' hold hin H2 => wakes_spec D' w1) ?_
          refine hl_val (ov_assign rfl) rfl rfl rfl <|
            hl_nil <|
            hx_then_normal <|
            hc_ret <| ?_
          exact results_1 (.inr rfl) rfl rfl fun w' H' => ⟨rfl, H'.ent (Ent.nil _)⟩
end Go.Proofs.Ytnnhopjnpplfcaa
