import Derived.Test.YtnnhopjnpplfcaaSec7
set_option linter.unusedVariables false
set_option linter.unusedSimpArgs false
namespace Go.Proofs.Ytnnhopjnpplfcaa
open Slk
/-- Behind a crash a sector is as it was, or as one of the writes had it. -/
theorem settle_at (kf : Nat → Bool) (S : List Sec) (i : Nat) (hi : i < S.length) : ∀ (n : Nat) (P : PL), P.length = n → (settleL kf 0 S P)[i]'(by rw [settleL_len]; exact hi) = S[i] ∨ ∃ q, ∃ hq : q < P.length, P[q].1 = i ∧ (settleL kf 0 S P)[i]'(by rw [settleL_len]; exact hi) = P[q].2
  | 0, P, h => by
    obtain rfl := List.eq_nil_of_length_eq_zero h
    left; rfl
  | n + 1, P, h => by
    obtain ⟨Q, p, rfl⟩ : ∃ Q p, P = Q ++ [p] := ⟨P.dropLast, P.getLast (by intro e; rw [e] at h; simp at h), (List.dropLast_concat_getLast _).symm⟩
    have hQ : Q.length = n := by simpa using h
    have e := settleL_snoc kf Q 0 S p
    have IH := settle_at kf S i hi n Q hQ
    have hold : (settleL kf 0 S (Q ++ [p]))[i]'(by rw [settleL_len]; exact hi) = (settleL kf 0 S Q)[i]'(by rw [settleL_len]; exact hi) → ((settleL kf 0 S (Q ++ [p]))[i]'(by rw [settleL_len]; exact hi) = S[i] ∨ ∃ q, ∃ hq : q < (Q ++ [p]).length, (Q ++ [p])[q].1 = i ∧ (settleL kf 0 S (Q ++ [p]))[i]'(by rw [settleL_len]; exact hi) = (Q ++ [p])[q].2) := fun h1 => by
      rw [h1]
      rcases IH with h2 | ⟨q, hq, h2, h3⟩
      · exact .inl h2
      · refine .inr ⟨q, by simp; omega, ?_, ?_⟩
        · rw [List.getElem_append_left hq]; exact h2
        · rw [List.getElem_append_left hq]; exact h3
    by_cases hk : kf (0 + Q.length) = true
    · rw [if_pos hk] at e
      by_cases hp : p.1 = i
      · refine .inr ⟨Q.length, by simp, by simp [hp], ?_⟩
        simp only [e, hp, List.getElem_set_self]
        simp
      · exact hold (by simp only [e]; exact List.getElem_set_ne hp _)
    · rw [if_neg hk] at e
      exact hold (by simp only [e])
def okAt (n i : Nat) (s : Sec) (l : List Step) (k : Nat) : Prop := ∃ q, ∃ hq : q < l.length, q < k ∧ modN l[q].2.1 n = i ∧ s = stepSec l[q]
theorem SectorSafe_walk (W : World) (v0 v1 v2 : Value) (l pend : List Step) (keep : List Bool) (h0 : Old none' W (Rep.rep l [v0])) (h1 : Old none' W (Rep.rep pend [v1])) (h2 : Old none' W (Rep.rep keep [v2])) :
    Calls Try.prog 5 #[v0, v1, v2] W fun e w' => e = .returned (.bool true) ∧ Own none' W w' [] := by
  obtain ⟨A, cap, rfl, hc1, hc2, hel⟩ := h0.openX (by decide)
  obtain ⟨B, capB, rfl, hd1, hd2, helB⟩ := h1.openX (by decide)
  obtain ⟨K, capK, hs, rfl, hk1, hk2, HS, hsl, hone, hrep, hek⟩ := h2.openES rfl
  obtain ⟨S8, hS8⟩ : ∃ S : List Sec, S = List.replicate 8 zeroSec := ⟨_, rfl⟩
  have hl8 : S8.length = 8 := by rw [hS8]; rfl
  refine hc_enter (vs := [.slice A l.length cap, .slice B pend.length capB, .slice K keep.length capK]) Try.func5 rfl _ Try.ntmps5 rfl (Own.start none' W) ?_
  simp only [argSlots, Nat.zero_add]
  refine hc_seq <|
    hc_region <|
    hl_val (ov_assign rfl) rfl rfl rfl <|
    hl_nil <|
    hx_then_normal <|
    hc_seq <| ?_
  refine hc_region <| ?_
  refine hl_call (σ := Nat) Try.call11 rfl rfl (fun w1 H1 => Own.callx0 H1 fun D' hold hin H2 => (New_ok D' w1 8 (by decide) (by decide)).mono fun e w' ⟨g, he, H'⟩ => ⟨g, he, show Own D' w1 w' [dsk g S8 []] by rw [hS8]; exact H'⟩) ?_
  intro g
  try rw [List.nil_append]
  refine hl_val (ov_move rfl) rfl rfl rfl <|
    hl_val (ov_extract rfl rfl) rfl rfl rfl <|
    hl_val (ov_extract rfl rfl) rfl rfl rfl <|
    hl_val (ov_assign rfl) rfl rfl rfl <|
    hl_val (ov_assign rfl) rfl rfl rfl <|
    hl_nil <| ?_
  refine hx_then_normal <|
    hc_seq <|
    hc_seq <|
    hc_region <|
    hl_val (ov_move rfl) rfl rfl rfl <|
    hl_val (ov_neq rfl rfl) rfl rfl rfl <| ?_
  refine hl_val (ov_move rfl) rfl rfl rfl <| ?_
  refine hl_partF (t := 24) rfl (by omega) ?_
  refine hl_on rfl rfl <| hl_val (ov_move rfl) rfl rfl rfl <|
    hl_on rfl rfl <| hl_val (ov_eqlP rfl rfl) rfl rfl rfl <|
    hl_val (ov_pickF rfl rfl) rfl rfl rfl <| ?_
  refine hl_val (ov_move rfl) rfl rfl rfl <|
    hl_on rfl rfl <| hl_val (ov_move rfl) rfl rfl rfl <| ?_
  refine hl_on rfl rfl <| hl_call (σ := { b : Bool // b = true → fairP l }) Try.call12 rfl rfl (fun w1 H1 => Own.callx0 H1 fun D' hold hin H2 => fair_spec D' w1 _ l (hold _ h0)) ?_
  rintro ⟨bv, hbv⟩
  try rw [List.nil_append]
  cases bv
  · skip
    refine hl_on rfl rfl <| hl_val (ov_not rfl) rfl rfl rfl <|
      hl_val (ov_pickF rfl rfl) rfl rfl rfl <| ?_
    refine hl_val (ov_move rfl) rfl rfl rfl <|
      hl_off rfl rfl rfl rfl rfl rfl <|
      hl_off rfl rfl rfl rfl rfl rfl <|
      hl_off rfl rfl rfl rfl rfl rfl <|
      hl_val (ov_pickT rfl rfl) rfl rfl rfl <|
      hl_val (ov_move rfl) rfl rfl rfl <| ?_
    refine hl_off rfl rfl rfl rfl rfl rfl <|
      hl_off rfl rfl rfl rfl rfl rfl <|
      hl_off rfl rfl rfl rfl rfl rfl <|
      hl_val (ov_pickT rfl rfl) rfl rfl rfl <|
      hl_nil <|
      hx_then_normal <| ?_
    refine hc_cond_true rfl <|
      hc_seq <|
      hc_region <|
      hl_val (ov_move rfl) rfl rfl rfl <|
      hl_val (ov_eql rfl rfl) rfl rfl rfl <|
      hl_val (ov_move rfl) rfl rfl rfl <| ?_
    refine hl_partT (t := 45) rfl (rfl) ?_
    refine hl_on rfl rfl <| hl_val (ov_move rfl) rfl rfl rfl <|
      hl_on rfl rfl <| hl_val (ov_neqP rfl rfl) rfl rfl rfl <|
      hl_val (ov_pickT rfl rfl) rfl rfl rfl <| ?_
    refine hl_val (ov_move rfl) rfl rfl rfl <| ?_
    refine hl_on rfl rfl <| hl_c Try.call13 rfl rfl (fun w1 H1 => Own.calln H1 fun D' hold hin H2 => wakes_spec D' w1) ?_
    refine hl_val (ov_pickT rfl rfl) rfl rfl rfl <|
      hl_val (ov_assign rfl) rfl rfl rfl <|
      hl_nil <|
      hx_then_normal <|
      hc_ret <|
      hx_then_ret <| ?_
    exact results_1 (.inr rfl) rfl rfl fun w' H' => ⟨rfl, H'.ent (Ent.nil _)⟩
  · skip
    have hfair := hbv rfl
    have hl200 := hfair.1
    refine hl_on rfl rfl <| hl_val (ov_not rfl) rfl rfl rfl <|
      hl_val (ov_pickF rfl rfl) rfl rfl rfl <| ?_
    refine hl_val (ov_move rfl) rfl rfl rfl <|
      hl_on rfl rfl <| hl_val (ov_move rfl) rfl rfl rfl <| ?_
    refine hl_on rfl rfl <| hl_call (σ := { b : Bool // b = true → fairP pend }) Try.call12 rfl rfl (fun w1 H1 => Own.callx0 H1 fun D' hold hin H2 => fair_spec D' w1 _ pend (hold _ h1)) ?_
    rintro ⟨bv2, hbv2⟩
    try rw [List.nil_append]
    cases bv2
    · skip
      refine hl_on rfl rfl <| hl_val (ov_not rfl) rfl rfl rfl <|
        hl_val (ov_pickF rfl rfl) rfl rfl rfl <| ?_
      refine hl_val (ov_move rfl) rfl rfl rfl <|
        hl_off rfl rfl rfl rfl rfl rfl <|
        hl_off rfl rfl rfl rfl rfl rfl <|
        hl_off rfl rfl rfl rfl rfl rfl <|
        hl_val (ov_pickT rfl rfl) rfl rfl rfl <|
        hl_nil <| ?_
      refine hx_then_normal <|
        hc_cond_true rfl <|
        hc_seq <|
        hc_region <|
        hl_val (ov_move rfl) rfl rfl rfl <|
        hl_val (ov_eql rfl rfl) rfl rfl rfl <| ?_
      refine hl_val (ov_move rfl) rfl rfl rfl <| ?_
      refine hl_partT (t := 45) rfl (rfl) ?_
      refine hl_on rfl rfl <| hl_val (ov_move rfl) rfl rfl rfl <|
        hl_on rfl rfl <| hl_val (ov_neqP rfl rfl) rfl rfl rfl <|
        hl_val (ov_pickT rfl rfl) rfl rfl rfl <| ?_
      refine hl_val (ov_move rfl) rfl rfl rfl <| ?_
      refine hl_on rfl rfl <| hl_c Try.call13 rfl rfl (fun w1 H1 => Own.calln H1 fun D' hold hin H2 => wakes_spec D' w1) ?_
      refine hl_val (ov_pickT rfl rfl) rfl rfl rfl <|
        hl_val (ov_assign rfl) rfl rfl rfl <|
        hl_nil <|
        hx_then_normal <|
        hc_ret <|
        hx_then_ret <| ?_
      exact results_1 (.inr rfl) rfl rfl fun w' H' => ⟨rfl, H'.ent (Ent.nil _)⟩
    · skip
      have hfair2 := hbv2 rfl
      have hp200 := hfair2.1
      refine hl_on rfl rfl <| hl_val (ov_not rfl) rfl rfl rfl <|
        hl_val (ov_pickF rfl rfl) rfl rfl rfl <| ?_
      refine hl_val (ov_move rfl) rfl rfl rfl <|
        hl_on rfl rfl <| hl_val (ov_move rfl) rfl rfl rfl <|
        hl_on rfl rfl <| hl_val (by first | exact ov_len rfl | exact ov_lenS rfl) rfl rfl rfl <| ?_
      refine hl_on rfl rfl <| hl_val (ov_gtr rfl rfl) rfl rfl rfl <|
        hl_val (ov_pickF rfl rfl) rfl rfl rfl <|
        hl_nil <|
        hx_then_normal <| ?_
      refine hc_cond rfl (fun hk500 => ?_) (fun hk500 => ?_)
      · refine hc_seq <|
          hc_region <|
          hl_val (ov_move rfl) rfl rfl rfl <|
          hl_val (ov_eql rfl rfl) rfl rfl rfl <|
          hl_val (ov_move rfl) rfl rfl rfl <| ?_
        refine hl_partT (t := 45) rfl (rfl) ?_
        refine hl_on rfl rfl <| hl_val (ov_move rfl) rfl rfl rfl <|
          hl_on rfl rfl <| hl_val (ov_neqP rfl rfl) rfl rfl rfl <|
          hl_val (ov_pickT rfl rfl) rfl rfl rfl <| ?_
        refine hl_val (ov_move rfl) rfl rfl rfl <| ?_
        refine hl_on rfl rfl <| hl_c Try.call13 rfl rfl (fun w1 H1 => Own.calln H1 fun D' hold hin H2 => wakes_spec D' w1) ?_
        refine hl_val (ov_pickT rfl rfl) rfl rfl rfl <|
          hl_val (ov_assign rfl) rfl rfl rfl <|
          hl_nil <|
          hx_then_normal <|
          hc_ret <|
          hx_then_ret <| ?_
        exact results_1 (.inr rfl) rfl rfl fun w' H' => ⟨rfl, H'.ent (Ent.nil _)⟩
      · have hk500 : keep.length ≤ 500 := by omega
        obtain ⟨kt, hkt⟩ : ∃ kf : Nat → Bool, kf = fun k => true := ⟨_, rfl⟩
        obtain ⟨kf, hkf⟩ : ∃ kf : Nat → Bool, kf = fun k => keep.getD k false := ⟨_, rfl⟩
        refine hc_skip <|
          hx_then_normal <|
          hc_seq <|
          hc_seq <|
          hc_region <|
          hl_val (ov_assign rfl) rfl rfl rfl <| ?_
        refine hl_nil <|
          hx_then_normal <|
          hc_block <| ?_
        refine hc_loopK1 (σ := Nat) [0, 1, 2, 7] rfl 9 (fun k => .int .i64 k) (fun k => [dsk g S8 (PW 8 (l.take k))]) (fun k => k ≤ l.length) (fun k => l.length - k) (0) (Nat.zero_le _) rfl ((show Ent _ [dsk g S8 []] from (by first | assumption | exact Ent.refl _ | exact Ent.nil _ | exact Ent.row_any (Ent.refl _) | (repeat (first | exact Ent.refl _ | exact Ent.nil _ | refine Ent.pick ?_))))) ?_
        rintro k hj K1 hK1
        have hpl := PW_len 8 (l.take k)
        rw [List.length_take] at hpl
        refine hc_seq <|
          hc_seq <|
          hc_region <|
          hl_val (ov_move rfl) rfl rfl rfl <|
          hl_val (ov_move rfl) rfl rfl rfl <|
          hl_val (by first | exact ov_len rfl | exact ov_lenS rfl) rfl rfl rfl <| ?_
        refine hl_val (ov_lss rfl rfl) rfl rfl rfl <|
          hl_nil <|
          hx_then_normal <| ?_
        refine hc_cond rfl (fun hlt => ?_) (fun hlt => ?_)
        · have hlt : k < l.length := by omega
          obtain ⟨hA, cs, hx, hcs⟩ := hel k hlt
          obtain ⟨X, capX, rfl, hx1, hx2, hx3, hk⟩ := step_open hx
          rw [show Rep.sz Step = 5 from rfl] at hcs
          have hsn := List.take_succ_eq_append_getElem hlt
          have hcl := hcs 1 _ rfl
          generalize l[k] = x at *
          have hpw : PW 8 (l.take (k + 1)) = PW 8 (l.take k) ++ [(modN x.2.1 8, stepSec x)] := by rw [hsn, PW_snoc]
          refine hc_skip <|
            hx_then_normal <|
            hc_seq <|
            hc_block <| ?_
          refine hc_any [] mixed 13 rfl ?_
          refine ha_take 0 rfl (ov_move rfl) rfl rfl rfl (by kernel_rfl) (by kernel_rfl) (by kernel_rfl) (by first | assumption | exact Ent.refl _ | exact Ent.nil _ | (repeat (first | exact Ent.refl _ | exact Ent.nil _ | refine Ent.pick ?_))) <| ?_
          refine ha_take 1 rfl (ov_move rfl) rfl rfl rfl (by kernel_rfl) (by kernel_rfl) (by kernel_rfl) (by first | assumption | exact Ent.refl _ | exact Ent.nil _ | (repeat (first | exact Ent.refl _ | exact Ent.nil _ | refine Ent.pick ?_))) <| ?_
          refine ha_take 2 rfl (ov_move rfl) rfl rfl rfl (by kernel_rfl) (by kernel_rfl) (by kernel_rfl) (by first | assumption | exact Ent.refl _ | exact Ent.nil _ | (repeat (first | exact Ent.refl _ | exact Ent.nil _ | refine Ent.pick ?_))) <| ?_
          refine ha_take 3 rfl (ov_idxS rfl (by assumption) rfl _ rfl (by omega)) rfl rfl rfl (by kernel_rfl) (by kernel_rfl) (by kernel_rfl) (by first | assumption | exact Ent.refl _ | exact Ent.nil _ | (repeat (first | exact Ent.refl _ | exact Ent.nil _ | refine Ent.pick ?_))) <| ?_
          refine ha_take 4 rfl (ov_fieldA rfl) rfl rfl rfl (by kernel_rfl) (by kernel_rfl) (by kernel_rfl) (by first | assumption | exact Ent.refl _ | exact Ent.nil _ | (repeat (first | exact Ent.refl _ | exact Ent.nil _ | refine Ent.pick ?_))) <| ?_
          refine ha_take 5 rfl (by first | exact ov_load rfl (by assumption) | exact ov_load rfl (hcl _) | exact ov_load rfl (hcl2 _) | exact ov_load rfl (hcl3 _) | exact ov_load rfl (CellIs.blk rfl)) rfl rfl rfl (by kernel_rfl) (by kernel_rfl) (by kernel_rfl) (by first | assumption | exact Ent.refl _ | exact Ent.nil _ | (repeat (first | exact Ent.refl _ | exact Ent.nil _ | refine Ent.pick ?_))) <| ?_
          refine ha_take 7 rfl (ov_move rfl) rfl rfl rfl (by kernel_rfl) (by kernel_rfl) (by kernel_rfl) (by first | assumption | exact Ent.refl _ | exact Ent.nil _ | (repeat (first | exact Ent.refl _ | exact Ent.nil _ | refine Ent.pick ?_))) <| ?_
          refine ha_take 8 rfl (ov_move rfl) rfl rfl rfl (by kernel_rfl) (by kernel_rfl) (by kernel_rfl) (by first | assumption | exact Ent.refl _ | exact Ent.nil _ | (repeat (first | exact Ent.refl _ | exact Ent.nil _ | refine Ent.pick ?_))) <| ?_
          refine ha_take 9 rfl (ov_idxS rfl (by assumption) rfl _ rfl (by omega)) rfl rfl rfl (by kernel_rfl) (by kernel_rfl) (by kernel_rfl) (by first | assumption | exact Ent.refl _ | exact Ent.nil _ | (repeat (first | exact Ent.refl _ | exact Ent.nil _ | refine Ent.pick ?_))) <| ?_
          refine ha_take 10 rfl (ov_loadG rfl rfl (step_field hcs _)) rfl rfl rfl (by kernel_rfl) (by kernel_rfl) (by kernel_rfl) (by first | assumption | exact Ent.refl _ | exact Ent.nil _ | (repeat (first | exact Ent.refl _ | exact Ent.nil _ | refine Ent.pick ?_))) ?_
          refine ha_one 6 (by kernel_rfl) <| ?_
          refine ho_c rfl Try.call14 rfl rfl rfl (fun w1 H1 => Own.calln H1 fun D' hold hin H2 => Mod_nat D' w1 x.2.1 8 hx2 (by decide) (by decide)) (by first | assumption | exact Ent.refl _ | exact Ent.nil _ | (repeat (first | exact Ent.refl _ | exact Ent.nil _ | refine Ent.pick ?_))) ?_
          have hm := modN_lt x.2.1 (show 0 < 8 by decide)
          refine ha_one 11 (by kernel_rfl) <| ?_
          refine ho_c rfl Try.call16 rfl rfl rfl (fun w1 H1 => Own.calln H1 fun D' hold hin H2 => sector_spec D' w1 x _ rfl hx3) (by first | assumption | exact Ent.refl _ | exact Ent.nil _ | (repeat (first | exact Ent.refl _ | exact Ent.nil _ | refine Ent.pick ?_))) ?_
          refine ha_one 12 (by kernel_rfl) <| ?_
          refine ho_c rfl Try.call15 rfl rfl rfl (fun w1 H1 => Own.callp (dsk g S8 (PW 8 (l.take k))) H1 fun D' hold hin H2 => Write_ok D' w1 g (modN x.2.1 8) (stepSec x) S8 (PW 8 (l.take k)) (by omega) (by omega) H2) (by first | assumption | exact Ent.refl _ | exact Ent.nil _ | (repeat (first | exact Ent.refl _ | exact Ent.nil _ | refine Ent.pick ?_))) ?_
          refine ha_done (by kernel_rfl) <|
            hx_block_normal <|
            hx_then_normal <|
            hc_region <|
            hl_val (ov_move rfl) rfl rfl rfl <|
            hl_val (ov_add rfl rfl (by first | exact wrap_i64 (by omega) | rfl)) rfl rfl rfl <| ?_
          refine hl_val (ov_assign rfl) rfl rfl rfl <|
            hl_nil <| ?_
          exact hx_next hK1 (k + 1) (hlt) (by omega) (by repeat (first | exact Slots.sub_nil _ | refine Slots.sub_cons rfl ?_)) (by rw [hpw]; exact (by first | assumption | exact Ent.refl _ | exact Ent.nil _ | exact Ent.row_any (Ent.refl _) | (repeat (first | exact Ent.refl _ | exact Ent.nil _ | refine Ent.pick ?_))))
        · have : k = l.length := by omega
          subst this
          rw [List.take_length]
          have hok := PW_ok 8 l S8 (by decide) hl8
          refine hc_exit <|
            hx_then_exit <|
            hx_then_exit <|
            hx_block_out <|
            hx_then_normal <|
            hc_seq <| ?_
          refine hc_seq <|
            hc_region <|
            hl_val (ov_move rfl) rfl rfl rfl <| ?_
          refine hl_c Try.call22 rfl rfl (fun w1 H1 => Own.callp (dsk g S8 (PW 8 l)) H1 fun D' hold hin H2 => (Flush_spec D' w1 g S8 (PW 8 l) hok H2).mono fun e w' ⟨he, H'⟩ => ⟨he, show Own D' w1 w' [dsk g (settleL kt 0 S8 (PW 8 l)) []] by rw [hkt]; exact H'⟩) ?_
          have hT8 : (settleL kt 0 S8 (PW 8 l)).length = 8 := by rw [settleL_len]; exact hl8
          generalize settleL kt 0 S8 (PW 8 l) = T at *
          refine hl_val (ov_neq rfl rfl) rfl rfl rfl <|
            hl_nil <|
            hx_then_normal <| ?_
          refine hc_cond_F rfl (by omega) ?_
          refine hc_skip <|
            hx_then_normal <|
            hc_seq <|
            hc_region <|
            hl_new (on_alloc) rfl rfl rfl fun b10 => 
            hl_nil <| ?_
          refine hx_then_normal <|
            hc_seq <|
            hc_seq <|
            hc_region <|
            hl_val (ov_assign rfl) rfl rfl rfl <|
            hl_nil <| ?_
          refine hx_then_normal <|
            hc_block <| ?_
          refine hc_loopK1 (σ := Nat) [1, 2, 7, 10] rfl 11 (fun i => .int .i64 i) (fun i => [blk b10 54 ((T.take i ++ List.replicate (8 - i) zeroSec).flatMap secC), dsk g T []]) (fun i => i ≤ 8) (fun i => 8 - i) (0) (Nat.zero_le _) rfl ((show Ent _ [blk b10 54 ((List.replicate 8 zeroSec).flatMap secC), dsk g T []] by rw [zeros_flat]; exact (by first | assumption | exact Ent.refl _ | exact Ent.nil _ | exact Ent.row_any (Ent.refl _) | (repeat (first | exact Ent.refl _ | exact Ent.nil _ | refine Ent.pick ?_))))) ?_
          rintro i hj K2 hK2
          refine hc_seq <|
            hc_seq <|
            hc_region <|
            hl_val (ov_move rfl) rfl rfl rfl <|
            hl_val (ov_lss rfl rfl) rfl rfl rfl <|
            hl_nil <| ?_
          refine hx_then_normal <| ?_
          refine hc_cond rfl (fun hi8 => ?_) (fun hi8 => ?_)
          · have hi8 : i < T.length := by omega
            have hst : (T.take i ++ List.replicate (8 - i) zeroSec).set i T[i] = T.take (i + 1) ++ List.replicate (8 - (i + 1)) zeroSec := by
              rw [List.set_append_right _ _ (by simp; omega), show 8 - i = (8 - (i + 1)) + 1 by omega, List.replicate_succ, List.length_take, Nat.min_eq_left (by omega), Nat.sub_self, List.set_cons_zero, List.take_succ_eq_append_getElem hi8, List.append_assoc]; rfl
            refine hc_skip <|
              hx_then_normal <|
              hc_seq <|
              hc_block <|
              hc_region <|
              hl_val (ov_move rfl) rfl rfl rfl <| ?_
            refine hl_val (ov_move rfl) rfl rfl rfl <|
              hl_val (ov_move rfl) rfl rfl rfl <| ?_
            refine hl_c Try.call17 rfl rfl (fun w1 H1 => Own.callp (dsk g T []) H1 fun D' hold hin H2 => Read_ok D' w1 g i T [] hi8 H2) ?_
            refine hl_val (ov_move rfl) rfl rfl rfl <|
              hl_val (ov_extract rfl rfl) rfl rfl rfl <|
              hl_val (ov_extract rfl rfl) rfl rfl rfl <|
              hl_val (ov_idxP rfl rfl _ rfl (by omega)) rfl rfl rfl <| ?_
            refine hl_u0 (on_storeGE ((T.take (i + 1) ++ List.replicate (8 - (i + 1)) zeroSec).flatMap secC) (vs := secC T[i]) rfl rfl (secC_len _) (by rw [flat_len secC_len, secC_len, List.length_append, List.length_take, List.length_replicate]; omega) (secC_one _) (by rw [← hst, Nat.zero_add, flat_set secC_len _ _ _ (by rw [List.length_append, List.length_take, List.length_replicate]; omega)])) rfl rfl ?_
            refine hl_nil <|
              hx_block_normal <|
              hx_then_normal <|
              hc_region <|
              hl_val (ov_move rfl) rfl rfl rfl <|
              hl_val (ov_add rfl rfl (by first | exact wrap_i64 (by omega) | rfl)) rfl rfl rfl <| ?_
            refine hl_val (ov_assign rfl) rfl rfl rfl <|
              hl_nil <| ?_
            refine hx_next hK2 (i + 1) (by omega) (by omega) (by repeat (first | exact Slots.sub_nil _ | refine Slots.sub_cons rfl ?_)) (by first | assumption | exact Ent.refl _ | exact Ent.nil _ | (repeat (first | exact Ent.refl _ | exact Ent.nil _ | refine Ent.pick ?_)))
          · have : i = 8 := by omega
            subst this
            refine HC.ent (l' := [blk b10 54 (T.flatMap secC), dsk g T []]) (by rw [List.take_of_length_le (by omega)]; simp only [Nat.sub_self, List.replicate_zero, List.append_nil]; exact Ent.refl _) ?_
            refine hc_exit <|
              hx_then_exit <|
              hx_then_exit <|
              hx_block_out <|
              hx_then_normal <|
              hc_seq <| ?_
            refine hc_seq <|
              hc_region <|
              hl_val (ov_assign rfl) rfl rfl rfl <|
              hl_nil <|
              hx_then_normal <|
              hc_block <| ?_
            refine hc_loopK1 (σ := Nat) [1, 2, 7, 10] rfl 12 (fun k => .int .i64 k) (fun k => [blk b10 54 (T.flatMap secC), dsk g T (PW 8 (pend.take k))]) (fun k => k ≤ pend.length) (fun k => pend.length - k) (0) (Nat.zero_le _) rfl ((show Ent _ [blk b10 54 (T.flatMap secC), dsk g T []] from (by first | assumption | exact Ent.refl _ | exact Ent.nil _ | exact Ent.row_any (Ent.refl _) | (repeat (first | exact Ent.refl _ | exact Ent.nil _ | refine Ent.pick ?_))))) ?_
            rintro k hj K3 hK3
            have hpl := PW_len 8 (pend.take k)
            rw [List.length_take] at hpl
            refine hc_seq <|
              hc_seq <|
              hc_region <|
              hl_val (ov_move rfl) rfl rfl rfl <|
              hl_val (ov_move rfl) rfl rfl rfl <|
              hl_val (by first | exact ov_len rfl | exact ov_lenS rfl) rfl rfl rfl <| ?_
            refine hl_val (ov_lss rfl rfl) rfl rfl rfl <|
              hl_nil <|
              hx_then_normal <| ?_
            refine hc_cond rfl (fun hlt2 => ?_) (fun hlt2 => ?_)
            · have hlt2 : k < pend.length := by omega
              obtain ⟨hA, cs, hx, hcs⟩ := helB k hlt2
              obtain ⟨X, capX, rfl, hx1, hx2, hx3, hk⟩ := step_open hx
              rw [show Rep.sz Step = 5 from rfl] at hcs
              have hsn := List.take_succ_eq_append_getElem hlt2
              have hcl := hcs 1 _ rfl
              generalize pend[k] = x at *
              have hpw : PW 8 (pend.take (k + 1)) = PW 8 (pend.take k) ++ [(modN x.2.1 8, stepSec x)] := by rw [hsn, PW_snoc]
              refine hc_skip <|
                hx_then_normal <|
                hc_seq <|
                hc_block <| ?_
              refine hc_any [blk b10 54 (T.flatMap secC)] mixed 13 rfl ?_
              refine ha_take 0 rfl (ov_move rfl) rfl rfl rfl (by kernel_rfl) (by kernel_rfl) (by kernel_rfl) (by first | assumption | exact Ent.refl _ | exact Ent.nil _ | (repeat (first | exact Ent.refl _ | exact Ent.nil _ | refine Ent.pick ?_))) <| ?_
              refine ha_take 1 rfl (ov_move rfl) rfl rfl rfl (by kernel_rfl) (by kernel_rfl) (by kernel_rfl) (by first | assumption | exact Ent.refl _ | exact Ent.nil _ | (repeat (first | exact Ent.refl _ | exact Ent.nil _ | refine Ent.pick ?_))) <| ?_
              refine ha_take 2 rfl (ov_move rfl) rfl rfl rfl (by kernel_rfl) (by kernel_rfl) (by kernel_rfl) (by first | assumption | exact Ent.refl _ | exact Ent.nil _ | (repeat (first | exact Ent.refl _ | exact Ent.nil _ | refine Ent.pick ?_))) <| ?_
              refine ha_take 3 rfl (ov_idxS rfl (by assumption) rfl _ rfl (by omega)) rfl rfl rfl (by kernel_rfl) (by kernel_rfl) (by kernel_rfl) (by first | assumption | exact Ent.refl _ | exact Ent.nil _ | (repeat (first | exact Ent.refl _ | exact Ent.nil _ | refine Ent.pick ?_))) <| ?_
              refine ha_take 4 rfl (ov_fieldA rfl) rfl rfl rfl (by kernel_rfl) (by kernel_rfl) (by kernel_rfl) (by first | assumption | exact Ent.refl _ | exact Ent.nil _ | (repeat (first | exact Ent.refl _ | exact Ent.nil _ | refine Ent.pick ?_))) <| ?_
              refine ha_take 5 rfl (by first | exact ov_load rfl (by assumption) | exact ov_load rfl (hcl _) | exact ov_load rfl (hcl2 _) | exact ov_load rfl (hcl3 _) | exact ov_load rfl (CellIs.blk rfl)) rfl rfl rfl (by kernel_rfl) (by kernel_rfl) (by kernel_rfl) (by first | assumption | exact Ent.refl _ | exact Ent.nil _ | (repeat (first | exact Ent.refl _ | exact Ent.nil _ | refine Ent.pick ?_))) <| ?_
              refine ha_take 7 rfl (ov_move rfl) rfl rfl rfl (by kernel_rfl) (by kernel_rfl) (by kernel_rfl) (by first | assumption | exact Ent.refl _ | exact Ent.nil _ | (repeat (first | exact Ent.refl _ | exact Ent.nil _ | refine Ent.pick ?_))) <| ?_
              refine ha_take 8 rfl (ov_move rfl) rfl rfl rfl (by kernel_rfl) (by kernel_rfl) (by kernel_rfl) (by first | assumption | exact Ent.refl _ | exact Ent.nil _ | (repeat (first | exact Ent.refl _ | exact Ent.nil _ | refine Ent.pick ?_))) <| ?_
              refine ha_take 9 rfl (ov_idxS rfl (by assumption) rfl _ rfl (by omega)) rfl rfl rfl (by kernel_rfl) (by kernel_rfl) (by kernel_rfl) (by first | assumption | exact Ent.refl _ | exact Ent.nil _ | (repeat (first | exact Ent.refl _ | exact Ent.nil _ | refine Ent.pick ?_))) <| ?_
              refine ha_take 10 rfl (ov_loadG rfl rfl (step_field hcs _)) rfl rfl rfl (by kernel_rfl) (by kernel_rfl) (by kernel_rfl) (by first | assumption | exact Ent.refl _ | exact Ent.nil _ | (repeat (first | exact Ent.refl _ | exact Ent.nil _ | refine Ent.pick ?_))) ?_
              refine ha_one 6 (by kernel_rfl) <| ?_
              refine ho_c rfl Try.call14 rfl rfl rfl (fun w1 H1 => Own.calln H1 fun D' hold hin H2 => Mod_nat D' w1 x.2.1 8 hx2 (by decide) (by decide)) (by first | assumption | exact Ent.refl _ | exact Ent.nil _ | (repeat (first | exact Ent.refl _ | exact Ent.nil _ | refine Ent.pick ?_))) ?_
              have hm := modN_lt x.2.1 (show 0 < 8 by decide)
              refine ha_one 11 (by kernel_rfl) <| ?_
              refine ho_c rfl Try.call16 rfl rfl rfl (fun w1 H1 => Own.calln H1 fun D' hold hin H2 => sector_spec D' w1 x _ rfl hx3) (by first | assumption | exact Ent.refl _ | exact Ent.nil _ | (repeat (first | exact Ent.refl _ | exact Ent.nil _ | refine Ent.pick ?_))) ?_
              refine ha_one 12 (by kernel_rfl) <| ?_
              refine ho_c rfl Try.call15 rfl rfl rfl (fun w1 H1 => Own.callp (dsk g T (PW 8 (pend.take k))) H1 fun D' hold hin H2 => Write_ok D' w1 g (modN x.2.1 8) (stepSec x) T (PW 8 (pend.take k)) (by omega) (by omega) H2) (by first | assumption | exact Ent.refl _ | exact Ent.nil _ | (repeat (first | exact Ent.refl _ | exact Ent.nil _ | refine Ent.pick ?_))) ?_
              refine ha_done (by kernel_rfl) <|
                hx_block_normal <|
                hx_then_normal <|
                hc_region <|
                hl_val (ov_move rfl) rfl rfl rfl <|
                hl_val (ov_add rfl rfl (by first | exact wrap_i64 (by omega) | rfl)) rfl rfl rfl <| ?_
              refine hl_val (ov_assign rfl) rfl rfl rfl <|
                hl_nil <| ?_
              exact hx_next hK3 (k + 1) (hlt2) (by omega) (by repeat (first | exact Slots.sub_nil _ | refine Slots.sub_cons rfl ?_)) (by rw [hpw]; exact (by first | assumption | exact Ent.refl _ | exact Ent.nil _ | exact Ent.row_any (Ent.refl _) | (repeat (first | exact Ent.refl _ | exact Ent.nil _ | refine Ent.pick ?_))))
            · have : k = pend.length := by omega
              subst this
              rw [List.take_length]
              have hok2 := PW_ok 8 pend T (by decide) hT8
              obtain ⟨U, hU⟩ : ∃ U, U = settleL kf 0 T (PW 8 pend) := ⟨_, rfl⟩
              have hU8 : U.length = 8 := by rw [hU, settleL_len]; exact hT8
              have hat : ∀ i (hi : i < 8), U[i] = T[i] ∨ okAt 8 i U[i] pend pend.length := fun i hi => by
                subst hU
                rcases settle_at kf T i (by omega) _ (PW 8 pend) rfl with h | ⟨q, hq, h1, h2⟩
                · exact .inl h
                · rw [PW_len] at hq
                  refine .inr ⟨q, hq, hq, ?_, ?_⟩
                  · simpa [PW] using h1
                  · simpa [PW] using h2
              refine hc_exit <|
                hx_then_exit <|
                hx_then_exit <|
                hx_block_out <|
                hx_then_normal <|
                hc_seq <| ?_
              refine hc_region <|
                hl_val (ov_move rfl) rfl rfl rfl <| ?_
              refine hl_new (on_buildSliceN rfl rfl rfl) rfl rfl rfl (fun b106 => ?_)
              refine HL.ent (Ent.blk_row (b := b106) 1 0 rfl (by decide)) ?_
              refine hl_val (ov_move rfl) rfl rfl rfl <| ?_
              refine hl_new (on_appendR (A := some ⟨b106, 0, none⟩) (news := hs) rfl rfl (SrcIs.old HS) (by omega) hone (by decide) (by omega)) rfl rfl rfl ?_
              rintro ⟨C, capC⟩
              dsimp only
              refine hl_c Try.call18 rfl rfl (fun w1 H1 => Own.callp (dsk g T (PW 8 pend)) H1 fun D' hold hin H2 => (Crash_spec D' w1 g T (PW 8 pend) _ keep hok2 (hin _ fun h hs' ho => rep_row (A := C) hs' keep (Nat.zero_add _) (by rw [List.nil_append]; exact repL_of_old ho hrep)) H2).mono fun e w' ⟨he, H'⟩ => ⟨he, show Own D' w1 w' [dsk g U []] by rw [hU, hkf]; exact H'⟩) ?_
              refine hl_nil <|
                hx_then_normal <|
                hc_seq <|
                hc_seq <|
                hc_region <|
                hl_val (ov_assign rfl) rfl rfl rfl <| ?_
              refine hl_nil <|
                hx_then_normal <|
                hc_block <| ?_
              refine hc_loopK1 (σ := Nat) [1, 7, 10] rfl 13 (fun i => .int .i64 i) (fun i => [blk b10 54 (T.flatMap secC), dsk g U []]) (fun i => i ≤ 8) (fun i => 8 - i) (0) (Nat.zero_le _) rfl ((show Ent _ [blk b10 54 (T.flatMap secC), dsk g U []] from (by first | assumption | exact Ent.refl _ | exact Ent.nil _ | exact Ent.row_any (Ent.refl _) | (repeat (first | exact Ent.refl _ | exact Ent.nil _ | refine Ent.pick ?_))))) ?_
              rintro i hj K4 hK4
              refine hc_seq <|
                hc_seq <|
                hc_region <|
                hl_val (ov_move rfl) rfl rfl rfl <|
                hl_val (ov_lss rfl rfl) rfl rfl rfl <|
                hl_nil <| ?_
              refine hx_then_normal <| ?_
              refine hc_cond rfl (fun hi8 => ?_) (fun hi8 => ?_)
              · have hi8 : i < 8 := by omega
                have hiU : i < U.length := by omega
                refine hc_skip <|
                  hx_then_normal <|
                  hc_seq <|
                  hc_block <|
                  hc_seq <|
                  hc_region <| ?_
                refine hl_val (ov_move rfl) rfl rfl rfl <|
                  hl_val (ov_move rfl) rfl rfl rfl <| ?_
                refine hl_c Try.call17 rfl rfl (fun w1 H1 => Own.callp (dsk g U []) H1 fun D' hold hin H2 => Read_ok D' w1 g i U [] hiU H2) ?_
                refine hl_val (ov_move rfl) rfl rfl rfl <|
                  hl_val (ov_extract rfl rfl) rfl rfl rfl <|
                  hl_val (ov_extract rfl rfl) rfl rfl rfl <|
                  hl_new (on_alloc) rfl rfl rfl fun b14 =>  ?_
                refine hl_u0 (on_storeW (vs := secC (U[i]'(by omega))) rfl rfl (by simp) (by simp) (secC_one _)) rfl rfl ?_
                refine hl_val (ov_assign rfl) rfl rfl rfl <|
                  hl_nil <|
                  hx_then_normal <|
                  hc_seq <|
                  hc_quiet mixed (by kernel_rfl) <|
                  hq_val (by first | exact ov_loadW rfl (by simp; done) | exact ov_loadGB rfl rfl) rfl rfl rfl <| ?_
                refine hq_val (ov_move rfl) rfl rfl rfl <|
                  hq_val (ov_idxP rfl rfl _ rfl (by omega)) rfl rfl rfl <| ?_
                refine hq_val (ov_loadG (cs := secC (T[i]'(by omega))) rfl (secC_len _) (CellsAre.blkflat secC_len (by omega))) rfl rfl rfl ?_
                refine hq_val (ov_eqlSec rfl rfl) rfl rfl rfl ?_
                refine hq_val (ov_assign rfl) rfl rfl rfl <|
                  hq_nil <|
                  hx_then_normal <|
                  hc_seq <|
                  hc_seq <|
                  hc_region <| ?_
                refine hl_val (ov_assign rfl) rfl rfl rfl <|
                  hl_nil <|
                  hx_then_normal <|
                  hc_block <| ?_
                obtain ⟨b0, hb0⟩ : ∃ b : Bool, b = decide (U[i]'(by omega) = T[i]'(by omega)) := ⟨_, rfl⟩
                refine hc_loopK2 (σ := Nat × Bool) [1, 7, 10, 13, 14, 15] rfl 17 (fun s => .int .i64 s.1) 16 (fun s => .bool s.2) (fun s => [blk b14 30 (secC (U[i]'(by omega))), blk b10 54 (T.flatMap secC), dsk g U []]) (fun s => s.1 ≤ pend.length ∧ (s.2 = true ↔ (U[i]'(by omega) = T[i]'(by omega) ∨ okAt 8 i (U[i]'(by omega)) pend s.1))) (fun s => pend.length - s.1) ((0, decide (U[i]'(by omega) = T[i]'(by omega)))) (⟨Nat.zero_le _, by simp [okAt]⟩) rfl rfl (by first | assumption | exact Ent.refl _ | exact Ent.nil _ | (repeat (first | exact Ent.refl _ | exact Ent.nil _ | refine Ent.pick ?_))) ?_
                rintro ⟨k, b⟩ hj_ K5 hK5
                dsimp only at hj_ ⊢
                obtain ⟨hkl, hbk⟩ := hj_
                refine hc_seq <|
                  hc_seq <|
                  hc_region <|
                  hl_val (ov_move rfl) rfl rfl rfl <|
                  hl_val (ov_move rfl) rfl rfl rfl <|
                  hl_val (by first | exact ov_len rfl | exact ov_lenS rfl) rfl rfl rfl <| ?_
                refine hl_val (ov_lss rfl rfl) rfl rfl rfl <|
                  hl_nil <|
                  hx_then_normal <| ?_
                refine hc_cond rfl (fun hlt3 => ?_) (fun hlt3 => ?_)
                · have hlt3 : k < pend.length := by omega
                  obtain ⟨hA, cs, hx, hcs⟩ := helB k hlt3
                  obtain ⟨X, capX, rfl, hx1, hx2, hx3, hk⟩ := step_open hx
                  rw [show Rep.sz Step = 5 from rfl] at hcs
                  have hcl := hcs 1 _ rfl
                  have hstep : okAt 8 i (U[i]'(by omega)) pend (k + 1) ↔ (okAt 8 i (U[i]'(by omega)) pend k ∨ (modN pend[k].2.1 8 = i ∧ U[i]'(by omega) = stepSec pend[k])) := by
                    unfold okAt
                    constructor
                    · rintro ⟨q, hq, h1, h2, h3⟩
                      rcases Nat.lt_or_ge q k with h | h
                      · exact .inl ⟨q, hq, h, h2, h3⟩
                      · have : q = k := by omega
                        subst this
                        exact .inr ⟨h2, h3⟩
                    · rintro (⟨q, hq, h1, h2, h3⟩ | ⟨h2, h3⟩)
                      · exact ⟨q, hq, by omega, h2, h3⟩
                      · exact ⟨k, hlt3, by omega, h2, h3⟩
                  generalize pend[k] = x at *
                  refine hc_skip <|
                    hx_then_normal <|
                    hc_seq <|
                    hc_block <| ?_
                  refine hc_any [blk b14 30 (secC (U[i]'(by omega)))] mixed 21 rfl ?_
                  refine ha_take 0 rfl (ov_move rfl) rfl rfl rfl (by kernel_rfl) (by kernel_rfl) (by kernel_rfl) (by first | assumption | exact Ent.refl _ | exact Ent.nil _ | (repeat (first | exact Ent.refl _ | exact Ent.nil _ | refine Ent.pick ?_))) <| ?_
                  refine ha_take 1 rfl (ov_move rfl) rfl rfl rfl (by kernel_rfl) (by kernel_rfl) (by kernel_rfl) (by first | assumption | exact Ent.refl _ | exact Ent.nil _ | (repeat (first | exact Ent.refl _ | exact Ent.nil _ | refine Ent.pick ?_))) <| ?_
                  refine ha_partb (t := 132) rfl (fun hb => ?_) (fun hb => ?_)
                  · have h5 : U[i]'(by omega) = T[i]'(by omega) ∨ okAt 8 i (U[i]'(by omega)) pend (k + 1) := by
                      rw [hstep]
                      rcases hbk.1 hb with h | h
                      · exact .inl h
                      · exact .inr (.inl h)
                    refine ha_off 2 rfl rfl rfl rfl (by kernel_rfl) (by kernel_rfl) (by kernel_rfl) (by first | assumption | exact Ent.refl _ | exact Ent.nil _ | (repeat (first | exact Ent.refl _ | exact Ent.nil _ | refine Ent.pick ?_))) <| ?_
                    refine ha_off 3 rfl rfl rfl rfl (by kernel_rfl) (by kernel_rfl) (by kernel_rfl) (by first | assumption | exact Ent.refl _ | exact Ent.nil _ | (repeat (first | exact Ent.refl _ | exact Ent.nil _ | refine Ent.pick ?_))) <| ?_
                    refine ha_off 4 rfl rfl rfl rfl (by kernel_rfl) (by kernel_rfl) (by kernel_rfl) (by first | assumption | exact Ent.refl _ | exact Ent.nil _ | (repeat (first | exact Ent.refl _ | exact Ent.nil _ | refine Ent.pick ?_))) <| ?_
                    refine ha_off 5 rfl rfl rfl rfl (by kernel_rfl) (by kernel_rfl) (by kernel_rfl) (by first | assumption | exact Ent.refl _ | exact Ent.nil _ | (repeat (first | exact Ent.refl _ | exact Ent.nil _ | refine Ent.pick ?_))) <| ?_
                    refine ha_off 6 rfl rfl rfl rfl (by kernel_rfl) (by kernel_rfl) (by kernel_rfl) (by first | assumption | exact Ent.refl _ | exact Ent.nil _ | (repeat (first | exact Ent.refl _ | exact Ent.nil _ | refine Ent.pick ?_))) <| ?_
                    refine ha_off 8 rfl rfl rfl rfl (by kernel_rfl) (by kernel_rfl) (by kernel_rfl) (by first | assumption | exact Ent.refl _ | exact Ent.nil _ | (repeat (first | exact Ent.refl _ | exact Ent.nil _ | refine Ent.pick ?_))) <| ?_
                    refine ha_one 7 (by kernel_rfl) <|
                      ho_off rfl rfl rfl rfl (by first | assumption | exact Ent.refl _ | exact Ent.nil _ | (repeat (first | exact Ent.refl _ | exact Ent.nil _ | refine Ent.pick ?_))) <| ?_
                    refine ha_off 9 rfl rfl rfl rfl (by kernel_rfl) (by kernel_rfl) (by kernel_rfl) (by first | assumption | exact Ent.refl _ | exact Ent.nil _ | (repeat (first | exact Ent.refl _ | exact Ent.nil _ | refine Ent.pick ?_))) <| ?_
                    refine ha_off 10 rfl rfl rfl rfl (by kernel_rfl) (by kernel_rfl) (by kernel_rfl) (by first | assumption | exact Ent.refl _ | exact Ent.nil _ | (repeat (first | exact Ent.refl _ | exact Ent.nil _ | refine Ent.pick ?_))) <| ?_
                    refine ha_off 11 rfl rfl rfl rfl (by kernel_rfl) (by kernel_rfl) (by kernel_rfl) (by first | assumption | exact Ent.refl _ | exact Ent.nil _ | (repeat (first | exact Ent.refl _ | exact Ent.nil _ | refine Ent.pick ?_))) <| ?_
                    refine ha_off 12 rfl rfl rfl rfl (by kernel_rfl) (by kernel_rfl) (by kernel_rfl) (by first | assumption | exact Ent.refl _ | exact Ent.nil _ | (repeat (first | exact Ent.refl _ | exact Ent.nil _ | refine Ent.pick ?_))) <| ?_
                    refine ha_off 13 rfl rfl rfl rfl (by kernel_rfl) (by kernel_rfl) (by kernel_rfl) (by first | assumption | exact Ent.refl _ | exact Ent.nil _ | (repeat (first | exact Ent.refl _ | exact Ent.nil _ | refine Ent.pick ?_))) <| ?_
                    refine ha_off 14 rfl rfl rfl rfl (by kernel_rfl) (by kernel_rfl) (by kernel_rfl) (by first | assumption | exact Ent.refl _ | exact Ent.nil _ | (repeat (first | exact Ent.refl _ | exact Ent.nil _ | refine Ent.pick ?_))) <| ?_
                    refine ha_off 15 rfl rfl rfl rfl (by kernel_rfl) (by kernel_rfl) (by kernel_rfl) (by first | assumption | exact Ent.refl _ | exact Ent.nil _ | (repeat (first | exact Ent.refl _ | exact Ent.nil _ | refine Ent.pick ?_))) <| ?_
                    refine ha_one 16 (by kernel_rfl) <|
                      ho_off rfl rfl rfl rfl (by first | assumption | exact Ent.refl _ | exact Ent.nil _ | (repeat (first | exact Ent.refl _ | exact Ent.nil _ | refine Ent.pick ?_))) <| ?_
                    refine ha_off 17 rfl rfl rfl rfl (by kernel_rfl) (by kernel_rfl) (by kernel_rfl) (by first | assumption | exact Ent.refl _ | exact Ent.nil _ | (repeat (first | exact Ent.refl _ | exact Ent.nil _ | refine Ent.pick ?_))) <| ?_
                    refine ha_off 18 rfl rfl rfl rfl (by kernel_rfl) (by kernel_rfl) (by kernel_rfl) (by first | assumption | exact Ent.refl _ | exact Ent.nil _ | (repeat (first | exact Ent.refl _ | exact Ent.nil _ | refine Ent.pick ?_))) <| ?_
                    refine ha_take 19 rfl (ov_pickT rfl rfl) rfl rfl rfl (by kernel_rfl) (by kernel_rfl) (by kernel_rfl) (by first | assumption | exact Ent.refl _ | exact Ent.nil _ | (repeat (first | exact Ent.refl _ | exact Ent.nil _ | refine Ent.pick ?_))) <| ?_
                    refine ha_take 20 rfl (ov_assign rfl) rfl rfl rfl (by kernel_rfl) (by kernel_rfl) (by kernel_rfl) (by first | assumption | exact Ent.refl _ | exact Ent.nil _ | (repeat (first | exact Ent.refl _ | exact Ent.nil _ | refine Ent.pick ?_))) <| ?_
                    refine ha_done (by kernel_rfl) <|
                      hx_block_normal <|
                      hx_then_normal <|
                      hc_region <|
                      hl_val (ov_move rfl) rfl rfl rfl <|
                      hl_val (ov_add rfl rfl (by first | exact wrap_i64 (by omega) | rfl)) rfl rfl rfl <| ?_
                    refine hl_val (ov_assign rfl) rfl rfl rfl <|
                      hl_nil <| ?_
                    refine hx_next hK5 ((k + 1, true)) (⟨hlt3, by simp only [true_iff]; exact h5⟩) (by dsimp only; omega) (by repeat (first | exact Slots.sub_nil _ | refine Slots.sub_cons rfl ?_)) (by first | assumption | exact Ent.refl _ | exact Ent.nil _ | (repeat (first | exact Ent.refl _ | exact Ent.nil _ | refine Ent.pick ?_)))
                  · have h5 : ¬ (U[i]'(by omega) = T[i]'(by omega) ∨ okAt 8 i (U[i]'(by omega)) pend k) := fun h => by rw [hbk.2 h] at hb; cases hb
                    refine ha_take 2 rfl (ov_move rfl) rfl rfl rfl (by kernel_rfl) (by kernel_rfl) (by kernel_rfl) (by first | assumption | exact Ent.refl _ | exact Ent.nil _ | (repeat (first | exact Ent.refl _ | exact Ent.nil _ | refine Ent.pick ?_))) <| ?_
                    refine ha_take 3 rfl (ov_move rfl) rfl rfl rfl (by kernel_rfl) (by kernel_rfl) (by kernel_rfl) (by first | assumption | exact Ent.refl _ | exact Ent.nil _ | (repeat (first | exact Ent.refl _ | exact Ent.nil _ | refine Ent.pick ?_))) <| ?_
                    refine ha_take 4 rfl (ov_idxS rfl (by assumption) rfl _ rfl (by omega)) rfl rfl rfl (by kernel_rfl) (by kernel_rfl) (by kernel_rfl) (by first | assumption | exact Ent.refl _ | exact Ent.nil _ | (repeat (first | exact Ent.refl _ | exact Ent.nil _ | refine Ent.pick ?_))) <| ?_
                    refine ha_take 5 rfl (ov_fieldA rfl) rfl rfl rfl (by kernel_rfl) (by kernel_rfl) (by kernel_rfl) (by first | assumption | exact Ent.refl _ | exact Ent.nil _ | (repeat (first | exact Ent.refl _ | exact Ent.nil _ | refine Ent.pick ?_))) <| ?_
                    refine ha_take 6 rfl (by first | exact ov_load rfl (by assumption) | exact ov_load rfl (hcl _) | exact ov_load rfl (hcl2 _) | exact ov_load rfl (hcl3 _) | exact ov_load rfl (CellIs.blk rfl)) rfl rfl rfl (by kernel_rfl) (by kernel_rfl) (by kernel_rfl) (by first | assumption | exact Ent.refl _ | exact Ent.nil _ | (repeat (first | exact Ent.refl _ | exact Ent.nil _ | refine Ent.pick ?_))) <| ?_
                    refine ha_take 8 rfl (ov_move rfl) rfl rfl rfl (by kernel_rfl) (by kernel_rfl) (by kernel_rfl) (by first | assumption | exact Ent.refl _ | exact Ent.nil _ | (repeat (first | exact Ent.refl _ | exact Ent.nil _ | refine Ent.pick ?_))) <| ?_
                    refine ha_one 7 (by kernel_rfl) <| ?_
                    refine ho_c rfl Try.call14 rfl rfl rfl (fun w1 H1 => Own.calln H1 fun D' hold hin H2 => Mod_nat D' w1 x.2.1 8 hx2 (by decide) (by decide)) (by first | assumption | exact Ent.refl _ | exact Ent.nil _ | (repeat (first | exact Ent.refl _ | exact Ent.nil _ | refine Ent.pick ?_))) ?_
                    refine ha_take 9 rfl (ov_eql rfl rfl) rfl rfl rfl (by kernel_rfl) (by kernel_rfl) (by kernel_rfl) (by first | assumption | exact Ent.refl _ | exact Ent.nil _ | (repeat (first | exact Ent.refl _ | exact Ent.nil _ | refine Ent.pick ?_))) <| ?_
                    refine ha_take 10 rfl (ov_move rfl) rfl rfl rfl (by kernel_rfl) (by kernel_rfl) (by kernel_rfl) (by first | assumption | exact Ent.refl _ | exact Ent.nil _ | (repeat (first | exact Ent.refl _ | exact Ent.nil _ | refine Ent.pick ?_))) <| ?_
                    refine ha_part (t := 141) rfl (fun hm => ?_) (fun hm => ?_)
                    · have hm : modN x.2.1 8 = i := by omega
                      refine ha_take 11 rfl (by first | exact ov_loadW rfl (by simp; done) | exact ov_loadGB rfl rfl) rfl rfl rfl (by kernel_rfl) (by kernel_rfl) (by kernel_rfl) (by first | assumption | exact Ent.refl _ | exact Ent.nil _ | (repeat (first | exact Ent.refl _ | exact Ent.nil _ | refine Ent.pick ?_))) <| ?_
                      refine ha_take 12 rfl (ov_move rfl) rfl rfl rfl (by kernel_rfl) (by kernel_rfl) (by kernel_rfl) (by first | assumption | exact Ent.refl _ | exact Ent.nil _ | (repeat (first | exact Ent.refl _ | exact Ent.nil _ | refine Ent.pick ?_))) <| ?_
                      refine ha_take 13 rfl (ov_move rfl) rfl rfl rfl (by kernel_rfl) (by kernel_rfl) (by kernel_rfl) (by first | assumption | exact Ent.refl _ | exact Ent.nil _ | (repeat (first | exact Ent.refl _ | exact Ent.nil _ | refine Ent.pick ?_))) <| ?_
                      refine ha_take 14 rfl (ov_idxS rfl (by assumption) rfl _ rfl (by omega)) rfl rfl rfl (by kernel_rfl) (by kernel_rfl) (by kernel_rfl) (by first | assumption | exact Ent.refl _ | exact Ent.nil _ | (repeat (first | exact Ent.refl _ | exact Ent.nil _ | refine Ent.pick ?_))) <| ?_
                      refine ha_take 15 rfl (ov_loadG rfl rfl (step_field hcs _)) rfl rfl rfl (by kernel_rfl) (by kernel_rfl) (by kernel_rfl) (by first | assumption | exact Ent.refl _ | exact Ent.nil _ | (repeat (first | exact Ent.refl _ | exact Ent.nil _ | refine Ent.pick ?_))) ?_
                      refine ha_one 16 (by kernel_rfl) <| ?_
                      refine ho_c rfl Try.call16 rfl rfl rfl (fun w1 H1 => Own.calln H1 fun D' hold hin H2 => sector_spec D' w1 x _ rfl hx3) (by first | assumption | exact Ent.refl _ | exact Ent.nil _ | (repeat (first | exact Ent.refl _ | exact Ent.nil _ | refine Ent.pick ?_))) ?_
                      refine ha_take 17 rfl (ov_eqlSec rfl rfl) rfl rfl rfl (by kernel_rfl) (by kernel_rfl) (by kernel_rfl) (by first | assumption | exact Ent.refl _ | exact Ent.nil _ | (repeat (first | exact Ent.refl _ | exact Ent.nil _ | refine Ent.pick ?_))) ?_
                      have h6 : decide (U[i]'(by omega) = stepSec x) = true ↔ (U[i]'(by omega) = T[i]'(by omega) ∨ okAt 8 i (U[i]'(by omega)) pend (k + 1)) := by
                        rw [decide_eq_true_iff, hstep]
                        constructor
                        · intro h; exact .inr (.inr ⟨hm, h⟩)
                        · rintro (h | h | h)
                          · exact absurd (.inl h) h5
                          · exact absurd (.inr h) h5
                          · exact h.2
                      refine ha_take 18 rfl (ov_pickT rfl rfl) rfl rfl rfl (by kernel_rfl) (by kernel_rfl) (by kernel_rfl) (by first | assumption | exact Ent.refl _ | exact Ent.nil _ | (repeat (first | exact Ent.refl _ | exact Ent.nil _ | refine Ent.pick ?_))) <| ?_
                      refine ha_take 19 rfl (ov_pickF rfl rfl) rfl rfl rfl (by kernel_rfl) (by kernel_rfl) (by kernel_rfl) (by first | assumption | exact Ent.refl _ | exact Ent.nil _ | (repeat (first | exact Ent.refl _ | exact Ent.nil _ | refine Ent.pick ?_))) <| ?_
                      refine ha_take 20 rfl (ov_assign rfl) rfl rfl rfl (by kernel_rfl) (by kernel_rfl) (by kernel_rfl) (by first | assumption | exact Ent.refl _ | exact Ent.nil _ | (repeat (first | exact Ent.refl _ | exact Ent.nil _ | refine Ent.pick ?_))) <| ?_
                      refine ha_done (by kernel_rfl) <|
                        hx_block_normal <|
                        hx_then_normal <|
                        hc_region <|
                        hl_val (ov_move rfl) rfl rfl rfl <|
                        hl_val (ov_add rfl rfl (by first | exact wrap_i64 (by omega) | rfl)) rfl rfl rfl <| ?_
                      refine hl_val (ov_assign rfl) rfl rfl rfl <|
                        hl_nil <| ?_
                      refine hx_next hK5 ((k + 1, decide (U[i]'(by omega) = stepSec x))) (⟨hlt3, h6⟩) (by dsimp only; omega) (by repeat (first | exact Slots.sub_nil _ | refine Slots.sub_cons rfl ?_)) (by first | assumption | exact Ent.refl _ | exact Ent.nil _ | (repeat (first | exact Ent.refl _ | exact Ent.nil _ | refine Ent.pick ?_)))
                    · have hm : ¬ modN x.2.1 8 = i := by omega
                      have h6 : ¬ (U[i]'(by omega) = T[i]'(by omega) ∨ okAt 8 i (U[i]'(by omega)) pend (k + 1)) := by
                        rw [hstep]
                        rintro (h | h | h)
                        · exact h5 (.inl h)
                        · exact h5 (.inr h)
                        · exact hm h.1
                      refine ha_off 11 rfl rfl rfl rfl (by kernel_rfl) (by kernel_rfl) (by kernel_rfl) (by first | assumption | exact Ent.refl _ | exact Ent.nil _ | (repeat (first | exact Ent.refl _ | exact Ent.nil _ | refine Ent.pick ?_))) <| ?_
                      refine ha_off 12 rfl rfl rfl rfl (by kernel_rfl) (by kernel_rfl) (by kernel_rfl) (by first | assumption | exact Ent.refl _ | exact Ent.nil _ | (repeat (first | exact Ent.refl _ | exact Ent.nil _ | refine Ent.pick ?_))) <| ?_
                      refine ha_off 13 rfl rfl rfl rfl (by kernel_rfl) (by kernel_rfl) (by kernel_rfl) (by first | assumption | exact Ent.refl _ | exact Ent.nil _ | (repeat (first | exact Ent.refl _ | exact Ent.nil _ | refine Ent.pick ?_))) <| ?_
                      refine ha_off 14 rfl rfl rfl rfl (by kernel_rfl) (by kernel_rfl) (by kernel_rfl) (by first | assumption | exact Ent.refl _ | exact Ent.nil _ | (repeat (first | exact Ent.refl _ | exact Ent.nil _ | refine Ent.pick ?_))) <| ?_
                      refine ha_off 15 rfl rfl rfl rfl (by kernel_rfl) (by kernel_rfl) (by kernel_rfl) (by first | assumption | exact Ent.refl _ | exact Ent.nil _ | (repeat (first | exact Ent.refl _ | exact Ent.nil _ | refine Ent.pick ?_))) <| ?_
                      refine ha_one 16 (by kernel_rfl) <|
                        ho_off rfl rfl rfl rfl (by first | assumption | exact Ent.refl _ | exact Ent.nil _ | (repeat (first | exact Ent.refl _ | exact Ent.nil _ | refine Ent.pick ?_))) <| ?_
                      refine ha_off 17 rfl rfl rfl rfl (by kernel_rfl) (by kernel_rfl) (by kernel_rfl) (by first | assumption | exact Ent.refl _ | exact Ent.nil _ | (repeat (first | exact Ent.refl _ | exact Ent.nil _ | refine Ent.pick ?_))) <| ?_
                      refine ha_take 18 rfl (ov_pickF rfl rfl) rfl rfl rfl (by kernel_rfl) (by kernel_rfl) (by kernel_rfl) (by first | assumption | exact Ent.refl _ | exact Ent.nil _ | (repeat (first | exact Ent.refl _ | exact Ent.nil _ | refine Ent.pick ?_))) <| ?_
                      refine ha_take 19 rfl (ov_pickF rfl rfl) rfl rfl rfl (by kernel_rfl) (by kernel_rfl) (by kernel_rfl) (by first | assumption | exact Ent.refl _ | exact Ent.nil _ | (repeat (first | exact Ent.refl _ | exact Ent.nil _ | refine Ent.pick ?_))) <| ?_
                      refine ha_take 20 rfl (ov_assign rfl) rfl rfl rfl (by kernel_rfl) (by kernel_rfl) (by kernel_rfl) (by first | assumption | exact Ent.refl _ | exact Ent.nil _ | (repeat (first | exact Ent.refl _ | exact Ent.nil _ | refine Ent.pick ?_))) <| ?_
                      refine ha_done (by kernel_rfl) <|
                        hx_block_normal <|
                        hx_then_normal <|
                        hc_region <|
                        hl_val (ov_move rfl) rfl rfl rfl <|
                        hl_val (ov_add rfl rfl (by first | exact wrap_i64 (by omega) | rfl)) rfl rfl rfl <| ?_
                      refine hl_val (ov_assign rfl) rfl rfl rfl <|
                        hl_nil <| ?_
                      refine hx_next hK5 ((k + 1, false)) (⟨hlt3, by simp only [Bool.false_eq_true, false_iff]; exact h6⟩) (by dsimp only; omega) (by repeat (first | exact Slots.sub_nil _ | refine Slots.sub_cons rfl ?_)) (by first | assumption | exact Ent.refl _ | exact Ent.nil _ | (repeat (first | exact Ent.refl _ | exact Ent.nil _ | refine Ent.pick ?_)))
                · have : k = pend.length := by omega
                  subst this
                  have hb : b = true := hbk.2 (hat i hi8)
                  subst hb
                  refine hc_exit <|
                    hx_then_exit <|
                    hx_then_exit <|
                    hx_block_out <|
                    hx_then_normal <|
                    hc_seq <| ?_
                  refine hc_region <|
                    hl_val (ov_move rfl) rfl rfl rfl <|
                    hl_val (ov_neq rfl rfl) rfl rfl rfl <|
                    hl_val (ov_move rfl) rfl rfl rfl <| ?_
                  refine hl_partF (t := 153) rfl (by omega) ?_
                  refine hl_on rfl rfl <| hl_val (ov_move rfl) rfl rfl rfl <|
                    hl_on rfl rfl <| hl_val (by first | exact ov_notd rfl | exact ov_not rfl) rfl rfl rfl <| ?_
                  refine hl_val (ov_pickF rfl rfl) rfl rfl rfl <|
                    hl_nil <|
                    hx_then_normal <| ?_
                  refine hc_cond_false rfl ?_
                  refine hc_skip <|
                    hx_block_normal <|
                    hx_then_normal <|
                    hc_region <|
                    hl_val (ov_move rfl) rfl rfl rfl <|
                    hl_val (ov_add rfl rfl (by first | exact wrap_i64 (by omega) | rfl)) rfl rfl rfl <| ?_
                  refine hl_val (ov_assign rfl) rfl rfl rfl <|
                    hl_nil <| ?_
                  refine hx_next hK4 (i + 1) (by omega) (by omega) (by repeat (first | exact Slots.sub_nil _ | refine Slots.sub_cons rfl ?_)) (by first | assumption | exact Ent.refl _ | exact Ent.nil _ | (repeat (first | exact Ent.refl _ | exact Ent.nil _ | refine Ent.pick ?_)))
              · refine hc_exit <|
                  hx_then_exit <|
                  hx_then_exit <|
                  hx_block_out <|
                  hx_then_normal <|
                  hc_seq <| ?_
                refine hc_region <|
                  hl_val (ov_move rfl) rfl rfl rfl <| ?_
                refine hl_c Try.call25 rfl rfl (fun w1 H1 => Own.callp (dsk g U []) H1 fun D' hold hin H2 => Pending_spec D' w1 g U [] H2) ?_
                refine hl_val (ov_eql rfl rfl) rfl rfl rfl <|
                  hl_val (ov_move rfl) rfl rfl rfl <| ?_
                refine hl_partT (t := 160) rfl (rfl) ?_
                refine hl_on rfl rfl <| hl_c Try.call13 rfl rfl (fun w1 H1 => Own.calln H1 fun D' hold hin H2 => wakes_spec D' w1) ?_
                refine hl_val (ov_pickT rfl rfl) rfl rfl rfl <|
                  hl_val (ov_assign rfl) rfl rfl rfl <|
                  hl_nil <|
                  hx_then_normal <|
                  hc_ret <| ?_
                exact results_1 (.inr rfl) rfl rfl fun w' H' => ⟨rfl, H'.ent (Ent.nil _)⟩
end Go.Proofs.Ytnnhopjnpplfcaa
