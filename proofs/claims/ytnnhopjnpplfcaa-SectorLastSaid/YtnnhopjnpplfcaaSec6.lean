import Derived.Test.YtnnhopjnpplfcaaSec5
set_option linter.unusedVariables false
set_option linter.unusedSimpArgs false
namespace Go.Proofs.Ytnnhopjnpplfcaa
open Slk
/-- What steps write on a disk of n sectors. -/
def PW (n : Nat) (l : List Step) : PL := l.map fun x => (modN x.2.1 n, stepSec x)
theorem PW_snoc (n : Nat) (l : List Step) (x : Step) : PW n (l ++ [x]) = PW n l ++ [(modN x.2.1 n, stepSec x)] := by simp [PW]
theorem PW_len (n : Nat) (l : List Step) : (PW n l).length = l.length := by simp [PW]
theorem PW_ok (n : Nat) (l : List Step) (S : List Sec) (h0 : 0 < n) (h : S.length = n) : okP S (PW n l) := fun p hp => by
  unfold PW at hp
  obtain ⟨x, _, rfl⟩ := List.mem_map.1 hp
  rw [h]; exact modN_lt _ h0
theorem step_field {D : Nat → Prop} {w : World} {A : Option Addr} {i : Nat} {cs : List Value} (hcs : ∀ (m : Nat) (v : Value), cs[m]? = some v → ∀ (l : List HProp), CellIs D w l (ab A) (ao A + i * 5 + m) v) (l : List HProp) : CellsAre D w l (ab A) (ao A + i * 5) cs := fun w H m v hv => hcs m v hv _ w H
theorem getD_at {l : List Bool} {k : Nat} (h : k < l.length) : l.getD k false = l[k] := by simp [List.getD_eq_getElem?_getD, List.getElem?_eq_getElem h]
theorem getD_past {l : List Bool} {k : Nat} (h : l.length ≤ k) : l.getD k false = false := by simp [List.getD_eq_getElem?_getD, List.getElem?_eq_none h]
theorem SectorLast_walk (W : World) (v0 v1 v2 : Value) (l : List Step) (keep : List Bool) (at' : UInt8) (h0 : Old none' W (Rep.rep l [v0])) (h1 : Old none' W (Rep.rep keep [v1])) (h2 : Old none' W (Rep.rep at' [v2])) :
    Calls Try.prog 3 #[v0, v1, v2] W fun e w' => e = .returned (.bool true) ∧ Own none' W w' [] := by
  have e2 : [v2] = [u8v at'] := h2.pure
  simp only [List.cons.injEq, and_true, u8v] at e2
  subst e2
  have l2 := at'.toNat_lt
  obtain ⟨A, cap, rfl, hc1, hc2, hel⟩ := h0.openX (by decide)
  obtain ⟨K, capK, hs, rfl, hk1, hk2, HS, hsl, hone, hrep, hek⟩ := h1.openES rfl
  obtain ⟨S4, hS4⟩ : ∃ S : List Sec, S = List.replicate 4 zeroSec := ⟨_, rfl⟩
  have hl4 : S4.length = 4 := by rw [hS4]; rfl
  obtain ⟨a, ha⟩ : ∃ k, k = at'.toNat % 4 := ⟨_, rfl⟩
  have ha4 : a < 4 := by omega
  have hz4 : S4[a]'(by omega) = zeroSec := by subst hS4; exact List.getElem_replicate _
  refine hc_enter (vs := [.slice A l.length cap, .slice K keep.length capK, .int .u8 at'.toNat]) Try.func3 rfl _ Try.ntmps3 rfl (Own.start none' W) ?_
  simp only [argSlots, Nat.zero_add]
  refine hc_seq <|
    hc_region <|
    hl_val (ov_assign rfl) rfl rfl rfl <|
    hl_nil <|
    hx_then_normal <|
    hc_seq <| ?_
  refine hc_region <| ?_
  refine hl_call (σ := Nat) Try.call11 rfl rfl (fun w1 H1 => Own.callx0 H1 fun D' hold hin H2 => (New_ok D' w1 4 (by decide) (by decide)).mono fun e w' ⟨g, he, H'⟩ => ⟨g, he, show Own D' w1 w' [dsk g S4 []] by rw [hS4]; exact H'⟩) ?_
  intro g
  try rw [List.nil_append]
  refine hl_val (ov_move rfl) rfl rfl rfl <|
    hl_val (ov_extract rfl rfl) rfl rfl rfl <|
    hl_val (ov_extract rfl rfl) rfl rfl rfl <|
    hl_val (ov_assign rfl) rfl rfl rfl <|
    hl_val (ov_assign rfl) rfl rfl rfl <|
    hl_nil <| ?_
  refine hx_then_normal <|
    hc_seq <|
    hc_seq <|
    hc_region <|
    hl_val (ov_move rfl) rfl rfl rfl <|
    hl_val (ov_neq rfl rfl) rfl rfl rfl <| ?_
  refine hl_val (ov_move rfl) rfl rfl rfl <| ?_
  refine hl_partF (t := 24) rfl (by omega) ?_
  refine hl_on rfl rfl <| hl_val (ov_move rfl) rfl rfl rfl <|
    hl_on rfl rfl <| hl_val (ov_eqlP rfl rfl) rfl rfl rfl <|
    hl_val (ov_pickF rfl rfl) rfl rfl rfl <| ?_
  refine hl_val (ov_move rfl) rfl rfl rfl <|
    hl_on rfl rfl <| hl_val (ov_move rfl) rfl rfl rfl <| ?_
  refine hl_on rfl rfl <| hl_call (σ := { b : Bool // b = true → fairP l }) Try.call12 rfl rfl (fun w1 H1 => Own.callx0 H1 fun D' hold hin H2 => fair_spec D' w1 _ l (hold _ h0)) ?_
  rintro ⟨bv, hbv⟩
  try rw [List.nil_append]
  cases bv
  · skip
    refine hl_on rfl rfl <| hl_val (ov_not rfl) rfl rfl rfl <|
      hl_val (ov_pickF rfl rfl) rfl rfl rfl <| ?_
    refine hl_val (ov_move rfl) rfl rfl rfl <|
      hl_off rfl rfl rfl rfl rfl rfl <|
      hl_off rfl rfl rfl rfl rfl rfl <|
      hl_off rfl rfl rfl rfl rfl rfl <|
      hl_val (ov_pickT rfl rfl) rfl rfl rfl <|
      hl_nil <| ?_
    refine hx_then_normal <|
      hc_cond_true rfl <|
      hc_seq <|
      hc_region <|
      hl_val (ov_move rfl) rfl rfl rfl <|
      hl_val (ov_eql rfl rfl) rfl rfl rfl <| ?_
    refine hl_val (ov_move rfl) rfl rfl rfl <| ?_
    refine hl_partT (t := 40) rfl (rfl) ?_
    refine hl_on rfl rfl <| hl_val (ov_move rfl) rfl rfl rfl <|
      hl_on rfl rfl <| hl_val (ov_neqP rfl rfl) rfl rfl rfl <|
      hl_val (ov_pickT rfl rfl) rfl rfl rfl <| ?_
    refine hl_val (ov_move rfl) rfl rfl rfl <| ?_
    refine hl_on rfl rfl <| hl_c Try.call13 rfl rfl (fun w1 H1 => Own.calln H1 fun D' hold hin H2 => wakes_spec D' w1) ?_
    refine hl_val (ov_pickT rfl rfl) rfl rfl rfl <|
      hl_val (ov_assign rfl) rfl rfl rfl <|
      hl_nil <|
      hx_then_normal <|
      hc_ret <|
      hx_then_ret <| ?_
    exact results_1 (.inr rfl) rfl rfl fun w' H' => ⟨rfl, H'.ent (Ent.nil _)⟩
  · skip
    have hfair := hbv rfl
    have hl200 := hfair.1
    refine hl_on rfl rfl <| hl_val (ov_not rfl) rfl rfl rfl <|
      hl_val (ov_pickF rfl rfl) rfl rfl rfl <| ?_
    refine hl_val (ov_move rfl) rfl rfl rfl <|
      hl_on rfl rfl <| hl_val (ov_move rfl) rfl rfl rfl <|
      hl_on rfl rfl <| hl_val (by first | exact ov_len rfl | exact ov_lenS rfl) rfl rfl rfl <| ?_
    refine hl_on rfl rfl <| hl_val (ov_gtr rfl rfl) rfl rfl rfl <|
      hl_val (ov_pickF rfl rfl) rfl rfl rfl <|
      hl_nil <|
      hx_then_normal <| ?_
    refine hc_cond rfl (fun hk500 => ?_) (fun hk500 => ?_)
    · refine hc_seq <|
        hc_region <|
        hl_val (ov_move rfl) rfl rfl rfl <|
        hl_val (ov_eql rfl rfl) rfl rfl rfl <|
        hl_val (ov_move rfl) rfl rfl rfl <| ?_
      refine hl_partT (t := 40) rfl (rfl) ?_
      refine hl_on rfl rfl <| hl_val (ov_move rfl) rfl rfl rfl <|
        hl_on rfl rfl <| hl_val (ov_neqP rfl rfl) rfl rfl rfl <|
        hl_val (ov_pickT rfl rfl) rfl rfl rfl <| ?_
      refine hl_val (ov_move rfl) rfl rfl rfl <| ?_
      refine hl_on rfl rfl <| hl_c Try.call13 rfl rfl (fun w1 H1 => Own.calln H1 fun D' hold hin H2 => wakes_spec D' w1) ?_
      refine hl_val (ov_pickT rfl rfl) rfl rfl rfl <|
        hl_val (ov_assign rfl) rfl rfl rfl <|
        hl_nil <|
        hx_then_normal <|
        hc_ret <|
        hx_then_ret <| ?_
      exact results_1 (.inr rfl) rfl rfl fun w' H' => ⟨rfl, H'.ent (Ent.nil _)⟩
    · have hk500 : keep.length ≤ 500 := by omega
      obtain ⟨kf, hkf⟩ : ∃ kf : Nat → Bool, kf = fun k => keep.getD k false := ⟨_, rfl⟩
      have hatl : ∀ P : PL, a < (settleL kf 0 S4 P).length := fun P => by rw [settleL_len]; omega
      refine hc_skip <|
        hx_then_normal <|
        hc_seq <|
        hc_region <|
        hl_val (ov_move rfl) rfl rfl rfl <|
        hl_val (ov_conv rfl (by first | exact wrap_i64 (by omega) | rfl)) rfl rfl rfl <| ?_
      refine hl_val (ov_remE (b := 4) rfl rfl (by omega) ha) rfl rfl rfl ?_
      refine hl_val (ov_assign rfl) rfl rfl rfl <|
        hl_nil <|
        hx_then_normal <|
        hc_seq <|
        hc_region <|
        hl_new (on_alloc) rfl rfl rfl fun b10 =>  ?_
      refine hl_new (on_alloc) rfl rfl rfl fun b11 => 
        hl_nil <|
        hx_then_normal <|
        hc_seq <|
        hc_seq <|
        hc_region <| ?_
      refine hl_val (ov_assign rfl) rfl rfl rfl <|
        hl_nil <|
        hx_then_normal <|
        hc_block <| ?_
      refine hc_loopK1 (σ := Nat) [0, 1, 7, 9, 10, 11] rfl 12 (fun k => .int .i64 k) (fun k => [blk b10 30 (secC (lastW a (PW 4 (l.take k)) zeroSec)), blk b11 30 (secC ((settleL kf 0 S4 (PW 4 (l.take k)))[a]'(hatl _))), dsk g S4 (PW 4 (l.take k))]) (fun k => k ≤ l.length) (fun k => l.length - k) (0) (Nat.zero_le _) rfl ((show Ent _ [blk b10 30 (secC zeroSec), blk b11 30 (secC (S4[a]'(by omega))), dsk g S4 []] by rw [hz4, secC_zero]; exact (by first | assumption | exact Ent.refl _ | exact Ent.nil _ | exact Ent.row_any (Ent.refl _) | (repeat (first | exact Ent.refl _ | exact Ent.nil _ | refine Ent.pick ?_))))) ?_
      rintro k hj K1 hK1
      have hpl := PW_len 4 (l.take k)
      rw [List.length_take] at hpl
      refine hc_seq <|
        hc_seq <|
        hc_region <|
        hl_val (ov_move rfl) rfl rfl rfl <|
        hl_val (ov_move rfl) rfl rfl rfl <|
        hl_val (by first | exact ov_len rfl | exact ov_lenS rfl) rfl rfl rfl <| ?_
      refine hl_val (ov_lss rfl rfl) rfl rfl rfl <|
        hl_nil <|
        hx_then_normal <| ?_
      refine hc_cond rfl (fun hlt => ?_) (fun hlt => ?_)
      · have hlt : k < l.length := by omega
        obtain ⟨hA, cs, hx, hcs⟩ := hel k hlt
        obtain ⟨B, capB, rfl, hx1, hx2, hx3, hk⟩ := step_open hx
        rw [show Rep.sz Step = 5 from rfl] at hcs
        have hsn := List.take_succ_eq_append_getElem hlt
        have hcl := hcs 1 _ rfl
        generalize l[k] = x at *
        have hpw : PW 4 (l.take (k + 1)) = PW 4 (l.take k) ++ [(modN x.2.1 4, stepSec x)] := by rw [hsn, PW_snoc]
        have hse : settleL kf 0 S4 (PW 4 (l.take (k + 1))) = if kf k then (settleL kf 0 S4 (PW 4 (l.take k))).set (modN x.2.1 4) (stepSec x) else settleL kf 0 S4 (PW 4 (l.take k)) := by
          rw [hpw, settleL_snoc, hpl, Nat.zero_add, Nat.min_eq_left (by omega)]
        have hla : lastW a (PW 4 (l.take (k + 1))) zeroSec = if modN x.2.1 4 = a then stepSec x else lastW a (PW 4 (l.take k)) zeroSec := by rw [hpw, lastW_snoc]
        refine hc_skip <|
          hx_then_normal <|
          hc_seq <|
          hc_block <|
          hc_seq <|
          hc_region <| ?_
        refine hl_val (ov_move rfl) rfl rfl rfl <|
          hl_val (ov_move rfl) rfl rfl rfl <|
          hl_val (ov_idxS rfl (by assumption) rfl _ rfl (by omega)) rfl rfl rfl <|
          hl_val (ov_fieldA rfl) rfl rfl rfl <|
          hl_val (by first | exact ov_load rfl (by assumption) | exact ov_load rfl (hcl _) | exact ov_load rfl (hcl2 _) | exact ov_load rfl (hcl3 _) | exact ov_load rfl (CellIs.blk rfl)) rfl rfl rfl <| ?_
        refine hl_c Try.call14 rfl rfl (fun w1 H1 => Own.calln H1 fun D' hold hin H2 => Mod_nat D' w1 x.2.1 4 hx2 (by decide) (by decide)) ?_
        have hm := modN_lt x.2.1 (show 0 < 4 by decide)
        refine hl_val (ov_assign rfl) rfl rfl rfl <|
          hl_nil <|
          hx_then_normal <|
          hc_seq <|
          hc_seq <|
          hc_region <| ?_
        refine hl_val (ov_move rfl) rfl rfl rfl <|
          hl_val (ov_move rfl) rfl rfl rfl <|
          hl_val (ov_move rfl) rfl rfl rfl <|
          hl_val (ov_move rfl) rfl rfl rfl <|
          hl_val (ov_idxS rfl (by assumption) rfl _ rfl (by omega)) rfl rfl rfl <| ?_
        refine hl_val (ov_loadG rfl rfl (step_field hcs _)) rfl rfl rfl ?_
        refine hl_c Try.call16 rfl rfl (fun w1 H1 => Own.calln H1 fun D' hold hin H2 => sector_spec D' w1 x _ rfl hx3) ?_
        refine hl_c Try.call15 rfl rfl (fun w1 H1 => Own.callp (dsk g S4 (PW 4 (l.take k))) H1 fun D' hold hin H2 => Write_ok D' w1 g (modN x.2.1 4) (stepSec x) S4 (PW 4 (l.take k)) (by omega) (by omega) H2) ?_
        refine hl_val (ov_neq rfl rfl) rfl rfl rfl <|
          hl_nil <|
          hx_then_normal <| ?_
        refine hc_cond_F rfl (by decide) ?_
        refine hc_skip <|
          hx_then_normal <|
          hc_seq <|
          hc_region <|
          hl_val (ov_move rfl) rfl rfl rfl <|
          hl_val (ov_move rfl) rfl rfl rfl <| ?_
        refine hl_val (ov_eql rfl rfl) rfl rfl rfl <|
          hl_nil <|
          hx_then_normal <| ?_
        refine hc_cutK0 (σ := Unit) [0, 1, 7, 9, 10, 11, 12] rfl  (fun _u => [blk b10 30 (secC (lastW a (PW 4 (l.take (k + 1))) zeroSec)), blk b11 30 (secC ((settleL kf 0 S4 (PW 4 (l.take (k + 1))))[a]'(hatl _))), dsk g S4 (PW 4 (l.take (k + 1)))]) (fun K2 hK2 => ?_) (fun _u => ?_)
        · refine hc_cond rfl (fun he => ?_) (fun he => ?_)
          · have he : modN x.2.1 4 = a := by omega
            refine hc_seq <|
              hc_region <|
              hl_val (ov_move rfl) rfl rfl rfl <|
              hl_val (ov_move rfl) rfl rfl rfl <|
              hl_val (ov_idxS rfl (by assumption) rfl _ rfl (by omega)) rfl rfl rfl <| ?_
            refine hl_val (ov_loadG rfl rfl (step_field hcs _)) rfl rfl rfl ?_
            refine hl_c Try.call16 rfl rfl (fun w1 H1 => Own.calln H1 fun D' hold hin H2 => sector_spec D' w1 x _ rfl hx3) ?_
            refine hl_u0 (on_storeW rfl rfl (by simp) (by simp) (secC_one _)) rfl rfl ?_
            refine hl_nil <|
              hx_then_normal <|
              hc_seq <|
              hc_region <|
              hl_val (ov_move rfl) rfl rfl rfl <|
              hl_val (ov_move rfl) rfl rfl rfl <| ?_
            refine hl_val (by first | exact ov_len rfl | exact ov_lenS rfl) rfl rfl rfl <| ?_
            refine hl_val (ov_lss rfl rfl) rfl rfl rfl <|
              hl_val (ov_move rfl) rfl rfl rfl <| ?_
            refine hl_part (t := 83) rfl (fun hkl => ?_) (fun hkl => ?_)
            · have hkl : k < keep.length := by omega
              obtain ⟨hKA, u, hu, hclk⟩ := hek k hkl
              have hu := hu.pure
              simp only [List.cons.injEq, and_true] at hu
              subst hu
              have hkk : kf k = keep[k] := by rw [hkf]; exact getD_at hkl
              refine hl_on rfl rfl <| hl_val (ov_move rfl) rfl rfl rfl <|
                hl_on rfl rfl <| hl_val (ov_move rfl) rfl rfl rfl <|
                hl_on rfl rfl <| hl_val (ov_idxS rfl (by assumption) rfl _ rfl (by omega)) rfl rfl rfl <| ?_
              refine hl_on rfl rfl <| hl_val (ov_load rfl (hclk _)) rfl rfl rfl ?_
              refine hl_val (ov_pickT rfl rfl) rfl rfl rfl <|
                hl_nil <|
                hx_then_normal <| ?_
              refine hc_cond_bool rfl (fun hkb => ?_) (fun hkb => ?_)
              · have e3 : settleL kf 0 S4 (PW 4 (l.take (k + 1))) = (settleL kf 0 S4 (PW 4 (l.take k))).set a (stepSec x) := by rw [hse, hkk, if_pos hkb, he]
                have e4 : (settleL kf 0 S4 (PW 4 (l.take (k + 1))))[a]'(hatl _) = stepSec x := by simp only [e3]; exact List.getElem_set_self _
                refine hc_region <|
                  hl_val (by first | exact ov_loadW rfl (by simp; done) | exact ov_loadGB rfl rfl) rfl rfl rfl <| ?_
                refine hl_u0 (on_storeW rfl rfl (by simp) (by simp) (secC_one _)) rfl rfl ?_
                refine hl_nil <| ?_
                exact hx_cut hK2 (()) (by repeat (first | exact Slots.sub_nil _ | refine Slots.sub_cons rfl ?_)) (by rw [hla, if_pos he, e4, hpw]; exact (by first | assumption | exact Ent.refl _ | exact Ent.nil _ | exact Ent.row_any (Ent.refl _) | (repeat (first | exact Ent.refl _ | exact Ent.nil _ | refine Ent.pick ?_))))
              · have e4 : (settleL kf 0 S4 (PW 4 (l.take (k + 1))))[a]'(hatl _) = (settleL kf 0 S4 (PW 4 (l.take k)))[a]'(hatl _) := by
                  have e3 : settleL kf 0 S4 (PW 4 (l.take (k + 1))) = settleL kf 0 S4 (PW 4 (l.take k)) := by rw [hse, hkk, if_neg (by simp [hkb])]
                  simp only [e3]
                refine hc_skip <| ?_
                exact hx_cut hK2 (()) (by repeat (first | exact Slots.sub_nil _ | refine Slots.sub_cons rfl ?_)) (by rw [hla, if_pos he, e4, hpw]; exact (by first | assumption | exact Ent.refl _ | exact Ent.nil _ | exact Ent.row_any (Ent.refl _) | (repeat (first | exact Ent.refl _ | exact Ent.nil _ | refine Ent.pick ?_))))
            · have e4 : (settleL kf 0 S4 (PW 4 (l.take (k + 1))))[a]'(hatl _) = (settleL kf 0 S4 (PW 4 (l.take k)))[a]'(hatl _) := by
                have e3 : settleL kf 0 S4 (PW 4 (l.take (k + 1))) = settleL kf 0 S4 (PW 4 (l.take k)) := by rw [hse, if_neg (by rw [hkf]; simp only [getD_past (show keep.length ≤ k by omega)]; decide)]
                simp only [e3]
              refine hl_off rfl rfl rfl rfl rfl rfl <|
                hl_off rfl rfl rfl rfl rfl rfl <|
                hl_off rfl rfl rfl rfl rfl rfl <|
                hl_off rfl rfl rfl rfl rfl rfl <|
                hl_val (ov_pickF rfl rfl) rfl rfl rfl <|
                hl_nil <| ?_
              refine hx_then_normal <|
                hc_cond_false rfl <|
                hc_skip <| ?_
              exact hx_cut hK2 (()) (by repeat (first | exact Slots.sub_nil _ | refine Slots.sub_cons rfl ?_)) (by rw [hla, if_pos he, e4, hpw]; exact (by first | assumption | exact Ent.refl _ | exact Ent.nil _ | exact Ent.row_any (Ent.refl _) | (repeat (first | exact Ent.refl _ | exact Ent.nil _ | refine Ent.pick ?_))))
          · have he : ¬ modN x.2.1 4 = a := by omega
            have e4 : (settleL kf 0 S4 (PW 4 (l.take (k + 1))))[a]'(hatl _) = (settleL kf 0 S4 (PW 4 (l.take k)))[a]'(hatl _) := by
              simp only [hse]
              split
              · exact List.getElem_set_ne he _
              · rfl
            refine hc_skip <| ?_
            exact hx_cut hK2 (()) (by repeat (first | exact Slots.sub_nil _ | refine Slots.sub_cons rfl ?_)) (by rw [hla, if_neg he, e4, hpw]; exact (by first | assumption | exact Ent.refl _ | exact Ent.nil _ | exact Ent.row_any (Ent.refl _) | (repeat (first | exact Ent.refl _ | exact Ent.nil _ | refine Ent.pick ?_))))
        · refine hx_block_normal <|
            hx_then_normal <|
            hc_region <|
            hl_val (ov_move rfl) rfl rfl rfl <|
            hl_val (ov_add rfl rfl (by first | exact wrap_i64 (by omega) | rfl)) rfl rfl rfl <| ?_
          refine hl_val (ov_assign rfl) rfl rfl rfl <|
            hl_nil <| ?_
          refine hx_next hK1 (k + 1) (hlt) (by omega) (by repeat (first | exact Slots.sub_nil _ | refine Slots.sub_cons rfl ?_)) (by first | assumption | exact Ent.refl _ | exact Ent.nil _ | (repeat (first | exact Ent.refl _ | exact Ent.nil _ | refine Ent.pick ?_)))
      · have : k = l.length := by omega
        subst this
        rw [List.take_length]
        have hok := PW_ok 4 l S4 (by decide) hl4
        refine hc_exit <|
          hx_then_exit <|
          hx_then_exit <|
          hx_block_out <|
          hx_then_normal <|
          hc_seq <| ?_
        refine hc_region <|
          hl_val (ov_move rfl) rfl rfl rfl <|
          hl_val (ov_move rfl) rfl rfl rfl <| ?_
        refine hl_c Try.call17 rfl rfl (fun w1 H1 => Own.callp (dsk g S4 (PW 4 l)) H1 fun D' hold hin H2 => (Read_ok D' w1 g a S4 (PW 4 l) (by omega) H2).mono fun e w' ⟨he, H'⟩ => ⟨show e = Ending.returned (.tuple #[.agg (secC (lastW a (PW 4 l) zeroSec)).toArray, .int .i64 0]) by rw [he, hz4], H'⟩) ?_
        refine hl_val (ov_move rfl) rfl rfl rfl <|
          hl_val (ov_extract rfl rfl) rfl rfl rfl <|
          hl_val (ov_extract rfl rfl) rfl rfl rfl <|
          hl_new (on_alloc) rfl rfl rfl fun b14 =>  ?_
        refine hl_u0 (on_storeW (vs := secC (lastW a (PW 4 l) zeroSec)) rfl rfl (by simp) (by simp) (secC_one _)) rfl rfl ?_
        refine hl_val (ov_assign rfl) rfl rfl rfl <|
          hl_nil <|
          hx_then_normal <|
          hc_seq <|
          hc_region <|
          hl_val (ov_move rfl) rfl rfl rfl <| ?_
        refine hl_new (on_buildSliceN rfl rfl rfl) rfl rfl rfl (fun b97 => ?_)
        refine HL.ent (Ent.blk_row (b := b97) 1 0 rfl (by decide)) ?_
        refine hl_val (ov_move rfl) rfl rfl rfl <| ?_
        refine hl_new (on_appendR (A := some ⟨b97, 0, none⟩) (news := hs) rfl rfl (SrcIs.old HS) (by omega) hone (by decide) (by omega)) rfl rfl rfl ?_
        rintro ⟨C, capC⟩
        dsimp only
        refine hl_c Try.call18 rfl rfl (fun w1 H1 => Own.callp (dsk g S4 (PW 4 l)) H1 fun D' hold hin H2 => (Crash_spec D' w1 g S4 (PW 4 l) _ keep hok (hin _ fun h hs' ho => rep_row (A := C) hs' keep (Nat.zero_add _) (by rw [List.nil_append]; exact repL_of_old ho hrep)) H2).mono fun e w' ⟨he, H'⟩ => ⟨he, show Own D' w1 w' [dsk g (settleL kf 0 S4 (PW 4 l)) []] by rw [hkf]; exact H'⟩) ?_
        refine hl_nil <|
          hx_then_normal <|
          hc_seq <|
          hc_region <|
          hl_val (ov_move rfl) rfl rfl rfl <|
          hl_val (ov_move rfl) rfl rfl rfl <| ?_
        refine hl_c Try.call17 rfl rfl (fun w1 H1 => Own.callp (dsk g (settleL kf 0 S4 (PW 4 l)) []) H1 fun D' hold hin H2 => Read_ok D' w1 g a (settleL kf 0 S4 (PW 4 l)) [] (hatl _) H2) ?_
        refine hl_val (ov_move rfl) rfl rfl rfl <|
          hl_val (ov_extract rfl rfl) rfl rfl rfl <|
          hl_val (ov_extract rfl rfl) rfl rfl rfl <|
          hl_new (on_alloc) rfl rfl rfl fun b16 =>  ?_
        refine hl_u0 (on_storeW (vs := secC ((settleL kf 0 S4 (PW 4 l))[a]'(hatl _))) rfl rfl (by simp) (by simp) (secC_one _)) rfl rfl ?_
        refine hl_val (ov_assign rfl) rfl rfl rfl <|
          hl_nil <|
          hx_then_normal <|
          hc_seq <|
          hc_region <|
          hl_val (ov_move rfl) rfl rfl rfl <| ?_
        refine hl_val (ov_eql rfl rfl) rfl rfl rfl <|
          hl_val (ov_move rfl) rfl rfl rfl <| ?_
        refine hl_partT (t := 109) rfl (rfl) ?_
        refine hl_on rfl rfl <| hl_val (ov_move rfl) rfl rfl rfl <|
          hl_on rfl rfl <| hl_val (ov_eql rfl rfl) rfl rfl rfl <|
          hl_val (ov_pickT rfl rfl) rfl rfl rfl <|
          hl_val (ov_move rfl) rfl rfl rfl <| ?_
        refine hl_partT (t := 113) rfl (rfl) ?_
        refine hl_on rfl rfl <| hl_val (by first | exact ov_loadW rfl (by simp; done) | exact ov_loadGB rfl rfl) rfl rfl rfl <| ?_
        refine hl_on rfl rfl <| hl_val (by first | exact ov_loadW rfl (by simp; done) | exact ov_loadGB rfl rfl) rfl rfl rfl <| ?_
        refine hl_on rfl rfl <| hl_val (ov_eqlSec rfl rfl) rfl rfl rfl ?_
        refine hl_val (ov_pickT rfl rfl) rfl rfl rfl <|
          hl_val (ov_move rfl) rfl rfl rfl <| ?_
        refine hl_partT (t := 118) rfl (rfl) ?_
        refine hl_on rfl rfl <| hl_val (by first | exact ov_loadW rfl (by simp; done) | exact ov_loadGB rfl rfl) rfl rfl rfl <| ?_
        refine hl_on rfl rfl <| hl_val (by first | exact ov_loadW rfl (by simp; done) | exact ov_loadGB rfl rfl) rfl rfl rfl <| ?_
        refine hl_on rfl rfl <| hl_val (ov_eqlSec rfl rfl) rfl rfl rfl ?_
        refine hl_val (ov_pickT rfl rfl) rfl rfl rfl <|
          hl_val (ov_move rfl) rfl rfl rfl <| ?_
        refine hl_partT (t := 123) rfl (rfl) ?_
        refine hl_on rfl rfl <| hl_c Try.call13 rfl rfl (fun w1 H1 => Own.calln H1 fun D' hold hin H2 => wakes_spec D' w1) ?_
        refine hl_val (ov_pickT rfl rfl) rfl rfl rfl <|
          hl_val (ov_assign rfl) rfl rfl rfl <|
          hl_nil <|
          hx_then_normal <|
          hc_ret <| ?_
        exact results_1 (.inr rfl) rfl rfl fun w' H' => ⟨rfl, H'.ent (Ent.nil _)⟩
end Go.Proofs.Ytnnhopjnpplfcaa
