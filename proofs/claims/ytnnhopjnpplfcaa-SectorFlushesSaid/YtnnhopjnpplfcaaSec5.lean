import Derived.Test.YtnnhopjnpplfcaaSec4
set_option linter.unusedVariables false
set_option linter.unusedSimpArgs false
namespace Go.Proofs.Ytnnhopjnpplfcaa
open Slk
abbrev PL := List (Nat × Sec)
def isIn (S : List Sec) (i : Int) : Prop := 0 ≤ i ∧ i < S.length
instance (S : List Sec) (i : Int) : Decidable (isIn S i) := inferInstanceAs (Decidable (0 ≤ i ∧ i < S.length))
def wrE (S : List Sec) (i : Int) : Int := if isIn S i then 0 else 1
def wrP (S : List Sec) (P : PL) (i : Int) (s : Sec) : PL := if isIn S i then P ++ [(i.toNat, s)] else P
def rdS (S : List Sec) (P : PL) (i : Int) : Sec := if h : isIn S i then lastW i.toNat P (S[i.toNat]'(by have := h.1; have := h.2; omega)) else zeroSec
def okP (S : List Sec) (P : PL) : Prop := ∀ p ∈ P, p.1 < S.length
theorem okP_wr {S : List Sec} {P : PL} (h : okP S P) (i : Int) (s : Sec) : okP S (wrP S P i s) := by
  unfold wrP
  split
  · rename_i hi
    intro p hp
    rcases List.mem_append.1 hp with h1 | h1
    · exact h p h1
    · simp only [List.mem_singleton] at h1
      subst h1
      have := hi.1; have := hi.2
      show i.toNat < S.length
      omega
  · exact h
theorem wrP_len (S : List Sec) (P : PL) (i : Int) (s : Sec) : (wrP S P i s).length ≤ P.length + 1 := by
  unfold wrP; split <;> simp
theorem Write_any (D : Nat → Prop) (w : World) (g : Nat) (i : Int) (s : Sec) (S : List Sec) (P : PL) (hP : P.length ≤ 1000000) (H : Own D w w [dsk g S P]) :
    Calls Try.prog 15 #[.pointer (some ⟨g, 0, none⟩), .int .i64 i, .agg (secC s).toArray] w fun e w' => e = .returned (.int .i64 (wrE S i)) ∧ Own D w w' [dsk g S (wrP S P i s)] := by
  unfold wrE wrP
  by_cases h : isIn S i
  · rw [if_pos h, if_pos h]
    obtain ⟨j, rfl⟩ : ∃ j : Nat, i = j := ⟨i.toNat, by have := h.1; omega⟩
    exact Write_ok D w g j s S P (by have := h.2; omega) hP H
  · rw [if_neg h, if_neg h]
    exact Write_no D w g i s S P h H
theorem RWrite_any (D : Nat → Prop) (w : World) (g : Nat) (i : Int) (s : Sec) (S : List Sec) (P : PL) (hP : P.length ≤ 1000000) (H : Own D w w [rdsk g S P]) :
    Calls Try.prog 20 #[.pointer (some ⟨g, 0, none⟩), .int .i64 i, .agg (secC s).toArray] w fun e w' => e = .returned (.int .i64 (wrE S i)) ∧ Own D w w' [rdsk g S (wrP S P i s)] := by
  unfold wrE wrP
  by_cases h : isIn S i
  · rw [if_pos h, if_pos h]
    obtain ⟨j, rfl⟩ : ∃ j : Nat, i = j := ⟨i.toNat, by have := h.1; omega⟩
    exact RWrite_ok D w g j s S P (by have := h.2; omega) hP H
  · rw [if_neg h, if_neg h]
    exact RWrite_no D w g i s S P h H
theorem Read_any (D : Nat → Prop) (w : World) (g : Nat) (i : Int) (S : List Sec) (P : PL) (H : Own D w w [dsk g S P]) :
    Calls Try.prog 17 #[.pointer (some ⟨g, 0, none⟩), .int .i64 i] w fun e w' => e = .returned (.tuple #[.agg (secC (rdS S P i)).toArray, .int .i64 (wrE S i)]) ∧ Own D w w' [dsk g S P] := by
  unfold wrE rdS
  by_cases h : isIn S i
  · rw [if_pos h, dif_pos h]
    obtain ⟨j, rfl⟩ : ∃ j : Nat, i = j := ⟨i.toNat, by have := h.1; omega⟩
    exact Read_ok D w g j S P (by have := h.2; omega) H
  · rw [if_neg h, dif_neg h]
    exact Read_no D w g i S P h H
theorem RRead_any (D : Nat → Prop) (w : World) (g : Nat) (i : Int) (S : List Sec) (P : PL) (H : Own D w w [rdsk g S P]) :
    Calls Try.prog 21 #[.pointer (some ⟨g, 0, none⟩), .int .i64 i] w fun e w' => e = .returned (.tuple #[.agg (secC (rdS S P i)).toArray, .int .i64 (wrE S i)]) ∧ Own D w w' [rdsk g S P] := by
  unfold wrE rdS
  by_cases h : isIn S i
  · rw [if_pos h, dif_pos h]
    obtain ⟨j, rfl⟩ : ∃ j : Nat, i = j := ⟨i.toNat, by have := h.1; omega⟩
    exact RRead_ok D w g j S P (by have := h.2; omega) H
  · rw [if_neg h, dif_neg h]
    exact RRead_no D w g i S P h H
theorem SectorPlays_walk (W : World) (v0 v1 : Value) (n : Int) (l : List Step) (h0 : Old none' W (Rep.rep n [v0])) (h1 : Old none' W (Rep.rep l [v1])) :
    Calls Try.prog 4 #[v0, v1] W fun e w' => e = .returned (.bool true) ∧ Own none' W w' [] := by
  obtain ⟨e0, hn⟩ := h0.pure
  simp only [List.cons.injEq, and_true] at e0
  subst e0
  obtain ⟨A, cap, rfl, hc1, hc2, hel⟩ := h1.openX (by decide)
  refine hc_enter (vs := [.int .i64 n, .slice A l.length cap]) Try.func4 rfl _ Try.ntmps4 rfl (Own.start none' W) ?_
  simp only [argSlots, Nat.zero_add]
  refine hc_seq <|
    hc_region <|
    hl_val (ov_assign rfl) rfl rfl rfl <|
    hl_nil <|
    hx_then_normal <|
    hc_seq <| ?_
  refine hc_seq <|
    hc_region <|
    hl_val (ov_move rfl) rfl rfl rfl <| ?_
  refine hl_call (σ := { b : Bool // b = true → fairP l }) Try.call12 rfl rfl (fun w1 H1 => Own.callx0 H1 fun D' hold hin H2 => fair_spec D' w1 _ l (hold _ h1)) ?_
  rintro ⟨bv, hbv⟩
  try rw [List.nil_append]
  cases bv
  · skip
    refine hl_val (ov_not rfl) rfl rfl rfl <|
      hl_nil <|
      hx_then_normal <|
      hc_cond_true rfl <|
      hc_seq <|
      hc_region <| ?_
    refine hl_c Try.call13 rfl rfl (fun w1 H1 => Own.calln H1 fun D' hold hin H2 => wakes_spec D' w1) ?_
    refine hl_val (ov_assign rfl) rfl rfl rfl <|
      hl_nil <|
      hx_then_normal <|
      hc_ret <|
      hx_then_ret <| ?_
    exact results_1 (.inr rfl) rfl rfl fun w' H' => ⟨rfl, H'.ent (Ent.nil _)⟩
  · skip
    have hfair := hbv rfl
    have hl200 := hfair.1
    by_cases hr : 1 ≤ n ∧ n ≤ 4096
    · obtain ⟨m, rfl⟩ : ∃ m : Nat, n = m := ⟨n.toNat, by omega⟩
      have hz : (List.replicate m zeroSec).length = m := List.length_replicate
      generalize hS0 : List.replicate m zeroSec = S0 at *
      refine hl_val (ov_not rfl) rfl rfl rfl <|
        hl_nil <|
        hx_then_normal <|
        hc_cond_false rfl <|
        hc_skip <|
        hx_then_normal <| ?_
      refine hc_seq <|
        hc_region <|
        hl_val (ov_move rfl) rfl rfl rfl <| ?_
      refine hl_call (σ := Nat) Try.call11 rfl rfl (fun w1 H1 => Own.callx0 H1 fun D' hold hin H2 => (New_ok D' w1 m (by omega) (by omega)).mono fun e w' ⟨g, he, H'⟩ => ⟨g, he, show Own D' w1 w' [dsk g S0 []] by rw [← hS0]; exact H'⟩) ?_
      intro g
      try rw [List.nil_append]
      refine hl_val (ov_move rfl) rfl rfl rfl <|
        hl_val (ov_extract rfl rfl) rfl rfl rfl <|
        hl_val (ov_extract rfl rfl) rfl rfl rfl <|
        hl_val (ov_assign rfl) rfl rfl rfl <|
        hl_val (ov_assign rfl) rfl rfl rfl <|
        hl_nil <| ?_
      refine hx_then_normal <|
        hc_seq <|
        hc_region <|
        hl_val (ov_move rfl) rfl rfl rfl <| ?_
      refine hl_call (σ := Nat) Try.call19 rfl rfl (fun w1 H1 => Own.callx0 H1 fun D' hold hin H2 => (RNew_ok D' w1 m (by omega) (by omega)).mono fun e w' ⟨g, he, H'⟩ => ⟨g, he, show Own D' w1 w' [rdsk g S0 []] by rw [← hS0]; exact H'⟩) ?_
      intro q
      try rw [List.nil_append]
      refine hl_val (ov_move rfl) rfl rfl rfl <|
        hl_val (ov_extract rfl rfl) rfl rfl rfl <|
        hl_val (ov_extract rfl rfl) rfl rfl rfl <|
        hl_val (ov_assign rfl) rfl rfl rfl <|
        hl_val (ov_assign rfl) rfl rfl rfl <|
        hl_nil <| ?_
      refine hx_then_normal <|
        hc_seq <|
        hc_seq <|
        hc_region <|
        hl_val (ov_move rfl) rfl rfl rfl <|
        hl_val (ov_move rfl) rfl rfl rfl <| ?_
      refine hl_val (ov_neq rfl rfl) rfl rfl rfl <|
        hl_val (ov_move rfl) rfl rfl rfl <| ?_
      refine hl_partF (t := 37) rfl (by omega) ?_
      refine hl_on rfl rfl <| hl_val (ov_move rfl) rfl rfl rfl <|
        hl_on rfl rfl <| hl_val (ov_eqlP rfl rfl) rfl rfl rfl <|
        hl_on rfl rfl <| hl_val (ov_move rfl) rfl rfl rfl <|
        hl_on rfl rfl <| hl_val (ov_eqlP rfl rfl) rfl rfl rfl <|
        hl_on rfl rfl <| hl_val (ov_neqB rfl rfl) rfl rfl rfl <|
        hl_val (ov_pickF rfl rfl) rfl rfl rfl <| ?_
      refine hl_nil <|
        hx_then_normal <| ?_
      refine hc_cond_F rfl (by simp) ?_
      refine hc_skip <|
        hx_then_normal <|
        hc_seq <|
        hc_seq <|
        hc_region <|
        hl_val (ov_assign rfl) rfl rfl rfl <| ?_
      refine hl_nil <|
        hx_then_normal <|
        hc_block <| ?_
      refine hc_loopK1 (σ := Nat × List Sec × PL) [1, 5, 7] rfl 9 (fun s => .int .i64 s.1) (fun s => [dsk g s.2.1 s.2.2, rdsk q s.2.1 s.2.2]) (fun s => s.1 ≤ l.length ∧ s.2.1.length = m ∧ okP s.2.1 s.2.2 ∧ s.2.2.length ≤ s.1) (fun s => l.length - s.1) ((0, S0, [])) (⟨Nat.zero_le _, hz, (fun p hp => by cases hp), Nat.zero_le _⟩) rfl (by first | assumption | exact Ent.refl _ | exact Ent.nil _ | (repeat (first | exact Ent.refl _ | exact Ent.nil _ | refine Ent.pick ?_))) ?_
      rintro ⟨i, S, P⟩ hj_ K1 hK1
      dsimp only at hj_ ⊢
      obtain ⟨hi, hSm, hok, hPl⟩ := hj_
      refine hc_seq <|
        hc_seq <|
        hc_region <|
        hl_val (ov_move rfl) rfl rfl rfl <|
        hl_val (ov_move rfl) rfl rfl rfl <|
        hl_val (by first | exact ov_len rfl | exact ov_lenS rfl) rfl rfl rfl <| ?_
      refine hl_val (ov_lss rfl rfl) rfl rfl rfl <|
        hl_val (ov_move rfl) rfl rfl rfl <| ?_
      refine hl_part (t := 48) rfl (fun hlt => ?_) (fun hlt => ?_)
      · have hlt : i < l.length := by omega
        refine hl_on rfl rfl <| hl_val (ov_move rfl) rfl rfl rfl <|
          hl_on rfl rfl <| hl_val (ov_neqP rfl rfl) rfl rfl rfl <|
          hl_val (ov_pickT rfl rfl) rfl rfl rfl <|
          hl_nil <|
          hx_then_normal <| ?_
        refine hc_cond_true rfl ?_
        obtain ⟨hA, cs, hx, hcs⟩ := hel i hlt
        obtain ⟨B, capB, rfl, hx1, hx2, hx3, hk⟩ := step_open hx
        rw [show Rep.sz Step = 5 from rfl] at hcs
        have hk500 := hfair.2 _ (List.getElem_mem hlt)
        generalize l[i] = x at *
        refine hc_skip <|
          hx_then_normal <|
          hc_seq <|
          hc_block <|
          hc_seq <|
          hc_region <| ?_
        refine hl_val (ov_move rfl) rfl rfl rfl <|
          hl_val (ov_move rfl) rfl rfl rfl <|
          hl_val (ov_idxS rfl (by assumption) rfl _ rfl (by omega)) rfl rfl rfl <| ?_
        refine hl_val (ov_loadG (cs := [.int .i64 x.1, .int .i64 x.2.1, .int .i64 x.2.2.1, .int .u8 x.2.2.2.1.toNat, .slice B x.2.2.2.2.length capB]) rfl rfl (fun w H m v hv => hcs m v hv _ w H)) rfl rfl rfl ?_
        refine hl_new (on_alloc) rfl rfl rfl fun b10 => 
          hl_u0 (on_storeGN rfl rfl rfl rfl rfl rfl) rfl rfl <|
          hl_nil <|
          hx_then_normal <|
          hc_seq <|
          hc_seq <| ?_
        refine hc_region <|
          hl_val (ov_fieldA rfl) rfl rfl rfl <|
          hl_val (ov_load rfl (CellIs.blk rfl)) rfl rfl rfl <|
          hl_nil <|
          hx_then_normal <|
          hc_block <| ?_
        refine hc_seq <|
          hc_region <|
          hl_val (ov_eql rfl rfl) rfl rfl rfl <|
          hl_val (ov_assign rfl) rfl rfl rfl <|
          hl_nil <|
          hx_then_normal <| ?_
        refine hc_cutK0 (σ := List Sec × PL) [1, 5, 7, 9] rfl  (fun s => [pureP (s.1.length = m ∧ okP s.1 s.2 ∧ s.2.length ≤ i + 1), dsk g s.1 s.2, rdsk q s.1 s.2]) (fun K2 hK2 => ?_) (fun s => ?_)
        · refine hc_cond rfl (fun k0 => ?_) (fun k0 => ?_)
          · refine hc_seq <| ?_
            refine hc_any [blk b10 33 [.int .i64 x.1, .int .i64 x.2.1, .int .i64 x.2.2.1, .int .u8 x.2.2.2.1.toNat, .slice B x.2.2.2.2.length capB]] mixed 13 rfl ?_
            refine ha_take 0 rfl (ov_move rfl) rfl rfl rfl (by kernel_rfl) (by kernel_rfl) (by kernel_rfl) (by first | assumption | exact Ent.refl _ | exact Ent.nil _ | (repeat (first | exact Ent.refl _ | exact Ent.nil _ | refine Ent.pick ?_))) <| ?_
            refine ha_take 1 rfl (ov_fieldA rfl) rfl rfl rfl (by kernel_rfl) (by kernel_rfl) (by kernel_rfl) (by first | assumption | exact Ent.refl _ | exact Ent.nil _ | (repeat (first | exact Ent.refl _ | exact Ent.nil _ | refine Ent.pick ?_))) <| ?_
            refine ha_take 2 rfl (ov_load rfl (CellIs.blk rfl)) rfl rfl rfl (by kernel_rfl) (by kernel_rfl) (by kernel_rfl) (by first | assumption | exact Ent.refl _ | exact Ent.nil _ | (repeat (first | exact Ent.refl _ | exact Ent.nil _ | refine Ent.pick ?_))) <| ?_
            refine ha_take 3 rfl (by first | exact ov_loadW rfl (by simp; done) | exact ov_loadGB rfl rfl) rfl rfl rfl (by kernel_rfl) (by kernel_rfl) (by kernel_rfl) (by first | assumption | exact Ent.refl _ | exact Ent.nil _ | (repeat (first | exact Ent.refl _ | exact Ent.nil _ | refine Ent.pick ?_))) <| ?_
            refine ha_take 6 rfl (ov_move rfl) rfl rfl rfl (by kernel_rfl) (by kernel_rfl) (by kernel_rfl) (by first | assumption | exact Ent.refl _ | exact Ent.nil _ | (repeat (first | exact Ent.refl _ | exact Ent.nil _ | refine Ent.pick ?_))) <| ?_
            refine ha_take 7 rfl (ov_fieldA rfl) rfl rfl rfl (by kernel_rfl) (by kernel_rfl) (by kernel_rfl) (by first | assumption | exact Ent.refl _ | exact Ent.nil _ | (repeat (first | exact Ent.refl _ | exact Ent.nil _ | refine Ent.pick ?_))) <| ?_
            refine ha_take 8 rfl (ov_load rfl (CellIs.blk rfl)) rfl rfl rfl (by kernel_rfl) (by kernel_rfl) (by kernel_rfl) (by first | assumption | exact Ent.refl _ | exact Ent.nil _ | (repeat (first | exact Ent.refl _ | exact Ent.nil _ | refine Ent.pick ?_))) <| ?_
            refine ha_take 9 rfl (by first | exact ov_loadW rfl (by simp; done) | exact ov_loadGB rfl rfl) rfl rfl rfl (by kernel_rfl) (by kernel_rfl) (by kernel_rfl) (by first | assumption | exact Ent.refl _ | exact Ent.nil _ | (repeat (first | exact Ent.refl _ | exact Ent.nil _ | refine Ent.pick ?_))) <| ?_
            refine ha_one 4 (by kernel_rfl) <| ?_
            refine ho_c rfl Try.call16 rfl rfl rfl (fun w1 H1 => Own.calln H1 fun D' hold hin H2 => sector_spec D' w1 x _ rfl hx3) (by first | assumption | exact Ent.refl _ | exact Ent.nil _ | (repeat (first | exact Ent.refl _ | exact Ent.nil _ | refine Ent.pick ?_))) ?_
            refine ha_one 5 (by kernel_rfl) <| ?_
            refine ho_c rfl Try.call15 rfl rfl rfl (fun w1 H1 => Own.callp (dsk g S P) H1 fun D' hold hin H2 => Write_any D' w1 g x.2.1 (stepSec x) S P (by omega) H2) (by first | assumption | exact Ent.refl _ | exact Ent.nil _ | (repeat (first | exact Ent.refl _ | exact Ent.nil _ | refine Ent.pick ?_))) ?_
            refine ha_one 10 (by kernel_rfl) <| ?_
            refine ho_c rfl Try.call16 rfl rfl rfl (fun w1 H1 => Own.calln H1 fun D' hold hin H2 => sector_spec D' w1 x _ rfl hx3) (by first | assumption | exact Ent.refl _ | exact Ent.nil _ | (repeat (first | exact Ent.refl _ | exact Ent.nil _ | refine Ent.pick ?_))) ?_
            refine ha_one 11 (by kernel_rfl) <| ?_
            refine ho_c rfl Try.call20 rfl rfl rfl (fun w1 H1 => Own.callp (rdsk q S P) H1 fun D' hold hin H2 => RWrite_any D' w1 q x.2.1 (stepSec x) S P (by omega) H2) (by first | assumption | exact Ent.refl _ | exact Ent.nil _ | (repeat (first | exact Ent.refl _ | exact Ent.nil _ | refine Ent.pick ?_))) ?_
            refine ha_take 12 rfl (ov_neq rfl rfl) rfl rfl rfl (by kernel_rfl) (by kernel_rfl) (by kernel_rfl) (by first | assumption | exact Ent.refl _ | exact Ent.nil _ | (repeat (first | exact Ent.refl _ | exact Ent.nil _ | refine Ent.pick ?_))) <| ?_
            refine ha_done (by kernel_rfl) <|
              hx_then_normal <| ?_
            refine hc_cond_F rfl (fun h => h rfl) ?_
            refine hc_skip <| ?_
            exact hx_cut hK2 ((S, wrP S P x.2.1 (stepSec x))) (by repeat (first | exact Slots.sub_nil _ | refine Slots.sub_cons rfl ?_)) (Ent.pure_cons ⟨hSm, okP_wr hok _ _, by have := wrP_len S P x.2.1 (stepSec x); dsimp only; omega⟩ (by first | assumption | exact Ent.refl _ | exact Ent.nil _ | exact Ent.row_any (Ent.refl _) | (repeat (first | exact Ent.refl _ | exact Ent.nil _ | refine Ent.pick ?_))))
          · refine hc_seq <|
              hc_region <|
              hl_val (ov_eql rfl rfl) rfl rfl rfl <|
              hl_val (ov_assign rfl) rfl rfl rfl <|
              hl_nil <|
              hx_then_normal <| ?_
            refine hc_cond rfl (fun k1 => ?_) (fun k1 => ?_)
            · refine hc_seq <|
                hc_region <|
                hl_val (ov_move rfl) rfl rfl rfl <|
                hl_val (ov_fieldA rfl) rfl rfl rfl <|
                hl_val (ov_load rfl (CellIs.blk rfl)) rfl rfl rfl <| ?_
              refine hl_c Try.call17 rfl rfl (fun w1 H1 => Own.callp (dsk g S P) H1 fun D' hold hin H2 => Read_any D' w1 g x.2.1 S P H2) ?_
              refine hl_val (ov_move rfl) rfl rfl rfl <|
                hl_val (ov_extract rfl rfl) rfl rfl rfl <|
                hl_val (ov_extract rfl rfl) rfl rfl rfl <|
                hl_new (on_alloc) rfl rfl rfl fun b11 =>  ?_
              refine hl_u0 (on_storeW (vs := secC (rdS S P x.2.1)) rfl rfl (by simp) (by simp) (secC_one _)) rfl rfl ?_
              refine hl_val (ov_assign rfl) rfl rfl rfl <|
                hl_nil <|
                hx_then_normal <|
                hc_seq <|
                hc_region <|
                hl_val (ov_move rfl) rfl rfl rfl <| ?_
              refine hl_val (ov_fieldA rfl) rfl rfl rfl <|
                hl_val (ov_load rfl (CellIs.blk rfl)) rfl rfl rfl <| ?_
              refine hl_c Try.call21 rfl rfl (fun w1 H1 => Own.callp (rdsk q S P) H1 fun D' hold hin H2 => RRead_any D' w1 q x.2.1 S P H2) ?_
              refine hl_val (ov_move rfl) rfl rfl rfl <|
                hl_val (ov_extract rfl rfl) rfl rfl rfl <|
                hl_val (ov_extract rfl rfl) rfl rfl rfl <|
                hl_new (on_alloc) rfl rfl rfl fun b13 =>  ?_
              refine hl_u0 (on_storeW (vs := secC (rdS S P x.2.1)) rfl rfl (by simp) (by simp) (secC_one _)) rfl rfl ?_
              refine hl_val (ov_assign rfl) rfl rfl rfl <|
                hl_nil <|
                hx_then_normal <|
                hc_seq <|
                hc_region <|
                hl_val (by first | exact ov_loadW rfl (by simp; done) | exact ov_loadGB rfl rfl) rfl rfl rfl <| ?_
              refine hl_val (by first | exact ov_loadW rfl (by simp; done) | exact ov_loadGB rfl rfl) rfl rfl rfl <| ?_
              refine hl_val (ov_neqSec rfl rfl) rfl rfl rfl ?_
              refine hl_val (ov_move rfl) rfl rfl rfl <| ?_
              refine hl_partF (t := 94) rfl (fun h => h rfl) ?_
              refine hl_on rfl rfl <| hl_val (ov_move rfl) rfl rfl rfl <|
                hl_on rfl rfl <| hl_val (ov_move rfl) rfl rfl rfl <|
                hl_on rfl rfl <| hl_val (ov_neq rfl rfl) rfl rfl rfl <|
                hl_val (ov_pickF rfl rfl) rfl rfl rfl <|
                hl_nil <|
                hx_then_normal <| ?_
              refine hc_cond_F rfl (fun h => h rfl) ?_
              refine hc_skip <| ?_
              exact hx_cut hK2 ((S, P)) (by repeat (first | exact Slots.sub_nil _ | refine Slots.sub_cons rfl ?_)) (Ent.pure_cons ⟨hSm, hok, by dsimp only; omega⟩ (by first | assumption | exact Ent.refl _ | exact Ent.nil _ | exact Ent.row_any (Ent.refl _) | (repeat (first | exact Ent.refl _ | exact Ent.nil _ | refine Ent.pick ?_))))
            · refine hc_seq <|
                hc_region <|
                hl_val (ov_eql rfl rfl) rfl rfl rfl <|
                hl_val (ov_assign rfl) rfl rfl rfl <|
                hl_nil <|
                hx_then_normal <| ?_
              refine hc_cond rfl (fun k2 => ?_) (fun k2 => ?_)
              · refine hc_seq <|
                  hc_seq <|
                  hc_region <|
                  hl_val (ov_move rfl) rfl rfl rfl <| ?_
                refine hl_c Try.call22 rfl rfl (fun w1 H1 => Own.callp (dsk g S P) H1 fun D' hold hin H2 => Flush_spec D' w1 g S P hok H2) ?_
                refine hl_val (ov_neq rfl rfl) rfl rfl rfl <|
                  hl_nil <|
                  hx_then_normal <| ?_
                refine hc_cond_F rfl (by omega) ?_
                refine hc_skip <|
                  hx_then_normal <|
                  hc_region <|
                  hl_val (ov_move rfl) rfl rfl rfl <| ?_
                refine hl_c Try.call23 rfl rfl (fun w1 H1 => Own.callp (rdsk q S P) H1 fun D' hold hin H2 => RFlush_spec D' w1 q S P hok H2) ?_
                refine hl_nil <| ?_
                exact hx_cut hK2 ((settleL (fun _ => true) 0 S P, [])) (by repeat (first | exact Slots.sub_nil _ | refine Slots.sub_cons rfl ?_)) (Ent.pure_cons ⟨by dsimp only; rw [settleL_len]; exact hSm, fun p hp => by (cases hp), by simp⟩ (by first | assumption | exact Ent.refl _ | exact Ent.nil _ | exact Ent.row_any (Ent.refl _) | (repeat (first | exact Ent.refl _ | exact Ent.nil _ | refine Ent.pick ?_))))
              · refine hc_seq <|
                  hc_region <|
                  hl_val (ov_eql rfl rfl) rfl rfl rfl <|
                  hl_val (ov_assign rfl) rfl rfl rfl <|
                  hl_nil <|
                  hx_then_normal <| ?_
                refine hc_cond rfl (fun k3 => ?_) (fun k3 => ?_)
                · obtain ⟨B', capB', hs, eB, hb1, hb2, HS, hsl, hone, hrep, _⟩ := hk.openES rfl
                  simp only [Value.slice.injEq] at eB
                  obtain ⟨rfl, _, rfl⟩ := eB
                  refine hc_seq <|
                    hc_region <|
                    hl_val (ov_move rfl) rfl rfl rfl <|
                    hl_new (on_buildSliceN rfl rfl rfl) rfl rfl rfl fun b109 =>  ?_
                  refine HL.ent (Ent.blk_row (b := b109) 1 0 rfl (by decide)) ?_
                  refine hl_val (ov_fieldA rfl) rfl rfl rfl <|
                    hl_val (ov_load rfl (CellIs.blk rfl)) rfl rfl rfl <| ?_
                  refine hl_new (on_appendR (A := some ⟨b109, 0, none⟩) (news := hs) rfl rfl (SrcIs.old HS) (by omega) hone (by decide) (by omega)) rfl rfl rfl ?_
                  rintro ⟨C, capC⟩
                  dsimp only
                  refine hl_c Try.call18 rfl rfl (fun w1 H1 => Own.callp (dsk g S P) H1 fun D' hold hin H2 => Crash_spec D' w1 g S P _ x.2.2.2.2 hok (hin _ fun h hs' ho => rep_row (A := C) hs' x.2.2.2.2 (Nat.zero_add _) (by rw [List.nil_append]; exact repL_of_old ho hrep)) H2) ?_
                  refine hl_nil <|
                    hx_then_normal <|
                    hc_region <|
                    hl_val (ov_move rfl) rfl rfl rfl <|
                    hl_val (ov_fieldA rfl) rfl rfl rfl <|
                    hl_val (ov_load rfl (CellIs.blk rfl)) rfl rfl rfl <| ?_
                  refine hl_c Try.call24 rfl rfl (fun w1 H1 => Own.callp (rdsk q S P) H1 fun D' hold hin H2 => RCrash_spec D' w1 q S P _ x.2.2.2.2 hok (hold _ hk) H2) ?_
                  refine hl_nil <| ?_
                  exact hx_cut hK2 ((settleL (fun k => x.2.2.2.2.getD k false) 0 S P, [])) (by repeat (first | exact Slots.sub_nil _ | refine Slots.sub_cons rfl ?_)) (Ent.pure_cons ⟨by dsimp only; rw [settleL_len]; exact hSm, fun p hp => by (cases hp), by simp⟩ (by first | assumption | exact Ent.refl _ | exact Ent.nil _ | exact Ent.row_any (Ent.refl _) | (repeat (first | exact Ent.refl _ | exact Ent.nil _ | refine Ent.pick ?_))))
                · refine hc_skip <| ?_
                  exact hx_cut hK2 ((S, P)) (by repeat (first | exact Slots.sub_nil _ | refine Slots.sub_cons rfl ?_)) (Ent.pure_cons ⟨hSm, hok, by dsimp only; omega⟩ (by first | assumption | exact Ent.refl _ | exact Ent.nil _ | exact Ent.row_any (Ent.refl _) | (repeat (first | exact Ent.refl _ | exact Ent.nil _ | refine Ent.pick ?_))))
        · obtain ⟨S', P'⟩ := s
          refine HX.pure fun ⟨hSm', hok', hPl'⟩ => ?_
          dsimp only at hSm' hok' hPl' ⊢
          refine hx_block_normal <|
            hx_then_normal <|
            hc_seq <| ?_
          refine HC.ent (Ent.pick (A := rdsk q S' P') (Ent.refl _)) ?_
          refine HC.exs ?_
          rintro ⟨⟨A0, c0⟩, A1, c1⟩
          refine HC.ent (l' := [dsk g S' P', blk q 52 [.slice A0 S'.length c0, .slice A1 P'.length c1], row A0 30 64 S'.length c0 (S'.flatMap secC), row A1 80 65 P'.length c1 (P'.flatMap latC)]) (show Ent [blk q 52 [.slice A0 S'.length c0, .slice A1 P'.length c1], row A0 30 64 S'.length c0 (S'.flatMap secC), row A1 80 65 P'.length c1 (P'.flatMap latC), dsk g S' P'] _ from (by first | assumption | exact Ent.refl _ | exact Ent.nil _ | exact Ent.row_any (Ent.refl _) | (repeat (first | exact Ent.refl _ | exact Ent.nil _ | refine Ent.pick ?_)))) ?_
          refine hc_any [dsk g S' P', blk q 52 [.slice A0 S'.length c0, .slice A1 P'.length c1], row A0 30 64 S'.length c0 (S'.flatMap secC), row A1 80 65 P'.length c1 (P'.flatMap latC)] mixed 18 rfl ?_
          refine ha_take 0 rfl (ov_move rfl) rfl rfl rfl (by kernel_rfl) (by kernel_rfl) (by kernel_rfl) (by first | assumption | exact Ent.refl _ | exact Ent.nil _ | (repeat (first | exact Ent.refl _ | exact Ent.nil _ | refine Ent.pick ?_))) <| ?_
          refine ha_take 2 rfl (ov_move rfl) rfl rfl rfl (by kernel_rfl) (by kernel_rfl) (by kernel_rfl) (by first | assumption | exact Ent.refl _ | exact Ent.nil _ | (repeat (first | exact Ent.refl _ | exact Ent.nil _ | refine Ent.pick ?_))) <| ?_
          refine ha_take 3 rfl (ov_nil rfl) rfl rfl rfl (by kernel_rfl) (by kernel_rfl) (by kernel_rfl) (by first | assumption | exact Ent.refl _ | exact Ent.nil _ | (repeat (first | exact Ent.refl _ | exact Ent.nil _ | refine Ent.pick ?_))) <| ?_
          refine ha_take 4 rfl (ov_fieldA rfl) rfl rfl rfl (by kernel_rfl) (by kernel_rfl) (by kernel_rfl) (by first | assumption | exact Ent.refl _ | exact Ent.nil _ | (repeat (first | exact Ent.refl _ | exact Ent.nil _ | refine Ent.pick ?_))) <| ?_
          refine ha_take 5 rfl (ov_load rfl (CellIs.blk rfl)) rfl rfl rfl (by kernel_rfl) (by kernel_rfl) (by kernel_rfl) (by first | assumption | exact Ent.refl _ | exact Ent.nil _ | (repeat (first | exact Ent.refl _ | exact Ent.nil _ | refine Ent.pick ?_))) <| ?_
          refine ha_take 6 rfl (by first | exact ov_len rfl | exact ov_lenS rfl) rfl rfl rfl (by kernel_rfl) (by kernel_rfl) (by kernel_rfl) (by first | assumption | exact Ent.refl _ | exact Ent.nil _ | (repeat (first | exact Ent.refl _ | exact Ent.nil _ | refine Ent.pick ?_))) <| ?_
          refine ha_one 1 (by kernel_rfl) <| ?_
          refine ho_c rfl Try.call25 rfl rfl rfl (fun w1 H1 => Own.callp (dsk g S' P') H1 fun D' hold hin H2 => Pending_spec D' w1 g S' P' H2) (by first | assumption | exact Ent.refl _ | exact Ent.nil _ | (repeat (first | exact Ent.refl _ | exact Ent.nil _ | refine Ent.pick ?_))) ?_
          refine ha_take 7 rfl (ov_neq rfl rfl) rfl rfl rfl (by kernel_rfl) (by kernel_rfl) (by kernel_rfl) (by first | assumption | exact Ent.refl _ | exact Ent.nil _ | (repeat (first | exact Ent.refl _ | exact Ent.nil _ | refine Ent.pick ?_))) <| ?_
          refine ha_take 8 rfl (ov_move rfl) rfl rfl rfl (by kernel_rfl) (by kernel_rfl) (by kernel_rfl) (by first | assumption | exact Ent.refl _ | exact Ent.nil _ | (repeat (first | exact Ent.refl _ | exact Ent.nil _ | refine Ent.pick ?_))) <| ?_
          refine ha_partF (t := 126) rfl (fun h => h rfl) ?_
          refine ha_take 9 rfl (ov_move rfl) rfl rfl rfl (by kernel_rfl) (by kernel_rfl) (by kernel_rfl) (by first | assumption | exact Ent.refl _ | exact Ent.nil _ | (repeat (first | exact Ent.refl _ | exact Ent.nil _ | refine Ent.pick ?_))) <| ?_
          refine ha_take 11 rfl (ov_move rfl) rfl rfl rfl (by kernel_rfl) (by kernel_rfl) (by kernel_rfl) (by first | assumption | exact Ent.refl _ | exact Ent.nil _ | (repeat (first | exact Ent.refl _ | exact Ent.nil _ | refine Ent.pick ?_))) <| ?_
          refine ha_take 12 rfl (ov_nil rfl) rfl rfl rfl (by kernel_rfl) (by kernel_rfl) (by kernel_rfl) (by first | assumption | exact Ent.refl _ | exact Ent.nil _ | (repeat (first | exact Ent.refl _ | exact Ent.nil _ | refine Ent.pick ?_))) <| ?_
          refine ha_take 13 rfl (ov_fieldA rfl) rfl rfl rfl (by kernel_rfl) (by kernel_rfl) (by kernel_rfl) (by first | assumption | exact Ent.refl _ | exact Ent.nil _ | (repeat (first | exact Ent.refl _ | exact Ent.nil _ | refine Ent.pick ?_))) <| ?_
          refine ha_take 14 rfl (ov_load rfl (CellIs.blk rfl)) rfl rfl rfl (by kernel_rfl) (by kernel_rfl) (by kernel_rfl) (by first | assumption | exact Ent.refl _ | exact Ent.nil _ | (repeat (first | exact Ent.refl _ | exact Ent.nil _ | refine Ent.pick ?_))) <| ?_
          refine ha_take 15 rfl (by first | exact ov_len rfl | exact ov_lenS rfl) rfl rfl rfl (by kernel_rfl) (by kernel_rfl) (by kernel_rfl) (by first | assumption | exact Ent.refl _ | exact Ent.nil _ | (repeat (first | exact Ent.refl _ | exact Ent.nil _ | refine Ent.pick ?_))) <| ?_
          refine ha_one 10 (by kernel_rfl) <| ?_
          refine ho_c rfl Try.call26 rfl rfl rfl (fun w1 H1 => Own.callp (dsk g S' P') H1 fun D' hold hin H2 => Len_spec D' w1 g S' P' H2) (by first | assumption | exact Ent.refl _ | exact Ent.nil _ | (repeat (first | exact Ent.refl _ | exact Ent.nil _ | refine Ent.pick ?_))) ?_
          refine ha_take 16 rfl (ov_neq rfl rfl) rfl rfl rfl (by kernel_rfl) (by kernel_rfl) (by kernel_rfl) (by first | assumption | exact Ent.refl _ | exact Ent.nil _ | (repeat (first | exact Ent.refl _ | exact Ent.nil _ | refine Ent.pick ?_))) <| ?_
          refine ha_take 17 rfl (ov_pickF rfl rfl) rfl rfl rfl (by kernel_rfl) (by kernel_rfl) (by kernel_rfl) (by first | assumption | exact Ent.refl _ | exact Ent.nil _ | (repeat (first | exact Ent.refl _ | exact Ent.nil _ | refine Ent.pick ?_))) <| ?_
          refine ha_done (by kernel_rfl) <|
            hx_then_normal <| ?_
          refine hc_cond_F rfl (fun h => h rfl) ?_
          refine hc_skip <|
            hx_block_normal <|
            hx_then_normal <|
            hc_region <|
            hl_val (ov_move rfl) rfl rfl rfl <|
            hl_val (ov_add rfl rfl (by first | exact wrap_i64 (by omega) | rfl)) rfl rfl rfl <| ?_
          refine hl_val (ov_assign rfl) rfl rfl rfl <|
            hl_nil <| ?_
          exact hx_next hK1 ((i + 1, S', P')) (⟨hlt, hSm', hok', hPl'⟩) (by dsimp only; omega) (by repeat (first | exact Slots.sub_nil _ | refine Slots.sub_cons rfl ?_)) (Ent.trans (b := [dsk g S' P', blk q 52 [.slice A0 S'.length c0, .slice A1 P'.length c1], row A0 30 64 S'.length c0 (S'.flatMap secC), row A1 80 65 P'.length c1 (P'.flatMap latC)]) (by first | assumption | exact Ent.refl _ | exact Ent.nil _ | exact Ent.row_any (Ent.refl _) | (repeat (first | exact Ent.refl _ | exact Ent.nil _ | refine Ent.pick ?_))) (Ent.cons dsk_mk))
      · refine hl_off rfl rfl rfl rfl rfl rfl <|
          hl_off rfl rfl rfl rfl rfl rfl <|
          hl_val (ov_pickF rfl rfl) rfl rfl rfl <|
          hl_nil <|
          hx_then_normal <|
          hc_cond_false rfl <| ?_
        refine hc_exit <|
          hx_then_exit <|
          hx_then_exit <|
          hx_block_out <|
          hx_then_normal <|
          hc_seq <| ?_
        refine hc_seq <|
          hc_region <|
          hl_val (ov_assign rfl) rfl rfl rfl <|
          hl_nil <|
          hx_then_normal <|
          hc_block <| ?_
        refine hc_loops1 (σ := Nat) [5, 7] rfl 15 (fun j => .int .i64 j) (fun j => j ≤ S.length) (fun j => S.length - j) (0) (Nat.zero_le _) rfl ?_
        rintro j hj K3 hK3
        refine HC.ent (Ent.pick (A := rdsk q S P) (Ent.refl _)) ?_
        refine HC.exs ?_
        rintro ⟨⟨A0, c0⟩, A1, c1⟩
        refine HC.ent (l' := [dsk g S P, blk q 52 [.slice A0 S.length c0, .slice A1 P.length c1], row A0 30 64 S.length c0 (S.flatMap secC), row A1 80 65 P.length c1 (P.flatMap latC)]) (show Ent [blk q 52 [.slice A0 S.length c0, .slice A1 P.length c1], row A0 30 64 S.length c0 (S.flatMap secC), row A1 80 65 P.length c1 (P.flatMap latC), dsk g S P] _ from (by first | assumption | exact Ent.refl _ | exact Ent.nil _ | exact Ent.row_any (Ent.refl _) | (repeat (first | exact Ent.refl _ | exact Ent.nil _ | refine Ent.pick ?_)))) ?_
        refine hc_seq <|
          hc_seq <|
          hc_region <|
          hl_val (ov_move rfl) rfl rfl rfl <|
          hl_val (ov_neqP rfl rfl) rfl rfl rfl <|
          hl_val (ov_move rfl) rfl rfl rfl <| ?_
        refine hl_on rfl rfl <| hl_val (ov_move rfl) rfl rfl rfl <|
          hl_on rfl rfl <| hl_val (ov_move rfl) rfl rfl rfl <|
          hl_on rfl rfl <| hl_val (ov_nil rfl) rfl rfl rfl <|
          hl_on rfl rfl <| hl_val (ov_fieldA rfl) rfl rfl rfl <|
          hl_on rfl rfl <| hl_val (ov_load rfl (CellIs.blk rfl)) rfl rfl rfl <|
          hl_on rfl rfl <| hl_val (by first | exact ov_len rfl | exact ov_lenS rfl) rfl rfl rfl <| ?_
        refine hl_on rfl rfl <| hl_val (ov_lss rfl rfl) rfl rfl rfl <|
          hl_val (ov_pickT rfl rfl) rfl rfl rfl <|
          hl_val (ov_move rfl) rfl rfl rfl <| ?_
        refine hl_part (t := 147) rfl (fun hj1 => ?_) (fun hj1 => ?_)
        · have hj1 : j < S.length := by omega
          refine hl_on rfl rfl <| hl_val (ov_move rfl) rfl rfl rfl <|
            hl_on rfl rfl <| hl_val (ov_lss rfl rfl) rfl rfl rfl <|
            hl_val (ov_pickT rfl rfl) rfl rfl rfl <|
            hl_nil <|
            hx_then_normal <| ?_
          refine hc_cond rfl (fun hj2 => ?_) (fun hj2 => ?_)
          · refine HC.ent (l' := [dsk g S P, rdsk q S P]) (Ent.cons (dsk_mk (A0 := A0) (c0 := c0) (A1 := A1) (c1 := c1))) ?_
            refine hc_skip <|
              hx_then_normal <|
              hc_seq <|
              hc_block <|
              hc_seq <|
              hc_region <| ?_
            refine hl_val (ov_move rfl) rfl rfl rfl <|
              hl_val (ov_move rfl) rfl rfl rfl <| ?_
            refine hl_c Try.call17 rfl rfl (fun w1 H1 => Own.callp (dsk g S P) H1 fun D' hold hin H2 => Read_any D' w1 g j S P H2) ?_
            refine hl_val (ov_move rfl) rfl rfl rfl <|
              hl_val (ov_extract rfl rfl) rfl rfl rfl <|
              hl_val (ov_extract rfl rfl) rfl rfl rfl <|
              hl_new (on_alloc) rfl rfl rfl fun b16 =>  ?_
            refine hl_u0 (on_storeW (vs := secC (rdS S P j)) rfl rfl (by simp) (by simp) (secC_one _)) rfl rfl ?_
            refine hl_val (ov_assign rfl) rfl rfl rfl <|
              hl_nil <|
              hx_then_normal <|
              hc_seq <|
              hc_region <|
              hl_val (ov_move rfl) rfl rfl rfl <| ?_
            refine hl_val (ov_move rfl) rfl rfl rfl <| ?_
            refine hl_c Try.call21 rfl rfl (fun w1 H1 => Own.callp (rdsk q S P) H1 fun D' hold hin H2 => RRead_any D' w1 q j S P H2) ?_
            refine hl_val (ov_move rfl) rfl rfl rfl <|
              hl_val (ov_extract rfl rfl) rfl rfl rfl <|
              hl_val (ov_extract rfl rfl) rfl rfl rfl <|
              hl_new (on_alloc) rfl rfl rfl fun b18 =>  ?_
            refine hl_u0 (on_storeW (vs := secC (rdS S P j)) rfl rfl (by simp) (by simp) (secC_one _)) rfl rfl ?_
            refine hl_val (ov_assign rfl) rfl rfl rfl <|
              hl_nil <|
              hx_then_normal <|
              hc_seq <|
              hc_region <|
              hl_val (by first | exact ov_loadW rfl (by simp; done) | exact ov_loadGB rfl rfl) rfl rfl rfl <| ?_
            refine hl_val (by first | exact ov_loadW rfl (by simp; done) | exact ov_loadGB rfl rfl) rfl rfl rfl <| ?_
            refine hl_val (ov_neqSec rfl rfl) rfl rfl rfl ?_
            refine hl_val (ov_move rfl) rfl rfl rfl <| ?_
            refine hl_partF (t := 168) rfl (fun h => h rfl) ?_
            refine hl_on rfl rfl <| hl_val (ov_move rfl) rfl rfl rfl <|
              hl_on rfl rfl <| hl_val (ov_neq rfl rfl) rfl rfl rfl <|
              hl_val (ov_pickF rfl rfl) rfl rfl rfl <|
              hl_nil <|
              hx_then_normal <| ?_
            refine hc_cond_F rfl (by simp [wrE, isIn, hj1]) ?_
            refine hc_skip <|
              hx_block_normal <|
              hx_then_normal <|
              hc_region <|
              hl_val (ov_move rfl) rfl rfl rfl <|
              hl_val (ov_add rfl rfl (by first | exact wrap_i64 (by omega) | rfl)) rfl rfl rfl <| ?_
            refine hl_val (ov_assign rfl) rfl rfl rfl <|
              hl_nil <| ?_
            refine hx_next hK3 (j + 1) (hj1) (by omega) (by repeat (first | exact Slots.sub_nil _ | refine Slots.sub_cons rfl ?_)) (by first | assumption | exact Ent.refl _ | exact Ent.nil _ | (repeat (first | exact Ent.refl _ | exact Ent.nil _ | refine Ent.pick ?_)))
          · refine HC.ent (l' := []) (Ent.nil _) ?_
            refine hc_exit <|
              hx_then_exit <|
              hx_then_exit <|
              hx_block_out <|
              hx_then_normal <|
              hc_seq <| ?_
            refine hc_region <| ?_
            refine hl_c Try.call13 rfl rfl (fun w1 H1 => Own.calln H1 fun D' hold hin H2 => wakes_spec D' w1) ?_
            refine hl_val (ov_assign rfl) rfl rfl rfl <|
              hl_nil <|
              hx_then_normal <|
              hc_ret <| ?_
            exact results_1 (.inr rfl) rfl rfl fun w' H' => ⟨rfl, H'.ent (Ent.nil _)⟩
        · refine HL.ent (l' := []) (Ent.nil _) ?_
          refine hl_off rfl rfl rfl rfl rfl rfl <|
            hl_off rfl rfl rfl rfl rfl rfl <|
            hl_val (ov_pickF rfl rfl) rfl rfl rfl <|
            hl_nil <|
            hx_then_normal <|
            hc_cond_false rfl <| ?_
          refine hc_exit <|
            hx_then_exit <|
            hx_then_exit <|
            hx_block_out <|
            hx_then_normal <|
            hc_seq <| ?_
          refine hc_region <| ?_
          refine hl_c Try.call13 rfl rfl (fun w1 H1 => Own.calln H1 fun D' hold hin H2 => wakes_spec D' w1) ?_
          refine hl_val (ov_assign rfl) rfl rfl rfl <|
            hl_nil <|
            hx_then_normal <|
            hc_ret <| ?_
          exact results_1 (.inr rfl) rfl rfl fun w' H' => ⟨rfl, H'.ent (Ent.nil _)⟩
    · refine hl_val (ov_not rfl) rfl rfl rfl <|
        hl_nil <|
        hx_then_normal <|
        hc_cond_false rfl <|
        hc_skip <|
        hx_then_normal <| ?_
      refine hc_seq <|
        hc_region <|
        hl_val (ov_move rfl) rfl rfl rfl <| ?_
      refine hl_c Try.call11 rfl rfl (fun w1 H1 => Own.calln H1 fun D' hold hin H2 => New_no D' w1 n (by omega)) ?_
      refine hl_val (ov_move rfl) rfl rfl rfl <|
        hl_val (ov_extract rfl rfl) rfl rfl rfl <|
        hl_val (ov_extract rfl rfl) rfl rfl rfl <|
        hl_val (ov_assign rfl) rfl rfl rfl <|
        hl_val (ov_assign rfl) rfl rfl rfl <|
        hl_nil <| ?_
      refine hx_then_normal <|
        hc_seq <|
        hc_region <|
        hl_val (ov_move rfl) rfl rfl rfl <| ?_
      refine hl_c Try.call19 rfl rfl (fun w1 H1 => Own.calln H1 fun D' hold hin H2 => RNew_no D' w1 n (by omega)) ?_
      refine hl_val (ov_move rfl) rfl rfl rfl <|
        hl_val (ov_extract rfl rfl) rfl rfl rfl <|
        hl_val (ov_extract rfl rfl) rfl rfl rfl <|
        hl_val (ov_assign rfl) rfl rfl rfl <|
        hl_val (ov_assign rfl) rfl rfl rfl <|
        hl_nil <| ?_
      refine hx_then_normal <|
        hc_seq <|
        hc_seq <|
        hc_region <|
        hl_val (ov_move rfl) rfl rfl rfl <|
        hl_val (ov_move rfl) rfl rfl rfl <| ?_
      refine hl_val (ov_neq rfl rfl) rfl rfl rfl <|
        hl_val (ov_move rfl) rfl rfl rfl <| ?_
      refine hl_partF (t := 37) rfl (by omega) ?_
      refine hl_on rfl rfl <| hl_val (ov_move rfl) rfl rfl rfl <|
        hl_on rfl rfl <| hl_val (ov_eqlP rfl rfl) rfl rfl rfl <|
        hl_on rfl rfl <| hl_val (ov_move rfl) rfl rfl rfl <|
        hl_on rfl rfl <| hl_val (ov_eqlP rfl rfl) rfl rfl rfl <|
        hl_on rfl rfl <| hl_val (ov_neqB rfl rfl) rfl rfl rfl <|
        hl_val (ov_pickF rfl rfl) rfl rfl rfl <| ?_
      refine hl_nil <|
        hx_then_normal <| ?_
      refine hc_cond_F rfl (by simp) ?_
      refine hc_skip <|
        hx_then_normal <|
        hc_seq <|
        hc_seq <|
        hc_region <|
        hl_val (ov_assign rfl) rfl rfl rfl <| ?_
      refine hl_nil <|
        hx_then_normal <|
        hc_block <| ?_
      refine hc_loops1 (σ := Nat) [1, 5, 7] rfl 9 (fun s => .int .i64 s) (fun s => s = 0) (fun s => 0) (0) (rfl) rfl ?_
      rintro s hj K4 hK4
      refine hc_seq <|
        hc_seq <|
        hc_region <|
        hl_val (ov_move rfl) rfl rfl rfl <|
        hl_val (ov_move rfl) rfl rfl rfl <|
        hl_val (by first | exact ov_len rfl | exact ov_lenS rfl) rfl rfl rfl <| ?_
      refine hl_val (ov_lss rfl rfl) rfl rfl rfl <|
        hl_val (ov_move rfl) rfl rfl rfl <| ?_
      subst hj
      refine hl_part (t := 48) rfl (fun hp => ?_) (fun hp => ?_)
      · refine hl_on rfl rfl <| hl_val (ov_move rfl) rfl rfl rfl <|
          hl_on rfl rfl <| hl_val (ov_neqP rfl rfl) rfl rfl rfl <|
          hl_val (ov_pickT rfl rfl) rfl rfl rfl <|
          hl_nil <|
          hx_then_normal <| ?_
        refine hc_cond_false rfl ?_
        refine hc_exit <|
          hx_then_exit <|
          hx_then_exit <|
          hx_block_out <|
          hx_then_normal <|
          hc_seq <| ?_
        refine hc_seq <|
          hc_region <|
          hl_val (ov_assign rfl) rfl rfl rfl <|
          hl_nil <|
          hx_then_normal <|
          hc_block <| ?_
        refine hc_loops1 (σ := Nat) [5, 7] rfl 15 (fun s => .int .i64 0) (fun s => s = 0) (fun s => 0) (0) (rfl) rfl ?_
        rintro s hj K5 hK5
        refine hc_seq <|
          hc_seq <|
          hc_region <|
          hl_val (ov_move rfl) rfl rfl rfl <|
          hl_val (ov_neqP rfl rfl) rfl rfl rfl <|
          hl_val (ov_move rfl) rfl rfl rfl <| ?_
        refine hl_off rfl rfl rfl rfl rfl rfl <|
          hl_off rfl rfl rfl rfl rfl rfl <|
          hl_off rfl rfl rfl rfl rfl rfl <|
          hl_off rfl rfl rfl rfl rfl rfl <|
          hl_off rfl rfl rfl rfl rfl rfl <|
          hl_off rfl rfl rfl rfl rfl rfl <| ?_
        refine hl_off rfl rfl rfl rfl rfl rfl <|
          hl_val (ov_pickF rfl rfl) rfl rfl rfl <|
          hl_val (ov_move rfl) rfl rfl rfl <|
          hl_off rfl rfl rfl rfl rfl rfl <|
          hl_off rfl rfl rfl rfl rfl rfl <|
          hl_val (ov_pickF rfl rfl) rfl rfl rfl <| ?_
        refine hl_nil <|
          hx_then_normal <|
          hc_cond_false rfl <|
          hc_exit <|
          hx_then_exit <|
          hx_then_exit <| ?_
        refine hx_block_out <|
          hx_then_normal <|
          hc_seq <|
          hc_region <| ?_
        refine hl_c Try.call13 rfl rfl (fun w1 H1 => Own.calln H1 fun D' hold hin H2 => wakes_spec D' w1) ?_
        refine hl_val (ov_assign rfl) rfl rfl rfl <|
          hl_nil <|
          hx_then_normal <|
          hc_ret <| ?_
        exact results_1 (.inr rfl) rfl rfl fun w' H' => ⟨rfl, H'.ent (Ent.nil _)⟩
      · refine hl_off rfl rfl rfl rfl rfl rfl <|
          hl_off rfl rfl rfl rfl rfl rfl <|
          hl_val (ov_pickF rfl rfl) rfl rfl rfl <|
          hl_nil <|
          hx_then_normal <|
          hc_cond_false rfl <| ?_
        refine hc_exit <|
          hx_then_exit <|
          hx_then_exit <|
          hx_block_out <|
          hx_then_normal <|
          hc_seq <| ?_
        refine hc_seq <|
          hc_region <|
          hl_val (ov_assign rfl) rfl rfl rfl <|
          hl_nil <|
          hx_then_normal <|
          hc_block <| ?_
        refine hc_loops1 (σ := Nat) [5, 7] rfl 15 (fun s => .int .i64 0) (fun s => s = 0) (fun s => 0) (0) (rfl) rfl ?_
        rintro s hj K6 hK6
        refine hc_seq <|
          hc_seq <|
          hc_region <|
          hl_val (ov_move rfl) rfl rfl rfl <|
          hl_val (ov_neqP rfl rfl) rfl rfl rfl <|
          hl_val (ov_move rfl) rfl rfl rfl <| ?_
        refine hl_off rfl rfl rfl rfl rfl rfl <|
          hl_off rfl rfl rfl rfl rfl rfl <|
          hl_off rfl rfl rfl rfl rfl rfl <|
          hl_off rfl rfl rfl rfl rfl rfl <|
          hl_off rfl rfl rfl rfl rfl rfl <|
          hl_off rfl rfl rfl rfl rfl rfl <| ?_
        refine hl_off rfl rfl rfl rfl rfl rfl <|
          hl_val (ov_pickF rfl rfl) rfl rfl rfl <|
          hl_val (ov_move rfl) rfl rfl rfl <|
          hl_off rfl rfl rfl rfl rfl rfl <|
          hl_off rfl rfl rfl rfl rfl rfl <|
          hl_val (ov_pickF rfl rfl) rfl rfl rfl <| ?_
        refine hl_nil <|
          hx_then_normal <|
          hc_cond_false rfl <|
          hc_exit <|
          hx_then_exit <|
          hx_then_exit <| ?_
        refine hx_block_out <|
          hx_then_normal <|
          hc_seq <|
          hc_region <| ?_
        refine hl_c Try.call13 rfl rfl (fun w1 H1 => Own.calln H1 fun D' hold hin H2 => wakes_spec D' w1) ?_
        refine hl_val (ov_assign rfl) rfl rfl rfl <|
          hl_nil <|
          hx_then_normal <|
          hc_ret <| ?_
        exact results_1 (.inr rfl) rfl rfl fun w' H' => ⟨rfl, H'.ent (Ent.nil _)⟩
end Go.Proofs.Ytnnhopjnpplfcaa
