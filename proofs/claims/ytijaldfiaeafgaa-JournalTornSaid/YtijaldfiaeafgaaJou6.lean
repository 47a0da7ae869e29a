import Derived.Test.YtijaldfiaeafgaaJou5
set_option linter.unusedVariables false
set_option linter.unusedSimpArgs false
namespace Go.Proofs.Ytijaldfiaeafgaa
open Slk
theorem rowsB_one' {t : TypeId} {x : List UInt8} {c : Value} {l : List HProp} : Ent (rowsB t [x] [c] :: l) (rowB t x c :: l) := Ent.trans rowsB_split (Ent.trans (Ent.perm (List.Perm.swap _ _ _)) (Ent.drop (Ent.refl _)))
/-- What wakes finds on its disk. -/
theorem wake_facts (E S0 S1 : List Sec) (hE : E = encE (jouE 5 0 [97, 98])) (h0 : S0 = List.replicate 8 zeroSec) (h1 : S1 = putS S0 2 E) :
    S0.length = 8 ∧ S1.length = 8 ∧ (∃ T0, T0 = (S0.drop 2).take 4 ∧ entsF 5 4 0 T0 = ([], 0)) ∧ (∃ T1, T1 = (S1.drop 2).take 4 ∧ entsF 5 4 0 T1 = ([[97, 98]], 1) ∧ entsF 6 4 0 T1 = ([], 0)) := by
  have hEl : E.length = 1 := by rw [hE, encE_len _ (show ([97, 98] : List UInt8).length ≤ 4000 by decide)]; rfl
  have hl0 : S0.length = 8 := by rw [h0]; exact List.length_replicate
  have hT0 : (S0.drop 2).take 4 = List.replicate 4 zeroSec := by rw [h0]; exact blank_region (by decide)
  have hT1 : (S1.drop 2).take 4 = putS (List.replicate 4 zeroSec) 0 E := by
    rw [h1, ← hT0]
    have := put_region (S := S0) (l := E) (from_ := 2) (N := 4) (at_ := 0) (by omega) (by omega)
    exact this
  have hl4 : (List.replicate 4 zeroSec : List Sec).length = 4 := List.length_replicate
  refine ⟨hl0, by rw [h1, putS_len (by omega), hl0], ⟨_, rfl, ?_⟩, ⟨_, rfl, ?_, ?_⟩⟩
  · rw [hT0]
    have := (JI.begin (ep := 5) (T := List.replicate 4 zeroSec) noHead_zero).open (by decide) (by rw [hl4]; decide)
    rw [hl4] at this
    exact this
  · rw [hT1]
    have hj := (JI.begin (ep := 5) (T := List.replicate 4 zeroSec) noHead_zero).append (x := [97, 98]) (by decide) (e := jouE 5 0 [97, 98]) rfl (by rw [← hE, hEl, hl4]; decide)
    rw [← hE, hEl] at hj
    have := hj.open (by decide) (by rw [putS_len (by rw [hl4, hEl]; decide), hl4]; decide)
    rw [putS_len (by rw [hl4, hEl]; decide), hl4] at this
    exact this
  rw [hT1]
  have hn : noHead 6 (putS (List.replicate 4 zeroSec) 0 E) := noHead_put noHead_zero (by rw [hE]; exact noHead_enc _ (show 5 < 4294967296 by decide) (show 5 ≠ 6 by decide))
  have := (JI.begin hn).open (by decide) (by rw [putS_len (by rw [hl4, hEl]; decide), hl4]; decide)
  rw [putS_len (by rw [hl4, hEl]; decide), hl4] at this
  exact this
set_option maxHeartbeats 1000000 in
theorem wakes4_spec (D : Nat → Prop) (w : World) : Calls Try.prog 29 #[] w fun e w' => e = .returned (.bool true) ∧ Own D w w' [] := by
  obtain ⟨E, hE⟩ : ∃ E, E = encE (jouE 5 0 [97, 98]) := ⟨_, rfl⟩
  obtain ⟨S0, hS0⟩ : ∃ S, S = List.replicate 8 zeroSec := ⟨_, rfl⟩
  obtain ⟨S1, hS1⟩ : ∃ S, S = putS S0 2 E := ⟨_, rfl⟩
  obtain ⟨hl0, hl1, ⟨T0, hT0, e0⟩, T1, hT1, e1, e2⟩ := wake_facts E S0 S1 hE hS0 hS1
  obtain ⟨L1, hL1⟩ : ∃ L : List (List UInt8), L = [[97, 98]] := ⟨_, rfl⟩
  rw [← hL1] at e1
  have hL1x : ∀ x ∈ L1, x.length ≤ 1000000 := fun x hx => by rw [hL1] at hx; obtain rfl := List.mem_singleton.1 hx; decide
  have hL1n : L1.length = 1 := by rw [hL1]; rfl
  refine hc_enter (vs := []) Try.func29 rfl _ Try.ntmps29 rfl (Own.start D w) ?_
  simp only [argSlots, Nat.zero_add]
  refine hc_seq <| hc_region <| hl_v (ov_assign rfl) rfl <| hl_nil <| hx_then_normal <| hc_seq <| ?_
  refine hc_region <| ?_
  refine hl_call (σ := Nat) Try.call14 rfl rfl (fun w1 H1 => Own.callx0 H1 fun D' hold hin H2 => (New_ok D' w1 8 (by decide) (by decide)).mono fun e w' ⟨g, he, H'⟩ => ⟨g, he, show Own D' w1 w' [dsk g S0 []] by rw [hS0]; exact H'⟩) ?_
  intro g
  try rw [List.nil_append]
  refine hl_v (ov_move rfl) rfl <| hl_v (ov_extract rfl rfl) rfl <| hl_v (ov_extract rfl rfl) rfl <| hl_v (ov_assign rfl) rfl <| hl_v (ov_assign rfl) rfl <| hl_nil <| ?_
  refine hx_then_normal <| hc_seq <| hc_region <| hl_v (ov_move rfl) rfl <| ?_
  refine hl_call (σ := Nat) Try.call30 rfl rfl (fun w1 H1 => Own.callpx (dsk g S0 []) H1 fun D' hold hin H2 => JOpen_is D' w1 g S0 2 6 4 T0 5 [] 0 2 e0 rfl (by omega) (by omega) rfl (by decide) hT0 H2) ?_
  intro jb
  refine hl_v (ov_move rfl) rfl <| hl_v (ov_extract rfl rfl) rfl <| hl_v (ov_extract rfl rfl) rfl <| hl_v (ov_assign rfl) rfl <| hl_v (ov_assign rfl) rfl <| hl_nil <| ?_
  refine hx_then_normal <| hc_seq <| hc_seq <| hc_region <| hl_v (ov_move rfl) rfl <| hl_v (ov_neq rfl rfl) rfl <| ?_
  refine hl_v (ov_move rfl) rfl <| ?_
  refine hl_partF (t := 20) rfl ((fun h => h rfl)) ?_
  refine hl_on rfl rfl <| hl_v (ov_move rfl) rfl <| hl_on rfl rfl <| hl_v (ov_neq rfl rfl) rfl <| hl_v (ov_pickF rfl rfl) rfl <| hl_v (ov_move rfl) rfl <| ?_
  refine hl_partF (t := 24) rfl ((fun h => h rfl)) ?_
  refine hl_on rfl rfl <| hl_v (ov_move rfl) rfl <| hl_on rfl rfl <| hl_v (ov_eqlP rfl rfl) rfl <| hl_v (ov_pickF rfl rfl) rfl <| hl_v (ov_move rfl) rfl <| ?_
  refine hl_on rfl rfl <| hl_v (ov_move rfl) rfl <| hl_on rfl rfl <| hl_new (on_buildSliceN rfl rfl rfl) rfl rfl rfl fun b30 =>
    hl_on rfl rfl <| hl_u (on_mark rfl) rfl rfl rfl <| hl_on rfl rfl <| hl_new (on_buildSliceN rfl rfl rfl) rfl rfl rfl fun b32 =>
    hl_on rfl rfl <| hl_u (on_mark rfl) rfl rfl rfl <| hl_on rfl rfl <| hl_new (on_buildSliceN rfl rfl rfl) rfl rfl rfl fun b34 =>  ?_
  refine hl_on rfl rfl <| hl_c Try.call31 rfl rfl (fun w1 H1 => Own.callp2 (jou jb g 2 6 5 2 []) (dsk g S0 []) H1 fun D' hold hin H2 => Append_is D' w1 jb g 2 6 5 2 [] [[97], [98]] _ S0 [97, 98] 1 3 L1 S1 rfl rfl rfl (by rw [hL1]; rfl) (by rw [hS1, hE]; rfl) (by decide) (by omega) (by omega) (by decide) (by decide) (by decide) (by decide) (hin _ fun h hs ho => rep_lits (b := b34) hs [[97], [98]] ⟨[_], [_], rfl, rep_bytes (b := b30) hs [97] rfl (by decide), [_], [], rfl, rep_bytes (b := b32) hs [98] rfl (by decide), rfl⟩ (by simp)) H2) ?_
  refine hl_on rfl rfl <| hl_v (ov_neq rfl rfl) rfl <| hl_v (ov_pickF rfl rfl) rfl <| hl_v (ov_move rfl) rfl <| ?_
  refine hl_partF (t := 38) rfl ((fun h => h rfl)) ?_
  refine hl_on rfl rfl <| hl_v (ov_move rfl) rfl <| ?_
  refine hl_on rfl rfl <| hl_c Try.call33 rfl rfl (fun w1 H1 => Own.callp (jou jb g 2 6 5 3 L1) H1 fun D' hold hin H2 => Room_spec D' w1 jb g 2 6 5 3 L1 (by decide) (by decide) H2) ?_
  refine hl_on rfl rfl <| hl_v (ov_neq rfl rfl) rfl <| hl_v (ov_pickF rfl rfl) rfl <| hl_nil <| hx_then_normal <| ?_
  refine hc_cond_F rfl ((fun h => h rfl)) ?_
  refine hc_skip <| hx_then_normal <| hc_seq <| hc_region <| hl_v (ov_move rfl) rfl <| ?_
  refine hl_call (σ := Nat) Try.call30 rfl rfl (fun w1 H1 => Own.callpx (dsk g S1 []) H1 fun D' hold hin H2 => JOpen_is D' w1 g S1 2 6 4 T1 5 L1 1 3 e1 rfl (by omega) (by omega) rfl (by decide) hT1 H2) ?_
  intro kb
  refine hl_v (ov_move rfl) rfl <| hl_v (ov_extract rfl rfl) rfl <| hl_v (ov_extract rfl rfl) rfl <| hl_v (ov_assign rfl) rfl <| hl_v (ov_assign rfl) rfl <| hl_nil <| ?_
  refine hx_then_normal <| hc_seq <| hc_region <| hl_v (ov_move rfl) rfl <| ?_
  refine hl_call (σ := Nat) Try.call30 rfl rfl (fun w1 H1 => Own.callpx (dsk g S1 []) H1 fun D' hold hin H2 => JOpen_is D' w1 g S1 2 6 4 T1 6 [] 0 2 e2 rfl (by omega) (by omega) rfl (by decide) hT1 H2) ?_
  intro lb
  refine hl_v (ov_move rfl) rfl <| hl_v (ov_extract rfl rfl) rfl <| hl_v (ov_extract rfl rfl) rfl <| hl_v (ov_assign rfl) rfl <| hl_v (ov_assign rfl) rfl <| hl_nil <| ?_
  refine hx_then_normal <| hc_seq <| hc_region <| hl_v (ov_move rfl) rfl <| hl_v (ov_eql rfl rfl) rfl <| hl_v (ov_move rfl) rfl <| ?_
  refine hl_partT (t := 55) rfl (rfl) ?_
  refine hl_on rfl rfl <| hl_v (ov_move rfl) rfl <| hl_on rfl rfl <| hl_v (ov_eql rfl rfl) rfl <| hl_v (ov_pickT rfl rfl) rfl <| hl_v (ov_move rfl) rfl <| ?_
  refine hl_partT (t := 59) rfl (rfl) ?_
  refine hl_on rfl rfl <| hl_v (ov_move rfl) rfl <| ?_
  refine hl_on rfl rfl <| hl_call (σ := Option Addr × Nat × List Value) Try.call32 rfl rfl (fun w1 H1 => Own.callpx (jou kb g 2 6 5 3 L1) H1 fun D' hold hin H2 => All_spec D' w1 kb g 2 6 5 3 L1 (by omega) hL1x H2) ?_
  intro q1
  refine hl_on rfl rfl <| hl_v (by first | exact ov_len rfl | exact ov_lenS rfl) rfl <| ?_
  refine hl_on rfl rfl <| hl_v (ov_eql rfl rfl) rfl <| hl_v (ov_pickT rfl rfl) rfl <| hl_v (ov_move rfl) rfl <| ?_
  refine hl_partT (t := 65) rfl ((by rw [hL1n]; rfl)) ?_
  refine hl_on rfl rfl <| hl_v (ov_move rfl) rfl <| ?_
  refine hl_on rfl rfl <| hl_call (σ := Option Addr × Nat × List Value) Try.call32 rfl rfl (fun w1 H1 => Own.callpx (jou kb g 2 6 5 3 L1) H1 fun D' hold hin H2 => All_spec D' w1 kb g 2 6 5 3 L1 (by omega) hL1x H2) ?_
  intro q2
  obtain ⟨A2, cap2, cs2⟩ := q2
  dsimp only
  subst hL1
  refine HL.fact (fun w H => Own.factR A2 H) ?_
  rintro ⟨hc2, hcap2, _, hA2'⟩
  match cs2, hc2 with
  | [], h => simp at h
  | _ :: _ :: _, h => simp at h
  | [c2], _ =>
  have hA2 : isA A2 := hA2' (by simp)
  refine HL.ent (Ent.trans (b := rowsB 5 [[97, 98]] [c2] :: [row A2 23 1 1 cap2 [c2], jou lb g 2 6 6 2 [], dsk g S1 []]) (by first | assumption | exact Ent.refl _ | exact Ent.nil _ | exact Ent.row_any (Ent.refl _) | (repeat (first | exact Ent.refl _ | exact Ent.nil _ | refine Ent.pick ?_))) rowsB_one') ?_
  refine HL.rowB fun A3 cap3 hc => ?_
  subst hc
  refine HL.fact (fun w H => Own.factR A3 H) ?_
  rintro ⟨_, _, _, hA3'⟩
  have hA3 : isA A3 := hA3' (by decide)
  have hcell : CellIs D w [row A3 5 1 ([97, 98] : List UInt8).length cap3 (([97, 98] : List UInt8).map u8v), row A2 23 1 1 cap2 [.slice A3 ([97, 98] : List UInt8).length cap3], jou lb g 2 6 6 2 [], dsk g S1 []] (ab A2) (ao A2 + 0 * 1) (.slice A3 ([97, 98] : List UInt8).length cap3) := CellIs.row (A := A2) (i := 0) hA2 rfl
  refine hl_on rfl rfl <| hl_v (ov_idxSc rfl (by assumption) rfl rfl (by omega)) rfl <| ?_
  refine hl_on rfl rfl <| hl_v (ov_load rfl hcell) rfl ?_
  refine hl_on rfl rfl <| hl_v (ov_string (xs := [97, 98]) rfl (SrcIs.rowR (A := A3) (fun _ => hA3))) rfl ?_
  refine hl_on rfl rfl <| hl_v (by first | exact ov_eqlV rfl rfl | exact ov_eqlS rfl rfl) rfl <| ?_
  refine hl_v (ov_pickT rfl rfl) rfl <| hl_v (ov_move rfl) rfl <| ?_
  refine hl_partT (t := 73) rfl (rfl) ?_
  refine hl_on rfl rfl <| hl_v (ov_move rfl) rfl <| ?_
  refine hl_on rfl rfl <| hl_call (σ := Option Addr × Nat × List Value) Try.call32 rfl rfl (fun w1 H1 => Own.callpx (jou lb g 2 6 6 2 []) H1 fun D' hold hin H2 => All_spec D' w1 lb g 2 6 6 2 [] (by decide) (fun x hx => by cases hx) H2) ?_
  intro q3
  refine hl_on rfl rfl <| hl_v (by first | exact ov_len rfl | exact ov_lenS rfl) rfl <| ?_
  refine hl_on rfl rfl <| hl_v (ov_eql rfl rfl) rfl <| hl_v (ov_pickT rfl rfl) rfl <| hl_v (ov_move rfl) rfl <| ?_
  refine hl_partT (t := 79) rfl (rfl) ?_
  refine hl_on rfl rfl <| hl_v (ov_move rfl) rfl <| ?_
  refine hl_on rfl rfl <| hl_c Try.call43 rfl rfl (fun w1 H1 => Own.callp (dsk g S1 []) H1 fun D' hold hin H2 => Pending_spec D' w1 g S1 [] H2) ?_
  refine hl_on rfl rfl <| hl_v (ov_eql rfl rfl) rfl <| hl_v (ov_pickT rfl rfl) rfl <| hl_v (ov_assign rfl) rfl <| hl_nil <| hx_then_normal <| hc_ret <| ?_
  exact results_1 (.inr rfl) rfl rfl fun w' H' => ⟨rfl, H'.ent (Ent.nil _)⟩
set_option maxHeartbeats 1000000 in
theorem JournalNone_walk (W : World) (c0 : List Value) (x : JStep) (h0 : Old none' W (Rep.rep x c0)) :
    Calls Try.prog 9 #[.agg c0.toArray] W fun e w' => e = .returned (.bool true) ∧ Own none' W w' [] := by
  obtain ⟨A, cap, rfl, h1, hk⟩ := jstep_open h0
  obtain ⟨ep, hep⟩ : ∃ ep, ep = x.2.2.toNat := ⟨_, rfl⟩
  have hep2 := x.2.2.toNat_lt
  rw [← hep] at hep2 h0 ⊢
  refine hc_enter (vs := [.agg #[.int .i64 x.1, .slice A x.2.1.length cap, .int .u32 (ep : Int)]]) Try.func9 rfl _ Try.ntmps9 rfl (Own.start none' W) ?_
  simp only [argSlots, Nat.zero_add]
  refine hc_seq <| hc_region <| hl_new (on_boxN rfl rfl) rfl rfl rfl fun b1 =>  ?_
  refine hl_v (ov_assign rfl) rfl <| hl_nil <| hx_then_normal <| hc_seq <| hc_seq <| hc_region <| ?_
  refine hl_v (by first | exact ov_loadW rfl (by simp; done) | exact ov_loadGB rfl rfl) rfl <| ?_
  refine hl_new (on_buildSliceN rfl rfl rfl) rfl rfl rfl fun b11 =>  ?_
  refine hl_call (σ := { b : Bool // b = true → fairJ [x] }) Try.call35 rfl rfl (fun w1 H1 => Own.callx0 H1 fun D' hold hin H2 => fair4_spec D' w1 _ [x] (hin _ fun h hs ho => rep_lits (b := b11) hs [x] ⟨_, [], rfl, rep_old ho h0, rfl⟩ (by simp))) ?_
  rintro ⟨bv, hbv⟩
  try rw [List.nil_append]
  cases bv
  · skip
    refine hl_v (ov_not rfl) rfl <| hl_nil <| hx_then_normal <| hc_cond_true rfl <| hc_seq <| hc_region <| ?_
    refine hl_c Try.call29 rfl rfl (fun w1 H1 => Own.calln H1 fun D' hold hin H2 => wakes4_spec D' w1) ?_
    refine hl_v (ov_assign rfl) rfl <| hl_nil <| hx_then_normal <| hc_ret <| hx_then_ret <| ?_
    exact results_1 (.inr rfl) rfl rfl fun w' H' => ⟨rfl, H'.ent (Ent.nil _)⟩
  skip
  obtain ⟨S0, hS0⟩ : ∃ S, S = List.replicate 4 zeroSec := ⟨_, rfl⟩
  have hl0 : S0.length = 4 := by rw [hS0]; exact List.length_replicate
  refine hl_v (ov_not rfl) rfl <| hl_nil <| hx_then_normal <| hc_cond_false rfl <| hc_skip <| hx_then_normal <| ?_
  refine hc_seq <| hc_region <| hl_v (ov_assign rfl) rfl <| hl_nil <| hx_then_normal <| hc_seq <| ?_
  refine hc_region <| hl_v (ov_move rfl) rfl <| hl_v (ov_fieldA rfl) rfl <| hl_v (ov_load rfl (CellIs.blk rfl)) rfl <| ?_
  refine hl_c Try.call36 rfl rfl (fun w1 H1 => Own.calln H1 fun D' hold hin H2 => Next_nil D' w1 ep) ?_
  refine hl_nil <| hx_then_normal <| hc_seq <| hc_region <| hl_v (ov_fieldA rfl) rfl <| hl_v (ov_load rfl (CellIs.blk rfl)) rfl <| ?_
  refine hl_c Try.call30 rfl rfl (fun w1 H1 => Own.calln H1 fun D' hold hin H2 => JOpen_nil D' w1 0 4 ep) ?_
  refine hl_v (ov_move rfl) rfl <| hl_v (ov_extract rfl rfl) rfl <| hl_v (ov_extract rfl rfl) rfl <| hl_v (ov_assign rfl) rfl <| hl_v (ov_assign rfl) rfl <| hl_nil <| ?_
  refine hx_then_normal <| hc_seq <| hc_region <| ?_
  refine hl_call (σ := Nat) Try.call14 rfl rfl (fun w1 H1 => Own.callx0 H1 fun D' hold hin H2 => (New_ok D' w1 4 (by decide) (by decide)).mono fun e w' ⟨g, he, H'⟩ => ⟨g, he, show Own D' w1 w' [dsk g S0 []] by rw [hS0]; exact H'⟩) ?_
  intro g
  try rw [List.nil_append]
  refine hl_v (ov_move rfl) rfl <| hl_v (ov_extract rfl rfl) rfl <| hl_v (ov_extract rfl rfl) rfl <| hl_v (ov_assign rfl) rfl <| hl_v (ov_assign rfl) rfl <| hl_nil <| ?_
  refine hx_then_normal <| hc_seq <| hc_region <| hl_v (ov_move rfl) rfl <| hl_v (ov_fieldA rfl) rfl <| hl_v (ov_load rfl (CellIs.blk rfl)) rfl <| ?_
  refine hl_c Try.call30 rfl rfl (fun w1 H1 => Own.callp (dsk g S0 []) H1 fun D' hold hin H2 => JOpen_no D' w1 g S0 2 5 ep (.inr (.inr (by rw [hl0]; decide))) H2) ?_
  refine hl_v (ov_move rfl) rfl <| hl_v (ov_extract rfl rfl) rfl <| hl_v (ov_extract rfl rfl) rfl <| hl_v (ov_assign rfl) rfl <| hl_v (ov_assign rfl) rfl <| hl_nil <| ?_
  refine hx_then_normal <| hc_seq <| hc_region <| hl_v (ov_move rfl) rfl <| hl_v (ov_eqlP rfl rfl) rfl <| hl_v (ov_move rfl) rfl <| ?_
  refine hl_on rfl rfl <| hl_v (ov_move rfl) rfl <| hl_on rfl rfl <| hl_v (ov_eql rfl rfl) rfl <| hl_v (ov_pickT rfl rfl) rfl <| hl_v (ov_move rfl) rfl <| ?_
  refine hl_partT (t := 42) rfl (rfl) ?_
  refine hl_on rfl rfl <| hl_v (ov_move rfl) rfl <| hl_on rfl rfl <| hl_v (ov_eql rfl rfl) rfl <| hl_v (ov_pickT rfl rfl) rfl <| hl_v (ov_move rfl) rfl <| ?_
  refine hl_partT (t := 46) rfl (rfl) ?_
  refine hl_on rfl rfl <| hl_v (ov_move rfl) rfl <| hl_on rfl rfl <| hl_v (ov_eqlP rfl rfl) rfl <| hl_v (ov_pickT rfl rfl) rfl <| hl_v (ov_move rfl) rfl <| ?_
  refine hl_on rfl rfl <| hl_v (ov_move rfl) rfl <| hl_on rfl rfl <| hl_v (ov_eql rfl rfl) rfl <| hl_v (ov_pickT rfl rfl) rfl <| hl_v (ov_move rfl) rfl <| ?_
  refine hl_partT (t := 54) rfl (rfl) ?_
  refine hl_on rfl rfl <| hl_v (ov_move rfl) rfl <| hl_on rfl rfl <| hl_v (ov_fieldA rfl) rfl <| hl_on rfl rfl <| hl_v (ov_load rfl (CellIs.blk rfl)) rfl <| ?_
  refine hl_on rfl rfl <| hl_c Try.call31 rfl rfl (fun w1 H1 => Own.calln H1 fun D' hold hin H2 => Append_nil D' w1 _) ?_
  refine hl_on rfl rfl <| hl_v (ov_eql rfl rfl) rfl <| hl_v (ov_pickT rfl rfl) rfl <| hl_v (ov_move rfl) rfl <| ?_
  refine hl_partT (t := 61) rfl (rfl) ?_
  refine hl_on rfl rfl <| hl_v (ov_move rfl) rfl <| ?_
  refine hl_on rfl rfl <| hl_c Try.call32 rfl rfl (fun w1 H1 => Own.calln H1 fun D' hold hin H2 => All_nil D' w1) ?_
  refine hl_on rfl rfl <| hl_v (by first | exact ov_len rfl | exact ov_lenS rfl) rfl <| ?_
  refine hl_on rfl rfl <| hl_v (ov_eql rfl rfl) rfl <| hl_v (ov_pickT rfl rfl) rfl <| hl_v (ov_move rfl) rfl <| ?_
  refine hl_partT (t := 67) rfl (rfl) ?_
  refine hl_on rfl rfl <| hl_v (ov_move rfl) rfl <| ?_
  refine hl_on rfl rfl <| hl_c Try.call33 rfl rfl (fun w1 H1 => Own.calln H1 fun D' hold hin H2 => Room_nil D' w1) ?_
  refine hl_on rfl rfl <| hl_v (ov_eql rfl rfl) rfl <| hl_v (ov_pickT rfl rfl) rfl <| hl_v (ov_move rfl) rfl <| ?_
  refine hl_partT (t := 72) rfl (rfl) ?_
  refine hl_on rfl rfl <| hl_c Try.call29 rfl rfl (fun w1 H1 => Own.calln H1 fun D' hold hin H2 => wakes4_spec D' w1) ?_
  refine hl_v (ov_pickT rfl rfl) rfl <| hl_v (ov_assign rfl) rfl <| hl_nil <| hx_then_normal <| hc_ret <| ?_
  exact results_1 (.inr rfl) rfl rfl fun w' H' => ⟨rfl, H'.ent (Ent.nil _)⟩
end Go.Proofs.Ytijaldfiaeafgaa
