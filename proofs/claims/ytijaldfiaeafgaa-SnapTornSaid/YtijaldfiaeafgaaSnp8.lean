import Derived.Test.YtijaldfiaeafgaaSnp7
set_option linter.unusedVariables false
set_option linter.unusedSimpArgs false
namespace Go.Proofs.Ytijaldfiaeafgaa
open Slk
structure TI (S : List Sec) (i : Nat) : Prop where
  len : S.length = 32
  at_ : atS S = 16 * (i % 2)
  el : ∀ e, lookS S (16 * ((i + 1) % 2)) = some e → e.2.1 < i + 1
theorem TI.zero : TI (List.replicate 32 zeroSec) 0 := ⟨List.length_replicate, atS_none (blank_new (by decide)), fun e h => by
  rw [blank_look (by decide)] at h; cases h⟩
theorem TI.next {S : List Sec} {i : Nat} {xs : List UInt8} (h : TI S i) (hi : i ≤ 100) (hx : xs.length ≤ 993) : TI (saveS S (i + 1) xs) (i + 1) ∧ loadE (saveS S (i + 1) xs) = (i + 1, xs, 0) := by
  obtain ⟨h1, h2, h3⟩ := h
  have hl : (saveS S (i + 1) xs).length = 32 := (save_len (by omega) hx).trans h1
  have m1 : lookS (saveS S (i + 1) xs) (16 * (i % 2)) = some (snE (i + 1) xs) := by
    have := save_look (S := S) (a := i + 1) (xs := xs) (by omega) (by omega) hx
    rwa [h2] at this
  have m2 : lookS (saveS S (i + 1) xs) (16 * ((i + 1) % 2)) = lookS S (16 * ((i + 1) % 2)) := save_other (by omega) hx (by omega) (by omega)
  have hn : newS (saveS S (i + 1) xs) = some (snE (i + 1) xs, 16 * (i % 2)) := by
    rw [newS_eq]
    rcases Nat.mod_two_eq_zero_or_one i with hm | hm
    · have hm2 : (i + 1) % 2 = 1 := by omega
      rw [hm] at m1
      rw [hm2] at m2 h3
      have m1 : lookS (saveS S (i + 1) xs) 0 = some (snE (i + 1) xs) := m1
      have m2 : lookS (saveS S (i + 1) xs) 16 = lookS S 16 := m2
      rw [m1, m2, hm]
      rcases ho : lookS S 16 with _ | e
      · rfl
      · have := h3 e ho
        show (if i + 1 < e.2.1 then _ else _) = _
        rw [if_neg (by omega)]; rfl
    · have hm2 : (i + 1) % 2 = 0 := by omega
      rw [hm] at m1
      rw [hm2] at m2 h3
      have m1 : lookS (saveS S (i + 1) xs) 16 = some (snE (i + 1) xs) := m1
      have m2 : lookS (saveS S (i + 1) xs) 0 = lookS S 0 := m2
      rw [m1, m2, hm]
      rcases ho : lookS S 0 with _ | e
      · rfl
      · have := h3 e ho
        show (if e.2.1 < i + 1 then _ else _) = _
        rw [if_pos (by omega)]
  refine ⟨⟨hl, ?_, fun e he => ?_⟩, loadE_some hn⟩
  · rw [atS_some hn]
    show (if 16 * (i % 2) = 0 then 16 else 0) = _
    split <;> omega
  rw [show (i + 1 + 1) % 2 = i % 2 by omega, m1] at he
  cases he
  show i + 1 < i + 1 + 1
  omega
set_option maxHeartbeats 1000000 in
theorem SnapTurns_walk (W : World) (v0 : Value) (l : List (List UInt8)) (h0 : Old none' W (Rep.rep l [v0])) :
    Calls Try.prog 4 #[v0] W fun e w' => e = .returned (.bool true) ∧ Own none' W w' [] := by
  obtain ⟨A, cap, rfl, hc1, hc2, hel⟩ := h0.openX (by decide)
  obtain ⟨S0, hS0⟩ : ∃ S, S = List.replicate 32 zeroSec := ⟨_, rfl⟩
  have hT0 : TI S0 0 := by rw [hS0]; exact TI.zero
  refine hc_enter (vs := [.slice A l.length cap]) Try.func4 rfl _ Try.ntmps4 rfl (Own.start none' W) ?_
  simp only [argSlots, Nat.zero_add]
  refine hc_seq <| hc_region <| hl_v (ov_assign rfl) rfl <| hl_nil <| hx_then_normal <| hc_seq <| ?_
  refine hc_seq <| hc_region <| hl_v (ov_move rfl) rfl <| hl_v (by first | exact ov_len rfl | exact ov_lenS rfl) rfl <| ?_
  refine hl_v (ov_gtr rfl rfl) rfl <| hl_nil <| hx_then_normal <| ?_
  refine hc_cond rfl (fun a1 => ?_) (fun a1 => ?_)
  · refine hc_seq <| hc_region <| ?_
    refine hl_c Try.call13 rfl rfl (fun w1 H1 => Own.calln H1 fun D' hold hin H2 => wakes7_spec D' w1) ?_
    refine hl_v (ov_assign rfl) rfl <| hl_nil <| hx_then_normal <| hc_ret <| hx_then_ret <| ?_
    exact results_1 (.inr rfl) rfl rfl fun w' H' => ⟨rfl, H'.ent (Ent.nil _)⟩
  refine hc_skip <| hx_then_normal <| hc_seq <| hc_region <| ?_
  refine hl_call (σ := Nat) Try.call14 rfl rfl (fun w1 H1 => Own.callx0 H1 fun D' hold hin H2 => (New_ok D' w1 32 (by decide) (by decide)).mono fun e w' ⟨g, he, H'⟩ => ⟨g, he, show Own D' w1 w' [dsk g S0 []] by rw [hS0]; exact H'⟩) ?_
  intro g
  try rw [List.nil_append]
  refine hl_v (ov_move rfl) rfl <| hl_v (ov_extract rfl rfl) rfl <| hl_v (ov_extract rfl rfl) rfl <| hl_v (ov_assign rfl) rfl <| hl_v (ov_assign rfl) rfl <| hl_nil <| ?_
  refine hx_then_normal <| hc_seq <| hc_seq <| hc_region <| hl_v (ov_move rfl) rfl <| hl_v (ov_neq rfl rfl) rfl <| ?_
  refine hl_v (ov_move rfl) rfl <| ?_
  refine hl_partF (t := 26) rfl ((fun h => h rfl)) ?_
  refine hl_on rfl rfl <| hl_v (ov_move rfl) rfl <| hl_on rfl rfl <| hl_v (ov_eqlP rfl rfl) rfl <| hl_v (ov_pickF rfl rfl) rfl <| hl_nil <| hx_then_normal <| ?_
  refine hc_cond_false rfl ?_
  refine hc_skip <| hx_then_normal <| hc_seq <| hc_seq <| hc_region <| hl_v (ov_assign rfl) rfl <| ?_
  refine hl_nil <| hx_then_normal <| hc_block <| ?_
  refine hc_loopK1 (σ := Nat × List Sec) [0, 3] rfl 5 (fun s => .int .i64 (s.1 : Int)) (fun s => [dsk g s.2 []]) (fun s => TI s.2 s.1 ∧ s.1 ≤ l.length) (fun s => l.length - s.1) ((0, S0)) (⟨hT0, Nat.zero_le _⟩) rfl (by first | assumption | exact Ent.refl _ | exact Ent.nil _ | (repeat (first | exact Ent.refl _ | exact Ent.nil _ | refine Ent.pick ?_))) ?_
  rintro ⟨i, S⟩ hj_ K1 hK1
  dsimp only at hj_ ⊢
  obtain ⟨hT, hi⟩ := hj_
  refine hc_seq <| hc_seq <| hc_region <| hl_v (ov_move rfl) rfl <| hl_v (ov_move rfl) rfl <| hl_v (by first | exact ov_len rfl | exact ov_lenS rfl) rfl <| ?_
  refine hl_v (ov_lss rfl rfl) rfl <| hl_nil <| hx_then_normal <| ?_
  refine hc_cond rfl (fun h => ?_) (fun h => ?_)
  · have hlt : i < l.length := by omega
    obtain ⟨hA, cs, hxo, hcs⟩ := hel i hlt
    obtain ⟨B, cb, rfl, hxo⟩ := bytes_open hxo
    have hcell : ∀ l', CellIs none' W l' (ab A) (ao A + i * 1) (.slice B l[i].length cb) := fun l' => hcs 0 _ rfl l'
    obtain ⟨x, hx⟩ : ∃ x, x = l[i] := ⟨_, rfl⟩
    rw [← hx] at hcell hxo
    refine hc_skip <| hx_then_normal <| hc_seq <| hc_block <| hc_seq <| hc_seq <| ?_
    refine hc_region <| hl_v (ov_move rfl) rfl <| hl_v (ov_move rfl) rfl <| ?_
    refine hl_v (ov_idxS rfl hA rfl i rfl hlt) rfl ?_
    refine hl_v (ov_load rfl (hcell _)) rfl ?_
    refine hl_v (by first | exact ov_len rfl | exact ov_lenS rfl) rfl <| ?_
    refine hl_v (ov_gtr rfl rfl) rfl <| hl_nil <| hx_then_normal <| ?_
    refine hc_cond rfl (fun a2 => ?_) (fun a2 => ?_)
    · refine hc_seq <| hc_region <| ?_
      refine hl_c Try.call13 rfl rfl (fun w1 H1 => Own.calln H1 fun D' hold hin H2 => wakes7_spec D' w1) ?_
      refine hl_v (ov_assign rfl) rfl <| hl_nil <| hx_then_normal <| hc_ret <| hx_then_ret <| hx_block_ret <| ?_
      refine hx_then_ret <| hx_then_ret <| hx_block_ret <| hx_then_ret <| ?_
      exact results_1 (.inr rfl) rfl rfl fun w' H' => ⟨rfl, H'.ent (Ent.nil _)⟩
    have hx9 : x.length ≤ 993 := by omega
    have hSl := hT.len
    have hat := hT.at_
    obtain ⟨hT2, hL2⟩ := hT.next (xs := x) (by omega) hx9
    obtain ⟨o, ho⟩ : ∃ o, o = 16 * ((i + 1) % 2) := ⟨_, rfl⟩
    obtain ⟨p, hp⟩ : ∃ p, p = 16 * (i % 2) := ⟨_, rfl⟩
    have hoS : o < S.length := by omega
    have hkeep := save_get (S := S) (a := i + 1) (xs := x) (at2 := o) (i := o) (by omega) hx9 (by omega) (by omega) (by omega)
    obtain ⟨sm, hsm1, hsm0⟩ := save_head (S := S) (a := i + 1) (xs := x) (by omega) hx9
    rw [hat, ← hp] at hsm1
    obtain ⟨S', hS'⟩ : ∃ S', S' = saveS S (i + 1) x := ⟨_, rfl⟩
    rw [← hS'] at hT2 hL2 hkeep hsm1
    have hSl2 := hT2.len
    obtain ⟨so, hso⟩ : ∃ so, so = S[o] := ⟨_, rfl⟩
    rw [List.getElem?_eq_getElem hoS, ← hso] at hkeep
    obtain ⟨ho2, hke⟩ := List.getElem?_eq_some_iff.1 hkeep
    obtain ⟨hp2, hme⟩ := List.getElem?_eq_some_iff.1 hsm1
    refine hc_skip <| hx_then_normal <| hc_seq <| hc_region <| hl_v (ov_move rfl) rfl <| ?_
    refine hl_v (ov_add (m := ((i + 1 : Nat) : Int)) rfl rfl ((wrap_i64 (by omega)).trans (by omega))) rfl ?_
    refine hl_v (ov_remE (m := (i + 1) % 2) (b := 2) rfl rfl (by decide) rfl) rfl ?_
    refine hl_v (ov_mul (m := (o : Int)) rfl rfl ((wrap_i64 (by omega)).trans (by omega))) rfl ?_
    refine hl_v (ov_assign rfl) rfl <| hl_nil <| hx_then_normal <| hc_seq <| hc_region <| hl_v (ov_move rfl) rfl <| ?_
    refine hl_v (ov_move rfl) rfl <| ?_
    refine hl_c Try.call17 rfl rfl (fun w1 H1 => Own.callp (dsk g S []) H1 fun D' hold hin H2 => (Read_ok D' w1 g o S [] hoS H2).mono fun e w' ⟨he, H'⟩ => ⟨show e = Ending.returned (.tuple #[.agg (secC so).toArray, .int .i64 0]) by rw [he, hso]; rfl, H'⟩) ?_
    refine hl_v (ov_move rfl) rfl <| hl_v (ov_extract rfl rfl) rfl <| hl_v (ov_extract rfl rfl) rfl <| hl_new (on_alloc) rfl rfl rfl fun b7 =>  ?_
    refine hl_u0 (on_storeW (vs := secC so) rfl rfl (by simp [secC_len]) (by simp [secC_len]) (secC_one so)) rfl rfl ?_
    refine hl_v (ov_assign rfl) rfl <| hl_nil <| hx_then_normal <| hc_seq <| hc_seq <| hc_region <| ?_
    refine hl_v (ov_move rfl) rfl <| hl_v (ov_move rfl) rfl <| ?_
    refine hl_v (ov_add (m := ((i + 1 : Nat) : Int)) rfl rfl ((wrap_i64 (by omega)).trans (by omega))) rfl ?_
    refine hl_v (ov_conv (m := ((i + 1 : Nat) : Int)) rfl (wrap_u32 (by omega))) rfl ?_
    refine hl_v (ov_move rfl) rfl <| hl_v (ov_move rfl) rfl <| ?_
    refine hl_v (ov_idxS rfl hA rfl i rfl hlt) rfl ?_
    refine hl_v (ov_load rfl (hcell _)) rfl ?_
    refine hl_c Try.call16 rfl rfl (fun w1 H1 => Own.callp (dsk g S []) H1 fun D' hold hin H2 => (Save_ok D' w1 g S (i + 1) _ x (by omega) (by omega) hx9 (hold _ hxo) H2).mono fun e w' ⟨he, H'⟩ => ⟨he, show Own D' w1 w' [dsk g S' []] by rw [hS']; exact H'⟩) ?_
    refine hl_v (ov_neq rfl rfl) rfl <| hl_v (ov_move rfl) rfl <| ?_
    refine hl_partF (t := 63) rfl ((fun h => h rfl)) ?_
    refine hl_on rfl rfl <| hl_v (ov_move rfl) rfl <| hl_on rfl rfl <| hl_v (ov_neq rfl rfl) rfl <| hl_v (ov_pickF rfl rfl) rfl <| hl_nil <| hx_then_normal <| ?_
    refine hc_cond_F rfl ((fun h => h rfl)) ?_
    refine hc_skip <| hx_then_normal <| hc_seq <| hc_region <| hl_v (ov_move rfl) rfl <| hl_v (ov_move rfl) rfl <| ?_
    refine hl_c Try.call17 rfl rfl (fun w1 H1 => Own.callp (dsk g S' []) H1 fun D' hold hin H2 => (Read_ok D' w1 g o S' [] ho2 H2).mono fun e w' ⟨he, H'⟩ => ⟨show e = Ending.returned (.tuple #[.agg (secC so).toArray, .int .i64 0]) by rw [he, hke]; rfl, H'⟩) ?_
    refine hl_v (ov_move rfl) rfl <| hl_v (ov_extract rfl rfl) rfl <| hl_v (ov_extract rfl rfl) rfl <| hl_new (on_alloc) rfl rfl rfl fun b9 =>  ?_
    refine hl_u0 (on_storeW (vs := secC so) rfl rfl (by simp [secC_len]) (by simp [secC_len]) (secC_one so)) rfl rfl ?_
    refine hl_v (ov_assign rfl) rfl <| hl_nil <| hx_then_normal <| hc_seq <| hc_region <| hl_v (ov_move rfl) rfl <| ?_
    refine hl_v (ov_move rfl) rfl <| ?_
    refine hl_v (ov_remE (m := i % 2) (b := 2) rfl rfl (by decide) rfl) rfl ?_
    refine hl_v (ov_mul (m := (p : Int)) rfl rfl ((wrap_i64 (by omega)).trans (by omega))) rfl ?_
    refine hl_c Try.call17 rfl rfl (fun w1 H1 => Own.callp (dsk g S' []) H1 fun D' hold hin H2 => (Read_ok D' w1 g p S' [] hp2 H2).mono fun e w' ⟨he, H'⟩ => ⟨show e = Ending.returned (.tuple #[.agg (secC sm).toArray, .int .i64 0]) by rw [he, hme]; rfl, H'⟩) ?_
    refine hl_v (ov_move rfl) rfl <| hl_v (ov_extract rfl rfl) rfl <| hl_v (ov_extract rfl rfl) rfl <| hl_new (on_alloc) rfl rfl rfl fun b11 =>  ?_
    refine hl_u0 (on_storeW (vs := secC sm) rfl rfl (by simp [secC_len]) (by simp [secC_len]) (secC_one sm)) rfl rfl ?_
    refine hl_v (ov_assign rfl) rfl <| hl_nil <| hx_then_normal <| hc_seq <| hc_region <| hl_v (ov_move rfl) rfl <| ?_
    refine hl_call (σ := Option Addr × Nat) Try.call15 rfl rfl (fun w1 H1 => Own.callpx (dsk g S' []) H1 fun D' hold hin H2 => Load_is D' w1 g S' (i + 1) x 0 hL2 (by omega) H2) ?_
    intro q2
    refine hl_v (ov_move rfl) rfl <| hl_v (ov_extract rfl rfl) rfl <| hl_v (ov_extract rfl rfl) rfl <| hl_v (ov_extract rfl rfl) rfl <| hl_v (ov_assign rfl) rfl <| hl_v (ov_assign rfl) rfl <| ?_
    refine hl_v (ov_assign rfl) rfl <| hl_nil <| hx_then_normal <| hc_seq <| hc_region <| hl_v (ov_move rfl) rfl <| ?_
    refine hl_v (ov_neq rfl rfl) rfl <| hl_v (ov_move rfl) rfl <| ?_
    refine hl_partF (t := 89) rfl ((fun h => h rfl)) ?_
    refine hl_on rfl rfl <| hl_v (ov_move rfl) rfl <| hl_on rfl rfl <| hl_v (ov_neq rfl rfl) rfl <| hl_v (ov_pickF rfl rfl) rfl <| hl_v (ov_move rfl) rfl <| ?_
    refine hl_partF (t := 93) rfl ((fun h => h rfl)) ?_
    refine hl_on rfl rfl <| hl_v (ov_loadW rfl (secC_len so)) rfl ?_
    refine hl_on rfl rfl <| hl_v (ov_loadW rfl (secC_len so)) rfl ?_
    refine hl_on rfl rfl <| hl_v (ov_neqSec (s := so) (t := so) rfl rfl) rfl ?_
    refine hl_v (ov_pickF rfl rfl) rfl <| hl_v (ov_move rfl) rfl <| ?_
    refine hl_partF (t := 98) rfl ((fun h => h rfl)) ?_
    refine hl_on rfl rfl <| hl_v (ov_idxPc rfl rfl rfl rfl rfl) rfl <| ?_
    refine hl_on rfl rfl <| hl_v (ov_load rfl (CellIs.blk (secC_at sm (j := 0) (by decide)))) rfl ?_
    refine hl_on rfl rfl <| hl_v (ov_neq rfl rfl) rfl <| hl_v (ov_pickF rfl rfl) rfl <| hl_v (ov_move rfl) rfl <| ?_
    refine hl_partF (t := 103) rfl ((fun h => h (by rw [hsm0]; rfl))) ?_
    refine hl_on rfl rfl <| hl_v (ov_move rfl) rfl <| hl_on rfl rfl <| hl_v (ov_neq rfl rfl) rfl <| hl_v (ov_pickF rfl rfl) rfl <| hl_v (ov_move rfl) rfl <| ?_
    refine hl_partF (t := 107) rfl ((fun h => h rfl)) ?_
    refine hl_on rfl rfl <| hl_v (ov_move rfl) rfl <| hl_on rfl rfl <| hl_v (ov_move rfl) rfl <| ?_
    refine hl_on rfl rfl <| hl_v (ov_add (m := ((i + 1 : Nat) : Int)) rfl rfl ((wrap_i64 (by omega)).trans (by omega))) rfl ?_
    refine hl_on rfl rfl <| hl_v (ov_conv (m := ((i + 1 : Nat) : Int)) rfl (wrap_u32 (by omega))) rfl ?_
    refine hl_on rfl rfl <| hl_v (ov_neq rfl rfl) rfl <| hl_v (ov_pickF rfl rfl) rfl <| hl_v (ov_move rfl) rfl <| ?_
    refine hl_partF (t := 114) rfl ((fun h => h rfl)) ?_
    refine hl_on rfl rfl <| hl_v (ov_move rfl) rfl <| hl_on rfl rfl <| hl_v (ov_move rfl) rfl <| hl_on rfl rfl <| hl_v (ov_move rfl) rfl <| ?_
    refine hl_on rfl rfl <| hl_v (ov_idxS rfl hA rfl i rfl hlt) rfl ?_
    refine hl_on rfl rfl <| hl_v (ov_load rfl (hcell _)) rfl ?_
    refine hl_on rfl rfl <| hl_c Try.call18 rfl rfl (fun w1 H1 => Own.calln H1 fun D' hold hin H2 => Bytes_spec D' w1 _ _ x x (hin _ fun h hs ho => rep_row (A := q2.1) hs x rfl (repL_bytes.2 rfl)) (hold _ hxo)) ?_
    rw [decide_eq_true (rfl : x = x)]
    refine hl_on rfl rfl <| hl_v (by first | exact ov_notd rfl | exact ov_not rfl) rfl <| ?_
    refine hl_v (ov_pickF rfl rfl) rfl <| hl_nil <| hx_then_normal <| ?_
    refine hc_cond_false rfl ?_
    refine hc_skip <| hx_block_normal <| hx_then_normal <| hc_region <| hl_v (ov_move rfl) rfl <| hl_v (ov_add rfl rfl (by first | exact wrap_i64 (by omega) | rfl)) rfl <| ?_
    refine hl_v (ov_assign rfl) rfl <| hl_nil <| ?_
    refine hx_next hK1 ((i + 1, S')) (⟨hT2, hlt⟩) (by omega) (by repeat (first | exact Slots.sub_nil _ | refine Slots.sub_cons rfl ?_)) (by first | assumption | exact Ent.refl _ | exact Ent.nil _ | (repeat (first | exact Ent.refl _ | exact Ent.nil _ | refine Ent.pick ?_)))
  refine hc_exit <| hx_then_exit <| hx_then_exit <| hx_block_out <| hx_then_normal <| hc_seq <| ?_
  refine hc_region <| ?_
  refine hl_c Try.call13 rfl rfl (fun w1 H1 => Own.calln H1 fun D' hold hin H2 => wakes7_spec D' w1) ?_
  refine hl_v (ov_assign rfl) rfl <| hl_nil <| hx_then_normal <| hc_ret <| ?_
  exact results_1 (.inr rfl) rfl rfl fun w' H' => ⟨rfl, H'.ent (Ent.nil _)⟩
end Go.Proofs.Ytijaldfiaeafgaa
