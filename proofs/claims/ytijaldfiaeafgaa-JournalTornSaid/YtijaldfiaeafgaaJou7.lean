import Derived.Test.YtijaldfiaeafgaaJou6
set_option linter.unusedVariables false
set_option linter.unusedSimpArgs false
namespace Go.Proofs.Ytijaldfiaeafgaa
open Slk
/-- What is told of a journal's state, in the law of rooms. -/
structure RI (size : Nat) (S : List Sec) (L : List (List UInt8)) (end_ i : Nat) : Prop where
  len : S.length = size
  le : end_ ≤ size
  many : L.length ≤ i
  small : ∀ x ∈ L, x.length ≤ 2000
theorem RI.next {size : Nat} {S : List Sec} {L : List (List UInt8)} {end_ i : Nat} (h : RI size S L end_ i) {x : List UInt8} (hx : x.length ≤ 2000) {n : Nat} (hn : needM x.length = n) (hfit : n ≤ size - end_) : RI size (putS S end_ (encE (jouE 3 L.length x))) (L ++ [x]) (end_ + n) (i + 1) := by
  have h1 := h.len
  have h2 := h.le
  have h3 := h.many
  have hl := encE_len (jouE 3 L.length x) (show x.length ≤ 4000 by omega)
  have hl : (encE (jouE 3 L.length x)).length = n := hl.trans hn
  refine ⟨by rw [putS_len (by omega), h1], by omega, by rw [List.length_append]; show L.length + 1 ≤ i + 1; omega, fun y hy => ?_⟩
  rcases List.mem_append.1 hy with hy | hy
  · exact h.small y hy
  obtain rfl := List.mem_singleton.1 hy; exact hx
set_option maxHeartbeats 2000000 in
theorem JournalRooms_walk (W : World) (v0 v1 : Value) (l : List (List UInt8)) (nn : UInt8) (h0 : Old none' W (Rep.rep l [v0])) (h1 : Old none' W (Rep.rep nn [v1])) :
    Calls Try.prog 10 #[v0, v1] W fun e w' => e = .returned (.bool true) ∧ Own none' W w' [] := by
  obtain ⟨hh1, _, e1⟩ := h1
  have e1 : [v1] = [Value.int .u8 nn.toNat] := e1
  obtain rfl : v1 = .int .u8 nn.toNat := by simpa using e1
  obtain ⟨A, cap, rfl, hc1, hc2, hel⟩ := h0.openX (by decide)
  have hnn := nn.toNat_lt
  obtain ⟨M, hM⟩ : ∃ M, M = nn.toNat := ⟨_, rfl⟩
  rw [← hM] at hnn ⊢
  obtain ⟨size, hsz⟩ : ∃ n, n = 4 + M % 20 := ⟨_, rfl⟩
  obtain ⟨S0, hS0⟩ : ∃ S, S = List.replicate size zeroSec := ⟨_, rfl⟩
  have hl0 : S0.length = size := by rw [hS0]; exact List.length_replicate
  have hT0 : S0 = (S0.drop 0).take size := by rw [List.drop_zero, List.take_of_length_le (by omega)]
  have e0 : entsF 3 size 0 S0 = ([], 0) := by
    have := (JI.begin (ep := 3) (T := S0) (by rw [hS0]; exact noHead_zero)).open (by decide) (by omega)
    rw [hl0] at this; exact this
  have hI0 : RI size S0 [] 0 0 := ⟨hl0, Nat.zero_le _, Nat.le_refl _, fun x hx => by cases hx⟩
  refine hc_enter (vs := [.slice A l.length cap, .int .u8 (M : Int)]) Try.func10 rfl _ Try.ntmps10 rfl (Own.start none' W) ?_
  simp only [argSlots, Nat.zero_add]
  refine hc_seq <| hc_region <| hl_v (ov_assign rfl) rfl <| hl_nil <| hx_then_normal <| hc_seq <| ?_
  refine hc_seq <| hc_region <| hl_v (ov_move rfl) rfl <| hl_v (by first | exact ov_len rfl | exact ov_lenS rfl) rfl <| ?_
  refine hl_v (ov_gtr rfl rfl) rfl <| hl_nil <| hx_then_normal <| ?_
  refine hc_cond rfl (fun a1 => ?_) (fun a1 => ?_)
  · refine hc_seq <| hc_region <| ?_
    refine hl_c Try.call29 rfl rfl (fun w1 H1 => Own.calln H1 fun D' hold hin H2 => wakes4_spec D' w1) ?_
    refine hl_v (ov_assign rfl) rfl <| hl_nil <| hx_then_normal <| hc_ret <| hx_then_ret <| ?_
    exact results_1 (.inr rfl) rfl rfl fun w' H' => ⟨rfl, H'.ent (Ent.nil _)⟩
  refine hc_skip <| hx_then_normal <| hc_seq <| hc_region <| hl_v (ov_move rfl) rfl <| hl_v (ov_conv rfl (by first | exact wrap_i64 (by omega) | rfl)) rfl <| ?_
  refine hl_v (ov_remE (m := M % 20) (b := 20) rfl rfl (by omega) rfl) rfl ?_
  refine hl_v (ov_add (m := (size : Int)) rfl rfl ((wrap_i64 (by omega)).trans (by omega))) rfl ?_
  refine hl_v (ov_assign rfl) rfl <| hl_nil <| hx_then_normal <| hc_seq <| hc_region <| hl_v (ov_move rfl) rfl <| ?_
  refine hl_call (σ := Nat) Try.call14 rfl rfl (fun w1 H1 => Own.callx0 H1 fun D' hold hin H2 => (New_ok D' w1 size (by omega) (by omega)).mono fun e w' ⟨g, he, H'⟩ => ⟨g, he, show Own D' w1 w' [dsk g S0 []] by rw [hS0]; exact H'⟩) ?_
  intro g
  try rw [List.nil_append]
  refine hl_v (ov_move rfl) rfl <| hl_v (ov_extract rfl rfl) rfl <| hl_v (ov_extract rfl rfl) rfl <| hl_v (ov_assign rfl) rfl <| hl_v (ov_assign rfl) rfl <| hl_nil <| ?_
  refine hx_then_normal <| hc_seq <| hc_region <| hl_v (ov_move rfl) rfl <| hl_v (ov_move rfl) rfl <| ?_
  refine hl_call (σ := Nat) Try.call30 rfl rfl (fun w1 H1 => Own.callpx (dsk g S0 []) H1 fun D' hold hin H2 => JOpen_is D' w1 g S0 0 size size S0 3 [] 0 0 e0 rfl (by omega) (by omega) (by omega) (by omega) hT0 H2) ?_
  intro jb
  refine hl_v (ov_move rfl) rfl <| hl_v (ov_extract rfl rfl) rfl <| hl_v (ov_extract rfl rfl) rfl <| hl_v (ov_assign rfl) rfl <| hl_v (ov_assign rfl) rfl <| hl_nil <| ?_
  refine hx_then_normal <| hc_seq <| hc_seq <| hc_region <| hl_v (ov_move rfl) rfl <| hl_v (ov_neq rfl rfl) rfl <| ?_
  refine hl_v (ov_move rfl) rfl <| ?_
  refine hl_partF (t := 36) rfl ((fun h => h rfl)) ?_
  refine hl_on rfl rfl <| hl_v (ov_move rfl) rfl <| hl_on rfl rfl <| hl_v (ov_neq rfl rfl) rfl <| hl_v (ov_pickF rfl rfl) rfl <| hl_v (ov_move rfl) rfl <| ?_
  refine hl_partF (t := 40) rfl ((fun h => h rfl)) ?_
  refine hl_on rfl rfl <| hl_v (ov_move rfl) rfl <| hl_on rfl rfl <| hl_v (ov_eqlP rfl rfl) rfl <| hl_v (ov_pickF rfl rfl) rfl <| hl_nil <| hx_then_normal <| ?_
  refine hc_cond_false rfl ?_
  refine hc_skip <| hx_then_normal <| hc_seq <| hc_region <| hl_v (ov_move rfl) rfl <| hl_v (ov_assign rfl) rfl <| ?_
  refine hl_v (ov_assign rfl) rfl <| hl_nil <| hx_then_normal <| hc_seq <| hc_seq <| hc_region <| ?_
  refine hl_v (ov_assign rfl) rfl <| hl_nil <| hx_then_normal <| hc_block <| ?_
  refine hc_loopK3 (σ := Nat × List Sec × List (List UInt8) × Nat) [0, 5, 8] rfl 12 (fun s => .int .i64 (s.1 : Int)) 10 (fun s => .int .i64 ((size - s.2.2.2 : Nat) : Int)) 11 (fun s => .int .i64 ((s.2.2.1.length : Nat) : Int)) (fun s => [jou jb g 0 size 3 s.2.2.2 s.2.2.1, dsk g s.2.1 []]) (fun s => RI size s.2.1 s.2.2.1 s.2.2.2 s.1 ∧ s.1 ≤ l.length) (fun s => l.length - s.1) ((0, S0, [], 0)) (⟨hI0, Nat.zero_le _⟩) rfl rfl rfl (by first | assumption | exact Ent.refl _ | exact Ent.nil _ | (repeat (first | exact Ent.refl _ | exact Ent.nil _ | refine Ent.pick ?_))) ?_
  rintro ⟨i, S, L, end_⟩ hj_ K1 hK1
  dsimp only at hj_ ⊢
  obtain ⟨hI, hi⟩ := hj_
  have hSl := hI.len
  have hEl := hI.le
  have hLi := hI.many
  refine hc_seq <| hc_seq <| hc_region <| hl_v (ov_move rfl) rfl <| hl_v (ov_move rfl) rfl <| hl_v (by first | exact ov_len rfl | exact ov_lenS rfl) rfl <| ?_
  refine hl_v (ov_lss rfl rfl) rfl <| hl_nil <| hx_then_normal <| ?_
  refine hc_cond rfl (fun h => ?_) (fun h => ?_)
  · have hlt : i < l.length := by omega
    obtain ⟨hA, cs, hxo, hcs⟩ := hel i hlt
    obtain ⟨B, cb, rfl, hxo⟩ := bytes_open hxo
    have hcell : ∀ l', CellIs none' W l' (ab A) (ao A + i * 1) (.slice B l[i].length cb) := fun l' => hcs 0 _ rfl l'
    obtain ⟨x, hx⟩ : ∃ x, x = l[i] := ⟨_, rfl⟩
    rw [← hx] at hcell hxo
    refine hc_skip <| hx_then_normal <| hc_seq <| hc_block <| hc_seq <| hc_seq <| ?_
    refine hc_region <| hl_v (ov_move rfl) rfl <| hl_v (ov_move rfl) rfl <| ?_
    refine hl_v (ov_idxS rfl hA rfl i rfl hlt) rfl ?_
    refine hl_v (ov_load rfl (hcell _)) rfl ?_
    refine hl_v (by first | exact ov_len rfl | exact ov_lenS rfl) rfl <| ?_
    refine hl_v (ov_gtr rfl rfl) rfl <| hl_nil <| hx_then_normal <| ?_
    refine hc_cond rfl (fun a2 => ?_) (fun a2 => ?_)
    · refine hc_seq <| hc_region <| ?_
      refine hl_c Try.call29 rfl rfl (fun w1 H1 => Own.calln H1 fun D' hold hin H2 => wakes4_spec D' w1) ?_
      refine hl_v (ov_assign rfl) rfl <| hl_nil <| hx_then_normal <| hc_ret <| hx_then_ret <| hx_block_ret <| ?_
      refine hx_then_ret <| hx_then_ret <| hx_block_ret <| hx_then_ret <| ?_
      exact results_1 (.inr rfl) rfl rfl fun w' H' => ⟨rfl, H'.ent (Ent.nil _)⟩
    obtain ⟨n, hn⟩ : ∃ n, needM x.length = n := ⟨_, rfl⟩
    have hn' : n = (x.length + 77) / 63 := by rw [← hn]; unfold needM; rw [if_neg (by omega)]
    refine hc_skip <| hx_then_normal <| hc_seq <| hc_region <| hl_v (ov_move rfl) rfl <| hl_v (ov_move rfl) rfl <| ?_
    refine hl_v (ov_idxS rfl hA rfl i rfl hlt) rfl ?_
    refine hl_v (ov_load rfl (hcell _)) rfl ?_
    refine hl_v (by first | exact ov_len rfl | exact ov_lenS rfl) rfl <| ?_
    refine hl_v (ov_add rfl rfl (by first | exact wrap_i64 (by omega) | rfl)) rfl <| ?_
    refine hl_v (ov_add rfl rfl (by first | exact wrap_i64 (by omega) | rfl)) rfl <| ?_
    refine hl_v (ov_quo (m := (n : Int)) rfl rfl (by decide) (by rw [Int.tdiv_eq_ediv_of_nonneg (by omega)]; exact (wrap_i64 (by omega)).trans (by omega))) rfl ?_
    refine hl_v (ov_assign rfl) rfl <| hl_nil <| hx_then_normal <| hc_seq <| hc_region <| hl_v (ov_move rfl) rfl <| ?_
    refine hl_v (ov_move rfl) rfl <| hl_v (ov_move rfl) rfl <| ?_
    refine hl_v (ov_idxS rfl hA rfl i rfl hlt) rfl ?_
    refine hl_v (ov_load rfl (hcell _)) rfl ?_
    refine hl_new (on_buildSliceN rfl rfl rfl) rfl rfl rfl fun b71 =>  ?_
    by_cases hfit : n ≤ size - end_
    · obtain ⟨S', hS'⟩ : ∃ S', S' = putS S end_ (encE (jouE 3 L.length x)) := ⟨_, rfl⟩
      have hI2 := hI.next (x := x) (by omega) hn hfit
      rw [← hS'] at hI2
      have hsm2 := hI2.small
      refine hl_c Try.call31 rfl rfl (fun w1 H1 => Own.callp2 (jou jb g 0 size 3 end_ L) (dsk g S []) H1 fun D' hold hin H2 => Append_is D' w1 jb g 0 size 3 end_ L [x] _ S x n (end_ + n) (L ++ [x]) S' (by simp) hn rfl rfl hS' hEl (by omega) (by omega) (by omega) hfit (by decide) (by omega) (hin _ fun h hs ho => rep_lits (b := b71) hs [x] ⟨[_], [], rfl, rep_old ho hxo, rfl⟩ (by simp)) H2) ?_
      have hL2 : (L ++ [x]).length = L.length + 1 := by simp
      refine hl_v (ov_assign rfl) rfl <| hl_nil <| hx_then_normal <| hc_seq <| hc_seq <| hc_region <| ?_
      refine hl_v (ov_move rfl) rfl <| hl_v (ov_eql rfl rfl) rfl <| hl_v (ov_move rfl) rfl <| hl_v (ov_move rfl) rfl <| hl_v (ov_leq rfl rfl) rfl <| hl_v (ov_neqB rfl rfl) rfl <| ?_
      refine hl_v (ov_move rfl) rfl <| ?_
      refine hl_partF (t := 79) rfl ((by simp; omega)) ?_
      refine hl_on rfl rfl <| hl_v (ov_move rfl) rfl <| hl_on rfl rfl <| hl_v (ov_neq rfl rfl) rfl <| hl_on rfl rfl <| hl_v (ov_move rfl) rfl <| ?_
      refine hl_partF (t := 82) rfl ((fun h => h rfl)) ?_
      refine hl_off rfl rfl rfl rfl rfl rfl <| hl_off rfl rfl rfl rfl rfl rfl <| hl_on rfl rfl <| hl_v (ov_pickF rfl rfl) rfl <| hl_v (ov_pickF rfl rfl) rfl <| hl_nil <| hx_then_normal <| ?_
      refine hc_cond_false rfl <| hc_skip <| hx_then_normal <| hc_seq <| hc_seq <| hc_region <| ?_
      refine hl_v (ov_move rfl) rfl <| hl_v (ov_eql rfl rfl) rfl <| hl_nil <| hx_then_normal <| ?_
      refine hc_cond_T rfl (rfl) ?_
      refine hc_seq <| hc_region <| hl_v (ov_move rfl) rfl <| hl_v (ov_move rfl) rfl <| ?_
      refine hl_v (ov_sub (m := ((size - (end_ + n) : Nat) : Int)) rfl rfl ((wrap_i64 (by omega)).trans (by omega))) rfl ?_
      refine hl_v (ov_assign rfl) rfl <| hl_nil <| hx_then_normal <| hc_region <| hl_v (ov_move rfl) rfl <| ?_
      refine hl_v (ov_add (m := (((L ++ [x]).length : Nat) : Int)) rfl rfl ((wrap_i64 (by omega)).trans (by omega))) rfl ?_
      refine hl_v (ov_assign rfl) rfl <| hl_nil <| hx_then_normal <| hc_seq <| hc_region <| hl_v (ov_move rfl) rfl <| ?_
      refine hl_c Try.call33 rfl rfl (fun w1 H1 => Own.callp (jou jb g 0 size 3 (end_ + n) (L ++ [x])) H1 fun D' hold hin H2 => Room_spec D' w1 jb g 0 size 3 (end_ + n) (L ++ [x]) (by omega) (by omega) H2) ?_
      refine hl_v (ov_move rfl) rfl <| hl_v (ov_neq rfl rfl) rfl <| hl_v (ov_move rfl) rfl <| ?_
      refine hl_partF (t := 98) rfl ((fun h => h rfl)) ?_
      refine hl_on rfl rfl <| hl_v (ov_move rfl) rfl <| ?_
      refine hl_on rfl rfl <| hl_call (σ := Option Addr × Nat × List Value) Try.call32 rfl rfl (fun w1 H1 => Own.callpx (jou jb g 0 size 3 (end_ + n) (L ++ [x])) H1 fun D' hold hin H2 => All_spec D' w1 jb g 0 size 3 (end_ + n) (L ++ [x]) (by omega) (fun y hy => by have := hsm2 y hy; omega) H2) ?_
      intro q1
      refine hl_on rfl rfl <| hl_v (by first | exact ov_len rfl | exact ov_lenS rfl) rfl <| ?_
      refine hl_on rfl rfl <| hl_v (ov_move rfl) rfl <| hl_on rfl rfl <| hl_v (ov_neq rfl rfl) rfl <| hl_v (ov_pickF rfl rfl) rfl <| hl_nil <| hx_then_normal <| ?_
      refine hc_cond_F rfl ((fun h => h rfl)) ?_
      refine hc_skip <| hx_block_normal <| hx_then_normal <| hc_region <| hl_v (ov_move rfl) rfl <| hl_v (ov_add rfl rfl (by first | exact wrap_i64 (by omega) | rfl)) rfl <| ?_
      refine hl_v (ov_assign rfl) rfl <| hl_nil <| ?_
      refine hx_next hK1 ((i + 1, S', L ++ [x], end_ + n)) (⟨hI2, hlt⟩) (by omega) (by repeat (first | exact Slots.sub_nil _ | refine Slots.sub_cons rfl ?_)) (by first | assumption | exact Ent.refl _ | exact Ent.nil _ | (repeat (first | exact Ent.refl _ | exact Ent.nil _ | refine Ent.pick ?_)))
    have hI2 : RI size S L end_ (i + 1) := ⟨hSl, hEl, by omega, hI.small⟩
    have hsm2 := hI2.small
    refine hl_c Try.call31 rfl rfl (fun w1 H1 => Own.callp (jou jb g 0 size 3 end_ L) H1 fun D' hold hin H2 => Append_full D' w1 jb g 0 size 3 end_ L [x] _ hEl (by omega) (by simp; omega) (by simp; omega) (hin _ fun h hs ho => rep_lits (b := b71) hs [x] ⟨[_], [], rfl, rep_old ho hxo, rfl⟩ (by simp)) H2) ?_
    refine hl_v (ov_assign rfl) rfl <| hl_nil <| hx_then_normal <| hc_seq <| hc_seq <| hc_region <| ?_
    refine hl_v (ov_move rfl) rfl <| hl_v (ov_eql rfl rfl) rfl <| hl_v (ov_move rfl) rfl <| hl_v (ov_move rfl) rfl <| hl_v (ov_leq rfl rfl) rfl <| hl_v (ov_neqB rfl rfl) rfl <| ?_
    refine hl_v (ov_move rfl) rfl <| ?_
    refine hl_partF (t := 79) rfl ((by simp; omega)) ?_
    refine hl_on rfl rfl <| hl_v (ov_move rfl) rfl <| hl_on rfl rfl <| hl_v (ov_neq rfl rfl) rfl <| hl_on rfl rfl <| hl_v (ov_move rfl) rfl <| ?_
    refine hl_partT (t := 82) rfl ((by decide)) ?_
    refine hl_on rfl rfl <| hl_v (ov_move rfl) rfl <| hl_on rfl rfl <| hl_v (ov_neq rfl rfl) rfl <| hl_on rfl rfl <| hl_v (ov_pickT rfl rfl) rfl <| hl_v (ov_pickF rfl rfl) rfl <| hl_nil <| hx_then_normal <| ?_
    refine hc_cond_F rfl ((fun h => h rfl)) ?_
    refine hc_skip <| hx_then_normal <| hc_seq <| hc_seq <| hc_region <| hl_v (ov_move rfl) rfl <| ?_
    refine hl_v (ov_eql rfl rfl) rfl <| hl_nil <| hx_then_normal <| ?_
    refine hc_cond_F rfl ((by decide)) ?_
    refine hc_skip <| hx_then_normal <| hc_seq <| hc_region <| hl_v (ov_move rfl) rfl <| ?_
    refine hl_c Try.call33 rfl rfl (fun w1 H1 => Own.callp (jou jb g 0 size 3 end_ L) H1 fun D' hold hin H2 => Room_spec D' w1 jb g 0 size 3 end_ L (by omega) (by omega) H2) ?_
    refine hl_v (ov_move rfl) rfl <| hl_v (ov_neq rfl rfl) rfl <| hl_v (ov_move rfl) rfl <| ?_
    refine hl_partF (t := 98) rfl ((fun h => h rfl)) ?_
    refine hl_on rfl rfl <| hl_v (ov_move rfl) rfl <| ?_
    refine hl_on rfl rfl <| hl_call (σ := Option Addr × Nat × List Value) Try.call32 rfl rfl (fun w1 H1 => Own.callpx (jou jb g 0 size 3 end_ L) H1 fun D' hold hin H2 => All_spec D' w1 jb g 0 size 3 end_ L (by omega) (fun y hy => by have := hsm2 y hy; omega) H2) ?_
    intro q1
    refine hl_on rfl rfl <| hl_v (by first | exact ov_len rfl | exact ov_lenS rfl) rfl <| ?_
    refine hl_on rfl rfl <| hl_v (ov_move rfl) rfl <| hl_on rfl rfl <| hl_v (ov_neq rfl rfl) rfl <| hl_v (ov_pickF rfl rfl) rfl <| hl_nil <| hx_then_normal <| ?_
    refine hc_cond_F rfl ((fun h => h rfl)) ?_
    refine hc_skip <| hx_block_normal <| hx_then_normal <| hc_region <| hl_v (ov_move rfl) rfl <| hl_v (ov_add rfl rfl (by first | exact wrap_i64 (by omega) | rfl)) rfl <| ?_
    refine hl_v (ov_assign rfl) rfl <| hl_nil <| ?_
    refine hx_next hK1 ((i + 1, S, L, end_)) (⟨hI2, hlt⟩) (by omega) (by repeat (first | exact Slots.sub_nil _ | refine Slots.sub_cons rfl ?_)) (by first | assumption | exact Ent.refl _ | exact Ent.nil _ | (repeat (first | exact Ent.refl _ | exact Ent.nil _ | refine Ent.pick ?_)))
  refine hc_exit <| hx_then_exit <| hx_then_exit <| hx_block_out <| hx_then_normal <| hc_seq <| ?_
  refine hc_region <| hl_v (ov_move rfl) rfl <| ?_
  refine hl_c Try.call36 rfl rfl (fun w1 H1 => Own.callp (jou jb g 0 size 3 end_ L) H1 fun D' hold hin H2 => Next_spec D' w1 jb g 0 size 3 end_ L 4 H2) ?_
  refine hl_nil <| hx_then_normal <| hc_seq <| hc_region <| hl_v (ov_move rfl) rfl <| ?_
  refine hl_c Try.call33 rfl rfl (fun w1 H1 => Own.callp (jou jb g 0 size 4 0 []) H1 fun D' hold hin H2 => Room_spec D' w1 jb g 0 size 4 0 [] (by omega) (by omega) H2) ?_
  refine hl_v (ov_move rfl) rfl <| hl_v (ov_eql rfl rfl) rfl <| hl_v (ov_move rfl) rfl <| ?_
  refine hl_partT (t := 111) rfl (rfl) ?_
  refine hl_on rfl rfl <| hl_v (ov_move rfl) rfl <| ?_
  refine hl_on rfl rfl <| hl_call (σ := Option Addr × Nat × List Value) Try.call32 rfl rfl (fun w1 H1 => Own.callpx (jou jb g 0 size 4 0 []) H1 fun D' hold hin H2 => All_spec D' w1 jb g 0 size 4 0 [] (by decide) (fun x hx => by cases hx) H2) ?_
  intro q1
  refine hl_on rfl rfl <| hl_v (by first | exact ov_len rfl | exact ov_lenS rfl) rfl <| ?_
  refine hl_on rfl rfl <| hl_v (ov_eql rfl rfl) rfl <| hl_v (ov_pickT rfl rfl) rfl <| hl_v (ov_move rfl) rfl <| ?_
  refine hl_partT (t := 117) rfl (rfl) ?_
  refine hl_on rfl rfl <| hl_c Try.call29 rfl rfl (fun w1 H1 => Own.calln H1 fun D' hold hin H2 => wakes4_spec D' w1) ?_
  refine hl_v (ov_pickT rfl rfl) rfl <| hl_v (ov_assign rfl) rfl <| hl_nil <| hx_then_normal <| hc_ret <| ?_
  exact results_1 (.inr rfl) rfl rfl fun w' H' => ⟨rfl, H'.ent (Ent.nil _)⟩
end Go.Proofs.Ytijaldfiaeafgaa
