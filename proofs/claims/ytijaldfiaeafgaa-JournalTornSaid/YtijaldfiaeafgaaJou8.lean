import Derived.Test.YtijaldfiaeafgaaJou7
set_option linter.unusedVariables false
set_option linter.unusedSimpArgs false
namespace Go.Proofs.Ytijaldfiaeafgaa
open Slk
structure EI (l : List (List UInt8)) (S : List Sec) (k i : Nat) : Prop where
  len : S.length = 80
  ji : JI S 1 (l.take i) k
  room : k ≤ 6 * i
  free : noHead 2 S
  small : ∀ x ∈ l.take i, x.length ≤ 300
theorem need300 {x : List UInt8} (h : x.length ≤ 300) : needM x.length ≤ 6 ∧ 1 ≤ needM x.length := by
  unfold needM; rw [if_neg (by omega)]; omega
theorem EI.next {l : List (List UInt8)} {S : List Sec} {k i : Nat} (h : EI l S k i) (hi : i < l.length) (hi10 : i < 10) (hx : l[i].length ≤ 300) {E : List Sec} (hE : E = encE (jouE 1 i l[i])) : EI l (putS S k E) (k + needM l[i].length) (i + 1) := by
  have h1 := h.len
  have h2 := h.room
  have hn := need300 hx
  have hl : E.length = needM l[i].length := by rw [hE]; exact encE_len (jouE 1 i l[i]) (show l[i].length ≤ 4000 by omega)
  have hti : (l.take i).length = i := by rw [List.length_take]; omega
  have hts : l.take (i + 1) = l.take i ++ [l[i]] := List.take_succ_eq_append_getElem hi
  refine ⟨by rw [putS_len (by omega), h1], ?_, by omega, noHead_put h.free (by rw [hE]; exact noHead_enc _ (show 1 < 4294967296 by decide) (show 1 ≠ 2 by decide)), fun y hy => ?_⟩
  · have := h.ji.append (x := l[i]) (by omega) (e := jouE 1 i l[i]) (by rw [hti]) (by rw [← hE]; omega)
    rw [← hE, hl, ← hts] at this
    exact this
  rw [hts] at hy
  rcases List.mem_append.1 hy with hy | hy
  · exact h.small y hy
  obtain rfl := List.mem_singleton.1 hy; exact hx
theorem ep_end {S : List Sec} (hS : S.length = 80) (hf : noHead 2 S) {one : List UInt8} (hx : one.length ≤ 300) {S2 : List Sec} (h2 : S2 = putS S 0 (encE (jouE 2 0 one))) :
    S2.length = 80 ∧ entsF 1 80 0 S2 = ([], 0) ∧ entsF 2 80 0 S2 = ([one], needM one.length) := by
  have hn := need300 hx
  have hl : (encE (jouE 2 0 one)).length = needM one.length := encE_len (jouE 2 0 one) (show one.length ≤ 4000 by omega)
  have hl2 : S2.length = 80 := by rw [h2, putS_len (by omega), hS]
  refine ⟨hl2, ?_, ?_⟩
  · refine ents_none (fun s hs hh => ?_) 80 0
    rw [h2, putS_get (by omega), if_neg (by omega), if_pos (by omega), List.getElem?_eq_getElem (by omega)] at hs
    injection hs with hs
    subst hs
    have := enc_epoch (jouE 2 0 one) (show 2 < 4294967296 by decide)
    have h3 := hh.2
    simp only [Nat.sub_zero] at h3
    rw [this] at h3
    exact absurd h3 (show (2 : Nat) ≠ 1 by decide)
  have hj := (JI.begin hf).append (x := one) (by omega) (e := jouE 2 0 one) rfl (by omega)
  rw [← h2, hl] at hj
  have := hj.open (by decide) (by omega)
  rw [hl2] at this
  simpa using this
set_option maxHeartbeats 2000000 in
theorem JournalEpochs_walk (W : World) (v0 v1 : Value) (l : List (List UInt8)) (one : List UInt8) (h0 : Old none' W (Rep.rep l [v0])) (h1 : Old none' W (Rep.rep one [v1])) :
    Calls Try.prog 8 #[v0, v1] W fun e w' => e = .returned (.bool true) ∧ Own none' W w' [] := by
  obtain ⟨A, cap, rfl, hc1, hc2, hel⟩ := h0.openX (by decide)
  obtain ⟨A1, cap1, rfl, _, _, _⟩ := h1.openB
  obtain ⟨S0, hS0⟩ : ∃ S, S = List.replicate 80 zeroSec := ⟨_, rfl⟩
  have hl0 : S0.length = 80 := by rw [hS0]; exact List.length_replicate
  have hT : ∀ S : List Sec, S.length = 80 → S = (S.drop 0).take 80 := fun S h => by rw [List.drop_zero, List.take_of_length_le (by omega)]
  have hI0 : EI l S0 0 0 := ⟨hl0, by rw [List.take_zero, hS0]; exact JI.begin noHead_zero, Nat.le_refl _, by rw [hS0]; exact noHead_zero, fun x hx => by simp at hx⟩
  have hop : ∀ (ep : Nat) (S : List Sec) (L : List (List UInt8)) (k : Nat), S.length = 80 → JI S ep L k → ep < 4294967296 → entsF ep 80 0 S = (L, k) := fun ep S L k h hj he => by
    have := hj.open he (by omega)
    rw [h] at this; exact this
  have e0 : entsF 1 80 0 S0 = ([], 0) := hop 1 S0 [] 0 hl0 (by rw [hS0]; exact JI.begin noHead_zero) (by decide)
  refine hc_enter (vs := [.slice A l.length cap, .slice A1 one.length cap1]) Try.func8 rfl _ Try.ntmps8 rfl (Own.start none' W) ?_
  simp only [argSlots, Nat.zero_add]
  refine hc_seq <| hc_region <| hl_v (ov_assign rfl) rfl <| hl_nil <| hx_then_normal <| hc_seq <| ?_
  refine hc_seq <| hc_region <| hl_v (ov_move rfl) rfl <| hl_v (by first | exact ov_len rfl | exact ov_lenS rfl) rfl <| ?_
  refine hl_v (ov_gtr rfl rfl) rfl <| hl_v (ov_move rfl) rfl <| ?_
  refine hl_part (t := 21) rfl (fun a1 => ?_) (fun a1 => ?_)
  · refine hl_off rfl rfl rfl rfl rfl rfl <| hl_off rfl rfl rfl rfl rfl rfl <| hl_off rfl rfl rfl rfl rfl rfl <| hl_v (ov_pickT rfl rfl) rfl <| hl_nil <| hx_then_normal <| ?_
    refine hc_cond_true rfl <| hc_seq <| hc_region <| ?_
    refine hl_c Try.call29 rfl rfl (fun w1 H1 => Own.calln H1 fun D' hold hin H2 => wakes4_spec D' w1) ?_
    refine hl_v (ov_assign rfl) rfl <| hl_nil <| hx_then_normal <| hc_ret <| hx_then_ret <| ?_
    exact results_1 (.inr rfl) rfl rfl fun w' H' => ⟨rfl, H'.ent (Ent.nil _)⟩
  refine hl_on rfl rfl <| hl_v (ov_move rfl) rfl <| hl_on rfl rfl <| hl_v (by first | exact ov_len rfl | exact ov_lenS rfl) rfl <| ?_
  refine hl_on rfl rfl <| hl_v (ov_gtr rfl rfl) rfl <| hl_v (ov_pickF rfl rfl) rfl <| hl_nil <| hx_then_normal <| ?_
  refine hc_cond rfl (fun a2 => ?_) (fun a2 => ?_)
  · refine hc_seq <| hc_region <| ?_
    refine hl_c Try.call29 rfl rfl (fun w1 H1 => Own.calln H1 fun D' hold hin H2 => wakes4_spec D' w1) ?_
    refine hl_v (ov_assign rfl) rfl <| hl_nil <| hx_then_normal <| hc_ret <| hx_then_ret <| ?_
    exact results_1 (.inr rfl) rfl rfl fun w' H' => ⟨rfl, H'.ent (Ent.nil _)⟩
  refine hc_skip <| hx_then_normal <| hc_seq <| hc_region <| ?_
  refine hl_call (σ := Nat) Try.call14 rfl rfl (fun w1 H1 => Own.callx0 H1 fun D' hold hin H2 => (New_ok D' w1 80 (by decide) (by decide)).mono fun e w' ⟨g, he, H'⟩ => ⟨g, he, show Own D' w1 w' [dsk g S0 []] by rw [hS0]; exact H'⟩) ?_
  intro g
  try rw [List.nil_append]
  refine hl_v (ov_move rfl) rfl <| hl_v (ov_extract rfl rfl) rfl <| hl_v (ov_extract rfl rfl) rfl <| hl_v (ov_assign rfl) rfl <| hl_v (ov_assign rfl) rfl <| hl_nil <| ?_
  refine hx_then_normal <| hc_seq <| hc_region <| hl_v (ov_move rfl) rfl <| ?_
  refine hl_call (σ := Nat) Try.call30 rfl rfl (fun w1 H1 => Own.callpx (dsk g S0 []) H1 fun D' hold hin H2 => JOpen_is D' w1 g S0 0 80 80 S0 1 [] 0 0 e0 rfl (by omega) (by omega) rfl (by decide) (hT S0 hl0) H2) ?_
  intro jb
  refine hl_v (ov_move rfl) rfl <| hl_v (ov_extract rfl rfl) rfl <| hl_v (ov_extract rfl rfl) rfl <| hl_v (ov_assign rfl) rfl <| hl_v (ov_assign rfl) rfl <| hl_nil <| ?_
  refine hx_then_normal <| hc_seq <| hc_seq <| hc_region <| hl_v (ov_move rfl) rfl <| hl_v (ov_neq rfl rfl) rfl <| ?_
  refine hl_v (ov_move rfl) rfl <| ?_
  refine hl_partF (t := 38) rfl ((fun h => h rfl)) ?_
  refine hl_on rfl rfl <| hl_v (ov_move rfl) rfl <| hl_on rfl rfl <| hl_v (ov_neq rfl rfl) rfl <| hl_v (ov_pickF rfl rfl) rfl <| hl_v (ov_move rfl) rfl <| ?_
  refine hl_partF (t := 42) rfl ((fun h => h rfl)) ?_
  refine hl_on rfl rfl <| hl_v (ov_move rfl) rfl <| hl_on rfl rfl <| hl_v (ov_eqlP rfl rfl) rfl <| hl_v (ov_pickF rfl rfl) rfl <| hl_nil <| hx_then_normal <| ?_
  refine hc_cond_false rfl ?_
  refine hc_skip <| hx_then_normal <| hc_seq <| hc_seq <| hc_region <| hl_v (ov_assign rfl) rfl <| ?_
  refine hl_nil <| hx_then_normal <| hc_block <| ?_
  refine hc_loopK1 (σ := Nat × List Sec × Nat) [0, 1, 5, 7] rfl 9 (fun s => .int .i64 (s.1 : Int)) (fun s => [jou jb g 0 80 1 s.2.2 (l.take s.1), dsk g s.2.1 []]) (fun s => EI l s.2.1 s.2.2 s.1 ∧ s.1 ≤ l.length) (fun s => l.length - s.1) ((0, S0, 0)) (⟨hI0, Nat.zero_le _⟩) rfl (by first | assumption | exact Ent.refl _ | exact Ent.nil _ | (repeat (first | exact Ent.refl _ | exact Ent.nil _ | refine Ent.pick ?_))) ?_
  rintro ⟨i, S, k⟩ hj_ K1 hK1
  dsimp only at hj_ ⊢
  obtain ⟨hI, hi⟩ := hj_
  have hSl := hI.len
  have hkr := hI.room
  refine hc_seq <| hc_seq <| hc_region <| hl_v (ov_move rfl) rfl <| hl_v (ov_move rfl) rfl <| hl_v (by first | exact ov_len rfl | exact ov_lenS rfl) rfl <| ?_
  refine hl_v (ov_lss rfl rfl) rfl <| hl_nil <| hx_then_normal <| ?_
  refine hc_cond rfl (fun h => ?_) (fun h => ?_)
  · have hlt : i < l.length := by omega
    have hn := hI.next hlt (by omega)
    obtain ⟨hA, cs, hxo, hcs⟩ := hel i hlt
    obtain ⟨B, cb, rfl, hxo⟩ := bytes_open hxo
    have hcell : ∀ l', CellIs none' W l' (ab A) (ao A + i * 1) (.slice B l[i].length cb) := fun l' => hcs 0 _ rfl l'
    have hts : l.take (i + 1) = l.take i ++ [l[i]] := List.take_succ_eq_append_getElem hlt
    have hti : (l.take i).length = i := by rw [List.length_take]; omega
    obtain ⟨x, hx⟩ : ∃ x, x = l[i] := ⟨_, rfl⟩
    rw [← hx] at hcell hxo hn hts
    refine hc_skip <| hx_then_normal <| hc_seq <| hc_block <| hc_seq <| hc_seq <| ?_
    refine hc_region <| hl_v (ov_move rfl) rfl <| hl_v (ov_move rfl) rfl <| ?_
    refine hl_v (ov_idxS rfl hA rfl i rfl hlt) rfl ?_
    refine hl_v (ov_load rfl (hcell _)) rfl ?_
    refine hl_v (by first | exact ov_len rfl | exact ov_lenS rfl) rfl <| ?_
    refine hl_v (ov_gtr rfl rfl) rfl <| hl_nil <| hx_then_normal <| ?_
    refine hc_cond rfl (fun a3 => ?_) (fun a3 => ?_)
    · refine hc_seq <| hc_region <| ?_
      refine hl_c Try.call29 rfl rfl (fun w1 H1 => Own.calln H1 fun D' hold hin H2 => wakes4_spec D' w1) ?_
      refine hl_v (ov_assign rfl) rfl <| hl_nil <| hx_then_normal <| hc_ret <| hx_then_ret <| hx_block_ret <| ?_
      refine hx_then_ret <| hx_then_ret <| hx_block_ret <| hx_then_ret <| ?_
      exact results_1 (.inr rfl) rfl rfl fun w' H' => ⟨rfl, H'.ent (Ent.nil _)⟩
    have hx3 : x.length ≤ 300 := by omega
    have hnd := need300 hx3
    obtain ⟨n, hne⟩ : ∃ n, needM x.length = n := ⟨_, rfl⟩
    obtain ⟨S', hS'⟩ : ∃ S', S' = putS S k (encE (jouE 1 i x)) := ⟨_, rfl⟩
    have hI2 := hn hx3 rfl
    rw [← hS', hne] at hI2
    rw [hne] at hnd
    refine hc_skip <| hx_then_normal <| hc_seq <| hc_region <| hl_v (ov_move rfl) rfl <| hl_v (ov_move rfl) rfl <| ?_
    refine hl_v (ov_move rfl) rfl <| ?_
    refine hl_v (ov_idxS rfl hA rfl i rfl hlt) rfl ?_
    refine hl_v (ov_load rfl (hcell _)) rfl ?_
    refine hl_new (on_buildSliceN rfl rfl rfl) rfl rfl rfl fun b64 =>  ?_
    refine hl_c Try.call31 rfl rfl (fun w1 H1 => Own.callp2 (jou jb g 0 80 1 k (l.take i)) (dsk g S []) H1 fun D' hold hin H2 => Append_is D' w1 jb g 0 80 1 k (l.take i) [x] _ S x n (k + n) (l.take (i + 1)) S' (by simp) hne rfl hts (by rw [hti]; exact hS') (by omega) (by omega) (by omega) (by omega) (by omega) (by decide) (by omega) (hin _ fun h hs ho => rep_lits (b := b64) hs [x] ⟨[_], [], rfl, rep_old ho hxo, rfl⟩ (by simp)) H2) ?_
    refine hl_v (ov_neq rfl rfl) rfl <| hl_nil <| hx_then_normal <| ?_
    refine hc_cond_F rfl ((fun h => h rfl)) ?_
    refine hc_skip <| hx_block_normal <| hx_then_normal <| hc_region <| hl_v (ov_move rfl) rfl <| hl_v (ov_add rfl rfl (by first | exact wrap_i64 (by omega) | rfl)) rfl <| ?_
    refine hl_v (ov_assign rfl) rfl <| hl_nil <| ?_
    refine hx_next hK1 ((i + 1, S', k + n)) (⟨hI2, hlt⟩) (by omega) (by repeat (first | exact Slots.sub_nil _ | refine Slots.sub_cons rfl ?_)) (by first | assumption | exact Ent.refl _ | exact Ent.nil _ | (repeat (first | exact Ent.refl _ | exact Ent.nil _ | refine Ent.pick ?_)))
  have hil : i = l.length := by omega
  subst hil
  rw [List.take_length]
  have hji := hI.ji
  have hsm := hI.small
  rw [List.take_length] at hji hsm
  have hfree := hI.free
  have ea := hop 2 S [] 0 hSl (JI.begin hfree) (by decide)
  have eb := hop 1 S l k hSl hji (by decide)
  obtain ⟨S2, hS2⟩ : ∃ S2, S2 = putS S 0 (encE (jouE 2 0 one)) := ⟨_, rfl⟩
  obtain ⟨hl2, ec, ed⟩ := ep_end hSl hfree (one := one) (by omega) hS2
  obtain ⟨n, hne⟩ : ∃ n, needM one.length = n := ⟨_, rfl⟩
  have hnd := need300 (x := one) (by omega)
  rw [hne] at hnd ed
  refine hc_exit <| hx_then_exit <| hx_then_exit <| hx_block_out <| hx_then_normal <| hc_seq <| ?_
  refine hc_region <| hl_v (ov_move rfl) rfl <| ?_
  refine hl_call (σ := Nat) Try.call30 rfl rfl (fun w1 H1 => Own.callpx (dsk g S []) H1 fun D' hold hin H2 => JOpen_is D' w1 g S 0 80 80 S 2 [] 0 0 ea rfl (by omega) (by omega) rfl (by decide) (hT S hSl) H2) ?_
  intro kb
  refine hl_v (ov_move rfl) rfl <| hl_v (ov_extract rfl rfl) rfl <| hl_v (ov_extract rfl rfl) rfl <| hl_v (ov_assign rfl) rfl <| hl_v (ov_assign rfl) rfl <| hl_nil <| ?_
  refine hx_then_normal <| hc_seq <| hc_seq <| hc_region <| hl_v (ov_move rfl) rfl <| hl_v (ov_neq rfl rfl) rfl <| ?_
  refine hl_v (ov_move rfl) rfl <| ?_
  refine hl_partF (t := 74) rfl ((fun h => h rfl)) ?_
  refine hl_on rfl rfl <| hl_v (ov_move rfl) rfl <| hl_on rfl rfl <| hl_v (ov_eqlP rfl rfl) rfl <| hl_v (ov_pickF rfl rfl) rfl <| hl_v (ov_move rfl) rfl <| ?_
  refine hl_on rfl rfl <| hl_v (ov_move rfl) rfl <| ?_
  refine hl_on rfl rfl <| hl_call (σ := Option Addr × Nat × List Value) Try.call32 rfl rfl (fun w1 H1 => Own.callpx (jou kb g 0 80 2 0 []) H1 fun D' hold hin H2 => All_spec D' w1 kb g 0 80 2 0 [] (by decide) (fun x hx => by cases hx) H2) ?_
  intro q1
  refine hl_on rfl rfl <| hl_v (by first | exact ov_len rfl | exact ov_lenS rfl) rfl <| ?_
  refine hl_on rfl rfl <| hl_v (ov_neq rfl rfl) rfl <| hl_v (ov_pickF rfl rfl) rfl <| hl_v (ov_move rfl) rfl <| ?_
  refine hl_partF (t := 84) rfl ((fun h => h rfl)) ?_
  refine hl_on rfl rfl <| hl_v (ov_move rfl) rfl <| ?_
  refine hl_on rfl rfl <| hl_c Try.call33 rfl rfl (fun w1 H1 => Own.callp (jou kb g 0 80 2 0 []) H1 fun D' hold hin H2 => Room_spec D' w1 kb g 0 80 2 0 [] (by omega) (by omega) H2) ?_
  refine hl_on rfl rfl <| hl_v (ov_neq rfl rfl) rfl <| hl_v (ov_pickF rfl rfl) rfl <| hl_nil <| hx_then_normal <| ?_
  refine hc_cond_F rfl ((fun h => h rfl)) ?_
  refine hc_skip <| hx_then_normal <| hc_seq <| hc_region <| hl_v (ov_move rfl) rfl <| ?_
  refine hl_call (σ := Nat) Try.call30 rfl rfl (fun w1 H1 => Own.callpx (dsk g S []) H1 fun D' hold hin H2 => JOpen_is D' w1 g S 0 80 80 S 1 l k k eb (Nat.zero_add _).symm (by omega) (by omega) rfl (by decide) (hT S hSl) H2) ?_
  intro mb
  refine hl_v (ov_move rfl) rfl <| hl_v (ov_extract rfl rfl) rfl <| hl_v (ov_extract rfl rfl) rfl <| hl_v (ov_assign rfl) rfl <| hl_v (ov_assign rfl) rfl <| hl_nil <| ?_
  refine hx_then_normal <| hc_seq <| hc_seq <| hc_region <| hl_v (ov_move rfl) rfl <| hl_v (ov_neq rfl rfl) rfl <| ?_
  refine hl_v (ov_move rfl) rfl <| ?_
  refine hl_partF (t := 96) rfl ((fun h => h rfl)) ?_
  refine hl_on rfl rfl <| hl_v (ov_move rfl) rfl <| hl_on rfl rfl <| hl_v (ov_eqlP rfl rfl) rfl <| hl_v (ov_pickF rfl rfl) rfl <| hl_v (ov_move rfl) rfl <| ?_
  refine hl_on rfl rfl <| hl_v (ov_move rfl) rfl <| ?_
  refine hl_on rfl rfl <| hl_call (σ := Option Addr × Nat × List Value) Try.call32 rfl rfl (fun w1 H1 => Own.callpx (jou mb g 0 80 1 k l) H1 fun D' hold hin H2 => All_spec D' w1 mb g 0 80 1 k l (by omega) (fun x hx => by have := hsm x hx; omega) H2) ?_
  intro q2
  obtain ⟨A2, cap2, cs2⟩ := q2
  dsimp only
  refine hl_on rfl rfl <| hl_v (ov_move rfl) rfl <| ?_
  refine hl_on rfl rfl <| hl_c Try.call34 rfl rfl (fun w1 H1 => Own.calln H1 fun D' hold hin H2 => Lists_spec D' w1 _ _ l l (hin _ fun h hs ho => rep_row (A := A2) hs l rfl (stars_rowsB (t := 5) (xs := l) (cs := cs2) hs)) (hold _ h0)) ?_
  rw [decide_eq_true (rfl : l = l)]
  refine hl_on rfl rfl <| hl_v (by first | exact ov_notd rfl | exact ov_not rfl) rfl <| ?_
  refine hl_v (ov_pickF rfl rfl) rfl <| hl_nil <| hx_then_normal <| ?_
  refine hc_cond_false rfl ?_
  refine hc_skip <| hx_then_normal <| hc_seq <| hc_region <| hl_v (ov_move rfl) rfl <| ?_
  refine hl_call (σ := Nat) Try.call30 rfl rfl (fun w1 H1 => Own.callpx (dsk g S []) H1 fun D' hold hin H2 => JOpen_is D' w1 g S 0 80 80 S 2 [] 0 0 ea rfl (by omega) (by omega) rfl (by decide) (hT S hSl) H2) ?_
  intro nb
  refine hl_v (ov_move rfl) rfl <| hl_v (ov_extract rfl rfl) rfl <| hl_v (ov_extract rfl rfl) rfl <| hl_v (ov_assign rfl) rfl <| hl_v (ov_assign rfl) rfl <| hl_nil <| ?_
  refine hx_then_normal <| hc_seq <| hc_seq <| hc_region <| hl_v (ov_move rfl) rfl <| hl_v (ov_neq rfl rfl) rfl <| ?_
  refine hl_v (ov_move rfl) rfl <| ?_
  refine hl_partF (t := 114) rfl ((fun h => h rfl)) ?_
  refine hl_on rfl rfl <| hl_v (ov_move rfl) rfl <| hl_on rfl rfl <| hl_v (ov_eqlP rfl rfl) rfl <| hl_v (ov_pickF rfl rfl) rfl <| hl_v (ov_move rfl) rfl <| ?_
  refine hl_on rfl rfl <| hl_v (ov_move rfl) rfl <| hl_on rfl rfl <| hl_v (ov_move rfl) rfl <| hl_on rfl rfl <| hl_new (on_buildSliceN rfl rfl rfl) rfl rfl rfl fun b121 =>  ?_
  refine hl_on rfl rfl <| hl_c Try.call31 rfl rfl (fun w1 H1 => Own.callp2 (jou nb g 0 80 2 0 []) (dsk g S []) H1 fun D' hold hin H2 => Append_is D' w1 nb g 0 80 2 0 [] [one] _ S one n n [one] S2 (by simp) hne (Nat.zero_add _).symm rfl hS2 (by omega) (by omega) (by omega) (by omega) (by omega) (by decide) (by decide) (hin _ fun h hs ho => rep_lits (b := b121) hs [one] ⟨[_], [], rfl, rep_old ho h1, rfl⟩ (by simp)) H2) ?_
  refine hl_on rfl rfl <| hl_v (ov_neq rfl rfl) rfl <| hl_v (ov_pickF rfl rfl) rfl <| hl_nil <| hx_then_normal <| ?_
  refine hc_cond_F rfl ((fun h => h rfl)) ?_
  refine hc_skip <| hx_then_normal <| hc_seq <| hc_region <| hl_v (ov_move rfl) rfl <| ?_
  refine hl_call (σ := Nat) Try.call30 rfl rfl (fun w1 H1 => Own.callpx (dsk g S2 []) H1 fun D' hold hin H2 => JOpen_is D' w1 g S2 0 80 80 S2 1 [] 0 0 ec rfl (by omega) (by omega) rfl (by decide) (hT S2 hl2) H2) ?_
  intro ob
  refine hl_v (ov_move rfl) rfl <| hl_v (ov_extract rfl rfl) rfl <| hl_v (ov_extract rfl rfl) rfl <| hl_v (ov_assign rfl) rfl <| hl_v (ov_assign rfl) rfl <| hl_nil <| ?_
  refine hx_then_normal <| hc_seq <| hc_region <| hl_v (ov_move rfl) rfl <| ?_
  refine hl_call (σ := Nat) Try.call30 rfl rfl (fun w1 H1 => Own.callpx (dsk g S2 []) H1 fun D' hold hin H2 => JOpen_is D' w1 g S2 0 80 80 S2 2 [one] n n ed (Nat.zero_add _).symm (by omega) (by omega) rfl (by decide) (hT S2 hl2) H2) ?_
  intro pb
  refine hl_v (ov_move rfl) rfl <| hl_v (ov_extract rfl rfl) rfl <| hl_v (ov_extract rfl rfl) rfl <| hl_v (ov_assign rfl) rfl <| hl_v (ov_assign rfl) rfl <| hl_nil <| ?_
  refine hx_then_normal <| hc_seq <| hc_region <| hl_v (ov_move rfl) rfl <| hl_v (ov_eql rfl rfl) rfl <| hl_v (ov_move rfl) rfl <| ?_
  refine hl_partT (t := 137) rfl (rfl) ?_
  refine hl_on rfl rfl <| hl_v (ov_move rfl) rfl <| hl_on rfl rfl <| hl_v (ov_eql rfl rfl) rfl <| hl_v (ov_pickT rfl rfl) rfl <| hl_v (ov_move rfl) rfl <| ?_
  refine hl_partT (t := 141) rfl (rfl) ?_
  refine hl_on rfl rfl <| hl_v (ov_move rfl) rfl <| hl_on rfl rfl <| hl_v (ov_neqP rfl rfl) rfl <| hl_v (ov_pickT rfl rfl) rfl <| hl_v (ov_move rfl) rfl <| ?_
  refine hl_on rfl rfl <| hl_v (ov_move rfl) rfl <| hl_on rfl rfl <| hl_v (ov_neqP rfl rfl) rfl <| hl_v (ov_pickT rfl rfl) rfl <| hl_v (ov_move rfl) rfl <| ?_
  refine hl_on rfl rfl <| hl_v (ov_move rfl) rfl <| ?_
  refine hl_on rfl rfl <| hl_call (σ := Option Addr × Nat × List Value) Try.call32 rfl rfl (fun w1 H1 => Own.callpx (jou ob g 0 80 1 0 []) H1 fun D' hold hin H2 => All_spec D' w1 ob g 0 80 1 0 [] (by decide) (fun x hx => by cases hx) H2) ?_
  intro q3
  refine hl_on rfl rfl <| hl_v (by first | exact ov_len rfl | exact ov_lenS rfl) rfl <| ?_
  refine hl_on rfl rfl <| hl_v (ov_eql rfl rfl) rfl <| hl_v (ov_pickT rfl rfl) rfl <| hl_v (ov_move rfl) rfl <| ?_
  refine hl_partT (t := 155) rfl (rfl) ?_
  refine hl_on rfl rfl <| hl_v (ov_move rfl) rfl <| ?_
  refine hl_on rfl rfl <| hl_call (σ := Option Addr × Nat × List Value) Try.call32 rfl rfl (fun w1 H1 => Own.callpx (jou pb g 0 80 2 n [one]) H1 fun D' hold hin H2 => All_spec D' w1 pb g 0 80 2 n [one] (by simp) (fun x hx => by obtain rfl := List.mem_singleton.1 hx; omega) H2) ?_
  intro q4
  obtain ⟨A4, cap4, cs4⟩ := q4
  dsimp only
  refine hl_on rfl rfl <| hl_v (ov_move rfl) rfl <| hl_on rfl rfl <| hl_new (on_buildSliceN rfl rfl rfl) rfl rfl rfl fun b159 =>  ?_
  refine hl_on rfl rfl <| hl_c Try.call34 rfl rfl (fun w1 H1 => Own.calln H1 fun D' hold hin H2 => Lists_spec D' w1 _ _ [one] [one] (hin _ fun h hs ho => rep_row (A := A4) hs [one] rfl (stars_rowsB (t := 5) (xs := [one]) (cs := cs4) hs)) (hin _ fun h hs ho => rep_lits (b := b159) hs [one] ⟨[_], [], rfl, rep_old ho h1, rfl⟩ (by simp))) ?_
  rw [decide_eq_true (rfl : [one] = [one])]
  refine hl_v (ov_pickT rfl rfl) rfl <| hl_v (ov_move rfl) rfl <| ?_
  refine hl_on rfl rfl <| hl_c Try.call29 rfl rfl (fun w1 H1 => Own.calln H1 fun D' hold hin H2 => wakes4_spec D' w1) ?_
  refine hl_v (ov_pickT rfl rfl) rfl <| hl_v (ov_assign rfl) rfl <| hl_nil <| hx_then_normal <| hc_ret <| ?_
  exact results_1 (.inr rfl) rfl rfl fun w' H' => ⟨rfl, H'.ent (Ent.nil _)⟩
end Go.Proofs.Ytijaldfiaeafgaa
