import Derived.Test.YtijaldfiaeafgaaJou9
set_option linter.unusedVariables false
set_option linter.unusedSimpArgs false
namespace Go.Proofs.Ytijaldfiaeafgaa
open Slk
/-- What journals and disks are told of, step by step. -/
abbrev PSt := List Sec × Nat × Nat × List (List UInt8) × Nat × Nat
structure PI (m from_ to_ : Nat) (S : List Sec) (ep end_ : Nat) (L : List (List UInt8)) : Prop where
  len : S.length = m
  ep_ : ep < 4294967296
  lo : from_ ≤ end_
  hi : end_ ≤ to_
  many : L.length ≤ end_
  small : ∀ x ∈ L, x.length ≤ 4000
theorem PI.open {m from_ to_ N : Nat} {S T : List Sec} {ep k : Nat} {L : List (List UInt8)} (hS : S.length = m) (hep : ep < 4294967296) (hto : to_ ≤ m) (hN : from_ + N = to_) (hT : T = (S.drop from_).take N) (hE : entsF ep N 0 T = (L, k)) : PI m from_ to_ S ep (from_ + k) L := by
  obtain ⟨h1, h2, h3⟩ := ents_facts ep N 0 T
  rw [hE] at h1 h2 h3
  have hTl : T.length = N := by rw [hT, List.length_take, List.length_drop]; omega
  dsimp only at h1 h2 h3
  exact ⟨hS, hep, by omega, by omega, by omega, h3⟩
theorem PI.next {m from_ to_ : Nat} {S : List Sec} {ep end_ : Nat} {L : List (List UInt8)} (h : PI m from_ to_ S ep end_ L) {ep' : Nat} (he : ep' < 4294967296) (hft : from_ ≤ to_) : PI m from_ to_ S ep' from_ [] := ⟨h.len, he, Nat.le_refl _, hft, Nat.zero_le _, fun x hx => by cases hx⟩
theorem PI.append {m from_ to_ : Nat} {S : List Sec} {ep end_ n : Nat} {L : List (List UInt8)} (h : PI m from_ to_ S ep end_ L) (hto : to_ ≤ m) {x : List UInt8} (hx : x.length ≤ 4000) (hn : needM x.length = n) (hfit : n ≤ to_ - end_) {S' : List Sec} (hS' : S' = putS S end_ (encE (jouE ep L.length x))) : PI m from_ to_ S' ep (end_ + n) (L ++ [x]) := by
  have hl := encE_len (jouE ep L.length x) hx
  have hl : (encE (jouE ep L.length x)).length = n := hl.trans hn
  have hp := enc_pos (jouE ep L.length x)
  have := h.len; have := h.lo; have := h.hi; have := h.many
  refine ⟨by rw [hS', putS_len (by omega)]; exact h.len, h.ep_, by omega, by omega, by rw [List.length_append]; show L.length + 1 ≤ _; omega, fun y hy => ?_⟩
  rcases List.mem_append.1 hy with hy | hy
  · exact h.small y hy
  obtain rfl := List.mem_singleton.1 hy; exact hx
abbrev jstepC (x : JStep) (B : Option Addr) (capB : Nat) : List Value := [.int .i64 x.1, .slice B x.2.1.length capB, .int .u32 x.2.2.toNat]
set_option maxHeartbeats 8000000 in
theorem JournalPlays_walk (W : World) (c0 : List Value) (v1 : Value) (nn : Vector Int 3) (l : List JStep) (h0 : Old none' W (Rep.rep nn c0)) (h1 : Old none' W (Rep.rep l [v1])) :
    Calls Try.prog 11 #[.agg c0.toArray, v1] W fun e w' => e = .returned (.bool true) ∧ Own none' W w' [] := by
  obtain ⟨n0, n1, n2, rfl, i0, i1, i2⟩ := three_open h0
  obtain ⟨A, cap, rfl, hc1, hc2, hel⟩ := h1.openX (by decide)
  refine hc_enter (vs := [.agg #[.int .i64 n0, .int .i64 n1, .int .i64 n2], .slice A l.length cap]) Try.func11 rfl _ Try.ntmps11 rfl (Own.start none' W) ?_
  simp only [argSlots, Nat.zero_add]
  refine hc_seq <| hc_region <| hl_new (on_boxN rfl rfl) rfl rfl rfl fun b2 =>  ?_
  refine hl_v (ov_assign rfl) rfl <| hl_nil <| hx_then_normal <| hc_seq <| hc_seq <| hc_region <| ?_
  refine hl_v (ov_move rfl) rfl <| ?_
  refine hl_call (σ := { b : Bool // b = true → fairJ l }) Try.call35 rfl rfl (fun w1 H1 => Own.callx0 H1 fun D' hold hin H2 => fair4_spec D' w1 _ l (hold _ h1)) ?_
  rintro ⟨bv, hbv⟩
  try rw [List.nil_append]
  cases bv
  · refine hl_v (by first | exact ov_notd rfl | exact ov_not rfl) rfl <| ?_
    refine hl_v (ov_move rfl) rfl <| ?_
    refine hl_off rfl rfl rfl rfl rfl rfl <| hl_off rfl rfl rfl rfl rfl rfl <| hl_off rfl rfl rfl rfl rfl rfl <| hl_v (ov_pickT rfl rfl) rfl <| hl_nil <| hx_then_normal <| ?_
    refine hc_cond_true rfl <| hc_seq <| hc_region <| ?_
    refine hl_c Try.call29 rfl rfl (fun w1 H1 => Own.calln H1 fun D' hold hin H2 => wakes4_spec D' w1) ?_
    refine hl_v (ov_assign rfl) rfl <| hl_nil <| hx_then_normal <| hc_ret <| hx_then_ret <| ?_
    exact results_1 (.inr rfl) rfl rfl fun w' H' => ⟨rfl, H'.ent (Ent.nil _)⟩
  refine hl_v (by first | exact ov_notd rfl | exact ov_not rfl) rfl <| ?_
  refine hl_v (ov_move rfl) rfl <| ?_
  have hfair := hbv rfl
  have hl60 := hfair.1
  refine hl_on rfl rfl <| hl_v (ov_idxPc rfl rfl rfl rfl rfl) rfl <| hl_on rfl rfl <| hl_v (ov_load rfl (CellIs.blk rfl)) rfl <| hl_on rfl rfl <| hl_v (ov_gtr rfl rfl) rfl <| hl_v (ov_pickF rfl rfl) rfl <| hl_nil <| hx_then_normal <| ?_
  refine hc_cond rfl (fun big => ?_) (fun big => ?_)
  · refine hc_seq <| hc_region <| ?_
    refine hl_c Try.call29 rfl rfl (fun w1 H1 => Own.calln H1 fun D' hold hin H2 => wakes4_spec D' w1) ?_
    refine hl_v (ov_assign rfl) rfl <| hl_nil <| hx_then_normal <| hc_ret <| hx_then_ret <| ?_
    exact results_1 (.inr rfl) rfl rfl fun w' H' => ⟨rfl, H'.ent (Ent.nil _)⟩
  by_cases hr : 1 ≤ n0 ∧ n0 ≤ 4096
  · obtain ⟨m, rfl⟩ : ∃ m : Nat, n0 = m := ⟨n0.toNat, by omega⟩
    obtain ⟨S0, hS0⟩ : ∃ S, S = List.replicate m zeroSec := ⟨_, rfl⟩
    have hl0 : S0.length = m := by rw [hS0]; exact List.length_replicate
    refine hc_skip <| hx_then_normal <| hc_seq <| hc_region <| hl_v (ov_idxPc rfl rfl rfl rfl rfl) rfl <| hl_v (ov_load rfl (CellIs.blk rfl)) rfl <| ?_
    refine hl_call (σ := Nat) Try.call14 rfl rfl (fun w1 H1 => Own.callx0 H1 fun D' hold hin H2 => (New_ok D' w1 m (by omega) (by omega)).mono fun e w' ⟨g, he, H'⟩ => ⟨g, he, show Own D' w1 w' [dsk g S0 []] by rw [hS0]; exact H'⟩) ?_
    intro g
    try rw [List.nil_append]
    refine hl_v (ov_move rfl) rfl <| hl_v (ov_extract rfl rfl) rfl <| hl_v (ov_extract rfl rfl) rfl <| hl_v (ov_assign rfl) rfl <| hl_v (ov_assign rfl) rfl <| hl_nil <| ?_
    refine hx_then_normal <| hc_seq <| hc_region <| hl_v (ov_idxPc rfl rfl rfl rfl rfl) rfl <| hl_v (ov_load rfl (CellIs.blk rfl)) rfl <| ?_
    refine hl_call (σ := Nat) Try.call20 rfl rfl (fun w1 H1 => Own.callx0 H1 fun D' hold hin H2 => (RNew_ok D' w1 m (by omega) (by omega)).mono fun e w' ⟨g, he, H'⟩ => ⟨g, he, show Own D' w1 w' [rdsk g S0 []] by rw [hS0]; exact H'⟩) ?_
    intro q
    try rw [List.nil_append]
    by_cases hg : 0 ≤ n1 ∧ n1 < n2 ∧ n2 ≤ m
    · obtain ⟨from_, rfl⟩ : ∃ k : Nat, n1 = k := ⟨n1.toNat, by omega⟩
      obtain ⟨to_, rfl⟩ : ∃ k : Nat, n2 = k := ⟨n2.toNat, by omega⟩
      obtain ⟨N, hN⟩ : ∃ N, N = to_ - from_ := ⟨_, rfl⟩
      have hN' : from_ + N = to_ := by omega
      have hN0 : 0 < N := by omega
      have hto : to_ ≤ m := by omega
      have hop : ∀ (S : List Sec) (ep : Nat), S.length = m → ep < 4294967296 → ∃ L k, entsF ep N 0 ((S.drop from_).take N) = (L, k) ∧ PI m from_ to_ S ep (from_ + k) L := fun S ep hS he => ⟨_, _, rfl, PI.open hS he hto hN' rfl rfl⟩
      obtain ⟨L0, k0, he0, hI0⟩ := hop S0 1 hl0 (by decide)
      refine hl_v (ov_move rfl) rfl <| hl_v (ov_extract rfl rfl) rfl <| hl_v (ov_extract rfl rfl) rfl <| hl_v (ov_assign rfl) rfl <| hl_v (ov_assign rfl) rfl <| hl_nil <| ?_
      refine hx_then_normal <| hc_seq <| hc_region <| hl_v (ov_move rfl) rfl <| hl_v (ov_idxPc rfl rfl rfl rfl rfl) rfl <| hl_v (ov_load rfl (CellIs.blk rfl)) rfl <| ?_
      refine hl_v (ov_idxPc rfl rfl rfl rfl rfl) rfl <| hl_v (ov_load rfl (CellIs.blk rfl)) rfl <| ?_
      refine hl_call (σ := Nat) Try.call30 rfl rfl (fun w1 H1 => Own.callpx (dsk g S0 []) H1 fun D' hold hin H2 => JOpen_is D' w1 g S0 from_ to_ N _ 1 L0 k0 (from_ + k0) he0 rfl (by omega) (by omega) hN' hN0 rfl H2) ?_
      intro jb0
      refine hl_v (ov_move rfl) rfl <| hl_v (ov_extract rfl rfl) rfl <| hl_v (ov_extract rfl rfl) rfl <| hl_v (ov_assign rfl) rfl <| hl_v (ov_assign rfl) rfl <| hl_nil <| ?_
      refine hx_then_normal <| hc_seq <| hc_region <| hl_v (ov_move rfl) rfl <| hl_v (ov_idxPc rfl rfl rfl rfl rfl) rfl <| hl_v (ov_load rfl (CellIs.blk rfl)) rfl <| ?_
      refine hl_v (ov_idxPc rfl rfl rfl rfl rfl) rfl <| hl_v (ov_load rfl (CellIs.blk rfl)) rfl <| ?_
      refine hl_call (σ := Nat) Try.call37 rfl rfl (fun w1 H1 => Own.callpx (rdsk q S0 []) H1 fun D' hold hin H2 => ROpen_is D' w1 q S0 from_ to_ N _ 1 L0 k0 (from_ + k0) he0 rfl (by omega) (by omega) hN' hN0 rfl H2) ?_
      intro pb0
      refine hl_v (ov_move rfl) rfl <| hl_v (ov_extract rfl rfl) rfl <| hl_v (ov_extract rfl rfl) rfl <| hl_v (ov_assign rfl) rfl <| hl_v (ov_assign rfl) rfl <| hl_nil <| ?_
      refine hx_then_normal <| hc_seq <| hc_seq <| hc_region <| hl_v (ov_move rfl) rfl <| hl_v (ov_move rfl) rfl <| ?_
      refine hl_v (ov_neq rfl rfl) rfl <| hl_v (ov_move rfl) rfl <| ?_
      refine hl_partF (t := 64) rfl ((fun h => h rfl)) ?_
      refine hl_on rfl rfl <| hl_v (ov_move rfl) rfl <| hl_on rfl rfl <| hl_v (ov_eqlP rfl rfl) rfl <| hl_on rfl rfl <| hl_v (ov_move rfl) rfl <| hl_on rfl rfl <| hl_v (ov_eqlP rfl rfl) rfl <| hl_on rfl rfl <| hl_v (ov_neqB rfl rfl) rfl <| hl_v (ov_pickF rfl rfl) rfl <| ?_
      refine hl_nil <| hx_then_normal <| ?_
      refine hc_cond_F rfl ((by simp)) ?_
      refine hc_skip <| hx_then_normal <| hc_seq <| hc_seq <| hc_region <| hl_v (ov_assign rfl) rfl <| ?_
      refine hl_nil <| hx_then_normal <| hc_block <| ?_
      refine hc_loopK3 (σ := Nat × PSt × Nat × Nat) [1, 2, 5, 7] rfl 13 (fun s => .int .i64 (s.1 : Int)) 9 (fun s => .pointer (some ⟨s.2.2.1, 0, none⟩)) 11 (fun s => .pointer (some ⟨s.2.2.2, 0, none⟩)) (fun s => [jou s.2.2.1 g from_ to_ s.2.1.2.1 s.2.1.2.2.1 s.2.1.2.2.2.1, rjou s.2.2.2 q from_ to_ s.2.1.2.1 s.2.1.2.2.1 s.2.1.2.2.2.1, dsk g s.2.1.1 [], rdsk q s.2.1.1 [], blk b2 83 [.int .i64 (m : Int), .int .i64 (from_ : Int), .int .i64 (to_ : Int)]]) (fun s => s.1 ≤ l.length ∧ PI m from_ to_ s.2.1.1 s.2.1.2.1 s.2.1.2.2.1 s.2.1.2.2.2.1) (fun s => l.length - s.1) ((0, (S0, 1, from_ + k0, L0, 0, 0), jb0, pb0)) (⟨Nat.zero_le _, hI0⟩) rfl rfl rfl (by first | assumption | exact Ent.refl _ | exact Ent.nil _ | (repeat (first | exact Ent.refl _ | exact Ent.nil _ | refine Ent.pick ?_))) ?_
      rintro ⟨i, ⟨S, ep, end_, L, _u1, _u2⟩, jb, pb⟩ hj_ K1 hK1
      dsimp only at hj_ ⊢
      obtain ⟨hi, hI⟩ := hj_
      have hSl := hI.len
      have hlo := hI.lo
      have hhi := hI.hi
      have hmany := hI.many
      refine hc_seq <| hc_seq <| hc_region <| hl_v (ov_move rfl) rfl <| hl_v (ov_move rfl) rfl <| hl_v (by first | exact ov_len rfl | exact ov_lenS rfl) rfl <| ?_
      refine hl_v (ov_lss rfl rfl) rfl <| hl_v (ov_move rfl) rfl <| ?_
      refine hl_part (t := 75) rfl (fun hlt => ?_) (fun hlt => ?_)
      · have hlt : i < l.length := by omega
        refine hl_on rfl rfl <| hl_v (ov_move rfl) rfl <| hl_on rfl rfl <| hl_v (ov_neqP rfl rfl) rfl <| hl_v (ov_pickT rfl rfl) rfl <| hl_nil <| hx_then_normal <| ?_
        refine hc_cond_true rfl ?_
        obtain ⟨hA, cs, hx, hcs⟩ := hel i hlt
        obtain ⟨B, capB, rfl, hx1, hk⟩ := jstep_open hx
        rw [show Rep.sz JStep = 3 from rfl] at hcs
        have hk45 := hfair.2 _ (List.getElem_mem hlt)
        generalize l[i] = st at *
        have hep := st.2.2.toNat_lt
        obtain ⟨x, hxe⟩ : ∃ x, x = st.2.1.flatten := ⟨_, rfl⟩
        rw [← hxe] at hk45
        refine hc_skip <| hx_then_normal <| hc_seq <| hc_block <| hc_seq <| hc_region <| ?_
        refine hl_v (ov_move rfl) rfl <| hl_v (ov_move rfl) rfl <| ?_
        refine hl_v (ov_idxS rfl hA rfl i rfl hlt) rfl ?_
        refine hl_v (ov_loadG (cs := jstepC st B capB) rfl rfl (fun w H m v hv => hcs m v hv _ w H)) rfl ?_
        refine hl_new (on_alloc) rfl rfl rfl fun b14 => 
          hl_u0 (on_storeGN rfl rfl rfl rfl rfl rfl) rfl rfl <| hl_nil <| hx_then_normal <| hc_seq <| hc_seq <| ?_
        refine hc_region <| hl_v (ov_fieldA rfl) rfl <| hl_v (ov_load rfl (CellIs.blk rfl)) rfl <| hl_nil <| hx_then_normal <| ?_
        refine hc_cutK2 (σ := PSt × Nat × Nat) [1, 2, 5, 7, 13] rfl 9 (fun s => .pointer (some ⟨s.2.1, 0, none⟩)) 11 (fun s => .pointer (some ⟨s.2.2, 0, none⟩)) (fun s => [pureP (PI m from_ to_ s.1.1 s.1.2.1 s.1.2.2.1 s.1.2.2.2.1), jou s.2.1 g from_ to_ s.1.2.1 s.1.2.2.1 s.1.2.2.2.1, rjou s.2.2 q from_ to_ s.1.2.1 s.1.2.2.1 s.1.2.2.2.1, dsk g s.1.1 [], rdsk q s.1.1 [], blk b2 83 [.int .i64 (m : Int), .int .i64 (from_ : Int), .int .i64 (to_ : Int)]]) (fun K2 hK2 => ?_) (fun s => ?_)
        · refine hc_block <| hc_seq <| hc_region <| hl_v (ov_eql rfl rfl) rfl <| hl_v (ov_assign rfl) rfl <| hl_nil <| ?_
          refine hx_then_normal <| ?_
          refine hc_cond rfl (fun kd0 => ?_) (fun kd0 => ?_)
          · refine hc_seq <| ?_
            refine hc_any [blk b14 77 (jstepC st B capB)] mixed 10 rfl ?_
            refine ha_v 0 rfl (ov_move rfl) rfl <| ?_
            refine ha_v 1 rfl (ov_fieldA rfl) rfl <| ?_
            refine ha_v 2 rfl (ov_load rfl (CellIs.blk rfl)) rfl <| ?_
            refine ha_v 4 rfl (ov_move rfl) rfl <| ?_
            refine ha_v 5 rfl (ov_fieldA rfl) rfl <| ?_
            refine ha_v 6 rfl (ov_load rfl (CellIs.blk rfl)) rfl <| ?_
            refine ha_one 3 (by kernel_rfl) <| ?_
            by_cases hx40 : x.length ≤ 4000
            · obtain ⟨n, hn⟩ : ∃ n, needM x.length = n := ⟨_, rfl⟩
              by_cases hfit : n ≤ to_ - end_
              · obtain ⟨S', hS'⟩ : ∃ S', S' = putS S end_ (encE (jouE ep L.length x)) := ⟨_, rfl⟩
                refine ho_k rfl Try.call31 rfl (fun w1 H1 => Own.callp2 (jou jb g from_ to_ ep end_ L) (dsk g S []) H1 fun D' hold hin H2 => Append_is D' w1 jb g from_ to_ ep end_ L st.2.1 _ S x n (end_ + n) (L ++ [x]) S' hxe hn rfl rfl hS' hhi (by omega) (by omega) hx40 hfit hI.ep_ (by omega) (hold _ hk) H2) ?_
                refine ha_one 7 (by kernel_rfl) <| ?_
                refine ho_kx (σ := Option Addr × Nat) rfl Try.call39 rfl (fun w1 H1 => Own.callx0 H1 fun D' hold hin H2 => (hxe ▸ joined_spec D' w1 _ st.2.1 (by rw [← hxe]; omega) (hold _ hk))) ?_
                intro qj
                try rw [List.nil_append]
                refine ha_one 8 (by kernel_rfl) <| ?_
                refine ho_k rfl Try.call38 rfl (fun w1 H1 => Own.callp2 (rjou pb q from_ to_ ep end_ L) (rdsk q S []) H1 fun D' hold hin H2 => RAppend_ok D' w1 pb q from_ to_ ep end_ L _ S x n (end_ + n) (L ++ [x]) S' hn rfl rfl hS' hhi (by omega) (by omega) hx40 hfit hI.ep_ (by omega) (hin _ fun h hs ho => rep_row (A := qj.1) hs x rfl (repL_bytes.2 rfl)) H2) ?_
                refine ha_v 9 rfl (ov_neq rfl rfl) rfl <| ?_
                refine ha_done (by kernel_rfl) <| hx_then_normal <| ?_
                refine hc_cond_F rfl ((fun h => h rfl)) ?_
                refine hc_skip <| hx_block_normal <| ?_
                exact hx_cut hK2 (((S', ep, end_ + n, L ++ [x], 0, 0), jb, pb)) (by repeat (first | exact Slots.sub_nil _ | refine Slots.sub_cons rfl ?_)) (Ent.pure_cons (hI.append hto hx40 hn hfit hS') (by first | assumption | exact Ent.refl _ | exact Ent.nil _ | exact Ent.row_any (Ent.refl _) | (repeat (first | exact Ent.refl _ | exact Ent.nil _ | refine Ent.pick ?_))))
              refine ho_k rfl Try.call31 rfl (fun w1 H1 => Own.callp (jou jb g from_ to_ ep end_ L) H1 fun D' hold hin H2 => Append_full D' w1 jb g from_ to_ ep end_ L st.2.1 _ hhi (by omega) (by rw [← hxe]; exact hx40) (by rw [← hxe, hn]; omega) (hold _ hk) H2) ?_
              refine ha_one 7 (by kernel_rfl) <| ?_
              refine ho_kx (σ := Option Addr × Nat) rfl Try.call39 rfl (fun w1 H1 => Own.callx0 H1 fun D' hold hin H2 => (hxe ▸ joined_spec D' w1 _ st.2.1 (by rw [← hxe]; omega) (hold _ hk))) ?_
              intro qj
              try rw [List.nil_append]
              refine ha_one 8 (by kernel_rfl) <| ?_
              refine ho_k rfl Try.call38 rfl (fun w1 H1 => Own.callp (rjou pb q from_ to_ ep end_ L) H1 fun D' hold hin H2 => RAppend_full D' w1 pb q from_ to_ ep end_ L _ x hx40 n hn (by omega) hhi (by omega) hI.ep_ (by omega) (hin _ fun h hs ho => rep_row (A := qj.1) hs x rfl (repL_bytes.2 rfl)) H2) ?_
              refine ha_v 9 rfl (ov_neq rfl rfl) rfl <| ?_
              refine ha_done (by kernel_rfl) <| hx_then_normal <| ?_
              refine hc_cond_F rfl ((fun h => h rfl)) ?_
              refine hc_skip <| hx_block_normal <| ?_
              exact hx_cut hK2 (((S, ep, end_, L, 0, 0), jb, pb)) (by repeat (first | exact Slots.sub_nil _ | refine Slots.sub_cons rfl ?_)) (Ent.pure_cons hI (by first | assumption | exact Ent.refl _ | exact Ent.nil _ | exact Ent.row_any (Ent.refl _) | (repeat (first | exact Ent.refl _ | exact Ent.nil _ | refine Ent.pick ?_))))
            refine ho_k rfl Try.call31 rfl (fun w1 H1 => Own.callp (jou jb g from_ to_ ep end_ L) H1 fun D' hold hin H2 => Append_long D' w1 jb g from_ to_ ep end_ L st.2.1 _ (by rw [← hxe]; omega) (by rw [← hxe]; omega) (hold _ hk) H2) ?_
            refine ha_one 7 (by kernel_rfl) <| ?_
            refine ho_kx (σ := Option Addr × Nat) rfl Try.call39 rfl (fun w1 H1 => Own.callx0 H1 fun D' hold hin H2 => (hxe ▸ joined_spec D' w1 _ st.2.1 (by rw [← hxe]; omega) (hold _ hk))) ?_
            intro qj
            try rw [List.nil_append]
            refine ha_one 8 (by kernel_rfl) <| ?_
            refine ho_k rfl Try.call38 rfl (fun w1 H1 => Own.callp (rjou pb q from_ to_ ep end_ L) H1 fun D' hold hin H2 => RAppend_long D' w1 pb q from_ to_ ep end_ L _ x (by omega) (by omega) (hin _ fun h hs ho => rep_row (A := qj.1) hs x rfl (repL_bytes.2 rfl)) H2) ?_
            refine ha_v 9 rfl (ov_neq rfl rfl) rfl <| ?_
            refine ha_done (by kernel_rfl) <| hx_then_normal <| ?_
            refine hc_cond_F rfl ((fun h => h rfl)) ?_
            refine hc_skip <| hx_block_normal <| ?_
            exact hx_cut hK2 (((S, ep, end_, L, 0, 0), jb, pb)) (by repeat (first | exact Slots.sub_nil _ | refine Slots.sub_cons rfl ?_)) (Ent.pure_cons hI (by first | assumption | exact Ent.refl _ | exact Ent.nil _ | exact Ent.row_any (Ent.refl _) | (repeat (first | exact Ent.refl _ | exact Ent.nil _ | refine Ent.pick ?_))))
          refine hc_seq <| hc_region <| hl_v (ov_eql rfl rfl) rfl <| hl_v (ov_assign rfl) rfl <| hl_nil <| hx_then_normal <| ?_
          refine hc_cond rfl (fun kd1 => ?_) (fun kd1 => ?_)
          · refine hc_seq <| hc_region <| hl_v (ov_move rfl) rfl <| hl_v (ov_fieldA rfl) rfl <| hl_v (ov_load rfl (CellIs.blk rfl)) rfl <| ?_
            refine hl_c Try.call36 rfl rfl (fun w1 H1 => Own.callp (jou jb g from_ to_ ep end_ L) H1 fun D' hold hin H2 => Next_spec D' w1 jb g from_ to_ ep end_ L st.2.2.toNat H2) ?_
            refine hl_nil <| hx_then_normal <| hc_region <| hl_v (ov_move rfl) rfl <| hl_v (ov_fieldA rfl) rfl <| hl_v (ov_load rfl (CellIs.blk rfl)) rfl <| ?_
            refine hl_c Try.call40 rfl rfl (fun w1 H1 => Own.callp (rjou pb q from_ to_ ep end_ L) H1 fun D' hold hin H2 => RNext_spec D' w1 pb q from_ to_ ep end_ L st.2.2.toNat H2) ?_
            refine hl_nil <| hx_block_normal <| ?_
            exact hx_cut hK2 (((S, st.2.2.toNat, from_, [], 0, 0), jb, pb)) (by repeat (first | exact Slots.sub_nil _ | refine Slots.sub_cons rfl ?_)) (Ent.pure_cons (hI.next hep (by omega)) (by first | assumption | exact Ent.refl _ | exact Ent.nil _ | exact Ent.row_any (Ent.refl _) | (repeat (first | exact Ent.refl _ | exact Ent.nil _ | refine Ent.pick ?_))))
          obtain ⟨L2, k2, he2, hI2⟩ := hop S st.2.2.toNat hSl hep
          refine hc_seq <| hc_seq <| hc_region <| hl_v (ov_eql rfl rfl) rfl <| hl_v (ov_assign rfl) rfl <| hl_nil <| ?_
          refine hx_then_normal <| ?_
          refine hc_cond rfl (fun kd2 => ?_) (fun kd2 => ?_)
          · refine hc_skip <| hx_then_normal <| ?_
            refine hc_cond_T rfl (kd2) ?_
            refine hc_seq <| hc_seq <| hc_region <| hl_v (ov_fieldA rfl) rfl <| hl_v (ov_load rfl (CellIs.blk rfl)) rfl <| hl_v (ov_eql rfl rfl) rfl <| ?_
            refine hl_nil <| hx_then_normal <| ?_
            refine hc_cond_T rfl (kd2) ?_
            refine hc_seq <| hc_region <| hl_v (ov_move rfl) rfl <| ?_
            refine hl_c Try.call27 rfl rfl (fun w1 H1 => Own.callp (dsk g S []) H1 fun D' hold hin H2 => Crash_spec D' w1 g S [] (.slice none 0 0) [] (fun p hp => by cases hp) Old.nil H2) ?_
            refine hl_nil <| hx_then_normal <| hc_region <| hl_v (ov_move rfl) rfl <| ?_
            refine hl_c Try.call41 rfl rfl (fun w1 H1 => Own.callp (rdsk q S []) H1 fun D' hold hin H2 => RCrash_spec D' w1 q S [] (.slice none 0 0) [] (fun p hp => by cases hp) Old.nil H2) ?_
            refine HL.ent (show Ent _ [rdsk q S [], dsk g S [], blk b14 77 (jstepC st B capB), jou jb g from_ to_ ep end_ L, rjou pb q from_ to_ ep end_ L, blk b2 83 [.int .i64 (m : Int), .int .i64 (from_ : Int), .int .i64 (to_ : Int)]] from (by first | assumption | exact Ent.refl _ | exact Ent.nil _ | exact Ent.row_any (Ent.refl _) | (repeat (first | exact Ent.refl _ | exact Ent.nil _ | refine Ent.pick ?_)))) ?_
            refine hl_nil <| hx_then_normal <| hc_seq <| hc_region <| hl_v (ov_move rfl) rfl <| hl_v (ov_idxPc rfl rfl rfl rfl rfl) rfl <| ?_
            refine hl_v (ov_load rfl (CellIs.blk rfl)) rfl <| hl_v (ov_idxPc rfl rfl rfl rfl rfl) rfl <| hl_v (ov_load rfl (CellIs.blk rfl)) rfl <| hl_v (ov_fieldA rfl) rfl <| hl_v (ov_load rfl (CellIs.blk rfl)) rfl <| ?_
            refine hl_call (σ := Nat) Try.call30 rfl rfl (fun w1 H1 => Own.callpx (dsk g S []) H1 fun D' hold hin H2 => JOpen_is D' w1 g S from_ to_ N _ st.2.2.toNat L2 k2 (from_ + k2) he2 rfl (by omega) (by omega) hN' hN0 rfl H2) ?_
            intro jb2
            refine hl_v (ov_move rfl) rfl <| hl_v (ov_extract rfl rfl) rfl <| hl_v (ov_extract rfl rfl) rfl <| hl_v (ov_assign rfl) rfl <| hl_v (ov_assign rfl) rfl <| hl_nil <| ?_
            refine hx_then_normal <| hc_seq <| hc_region <| hl_v (ov_move rfl) rfl <| hl_v (ov_idxPc rfl rfl rfl rfl rfl) rfl <| hl_v (ov_load rfl (CellIs.blk rfl)) rfl <| ?_
            refine hl_v (ov_idxPc rfl rfl rfl rfl rfl) rfl <| hl_v (ov_load rfl (CellIs.blk rfl)) rfl <| hl_v (ov_fieldA rfl) rfl <| hl_v (ov_load rfl (CellIs.blk rfl)) rfl <| ?_
            refine hl_call (σ := Nat) Try.call37 rfl rfl (fun w1 H1 => Own.callpx (rdsk q S []) H1 fun D' hold hin H2 => ROpen_is D' w1 q S from_ to_ N _ st.2.2.toNat L2 k2 (from_ + k2) he2 rfl (by omega) (by omega) hN' hN0 rfl H2) ?_
            intro pb2
            refine hl_v (ov_move rfl) rfl <| hl_v (ov_extract rfl rfl) rfl <| hl_v (ov_extract rfl rfl) rfl <| hl_v (ov_assign rfl) rfl <| hl_v (ov_assign rfl) rfl <| hl_nil <| ?_
            refine hx_then_normal <| hc_seq <| hc_seq <| hc_region <| hl_v (ov_move rfl) rfl <| hl_v (ov_neq rfl rfl) rfl <| ?_
            refine hl_v (ov_move rfl) rfl <| ?_
            refine hl_partF (t := 143) rfl ((fun h => h rfl)) ?_
            refine hl_on rfl rfl <| hl_v (ov_move rfl) rfl <| hl_on rfl rfl <| hl_v (ov_eqlP rfl rfl) rfl <| hl_v (ov_pickF rfl rfl) rfl <| hl_nil <| hx_then_normal <| ?_
            refine hc_cond_false rfl ?_
            refine hc_skip <| hx_then_normal <| hc_region <| hl_v (ov_move rfl) rfl <| hl_v (ov_move rfl) rfl <| hl_v (ov_assign rfl) rfl <| ?_
            refine hl_v (ov_assign rfl) rfl <| hl_nil <| hx_block_normal <| ?_
            exact hx_cut hK2 (((S, st.2.2.toNat, from_ + k2, L2, 0, 0), jb2, pb2)) (by repeat (first | exact Slots.sub_nil _ | refine Slots.sub_cons rfl ?_)) (Ent.pure_cons hI2 (by first | assumption | exact Ent.refl _ | exact Ent.nil _ | exact Ent.row_any (Ent.refl _) | (repeat (first | exact Ent.refl _ | exact Ent.nil _ | refine Ent.pick ?_))))
          refine hc_region <| hl_v (ov_eql rfl rfl) rfl <| hl_v (ov_assign rfl) rfl <| hl_nil <| hx_then_normal <| ?_
          refine hc_cond rfl (fun kd3 => ?_) (fun kd3 => ?_)
          · refine hc_seq <| hc_seq <| hc_region <| hl_v (ov_fieldA rfl) rfl <| hl_v (ov_load rfl (CellIs.blk rfl)) rfl <| hl_v (ov_eql rfl rfl) rfl <| ?_
            refine hl_nil <| hx_then_normal <| ?_
            refine hc_cond_F rfl (kd2) ?_
            refine hc_skip <| hx_then_normal <| hc_seq <| hc_region <| hl_v (ov_move rfl) rfl <| hl_v (ov_idxPc rfl rfl rfl rfl rfl) rfl <| ?_
            refine hl_v (ov_load rfl (CellIs.blk rfl)) rfl <| hl_v (ov_idxPc rfl rfl rfl rfl rfl) rfl <| hl_v (ov_load rfl (CellIs.blk rfl)) rfl <| hl_v (ov_fieldA rfl) rfl <| hl_v (ov_load rfl (CellIs.blk rfl)) rfl <| ?_
            refine hl_call (σ := Nat) Try.call30 rfl rfl (fun w1 H1 => Own.callpx (dsk g S []) H1 fun D' hold hin H2 => JOpen_is D' w1 g S from_ to_ N _ st.2.2.toNat L2 k2 (from_ + k2) he2 rfl (by omega) (by omega) hN' hN0 rfl H2) ?_
            intro jb2
            refine hl_v (ov_move rfl) rfl <| hl_v (ov_extract rfl rfl) rfl <| hl_v (ov_extract rfl rfl) rfl <| hl_v (ov_assign rfl) rfl <| hl_v (ov_assign rfl) rfl <| hl_nil <| ?_
            refine hx_then_normal <| hc_seq <| hc_region <| hl_v (ov_move rfl) rfl <| hl_v (ov_idxPc rfl rfl rfl rfl rfl) rfl <| hl_v (ov_load rfl (CellIs.blk rfl)) rfl <| ?_
            refine hl_v (ov_idxPc rfl rfl rfl rfl rfl) rfl <| hl_v (ov_load rfl (CellIs.blk rfl)) rfl <| hl_v (ov_fieldA rfl) rfl <| hl_v (ov_load rfl (CellIs.blk rfl)) rfl <| ?_
            refine hl_call (σ := Nat) Try.call37 rfl rfl (fun w1 H1 => Own.callpx (rdsk q S []) H1 fun D' hold hin H2 => ROpen_is D' w1 q S from_ to_ N _ st.2.2.toNat L2 k2 (from_ + k2) he2 rfl (by omega) (by omega) hN' hN0 rfl H2) ?_
            intro pb2
            refine hl_v (ov_move rfl) rfl <| hl_v (ov_extract rfl rfl) rfl <| hl_v (ov_extract rfl rfl) rfl <| hl_v (ov_assign rfl) rfl <| hl_v (ov_assign rfl) rfl <| hl_nil <| ?_
            refine hx_then_normal <| hc_seq <| hc_seq <| hc_region <| hl_v (ov_move rfl) rfl <| hl_v (ov_neq rfl rfl) rfl <| ?_
            refine hl_v (ov_move rfl) rfl <| ?_
            refine hl_partF (t := 143) rfl ((fun h => h rfl)) ?_
            refine hl_on rfl rfl <| hl_v (ov_move rfl) rfl <| hl_on rfl rfl <| hl_v (ov_eqlP rfl rfl) rfl <| hl_v (ov_pickF rfl rfl) rfl <| hl_nil <| hx_then_normal <| ?_
            refine hc_cond_false rfl ?_
            refine hc_skip <| hx_then_normal <| hc_region <| hl_v (ov_move rfl) rfl <| hl_v (ov_move rfl) rfl <| hl_v (ov_assign rfl) rfl <| ?_
            refine hl_v (ov_assign rfl) rfl <| hl_nil <| hx_block_normal <| ?_
            exact hx_cut hK2 (((S, st.2.2.toNat, from_ + k2, L2, 0, 0), jb2, pb2)) (by repeat (first | exact Slots.sub_nil _ | refine Slots.sub_cons rfl ?_)) (Ent.pure_cons hI2 (by first | assumption | exact Ent.refl _ | exact Ent.nil _ | exact Ent.row_any (Ent.refl _) | (repeat (first | exact Ent.refl _ | exact Ent.nil _ | refine Ent.pick ?_))))
          refine hc_skip <| hx_block_normal <| ?_
          exact hx_cut hK2 (((S, ep, end_, L, 0, 0), jb, pb)) (by repeat (first | exact Slots.sub_nil _ | refine Slots.sub_cons rfl ?_)) (Ent.pure_cons hI (by first | assumption | exact Ent.refl _ | exact Ent.nil _ | exact Ent.row_any (Ent.refl _) | (repeat (first | exact Ent.refl _ | exact Ent.nil _ | refine Ent.pick ?_))))
        obtain ⟨⟨S', ep', end', L', _v1, _v2⟩, jb', pb'⟩ := s
        refine HX.pure fun hI' => ?_
        dsimp only at hI' ⊢
        have hSl' := hI'.len
        have hlo' := hI'.lo
        have hhi' := hI'.hi
        have hmany' := hI'.many
        have hsm' := hI'.small
        refine hx_then_normal <| hc_seq <| ?_
        refine HC.ent (Ent.pick (A := rjou pb' q from_ to_ ep' end' L') (Ent.refl _)) ?_
        refine HC.exs ?_
        rintro ⟨A5, cap5, cs5⟩
        refine HC.ent (l' := [rjouB pb' q from_ to_ ep' end' L'.length (A5, cap5), row A5 23 1 L'.length cap5 cs5, rowsB 5 L' cs5, jou jb' g from_ to_ ep' end' L', dsk g S' [], rdsk q S' [], blk b2 83 [.int .i64 (m : Int), .int .i64 (from_ : Int), .int .i64 (to_ : Int)]]) (fun _ h => h) ?_
        refine hc_any [rjouB pb' q from_ to_ ep' end' L'.length (A5, cap5)] mixed 20 rfl ?_
        refine ha_v 0 rfl (ov_move rfl) rfl <| ?_
        refine ha_v 2 rfl (ov_move rfl) rfl <| ?_
        refine ha_v 3 rfl (ov_nil rfl) rfl <| ?_
        refine ha_v 4 rfl (ov_fieldA rfl) rfl <| ?_
        refine ha_v 5 rfl (ov_load rfl (CellIs.blk rfl)) rfl <| ?_
        refine ha_one 1 (by kernel_rfl) <| ?_
        refine ho_kx (σ := Option Addr × Nat × List Value) rfl Try.call32 rfl (fun w1 H1 => Own.callpx (jou jb' g from_ to_ ep' end' L') H1 fun D' hold hin H2 => All_spec D' w1 jb' g from_ to_ ep' end' L' (by omega) (fun y hy => by have := hsm' y hy; omega) H2) ?_
        intro q2
        obtain ⟨A6, cap6, cs6⟩ := q2
        dsimp only
        refine ha_one 6 (by kernel_rfl) <| ?_
        refine ho_k rfl Try.call34 rfl (fun w1 H1 => Own.calln H1 fun D' hold hin H2 => Lists_spec D' w1 _ _ L' L' (hin _ fun h hs ho => rep_row (A := A6) hs L' rfl (stars_rowsB (t := 5) (xs := L') (cs := cs6) hs)) (hin _ fun h hs ho => rep_row (A := A5) hs L' rfl (stars_rowsB (t := 5) (xs := L') (cs := cs5) hs))) ?_
        rw [decide_eq_true (rfl : L' = L')]
        refine ha_v 7 rfl (by first | exact ov_notd rfl | exact ov_not rfl) rfl <| ?_
        refine ha_v 8 rfl (ov_move rfl) rfl <| ?_
        refine ha_v 9 rfl (ov_move rfl) rfl <| ?_
        refine ha_v 11 rfl (ov_move rfl) rfl <| ?_
        refine ha_one 10 (by kernel_rfl) <| ?_
        refine ho_k rfl Try.call33 rfl (fun w1 H1 => Own.callp (jou jb' g from_ to_ ep' end' L') H1 fun D' hold hin H2 => Room_spec D' w1 jb' g from_ to_ ep' end' L' hhi' (by omega) H2) ?_
        refine ha_one 12 (by kernel_rfl) <| ?_
        refine ho_k rfl Try.call42 rfl (fun w1 H1 => Own.callp (rjouB pb' q from_ to_ ep' end' L'.length (A5, cap5)) H1 fun D' hold hin H2 => RRoom_b D' w1 pb' q from_ to_ ep' end' L'.length (A5, cap5) hhi' (by omega) H2) ?_
        refine ha_v 13 rfl (ov_neq rfl rfl) rfl <| ?_
        refine ha_v 14 rfl (ov_pickF rfl rfl) rfl <| ?_
        refine ha_v 15 rfl (ov_move rfl) rfl <| ?_
        refine ha_partF (t := 164) rfl ((fun h => h rfl)) ?_
        refine ha_v 16 rfl (ov_move rfl) rfl <| ?_
        refine ha_one 17 (by kernel_rfl) <| ?_
        refine ho_k rfl Try.call43 rfl (fun w1 H1 => Own.callp (dsk g S' []) H1 fun D' hold hin H2 => Pending_spec D' w1 g S' [] H2) ?_
        refine ha_v 18 rfl (ov_neq rfl rfl) rfl <| ?_
        refine ha_v 19 rfl (ov_pickF rfl rfl) rfl <| ?_
        refine ha_done (by kernel_rfl) <| hx_then_normal <| ?_
        refine hc_cond_F rfl ((fun h => h rfl)) ?_
        refine hc_skip <| hx_block_normal <| hx_then_normal <| hc_region <| hl_v (ov_move rfl) rfl <| hl_v (ov_add rfl rfl (by first | exact wrap_i64 (by omega) | rfl)) rfl <| ?_
        refine hl_v (ov_assign rfl) rfl <| hl_nil <| ?_
        exact hx_next hK1 ((i + 1, (S', ep', end', L', 0, 0), jb', pb')) (⟨hlt, hI'⟩) (by omega) (by repeat (first | exact Slots.sub_nil _ | refine Slots.sub_cons rfl ?_)) (Ent.trans (b := rjouB pb' q from_ to_ ep' end' L'.length (A5, cap5) :: row A5 23 1 L'.length cap5 cs5 :: rowsB 5 L' cs5 :: [jou jb' g from_ to_ ep' end' L', dsk g S' [], rdsk q S' [], blk b2 83 [.int .i64 (m : Int), .int .i64 (from_ : Int), .int .i64 (to_ : Int)]]) (by first | assumption | exact Ent.refl _ | exact Ent.nil _ | exact Ent.row_any (Ent.refl _) | (repeat (first | exact Ent.refl _ | exact Ent.nil _ | refine Ent.pick ?_))) (Ent.trans rjou_mk (by first | assumption | exact Ent.refl _ | exact Ent.nil _ | exact Ent.row_any (Ent.refl _) | (repeat (first | exact Ent.refl _ | exact Ent.nil _ | refine Ent.pick ?_)))))
      refine hl_off rfl rfl rfl rfl rfl rfl <| hl_off rfl rfl rfl rfl rfl rfl <| hl_v (ov_pickF rfl rfl) rfl <| hl_nil <| hx_then_normal <| hc_cond_false rfl <| ?_
      refine hc_exit <| hx_then_exit <| hx_then_exit <| hx_block_out <| hx_then_normal <| hc_seq <| ?_
      refine hc_seq <| hc_region <| hl_v (ov_assign rfl) rfl <| hl_nil <| hx_then_normal <| hc_block <| ?_
      refine HC.ent (l' := [dsk g S [], rdsk q S []]) (by first | assumption | exact Ent.refl _ | exact Ent.nil _ | exact Ent.row_any (Ent.refl _) | (repeat (first | exact Ent.refl _ | exact Ent.nil _ | refine Ent.pick ?_))) ?_
      refine hc_loops1 (σ := Nat) [5, 7, 11] rfl 19 (fun jj => .int .i64 (jj : Int)) (fun jj => jj ≤ S.length) (fun jj => S.length - jj) (0) (Nat.zero_le _) rfl ?_
      rintro jj hjj K3 hK3
      refine HC.ent (Ent.pick (A := rdsk q S []) (Ent.refl _)) ?_
      refine HC.exs ?_
      rintro ⟨⟨A0, c0⟩, A1, c1⟩
      refine HC.ent (l' := [dsk g S [], blk q 59 [.slice A0 S.length c0, .slice A1 0 c1], row A0 34 64 S.length c0 (S.flatMap secC), row A1 116 65 0 c1 []]) (show Ent [blk q 59 [.slice A0 S.length c0, .slice A1 0 c1], row A0 34 64 S.length c0 (S.flatMap secC), row A1 116 65 0 c1 [], dsk g S []] _ from (by first | assumption | exact Ent.refl _ | exact Ent.nil _ | exact Ent.row_any (Ent.refl _) | (repeat (first | exact Ent.refl _ | exact Ent.nil _ | refine Ent.pick ?_)))) ?_
      refine HC.fact (fun w H => dsk_facts (A := A0) H) (fun hf0 => ?_)
      refine hc_seq <| hc_seq <| hc_region <| hl_v (ov_move rfl) rfl <| hl_v (ov_neqP rfl rfl) rfl <| hl_v (ov_move rfl) rfl <| ?_
      refine hl_on rfl rfl <| hl_v (ov_move rfl) rfl <| hl_on rfl rfl <| hl_v (ov_move rfl) rfl <| hl_on rfl rfl <| hl_v (ov_nil rfl) rfl <| hl_on rfl rfl <| hl_v (ov_fieldA rfl) rfl <| hl_on rfl rfl <| hl_v (ov_load rfl (CellIs.blk rfl)) rfl <| hl_on rfl rfl <| hl_v (by first | exact ov_len rfl | exact ov_lenS rfl) rfl <| ?_
      refine hl_on rfl rfl <| hl_v (ov_lss rfl rfl) rfl <| hl_v (ov_pickT rfl rfl) rfl <| hl_nil <| hx_then_normal <| ?_
      refine hc_cond rfl (fun hj1 => ?_) (fun hj1 => ?_)
      · have hj1 : jj < S.length := by omega
        have hA0 : isA A0 := hf0.2 (flat_ne secC_len (by decide) (by omega))
        refine hc_skip <| hx_then_normal <| hc_seq <| hc_block <| hc_seq <| hc_region <| ?_
        refine hl_v (ov_move rfl) rfl <| hl_v (ov_move rfl) rfl <| ?_
        refine hl_c Try.call17 rfl rfl (fun w1 H1 => Own.callp (dsk g S []) H1 fun D' hold hin H2 => (Read_ok D' w1 g jj S [] hj1 H2).mono fun e w' ⟨he, H'⟩ => ⟨show e = Ending.returned (.tuple #[.agg (secC S[jj]).toArray, .int .i64 0]) by rw [he]; rfl, H'⟩) ?_
        refine hl_v (ov_move rfl) rfl <| hl_v (ov_extract rfl rfl) rfl <| hl_v (ov_extract rfl rfl) rfl <| hl_new (on_alloc) rfl rfl rfl fun b20 =>  ?_
        refine hl_u0 (on_storeW (vs := secC S[jj]) rfl rfl (by simp [secC_len]) (by simp [secC_len]) (secC_one _)) rfl rfl ?_
        refine hl_v (ov_assign rfl) rfl <| hl_nil <| hx_then_normal <| hc_seq <| hc_quiet mixed (by kernel_rfl) <| ?_
        refine hq_v (ov_loadW rfl (secC_len S[jj])) rfl ?_
        refine hq_v (ov_move rfl) rfl <| hq_v (ov_nil rfl) rfl <| hq_v (ov_fieldA rfl) rfl <| hq_v (ov_load rfl (CellIs.blk rfl)) rfl <| hq_v (ov_move rfl) rfl <| ?_
        refine hq_v (ov_idxS rfl hA0 rfl jj rfl hj1) rfl ?_
        refine hq_v (ov_loadG (cs := secC S[jj]) rfl (secC_len _) (CellsAre.flat (f := secC) (A := A0) secC_len hA0 (i := jj) hj1)) rfl ?_
        refine hq_v (ov_neqSec (s := S[jj]) (t := S[jj]) rfl rfl) rfl ?_
        refine hq_nil <| hx_then_normal <| ?_
        refine hc_cond_F rfl ((fun h => h rfl)) ?_
        refine hc_skip <| hx_block_normal <| hx_then_normal <| hc_region <| hl_v (ov_move rfl) rfl <| hl_v (ov_add rfl rfl (by first | exact wrap_i64 (by omega) | rfl)) rfl <| ?_
        refine hl_v (ov_assign rfl) rfl <| hl_nil <| ?_
        exact hx_next hK3 (jj + 1) (hj1) (by omega) (by repeat (first | exact Slots.sub_nil _ | refine Slots.sub_cons rfl ?_)) (Ent.trans (b := [dsk g S [], blk q 59 [.slice A0 S.length c0, .slice A1 0 c1], row A0 34 64 S.length c0 (S.flatMap secC), row A1 116 65 0 c1 []]) (by first | assumption | exact Ent.refl _ | exact Ent.nil _ | exact Ent.row_any (Ent.refl _) | (repeat (first | exact Ent.refl _ | exact Ent.nil _ | refine Ent.pick ?_))) (Ent.cons (dsk_mk (P := []))))
      refine HC.ent (l' := []) (Ent.nil _) ?_
      refine hc_exit <| hx_then_exit <| hx_then_exit <| hx_block_out <| hx_then_normal <| hc_seq <| ?_
      refine hc_region <| ?_
      refine hl_c Try.call29 rfl rfl (fun w1 H1 => Own.calln H1 fun D' hold hin H2 => wakes4_spec D' w1) ?_
      refine hl_v (ov_assign rfl) rfl <| hl_nil <| hx_then_normal <| hc_ret <| ?_
      exact results_1 (.inr rfl) rfl rfl fun w' H' => ⟨rfl, H'.ent (Ent.nil _)⟩
    refine hl_v (ov_move rfl) rfl <| hl_v (ov_extract rfl rfl) rfl <| hl_v (ov_extract rfl rfl) rfl <| hl_v (ov_assign rfl) rfl <| hl_v (ov_assign rfl) rfl <| hl_nil <| ?_
    refine hx_then_normal <| hc_seq <| hc_region <| hl_v (ov_move rfl) rfl <| hl_v (ov_idxPc rfl rfl rfl rfl rfl) rfl <| hl_v (ov_load rfl (CellIs.blk rfl)) rfl <| ?_
    refine hl_v (ov_idxPc rfl rfl rfl rfl rfl) rfl <| hl_v (ov_load rfl (CellIs.blk rfl)) rfl <| ?_
    refine hl_c Try.call30 rfl rfl (fun w1 H1 => Own.callp (dsk g S0 []) H1 fun D' hold hin H2 => JOpen_no D' w1 g S0 n1 n2 1 (by omega) H2) ?_
    refine hl_v (ov_move rfl) rfl <| hl_v (ov_extract rfl rfl) rfl <| hl_v (ov_extract rfl rfl) rfl <| hl_v (ov_assign rfl) rfl <| hl_v (ov_assign rfl) rfl <| hl_nil <| ?_
    refine hx_then_normal <| hc_seq <| hc_region <| hl_v (ov_move rfl) rfl <| hl_v (ov_idxPc rfl rfl rfl rfl rfl) rfl <| hl_v (ov_load rfl (CellIs.blk rfl)) rfl <| ?_
    refine hl_v (ov_idxPc rfl rfl rfl rfl rfl) rfl <| hl_v (ov_load rfl (CellIs.blk rfl)) rfl <| ?_
    refine hl_c Try.call37 rfl rfl (fun w1 H1 => Own.callp (rdsk q S0 []) H1 fun D' hold hin H2 => ROpen_no D' w1 q S0 n1 n2 1 (by omega) H2) ?_
    refine hl_v (ov_move rfl) rfl <| hl_v (ov_extract rfl rfl) rfl <| hl_v (ov_extract rfl rfl) rfl <| hl_v (ov_assign rfl) rfl <| hl_v (ov_assign rfl) rfl <| hl_nil <| ?_
    refine hx_then_normal <| hc_seq <| hc_seq <| hc_region <| hl_v (ov_move rfl) rfl <| hl_v (ov_move rfl) rfl <| ?_
    refine hl_v (ov_neq rfl rfl) rfl <| hl_v (ov_move rfl) rfl <| ?_
    refine hl_partF (t := 64) rfl ((fun h => h rfl)) ?_
    refine hl_on rfl rfl <| hl_v (ov_move rfl) rfl <| hl_on rfl rfl <| hl_v (ov_eqlP rfl rfl) rfl <| hl_on rfl rfl <| hl_v (ov_move rfl) rfl <| hl_on rfl rfl <| hl_v (ov_eqlP rfl rfl) rfl <| hl_on rfl rfl <| hl_v (ov_neqB rfl rfl) rfl <| hl_v (ov_pickF rfl rfl) rfl <| ?_
    refine hl_nil <| hx_then_normal <| ?_
    refine hc_cond_F rfl ((by simp)) ?_
    refine HC.ent (l' := []) (Ent.nil _) ?_
    refine hc_skip <| hx_then_normal <| hc_seq <| hc_seq <| hc_region <| hl_v (ov_assign rfl) rfl <| ?_
    refine hl_nil <| hx_then_normal <| hc_block <| ?_
    refine hc_loops3 (σ := Nat) [1, 2, 5, 7] rfl 13 (fun s => .int .i64 s) 9 (fun s => .pointer none) 11 (fun s => .pointer none) (fun s => s = 0) (fun s => 0) (0) (rfl) rfl rfl rfl ?_
    rintro s hj K4 hK4
    refine hc_seq <| hc_seq <| hc_region <| hl_v (ov_move rfl) rfl <| hl_v (ov_move rfl) rfl <| hl_v (by first | exact ov_len rfl | exact ov_lenS rfl) rfl <| ?_
    refine hl_v (ov_lss rfl rfl) rfl <| hl_v (ov_move rfl) rfl <| ?_
    subst hj
    refine hl_part (t := 75) rfl (fun hp => ?_) (fun hp => ?_)
    · refine hl_on rfl rfl <| hl_v (ov_move rfl) rfl <| hl_on rfl rfl <| hl_v (ov_neqP rfl rfl) rfl <| hl_v (ov_pickT rfl rfl) rfl <| hl_nil <| hx_then_normal <| ?_
      refine hc_cond_false rfl ?_
      refine hc_exit <| hx_then_exit <| hx_then_exit <| hx_block_out <| hx_then_normal <| hc_seq <| ?_
      refine hc_seq <| hc_region <| hl_v (ov_assign rfl) rfl <| hl_nil <| hx_then_normal <| hc_block <| ?_
      refine hc_loops1 (σ := Nat) [5, 7, 11] rfl 19 (fun s => .int .i64 0) (fun s => s = 0) (fun s => 0) (0) (rfl) rfl ?_
      rintro s hj K5 hK5
      refine hc_seq <| hc_seq <| hc_region <| hl_v (ov_move rfl) rfl <| hl_v (ov_neqP rfl rfl) rfl <| hl_v (ov_move rfl) rfl <| ?_
      refine hl_off rfl rfl rfl rfl rfl rfl <| hl_off rfl rfl rfl rfl rfl rfl <| hl_off rfl rfl rfl rfl rfl rfl <| hl_off rfl rfl rfl rfl rfl rfl <| hl_off rfl rfl rfl rfl rfl rfl <| hl_off rfl rfl rfl rfl rfl rfl <| ?_
      refine hl_off rfl rfl rfl rfl rfl rfl <| hl_v (ov_pickF rfl rfl) rfl <| hl_nil <| hx_then_normal <| hc_cond_false rfl <| hc_exit <| ?_
      refine hx_then_exit <| hx_then_exit <| hx_block_out <| hx_then_normal <| hc_seq <| hc_region <| ?_
      refine hl_c Try.call29 rfl rfl (fun w1 H1 => Own.calln H1 fun D' hold hin H2 => wakes4_spec D' w1) ?_
      refine hl_v (ov_assign rfl) rfl <| hl_nil <| hx_then_normal <| hc_ret <| ?_
      exact results_1 (.inr rfl) rfl rfl fun w' H' => ⟨rfl, H'.ent (Ent.nil _)⟩
    refine hl_off rfl rfl rfl rfl rfl rfl <| hl_off rfl rfl rfl rfl rfl rfl <| hl_v (ov_pickF rfl rfl) rfl <| hl_nil <| hx_then_normal <| hc_cond_false rfl <| ?_
    refine hc_exit <| hx_then_exit <| hx_then_exit <| hx_block_out <| hx_then_normal <| hc_seq <| ?_
    refine hc_seq <| hc_region <| hl_v (ov_assign rfl) rfl <| hl_nil <| hx_then_normal <| hc_block <| ?_
    refine hc_loops1 (σ := Nat) [5, 7, 11] rfl 19 (fun s => .int .i64 0) (fun s => s = 0) (fun s => 0) (0) (rfl) rfl ?_
    rintro s hj K6 hK6
    refine hc_seq <| hc_seq <| hc_region <| hl_v (ov_move rfl) rfl <| hl_v (ov_neqP rfl rfl) rfl <| hl_v (ov_move rfl) rfl <| ?_
    refine hl_off rfl rfl rfl rfl rfl rfl <| hl_off rfl rfl rfl rfl rfl rfl <| hl_off rfl rfl rfl rfl rfl rfl <| hl_off rfl rfl rfl rfl rfl rfl <| hl_off rfl rfl rfl rfl rfl rfl <| hl_off rfl rfl rfl rfl rfl rfl <| ?_
    refine hl_off rfl rfl rfl rfl rfl rfl <| hl_v (ov_pickF rfl rfl) rfl <| hl_nil <| hx_then_normal <| hc_cond_false rfl <| hc_exit <| ?_
    refine hx_then_exit <| hx_then_exit <| hx_block_out <| hx_then_normal <| hc_seq <| hc_region <| ?_
    refine hl_c Try.call29 rfl rfl (fun w1 H1 => Own.calln H1 fun D' hold hin H2 => wakes4_spec D' w1) ?_
    refine hl_v (ov_assign rfl) rfl <| hl_nil <| hx_then_normal <| hc_ret <| ?_
    exact results_1 (.inr rfl) rfl rfl fun w' H' => ⟨rfl, H'.ent (Ent.nil _)⟩
  refine hc_skip <| hx_then_normal <| hc_seq <| hc_region <| hl_v (ov_idxPc rfl rfl rfl rfl rfl) rfl <| hl_v (ov_load rfl (CellIs.blk rfl)) rfl <| ?_
  refine hl_c Try.call14 rfl rfl (fun w1 H1 => Own.calln H1 fun D' hold hin H2 => New_no D' w1 n0 (by omega)) ?_
  refine hl_v (ov_move rfl) rfl <| hl_v (ov_extract rfl rfl) rfl <| hl_v (ov_extract rfl rfl) rfl <| hl_v (ov_assign rfl) rfl <| hl_v (ov_assign rfl) rfl <| hl_nil <| ?_
  refine hx_then_normal <| hc_seq <| hc_region <| hl_v (ov_idxPc rfl rfl rfl rfl rfl) rfl <| hl_v (ov_load rfl (CellIs.blk rfl)) rfl <| ?_
  refine hl_c Try.call20 rfl rfl (fun w1 H1 => Own.calln H1 fun D' hold hin H2 => RNew_no D' w1 n0 (by omega)) ?_
  refine hl_v (ov_move rfl) rfl <| hl_v (ov_extract rfl rfl) rfl <| hl_v (ov_extract rfl rfl) rfl <| hl_v (ov_assign rfl) rfl <| hl_v (ov_assign rfl) rfl <| hl_nil <| ?_
  refine hx_then_normal <| hc_seq <| hc_region <| hl_v (ov_move rfl) rfl <| hl_v (ov_idxPc rfl rfl rfl rfl rfl) rfl <| hl_v (ov_load rfl (CellIs.blk rfl)) rfl <| ?_
  refine hl_v (ov_idxPc rfl rfl rfl rfl rfl) rfl <| hl_v (ov_load rfl (CellIs.blk rfl)) rfl <| ?_
  refine hl_c Try.call30 rfl rfl (fun w1 H1 => Own.calln H1 fun D' hold hin H2 => JOpen_nil D' w1 n1 n2 1) ?_
  refine hl_v (ov_move rfl) rfl <| hl_v (ov_extract rfl rfl) rfl <| hl_v (ov_extract rfl rfl) rfl <| hl_v (ov_assign rfl) rfl <| hl_v (ov_assign rfl) rfl <| hl_nil <| ?_
  refine hx_then_normal <| hc_seq <| hc_region <| hl_v (ov_move rfl) rfl <| hl_v (ov_idxPc rfl rfl rfl rfl rfl) rfl <| hl_v (ov_load rfl (CellIs.blk rfl)) rfl <| ?_
  refine hl_v (ov_idxPc rfl rfl rfl rfl rfl) rfl <| hl_v (ov_load rfl (CellIs.blk rfl)) rfl <| ?_
  refine hl_c Try.call37 rfl rfl (fun w1 H1 => Own.calln H1 fun D' hold hin H2 => ROpen_nil D' w1 n1 n2 1) ?_
  refine hl_v (ov_move rfl) rfl <| hl_v (ov_extract rfl rfl) rfl <| hl_v (ov_extract rfl rfl) rfl <| hl_v (ov_assign rfl) rfl <| hl_v (ov_assign rfl) rfl <| hl_nil <| ?_
  refine hx_then_normal <| hc_seq <| hc_seq <| hc_region <| hl_v (ov_move rfl) rfl <| hl_v (ov_move rfl) rfl <| ?_
  refine hl_v (ov_neq rfl rfl) rfl <| hl_v (ov_move rfl) rfl <| ?_
  refine hl_partF (t := 64) rfl ((fun h => h rfl)) ?_
  refine hl_on rfl rfl <| hl_v (ov_move rfl) rfl <| hl_on rfl rfl <| hl_v (ov_eqlP rfl rfl) rfl <| hl_on rfl rfl <| hl_v (ov_move rfl) rfl <| hl_on rfl rfl <| hl_v (ov_eqlP rfl rfl) rfl <| hl_on rfl rfl <| hl_v (ov_neqB rfl rfl) rfl <| hl_v (ov_pickF rfl rfl) rfl <| ?_
  refine hl_nil <| hx_then_normal <| ?_
  refine hc_cond_F rfl ((by simp)) ?_
  refine HC.ent (l' := []) (Ent.nil _) ?_
  refine hc_skip <| hx_then_normal <| hc_seq <| hc_seq <| hc_region <| hl_v (ov_assign rfl) rfl <| ?_
  refine hl_nil <| hx_then_normal <| hc_block <| ?_
  refine hc_loops3 (σ := Nat) [1, 2, 5, 7] rfl 13 (fun s => .int .i64 s) 9 (fun s => .pointer none) 11 (fun s => .pointer none) (fun s => s = 0) (fun s => 0) (0) (rfl) rfl rfl rfl ?_
  rintro s hj K7 hK7
  refine hc_seq <| hc_seq <| hc_region <| hl_v (ov_move rfl) rfl <| hl_v (ov_move rfl) rfl <| hl_v (by first | exact ov_len rfl | exact ov_lenS rfl) rfl <| ?_
  refine hl_v (ov_lss rfl rfl) rfl <| hl_v (ov_move rfl) rfl <| ?_
  subst hj
  refine hl_part (t := 75) rfl (fun hp => ?_) (fun hp => ?_)
  · refine hl_on rfl rfl <| hl_v (ov_move rfl) rfl <| hl_on rfl rfl <| hl_v (ov_neqP rfl rfl) rfl <| hl_v (ov_pickT rfl rfl) rfl <| hl_nil <| hx_then_normal <| ?_
    refine hc_cond_false rfl ?_
    refine hc_exit <| hx_then_exit <| hx_then_exit <| hx_block_out <| hx_then_normal <| hc_seq <| ?_
    refine hc_seq <| hc_region <| hl_v (ov_assign rfl) rfl <| hl_nil <| hx_then_normal <| hc_block <| ?_
    refine hc_loops1 (σ := Nat) [5, 7, 11] rfl 19 (fun s => .int .i64 0) (fun s => s = 0) (fun s => 0) (0) (rfl) rfl ?_
    rintro s hj K8 hK8
    refine hc_seq <| hc_seq <| hc_region <| hl_v (ov_move rfl) rfl <| hl_v (ov_neqP rfl rfl) rfl <| hl_v (ov_move rfl) rfl <| ?_
    refine hl_off rfl rfl rfl rfl rfl rfl <| hl_off rfl rfl rfl rfl rfl rfl <| hl_off rfl rfl rfl rfl rfl rfl <| hl_off rfl rfl rfl rfl rfl rfl <| hl_off rfl rfl rfl rfl rfl rfl <| hl_off rfl rfl rfl rfl rfl rfl <| ?_
    refine hl_off rfl rfl rfl rfl rfl rfl <| hl_v (ov_pickF rfl rfl) rfl <| hl_nil <| hx_then_normal <| hc_cond_false rfl <| hc_exit <| ?_
    refine hx_then_exit <| hx_then_exit <| hx_block_out <| hx_then_normal <| hc_seq <| hc_region <| ?_
    refine hl_c Try.call29 rfl rfl (fun w1 H1 => Own.calln H1 fun D' hold hin H2 => wakes4_spec D' w1) ?_
    refine hl_v (ov_assign rfl) rfl <| hl_nil <| hx_then_normal <| hc_ret <| ?_
    exact results_1 (.inr rfl) rfl rfl fun w' H' => ⟨rfl, H'.ent (Ent.nil _)⟩
  refine hl_off rfl rfl rfl rfl rfl rfl <| hl_off rfl rfl rfl rfl rfl rfl <| hl_v (ov_pickF rfl rfl) rfl <| hl_nil <| hx_then_normal <| hc_cond_false rfl <| ?_
  refine hc_exit <| hx_then_exit <| hx_then_exit <| hx_block_out <| hx_then_normal <| hc_seq <| ?_
  refine hc_seq <| hc_region <| hl_v (ov_assign rfl) rfl <| hl_nil <| hx_then_normal <| hc_block <| ?_
  refine hc_loops1 (σ := Nat) [5, 7, 11] rfl 19 (fun s => .int .i64 0) (fun s => s = 0) (fun s => 0) (0) (rfl) rfl ?_
  rintro s hj K9 hK9
  refine hc_seq <| hc_seq <| hc_region <| hl_v (ov_move rfl) rfl <| hl_v (ov_neqP rfl rfl) rfl <| hl_v (ov_move rfl) rfl <| ?_
  refine hl_off rfl rfl rfl rfl rfl rfl <| hl_off rfl rfl rfl rfl rfl rfl <| hl_off rfl rfl rfl rfl rfl rfl <| hl_off rfl rfl rfl rfl rfl rfl <| hl_off rfl rfl rfl rfl rfl rfl <| hl_off rfl rfl rfl rfl rfl rfl <| ?_
  refine hl_off rfl rfl rfl rfl rfl rfl <| hl_v (ov_pickF rfl rfl) rfl <| hl_nil <| hx_then_normal <| hc_cond_false rfl <| hc_exit <| ?_
  refine hx_then_exit <| hx_then_exit <| hx_block_out <| hx_then_normal <| hc_seq <| hc_region <| ?_
  refine hl_c Try.call29 rfl rfl (fun w1 H1 => Own.calln H1 fun D' hold hin H2 => wakes4_spec D' w1) ?_
  refine hl_v (ov_assign rfl) rfl <| hl_nil <| hx_then_normal <| hc_ret <| ?_
  exact results_1 (.inr rfl) rfl rfl fun w' H' => ⟨rfl, H'.ent (Ent.nil _)⟩
end Go.Proofs.Ytijaldfiaeafgaa
