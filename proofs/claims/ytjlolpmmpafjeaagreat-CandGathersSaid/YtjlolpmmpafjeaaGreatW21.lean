import Derived.Test.YtjlolpmmpafjeaaGreatW19
import Derived.Test.YtjlolpmmpafjeaaGreatW20
import Derived.Test.YtjlolpmmpafjeaaGreatW18
set_option linter.unusedVariables false
set_option linter.unusedSimpArgs false
namespace Go.Proofs.YtjlolpmmpafjeaaGreat
open Slk
theorem Config_g (D : Nat → Prop) (w : World) (c : ConfC) (vp vv vs : Value) (hg : goodP c) (H : ConfOld D w c vp vv vs) :
    Calls Tryz.prog 110 #[.agg (cfgV c vp vv vs).toArray] w fun e w' => ∃ q : Option Addr × Nat, e = .returned (.tuple #[.slice q.1 (cfgB c).length q.2, .int .i64 0]) ∧ Own D w w' [row q.1 5 1 (cfgB c).length q.2 ((cfgB c).map u8v)] :=
  (Config_spec D w c vp vv vs H).mono fun e w' hp => by
    rcases hp with ⟨h, _⟩ | ⟨_, h⟩
    · exact absurd hg h
    · exact h
theorem Parse_g (D : Nat → Prop) (w : World) (v : Value) (c : ConfC) (hg : goodP c) (HA : Old D w (Rep.rep (cfgB c) [v])) :
    Calls Tryz.prog 46 #[v] w fun e w' => ∃ q : Three, e = .returned (.tuple #[.agg (cfgA c q).toArray, .int .i64 0]) ∧ Own D w w' (cfgR c q) :=
  (Parse_spec D w v (cfgB c) HA).mono fun e w' ⟨⟨⟨q, d, er⟩, hr⟩, he, H'⟩ => by
    obtain ⟨h1, h2⟩ := parse_of (xs := cfgB c) v hg rfl
    rcases hr with ⟨k, _⟩ | ⟨_, k2, k3⟩
    · exact absurd h1 k
    · have k2 : d = c := k2.trans h2
      have k3 : er = 0 := k3
      subst k2; subst k3
      exact ⟨q, he, H'⟩
theorem List_g (D : Nat → Prop) (w : World) (v : Value) (l : List EditC) (hl : okEds l) (HA : Old D w (Rep.rep (edsB l) [v])) :
    Calls Tryz.prog 80 #[v] w fun e w' => ∃ q : Option Addr × Nat, e = .returned (.tuple #[.slice q.1 l.length q.2, .int .i64 0]) ∧ Own D w w' [row q.1 81 7 l.length q.2 (l.flatMap editV)] :=
  (List_spec D w v (edsB l) HA).mono fun e w' ⟨⟨⟨q, d, er⟩, hr⟩, he, H'⟩ => by
    obtain ⟨h1, h2⟩ := list_of (l := l) v hl
    rcases hr with ⟨k, _⟩ | ⟨_, k2, k3⟩
    · exact absurd h1 k
    · have k2 : d = l := k2.trans h2
      have k3 : er = 0 := k3
      subst k2; subst k3
      exact ⟨q, he, H'⟩
theorem Edits_g (D : Nat → Prop) (w : World) (v : Value) (l : List EditC) (hl : okEds l) (HA : Old D w (Rep.rep l [v])) :
    Calls Tryz.prog 57 #[v] w fun e w' => ∃ q : Option Addr × Nat, e = .returned (.tuple #[.slice q.1 (edsB l).length q.2, .int .i64 0]) ∧ Own D w w' [row q.1 5 1 (edsB l).length q.2 ((edsB l).map u8v)] :=
  (Edits_spec D w v l (by have := hl.1; omega) HA).mono fun e w' hp => by
    rcases hp with ⟨h, _⟩ | ⟨_, ⟨i, hi, hb⟩, _⟩ | ⟨_, _, h⟩
    · exact absurd hl.1 (by omega)
    · exact absurd (hl.2 i hi) hb
    · exact h
theorem Edits_b (D : Nat → Prop) (w : World) (v : Value) (l : List EditC) (h32 : l.length ≤ 32) (hl : ¬ okEds l) (HA : Old D w (Rep.rep l [v])) :
    Calls Tryz.prog 57 #[v] w fun e w' => e = .returned (.tuple #[.slice none 0 0, .int .i64 11]) ∧ Own D w w' [] :=
  (Edits_spec D w v l (by omega) HA).mono fun e w' hp => by
    rcases hp with ⟨h, _⟩ | ⟨_, _, h⟩ | ⟨h1, h2, _⟩
    · omega
    · exact h
    · exact absurd ⟨h1, h2⟩ hl
theorem Edit_is (D : Nat → Prop) (w : World) (c : ConfC) (vp vv vs v1 : Value) (l : List EditC) (d : ConfC) (er : Int) (hr : edF c l = (d, er)) (hll : l.length ≤ 1000000) (HC0 : ConfOld D w c vp vv vs) (HE : Old D w (Rep.rep l [v1])) :
    Calls Tryz.prog 56 #[.agg (cfgV c vp vv vs).toArray, v1] w fun e w' => ∃ q : Three, e = .returned (.tuple #[.agg (cfgA d q).toArray, .int .i64 er]) ∧ Own D w w' (cfgR d q) :=
  (Edit_spec D w c vp vv vs v1 l hll HC0 HE).mono fun e w' ⟨⟨⟨q, d', er'⟩, hR⟩, he, H'⟩ => by
    have h := (edF_of hR).trans hr
    injection h with h1 h2
    subst h1; subst h2
    exact ⟨q, he, H'⟩
theorem First_is (D : Nat → Prop) (w : World) (n : Nat) (h1 : 1 ≤ n) (h2 : n ≤ 8) :
    Calls Tryz.prog 74 #[.int .i64 n] w fun e w' => ∃ q : Three, e = .returned (.tuple #[.agg (cfgA (firstC n) q).toArray, .int .i64 0]) ∧ Own D w w' (cfgR (firstC n) q) :=
  (First_spec D w n h1 h2).mono fun e w' ⟨q, he, H'⟩ => by
    have hl : (firstC n).2.2.2.1.length = n := List.length_replicate
    refine ⟨(q.1, (some ⟨q.2, 0, none⟩, 1), (none, 0)), ?_, ?_⟩
    · rw [he]; simp only [cfgA, hl]; rfl
    · refine H'.ent ?_
      simp only [cfgR, hl]
      exact Ent.cons (Ent.cons ((Ent.nil _).trans (Ent.nil_row 149 3)))
theorem save_spec (D : Nat → Prop) (w : World) (g ep : Nat) (S : List Sec) (c : ConfC) (vp vv vs : Value) (hS : 32 ≤ S.length) (hg : goodP c) (hep : ep < 4294967296) (HC : ConfOld D w c vp vv vs) (H : Own D w w [dsk g S []]) :
    Calls Tryz.prog 69 #[.pointer (some ⟨g, 0, none⟩), .int .u32 (ep : Int), .agg (cfgV c vp vv vs).toArray] w fun e w' => e = .returned (.int .i64 0) ∧ Own D w w' [dsk g (saveS S ep (cfgB c)) []] := by
  have hsm := cfgB_small hg
  refine hc_enter (vs := [.pointer (some ⟨g, 0, none⟩), .int .u32 (ep : Int), .agg (cfgV c vp vv vs).toArray]) Tryz.func69 rfl _ Tryz.ntmps69 rfl H ?_
  simp only [argSlots, Nat.zero_add]
  refine zg <| ?_
  refine hl_new (on_boxG (cs := cfgV c vp vv vs) rfl) rfl rfl rfl (fun b5 => ?_)
  refine hl_v (ov_assign rfl) rfl <| zn <| zg <| ?_
  refine hl_v (ov_loadW rfl rfl) rfl ?_
  refine hl_call (σ := Option Addr × Nat) Tryz.call110 rfl rfl (fun w1 H1 => Own.callx0 H1 fun D' hold hin H2 => Config_g D' w1 c vp vv vs hg (HC.hold hold)) ?_
  intro q
  try rw [List.nil_append]
  refine hl_v (ov_move rfl) rfl <| hl_v (ov_extract rfl rfl) rfl <| hl_v (ov_extract rfl rfl) rfl <| hl_v (ov_assign rfl) rfl <| hl_v (ov_assign rfl) rfl <| hl_nil <| ?_
  refine hx_then_normal <| hc_seq <| zg <| hl_v (ov_move rfl) rfl <| hl_v (ov_neq rfl rfl) rfl <| ?_
  refine zn <| ?_
  refine hc_cond_F rfl ((fun h => h rfl)) ?_
  refine zk <| zg <| hl_v (ov_move rfl) rfl <| hl_v (ov_move rfl) rfl <| ?_
  refine hl_v (ov_move rfl) rfl <| ?_
  refine hl_c Tryz.call111 rfl rfl (fun w1 H1 => Own.callp (dsk g S []) H1 fun D' hold hin H2 => Save_ok D' w1 g S ep _ (cfgB c) hS hep hsm (hin _ fun h hs ho => rep_row (A := q.1) hs (cfgB c) rfl (repL_bytes.2 rfl)) H2) ?_
  refine hl_v (ov_assign rfl) rfl <| zn <| hc_ret <| ?_
  exact results_1 (.inr rfl) rfl rfl fun w' H' => ⟨rfl, H'.ent za4⟩
theorem begin_old (D : Nat → Prop) (w : World) (g : Nat) (p : Int) (S : List Sec) (ep : Nat) (xs : List UInt8) (hS : 32 ≤ S.length) (hL : loadE S = (ep, xs, 0)) (H : Own D w w [dsk g S []]) :
    Calls Tryz.prog 45 #[.pointer (some ⟨g, 0, none⟩), .int .i64 p] w fun e w' => ∃ q : Option Addr × Nat, e = .returned (.tuple #[.int .u32 (ep : Int), .slice q.1 xs.length q.2, .int .i64 0]) ∧ Own D w w' [dsk g S [], row q.1 5 1 xs.length q.2 (xs.map u8v)] := by
  refine hc_enter (vs := [.pointer (some ⟨g, 0, none⟩), .int .i64 p]) Tryz.func45 rfl _ Tryz.ntmps45 rfl H ?_
  simp only [argSlots, Nat.zero_add]
  refine zg <| hl_v (ov_assign rfl) rfl <| hl_v (ov_assign rfl) rfl <| hl_v (ov_assign rfl) rfl <| hl_nil <| ?_
  refine hx_then_normal <| zg <| hl_v (ov_move rfl) rfl <| ?_
  refine hl_call (σ := Option Addr × Nat) Tryz.call73 rfl rfl (fun w1 H1 => Own.callpx (dsk g S []) H1 fun D' hold hin H2 => Load_is D' w1 g S ep xs 0 hL hS H2) ?_
  intro q
  refine hl_v (ov_move rfl) rfl <| hl_v (ov_extract rfl rfl) rfl <| hl_v (ov_extract rfl rfl) rfl <| hl_v (ov_extract rfl rfl) rfl <| hl_v (ov_assign rfl) rfl <| hl_v (ov_assign rfl) rfl <| ?_
  refine hl_v (ov_assign rfl) rfl <| zn <| hc_seq <| zg <| ?_
  refine hl_v (ov_move rfl) rfl <| hl_v (ov_neq rfl rfl) rfl <| zn <| ?_
  refine hc_cond_T rfl ((by decide)) ?_
  refine zg <| hl_v (ov_move rfl) rfl <| hl_v (ov_move rfl) rfl <| hl_v (ov_move rfl) rfl <| hl_v (ov_assign rfl) rfl <| ?_
  refine hl_v (ov_assign rfl) rfl <| hl_v (ov_assign rfl) rfl <| zn <| hc_ret <| hx_then_ret <| ?_
  exact results_3 (.inr rfl) rfl rfl rfl rfl fun w' H' => ⟨q, rfl, H'⟩
theorem begin_new (D : Nat → Prop) (w : World) (g p : Nat) (S S1 : List Sec) (hS : 32 ≤ S.length) (hp1 : 1 ≤ p) (hp8 : p ≤ 8) (hL : loadE S = (0, [], 13)) (hS1 : S1 = saveS S 1 (cfgB (firstC p))) (hL1 : loadE S1 = (1, cfgB (firstC p), 0)) (H : Own D w w [dsk g S []]) :
    Calls Tryz.prog 45 #[.pointer (some ⟨g, 0, none⟩), .int .i64 (p : Int)] w fun e w' => ∃ q : Option Addr × Nat, e = .returned (.tuple #[.int .u32 1, .slice q.1 (cfgB (firstC p)).length q.2, .int .i64 0]) ∧ Own D w w' [dsk g S1 [], row q.1 5 1 (cfgB (firstC p)).length q.2 ((cfgB (firstC p)).map u8v)] := by
  have hg := firstC_good p hp1 hp8
  have hl1 : S1.length = S.length := by rw [hS1]; exact save_len hS (cfgB_small hg)
  refine hc_enter (vs := [.pointer (some ⟨g, 0, none⟩), .int .i64 (p : Int)]) Tryz.func45 rfl _ Tryz.ntmps45 rfl H ?_
  simp only [argSlots, Nat.zero_add]
  refine zg <| hl_v (ov_assign rfl) rfl <| hl_v (ov_assign rfl) rfl <| hl_v (ov_assign rfl) rfl <| hl_nil <| ?_
  refine hx_then_normal <| zg <| hl_v (ov_move rfl) rfl <| ?_
  refine hl_call (σ := Option Addr × Nat) Tryz.call73 rfl rfl (fun w1 H1 => Own.callpx (dsk g S []) H1 fun D' hold hin H2 => Load_is D' w1 g S 0 [] 13 hL hS H2) ?_
  intro q0
  refine hl_v (ov_move rfl) rfl <| hl_v (ov_extract rfl rfl) rfl <| hl_v (ov_extract rfl rfl) rfl <| hl_v (ov_extract rfl rfl) rfl <| hl_v (ov_assign rfl) rfl <| hl_v (ov_assign rfl) rfl <| ?_
  refine hl_v (ov_assign rfl) rfl <| zn <| hc_seq <| zg <| ?_
  refine hl_v (ov_move rfl) rfl <| hl_v (ov_neq rfl rfl) rfl <| zn <| ?_
  refine hc_cond_F rfl ((fun h => h rfl)) ?_
  refine zk <| zg <| hl_v (ov_move rfl) rfl <| ?_
  refine hl_call (σ := Three) Tryz.call74 rfl rfl (fun w1 H1 => Own.callx0 H1 fun D' hold hin H2 => First_is D' w1 p hp1 hp8) ?_
  intro qc
  try rw [List.nil_append]
  refine hl_v (ov_move rfl) rfl <| hl_v (ov_extract rfl rfl) rfl <| hl_v (ov_extract rfl rfl) rfl <| hl_new (on_alloc) rfl rfl rfl fun b10 =>  ?_
  refine hl_u0 (on_storeW (vs := cfgA (firstC p) qc) rfl rfl rfl (by simp) za33) rfl rfl ?_
  refine hl_v (ov_assign rfl) rfl <| zn <| hc_seq <| zg <| ?_
  refine hl_v (ov_move rfl) rfl <| hl_v (ov_neq rfl rfl) rfl <| zn <| ?_
  refine hc_cond_F rfl ((fun h => h rfl)) ?_
  refine zk <| hc_seq <| zg <| hl_v (ov_move rfl) rfl <| ?_
  refine hl_v (ov_loadW rfl rfl) rfl ?_
  refine hl_c Tryz.call69 rfl rfl (fun w1 H1 => Own.callp (dsk g S []) H1 fun D' hold hin H2 => (save_spec D' w1 g 1 S (firstC p) _ _ _ hS hg (by decide) (ConfOld.rows (q := qc) (firstC_ok p hp8) hin) H2).mono fun e w' ⟨he, H'⟩ => ⟨he, show Own D' w1 w' [dsk g S1 []] by rw [hS1]; exact H'⟩) ?_
  refine hl_v (ov_assign rfl) rfl <| zn <| zg <| hl_v (ov_move rfl) rfl <| ?_
  refine hl_v (ov_neq rfl rfl) rfl <| zn <| ?_
  refine hc_cond_F rfl ((fun h => h rfl)) ?_
  refine zk <| zg <| hl_v (ov_move rfl) rfl <| ?_
  refine hl_call (σ := Option Addr × Nat) Tryz.call73 rfl rfl (fun w1 H1 => Own.callpx (dsk g S1 []) H1 fun D' hold hin H2 => Load_is D' w1 g S1 1 (cfgB (firstC p)) 0 hL1 (by omega) H2) ?_
  intro q2
  refine hl_v (ov_extract rfl rfl) rfl <| hl_v (ov_extract rfl rfl) rfl <| hl_v (ov_extract rfl rfl) rfl <| hl_v (ov_assign rfl) rfl <| hl_v (ov_assign rfl) rfl <| hl_v (ov_assign rfl) rfl <| ?_
  refine zn <| hc_ret <| ?_
  exact results_3 (.inr rfl) rfl rfl rfl rfl fun w' H' => ⟨q2, rfl, H'.ent za4⟩
set_option maxHeartbeats 1000000 in
theorem replay_spec (D : Nat → Prop) (w : World) (c : ConfC) (q : Three) (v : Value) (Ls : List (List EditC)) (d : ConfC) (hok : OkC c) (hr : replF c Ls = some d) (hLs : ∀ l ∈ Ls, okEds l ∧ ∀ x ∈ l, Flat.ok x) (HA : Old D w (Rep.rep (Ls.map edsB) [v])) (H : Own D w w (cfgR c q)) :
    Calls Tryz.prog 48 #[.agg (cfgA c q).toArray, v] w fun e w' => ∃ q' : Three, e = .returned (.tuple #[.agg (cfgA d q').toArray, .int .i64 0]) ∧ Own D w w' (cfgR d q') := by
  obtain ⟨A, cap, rfl, hc1, hc2, hel⟩ := HA.openX (by decide)
  have hml : (Ls.map edsB).length = Ls.length := List.length_map _
  have hst : ∀ i, i ≤ Ls.length → ∃ ci, replF c (Ls.take i) = some ci ∧ replF ci (Ls.drop i) = some d ∧ OkC ci := by
    intro i
    induction i with
    | zero => exact fun _ => ⟨c, rfl, hr, hok⟩
    | succ i ih =>
      intro hi
      obtain ⟨ci, h1, h2, h3⟩ := ih (by omega)
      rw [List.drop_eq_getElem_cons (by omega)] at h2
      have h2 : (if (edF ci Ls[i]).2 = 0 then replF (edF ci Ls[i]).1 (Ls.drop (i + 1)) else none) = some d := h2
      split at h2
      · rename_i h0
        refine ⟨_, ?_, h2, editR_ok (edF_R ci Ls[i]) h3 (hLs _ (List.getElem_mem (by omega))).2⟩
        rw [List.take_succ_eq_append_getElem (by omega)]
        exact replF_snoc _ _ _ _ h1 h0
      · cases h2
  refine hc_enter (vs := [.agg (cfgA c q).toArray, .slice A (Ls.map edsB).length cap]) Tryz.func48 rfl _ Tryz.ntmps48 rfl H ?_
  simp only [argSlots, Nat.zero_add]
  refine zg <| ?_
  refine hl_new (on_boxG (cs := cfgA c q) rfl) rfl rfl rfl (fun b2 => ?_)
  refine hl_new (on_alloc) rfl rfl rfl fun b4 => 
    hl_v (ov_assign rfl) rfl <| zn <| hc_seq <| hc_seq <| ?_
  refine hc_region <| hl_v (ov_move rfl) rfl <| hl_v za15 rfl <| ?_
  refine hl_v (ov_move rfl) rfl <| zn <| hc_block <| ?_
  refine hc_loopK1 (σ := Nat × ConfC) [2, 4, 10, 11] rfl 12 (fun s => .int .i64 (s.1 : Int)) (fun s => [cfgO b2 s.2, blk b4 49 [.int .i64 0, .int .i64 0, .int .i64 0, .slice none 0 0, .slice none 0 0, .slice none 0 0]]) (fun s => s.1 ≤ Ls.length ∧ replF s.2 (Ls.drop s.1) = some d ∧ OkC s.2) (fun s => Ls.length - s.1) ((0, c)) (⟨Nat.zero_le _, hr, hok⟩) rfl (Ent.trans (b := cfgQ b2 c q ++ [blk b4 49 [.int .i64 0, .int .i64 0, .int .i64 0, .slice none 0 0, .slice none 0 0, .slice none 0 0]]) za4 (cfgO_mk q)) ?_
  rintro ⟨i, ci⟩ hj_ K1 hK1
  dsimp only at hj_ ⊢
  obtain ⟨hi, hrc, hoc⟩ := hj_
  refine zg <| hl_v (ov_lss rfl rfl) rfl <| zn <| hc_seq <| ?_
  refine hc_cond rfl (fun h => ?_) (fun h => ?_)
  · have hlt : i < Ls.length := by omega
    obtain ⟨hA, cs, hxo, hcs⟩ := hel i (by omega)
    obtain ⟨B, cb, rfl, hxo⟩ := bytes_open hxo
    have hcell : ∀ l', CellIs D w l' (ab A) (ao A + i * 1) (.slice B (Ls.map edsB)[i].length cb) := fun l' => hcs 0 _ rfl l'
    have hli : (Ls.map edsB)[i] = edsB Ls[i] := by rw [List.getElem_map]
    rw [hli] at hcell hxo
    obtain ⟨hle, hlf⟩ := hLs _ (List.getElem_mem hlt)
    rw [List.drop_eq_getElem_cons hlt] at hrc
    obtain ⟨l, hl⟩ : ∃ l, l = Ls[i] := ⟨_, rfl⟩
    rw [← hl] at hcell hxo hle hlf hrc
    have hrc : (if (edF ci l).2 = 0 then replF (edF ci l).1 (Ls.drop (i + 1)) else none) = some d := hrc
    split at hrc
    · rename_i h0
      obtain ⟨c2, hc2e⟩ : ∃ c2, c2 = (edF ci l).1 := ⟨_, rfl⟩
      have hed : edF ci l = (c2, 0) := Prod.ext hc2e.symm h0
      have hoc2 : OkC c2 := by rw [hc2e]; exact editR_ok (edF_R ci l) hoc hlf
      rw [← hc2e] at hrc
      refine zk <| hc_seq <| hc_block <| zg <| ?_
      refine hl_v (ov_idxS rfl (by assumption) rfl _ rfl (by omega)) rfl <| ?_
      refine hl_v (ov_load rfl (hcell _)) rfl ?_
      refine hl_v (ov_assign rfl) rfl <| zn <| zg <| hl_v (ov_move rfl) rfl <| ?_
      refine hl_call (σ := Option Addr × Nat) Tryz.call80 rfl rfl (fun w1 H1 => Own.callx0 H1 fun D' hold hin H2 => List_g D' w1 _ l hle (hold _ hxo)) ?_
      intro qe
      try rw [List.nil_append]
      refine hl_v (ov_move rfl) rfl <| hl_v (ov_extract rfl rfl) rfl <| hl_v (ov_extract rfl rfl) rfl <| hl_v (ov_assign rfl) rfl <| hl_v (ov_assign rfl) rfl <| hl_nil <| ?_
      refine hx_then_normal <| hc_seq <| zg <| hl_v (ov_move rfl) rfl <| hl_v (ov_neq rfl rfl) rfl <| ?_
      refine zn <| ?_
      refine hc_cond_F rfl ((fun h => h rfl)) ?_
      refine HC.ent (Ent.trans (b := cfgO b2 ci :: [row qe.1 81 7 l.length qe.2 (l.flatMap editV), blk b4 49 [.int .i64 0, .int .i64 0, .int .i64 0, .slice none 0 0, .slice none 0 0, .slice none 0 0]]) za4 (Ent.refl _)) ?_
      refine HC.exs ?_
      intro q2
      refine HC.ent (l' := cfgQ b2 ci q2 ++ [row qe.1 81 7 l.length qe.2 (l.flatMap editV), blk b4 49 [.int .i64 0, .int .i64 0, .int .i64 0, .slice none 0 0, .slice none 0 0, .slice none 0 0]]) (fun _ h => h) ?_
      refine zk <| zg <| ?_
      refine hl_v (ov_loadW rfl rfl) rfl ?_
      refine hl_v (ov_move rfl) rfl <| ?_
      refine hl_call (σ := Three) Tryz.call56 rfl rfl (fun w1 H1 => Own.callx0 H1 fun D' hold hin H2 => Edit_is D' w1 ci _ _ _ _ l c2 0 hed (by have := hle.1; omega) (ConfOld.rows (q := q2) hoc hin) (hin _ fun h hs ho => rep_row (A := qe.1) hs l rfl (repL_F.2 ⟨rfl, hlf⟩))) ?_
      intro q3
      try rw [List.nil_append]
      refine hl_v (ov_move rfl) rfl <| hl_v (ov_extract rfl rfl) rfl <| hl_v (ov_extract rfl rfl) rfl <| ?_
      refine hl_u0 (on_storeW (vs := cfgA c2 q3) rfl rfl rfl (by simp) za33) rfl rfl ?_
      refine hl_v (ov_assign rfl) rfl <| zn <| zg <| hl_v (ov_move rfl) rfl <| ?_
      refine hl_v (ov_neq rfl rfl) rfl <| zn <| ?_
      refine hc_cond_F rfl ((fun h => h rfl)) ?_
      refine hc_skip <| hx_block_normal <| hx_then_normal <| hc_region <| hl_v (ov_add rfl rfl za18) rfl <| ?_
      refine hl_v (ov_move rfl) rfl <| hl_nil <| ?_
      exact hx_next hK1 ((i + 1, c2)) (⟨hlt, hrc, hoc2⟩) (by show Ls.length - (i + 1) < Ls.length - i; omega) za9 (Ent.trans (b := cfgQ b2 c2 q3 ++ [blk b4 49 [.int .i64 0, .int .i64 0, .int .i64 0, .slice none 0 0, .slice none 0 0, .slice none 0 0]]) za4 (cfgO_mk q3))
    cases hrc
  have hil : i = Ls.length := by omega
  rw [hil, List.drop_length] at hrc
  have hrc : some ci = some d := hrc
  injection hrc with hrc
  subst hrc
  refine HC.exs ?_
  intro q2
  refine HC.ent (l' := cfgQ b2 ci q2 ++ [blk b4 49 [.int .i64 0, .int .i64 0, .int .i64 0, .slice none 0 0, .slice none 0 0, .slice none 0 0]]) (fun _ h => h) ?_
  refine hc_exit <| hx_then_exit <| hx_then_exit <| hx_block_out <| hx_then_normal <| hc_seq <| ?_
  refine hc_region <| ?_
  refine hl_v (ov_loadW rfl rfl) rfl ?_
  refine hl_u0 (on_storeW (vs := cfgA ci q2) rfl rfl rfl (by simp) za33) rfl rfl ?_
  refine hl_v (ov_assign rfl) rfl <| zn <| hc_ret <| ?_
  exact results_ct (.inr rfl) rfl rfl (by simp) rfl fun w' H' => ⟨q2, rfl, H'.ent za4⟩
end Go.Proofs.YtjlolpmmpafjeaaGreat
set_option linter.unusedVariables false
set_option linter.unusedSimpArgs false
namespace Go.Proofs.YtjlolpmmpafjeaaGreat
open Slk
theorem JOpen_is (D : Nat → Prop) (w : World) (g : Nat) (S : List Sec) (from_ to_ N : Nat) (T : List Sec) (ep : Nat) (L : List (List UInt8)) (k end_ : Nat) (hE : entsF ep N 0 T = (L, k)) (he : end_ = from_ + k) (hto : to_ ≤ S.length) (hS : S.length ≤ 100000) (hN : from_ + N = to_) (hN0 : 0 < N) (hT : T = (S.drop from_).take N) (H : Own D w w [dsk g S []]) :
    Calls Tryz.prog 47 #[.pointer (some ⟨g, 0, none⟩), .int .i64 (from_ : Int), .int .i64 (to_ : Int), .int .u32 (ep : Int)] w fun e w' => ∃ jb : Nat, e = .returned (.tuple #[.pointer (some ⟨jb, 0, none⟩), .int .i64 0]) ∧ Own D w w' [jou jb g from_ to_ ep end_ L, dsk g S []] := by
  have h := JOpen_ok D w g S from_ to_ N T ep hto hS hN hN0 hT H
  rw [hE] at h
  subst he
  exact h
theorem Append_is (D : Nat → Prop) (w : World) (jb g from_ to_ ep end_ : Nat) (L ps : List (List UInt8)) (v : Value) (S : List Sec) (x : List UInt8) (n end' : Nat) (L' : List (List UInt8)) (S' : List Sec) (hx : x = ps.flatten) (hn : needM x.length = n) (he : end' = end_ + n) (hL' : L' = L ++ [x]) (hS' : S' = putS S end_ (encE (jouE ep L.length x))) (hle : end_ ≤ to_) (hto : to_ ≤ S.length) (hS : S.length ≤ 100000) (hp : x.length ≤ 4000) (hfit : n ≤ to_ - end_) (hep : ep < 4294967296) (hL : L.length ≤ 1000000) (HA : Old D w (Rep.rep ps [v])) (H : Own D w w [jou jb g from_ to_ ep end_ L, dsk g S []]) :
    Calls Tryz.prog 58 #[.pointer (some ⟨jb, 0, none⟩), v] w fun e w' => e = .returned (.int .i64 0) ∧ Own D w w' [jou jb g from_ to_ ep end' L', dsk g S' []] := by
  subst he; subst hL'; subst hS'
  exact Append_ok D w jb g from_ to_ ep end_ L ps v S x hx _ rfl n hn hle hto hS hp hfit hep hL HA H
end Go.Proofs.YtjlolpmmpafjeaaGreat
set_option linter.unusedVariables false
set_option linter.unusedSimpArgs false
namespace Go.Proofs.YtjlolpmmpafjeaaGreat
open Slk
abbrev stoC (jb g : Nat) (s : SSt) (q : Three) : List Value := [.pointer (some ⟨jb, 0, none⟩), .pointer (some ⟨g, 0, none⟩), .int .i64 s.c.1, .int .i64 s.c.2.1, .int .i64 s.c.2.2.1, .slice q.1.1 s.c.2.2.2.1.length q.1.2, .slice q.2.1.1 s.c.2.2.2.2.1.length q.2.1.2, .slice q.2.2.1 s.c.2.2.2.2.2.length q.2.2.2, .int .u32 (s.ep : Int)]
def stoL (sb g m : Nat) (s : SSt) (x : Nat × Three) : List HProp := blk sb 120 (stoC x.1 g s x.2) :: jou x.1 g 32 m s.ep (32 + s.k) (s.Ls.map edsB) :: cfgR s.c x.2
def sto (sb g m : Nat) (s : SSt) : HProp := exS (stoL sb g m s)
theorem sto_mk {sb g m : Nat} {s : SSt} {l : List HProp} (jb : Nat) (q : Three) : Ent (blk sb 120 (stoC jb g s q) :: jou jb g 32 m s.ep (32 + s.k) (s.Ls.map edsB) :: (cfgR s.c q ++ l)) (sto sb g m s :: l) := Ent.exS (L := stoL sb g m s) (l := l) (jb, q)
theorem SEpoch_nil (D : Nat → Prop) (w : World) : Calls Tryz.prog 32 #[.pointer none] w fun e w' => e = .returned (.int .u32 0) ∧ Own D w w' [] := by
  refine hc_enter (vs := [.pointer none]) Tryz.func32 rfl _ Tryz.ntmps32 rfl (Own.start D w) ?_
  simp only [argSlots, Nat.zero_add]
  refine zg <| hl_v (ov_assign rfl) rfl <| zn <| hc_seq <| ?_
  refine zg <| hl_v (ov_move rfl) rfl <| hl_v (ov_eqlP rfl rfl) rfl <| zn <| ?_
  refine hc_cond_true rfl ?_
  refine zg <| hl_v (ov_assign rfl) rfl <| zn <| hc_ret <| ?_
  refine hx_then_ret <| ?_
  exact results_1 (.inr rfl) rfl rfl fun w' H' => ⟨rfl, H'⟩
theorem SEpoch_spec (D : Nat → Prop) (w : World) (sb g m : Nat) (s : SSt) (H : Own D w w [sto sb g m s]) : Calls Tryz.prog 32 #[.pointer (some ⟨sb, 0, none⟩)] w fun e w' => e = .returned (.int .u32 (s.ep : Int)) ∧ Own D w w' [sto sb g m s] := by
  refine hc_enter (vs := [.pointer (some ⟨sb, 0, none⟩)]) Tryz.func32 rfl _ Tryz.ntmps32 rfl H ?_
  simp only [argSlots, Nat.zero_add]
  refine HC.exs ?_
  rintro ⟨jb, q⟩
  refine HC.ent (l' := blk sb 120 (stoC jb g s q) :: jou jb g 32 m s.ep (32 + s.k) (s.Ls.map edsB) :: cfgR s.c q) (fun _ h => h) ?_
  refine zg <| hl_v (ov_assign rfl) rfl <| zn <| hc_seq <| ?_
  refine zg <| hl_v (ov_move rfl) rfl <| hl_v (ov_eqlP rfl rfl) rfl <| zn <| ?_
  refine hc_cond_false rfl ?_
  refine zk <| zg <| hl_v (ov_move rfl) rfl <| hl_v (ov_nil rfl) rfl <| ?_
  refine hl_v (ov_fieldA rfl) rfl <| hl_v (ov_load rfl (CellIs.blk rfl)) rfl <| hl_v (ov_assign rfl) rfl <| zn <| hc_ret <| ?_
  exact results_1 (.inr rfl) rfl rfl fun w' H' => ⟨rfl, H'.ent (sto_mk (l := []) jb q)⟩
theorem SConfig_nil (D : Nat → Prop) (w : World) : Calls Tryz.prog 26 #[.pointer none] w fun e w' => ∃ q : Three, e = .returned (.agg (cfgA zeroC q).toArray) ∧ Own D w w' (cfgR zeroC q) := by
  refine hc_enter (vs := [.pointer none]) Tryz.func26 rfl _ Tryz.ntmps26 rfl (Own.start D w) ?_
  simp only [argSlots, Nat.zero_add]
  refine zg <| hl_new (on_alloc) rfl rfl rfl fun b2 =>
    zn <| hc_seq <| ?_
  refine zg <| hl_v (ov_move rfl) rfl <| hl_v (ov_eqlP rfl rfl) rfl <| zn <| ?_
  refine hc_cond_true rfl ?_
  refine zg <| hl_v (ov_buildSN rfl rfl) rfl <| ?_
  refine hl_u0 (on_storeW (vs := cfgA zeroC q0) rfl rfl rfl (by simp) za33) rfl rfl ?_
  refine zn <| hc_ret <| hx_then_ret <| ?_
  exact results_c (.inr rfl) rfl rfl (by simp) fun w' H' => ⟨q0, rfl, H'.ent ((Ent.nil _).trans (Ent.cfgR0 []))⟩
theorem SConfig_spec (D : Nat → Prop) (w : World) (sb g m : Nat) (s : SSt) (hok : OkC s.c) (H : Own D w w [sto sb g m s]) : Calls Tryz.prog 26 #[.pointer (some ⟨sb, 0, none⟩)] w fun e w' => ∃ q : Three, e = .returned (.agg (cfgA s.c q).toArray) ∧ Own D w w' (sto sb g m s :: cfgR s.c q) := by
  refine hc_enter (vs := [.pointer (some ⟨sb, 0, none⟩)]) Tryz.func26 rfl _ Tryz.ntmps26 rfl H ?_
  simp only [argSlots, Nat.zero_add]
  refine HC.exs ?_
  rintro ⟨jb, q⟩
  refine HC.ent (l' := blk sb 120 (stoC jb g s q) :: jou jb g 32 m s.ep (32 + s.k) (s.Ls.map edsB) :: cfgR s.c q) (fun _ h => h) ?_
  refine zg <| hl_new (on_alloc) rfl rfl rfl fun b2 =>
    zn <| hc_seq <| ?_
  refine zg <| hl_v (ov_move rfl) rfl <| hl_v (ov_eqlP rfl rfl) rfl <| zn <| ?_
  refine hc_cond_false rfl ?_
  refine zk <| zg <| hl_v (ov_move rfl) rfl <| hl_v (ov_nil rfl) rfl <| ?_
  refine hl_v (ov_fieldA rfl) rfl <| ?_
  refine hl_v (ov_loadGB (vs := cfgA s.c q) rfl rfl) rfl ?_
  refine hl_call (σ := Three) Tryz.call65 rfl rfl (fun w1 H1 => Own.callx0 H1 fun D' hold hin H2 => Copy_spec D' w1 s.c _ _ _ (ConfOld.rows (q := q) hok hin)) ?_
  intro q2
  try rw [List.nil_append]
  refine hl_u0 (on_storeW (vs := cfgA s.c q2) rfl rfl rfl (by simp) za33) rfl rfl ?_
  refine zn <| hc_ret <| ?_
  exact results_c (.inr rfl) rfl rfl (by simp) fun w' H' => ⟨q2, rfl, H'.ent (Ent.trans (b := blk sb 120 (stoC jb g s q) :: jou jb g 32 m s.ep (32 + s.k) (s.Ls.map edsB) :: (cfgR s.c q ++ cfgR s.c q2)) za4 (sto_mk jb q))⟩
theorem SSave_nil (D : Nat → Prop) (w : World) : Calls Tryz.prog 31 #[.pointer none] w fun e w' => e = .returned (.int .i64 1) ∧ Own D w w' [] := by
  refine hc_enter (vs := [.pointer none]) Tryz.func31 rfl _ Tryz.ntmps31 rfl (Own.start D w) ?_
  simp only [argSlots, Nat.zero_add]
  refine zg <| hl_v (ov_assign rfl) rfl <| zn <| hc_seq <| ?_
  refine zg <| hl_v (ov_move rfl) rfl <| hl_v (ov_eqlP rfl rfl) rfl <| zn <| ?_
  refine hc_cond_true rfl ?_
  refine zg <| hl_v (ov_assign rfl) rfl <| zn <| hc_ret <| ?_
  refine hx_then_ret <| ?_
  exact results_1 (.inr rfl) rfl rfl fun w' H' => ⟨rfl, H'⟩
set_option maxHeartbeats 1000000 in
theorem SSave_spec (D : Nat → Prop) (w : World) (sb g m : Nat) (s : SSt) (h : SI m s) (hep : s.ep < 4294967290) (H : Own D w w [sto sb g m s, dsk g s.S []]) : Calls Tryz.prog 31 #[.pointer (some ⟨sb, 0, none⟩)] w fun e w' => e = .returned (.int .i64 0) ∧ Own D w w' [sto sb g m (saveSt s), dsk g (saveSt s).S []] := by
  have hlen := h.len
  have hm := h.m40
  refine hc_enter (vs := [.pointer (some ⟨sb, 0, none⟩)]) Tryz.func31 rfl _ Tryz.ntmps31 rfl H ?_
  simp only [argSlots, Nat.zero_add]
  refine HC.exs ?_
  rintro ⟨jb, q⟩
  refine HC.ent (l' := blk sb 120 (stoC jb g s q) :: jou jb g 32 m s.ep (32 + s.k) (s.Ls.map edsB) :: (cfgR s.c q ++ [dsk g s.S []])) (fun _ h => h) ?_
  refine zg <| hl_v (ov_assign rfl) rfl <| zn <| hc_seq <| ?_
  refine zg <| hl_v (ov_move rfl) rfl <| hl_v (ov_eqlP rfl rfl) rfl <| zn <| ?_
  refine hc_cond_false rfl ?_
  refine zk <| hc_seq <| hc_seq <| ?_
  refine hc_any [blk sb 120 (stoC jb g s q)] mixed 15 rfl ?_
  refine ha_v 0 rfl (ov_move rfl) rfl <| ?_
  refine ha_v 1 rfl (ov_nil rfl) rfl <| ?_
  refine ha_v 2 rfl (ov_fieldA rfl) rfl <| ?_
  refine ha_v 3 rfl (ov_load rfl (CellIs.blk rfl)) rfl <| ?_
  refine ha_v 4 rfl (ov_move rfl) rfl <| ?_
  refine ha_v 5 rfl (ov_nil rfl) rfl <| ?_
  refine ha_v 6 rfl (ov_fieldA rfl) rfl <| ?_
  refine ha_v 7 rfl (ov_load rfl (CellIs.blk rfl)) rfl <| ?_
  refine ha_v 8 rfl (ov_add rfl rfl za20) rfl <| ?_
  refine ha_v 9 rfl (ov_move rfl) rfl <| ?_
  refine ha_v 10 rfl (ov_nil rfl) rfl <| ?_
  refine ha_v 11 rfl (ov_fieldA rfl) rfl <| ?_
  refine ha_one 12 (by kernel_rfl) <| ?_
  refine ho_v rfl (ov_loadGB (vs := cfgA s.c q) rfl rfl) rfl ?_
  refine ha_one 13 (by kernel_rfl) <| ?_
  refine ho_k rfl Tryz.call69 rfl (fun w1 H1 => Own.callp (dsk g s.S []) H1 fun D' hold hin H2 => save_spec D' w1 g (s.ep + 1) s.S s.c _ _ _ (by omega) h.gc (by omega) (ConfOld.rows (q := q) h.okc hin) H2) ?_
  refine ha_v 14 rfl (ov_assign rfl) rfl <| ?_
  refine ha_done (by kernel_rfl) <| hx_then_normal <| zg <| hl_v (ov_move rfl) rfl <| hl_v (ov_neq rfl rfl) rfl <| ?_
  refine zn <| ?_
  refine hc_cond_F rfl ((fun h => h rfl)) ?_
  refine zk <| zg <| hl_v (ov_move rfl) rfl <| hl_v (ov_nil rfl) rfl <| ?_
  refine hl_v (ov_fieldA rfl) rfl <| hl_v (ov_load rfl (CellIs.blk rfl)) rfl <| ?_
  refine hl_v (ov_add (m := ((s.ep + 1 : Nat) : Int)) rfl rfl ((wrap_u32 (by omega)).trans (by omega))) rfl ?_
  refine hl_v (ov_nil rfl) rfl <| hl_v (ov_fieldA rfl) rfl <| hl_u0 (on_storeN rfl rfl rfl rfl rfl) rfl rfl <| zn <| hc_seq <| ?_
  refine HC.ent (l' := blk sb 120 (stoC jb g (saveSt s) q) :: dsk g (saveSt s).S [] :: jou jb g 32 m s.ep (32 + s.k) (s.Ls.map edsB) :: cfgR s.c q) (fun _ h => h) ?_
  refine hc_any [blk sb 120 (stoC jb g (saveSt s) q)] mixed 9 rfl ?_
  refine ha_v 0 rfl (ov_move rfl) rfl <| ?_
  refine ha_v 1 rfl (ov_nil rfl) rfl <| ?_
  refine ha_v 2 rfl (ov_fieldA rfl) rfl <| ?_
  refine ha_v 3 rfl (ov_load rfl (CellIs.blk rfl)) rfl <| ?_
  refine ha_v 4 rfl (ov_move rfl) rfl <| ?_
  refine ha_v 5 rfl (ov_nil rfl) rfl <| ?_
  refine ha_v 6 rfl (ov_fieldA rfl) rfl <| ?_
  refine ha_v 7 rfl (ov_load rfl (CellIs.blk rfl)) rfl <| ?_
  refine ha_one 8 (by kernel_rfl) <| ?_
  refine ho_k rfl Tryz.call70 rfl (fun w1 H1 => Own.callp (jou jb g 32 m s.ep (32 + s.k) (s.Ls.map edsB)) H1 fun D' hold hin H2 => Next_spec D' w1 jb g 32 m s.ep (32 + s.k) (s.Ls.map edsB) (s.ep + 1) H2) ?_
  refine ha_done (by kernel_rfl) <| hx_then_normal <| zg <| hl_v (ov_assign rfl) rfl <| hl_nil <| ?_
  refine hx_then_normal <| hc_ret <| ?_
  exact results_1 (.inr rfl) rfl rfl fun w' H' => ⟨rfl, H'.ent (Ent.trans (b := blk sb 120 (stoC jb g (saveSt s) q) :: jou jb g 32 m (s.ep + 1) 32 [] :: (cfgR s.c q ++ [dsk g (saveSt s).S []])) za4 (sto_mk (s := saveSt s) jb q))⟩
theorem SOpen_nil (D : Nat → Prop) (w : World) (p : Int) : Calls Tryz.prog 17 #[.pointer none, .int .i64 p] w fun e w' => e = .returned (.tuple #[.pointer none, .int .i64 1]) ∧ Own D w w' [] := by
  refine hc_enter (vs := [.pointer none, .int .i64 p]) Tryz.func17 rfl _ Tryz.ntmps17 rfl (Own.start D w) ?_
  simp only [argSlots, Nat.zero_add]
  refine zg <| hl_v (ov_assign rfl) rfl <| hl_v (ov_assign rfl) rfl <| zn <| ?_
  refine hc_seq <| zg <| hl_v (ov_move rfl) rfl <| ?_
  refine hl_c Tryz.call44 rfl rfl (fun w1 H1 => Own.calln H1 fun D' hold hin H2 => Len_nil D' w1) ?_
  refine hl_v (ov_lss rfl rfl) rfl <| hl_v (ov_move rfl) rfl <| ?_
  refine hl_partT (t := 14) rfl ((by decide)) ?_
  refine hl_off rfl rfl rfl rfl rfl rfl <| hl_off rfl rfl rfl rfl rfl rfl <| hl_v (ov_pickT rfl rfl) rfl <| hl_v (ov_move rfl) rfl <| hl_off rfl rfl rfl rfl rfl rfl <| hl_off rfl rfl rfl rfl rfl rfl <| ?_
  refine hl_v (ov_pickT rfl rfl) rfl <| zn <| hc_cond_true rfl <| zg <| ?_
  refine hl_v (ov_assign rfl) rfl <| hl_v (ov_assign rfl) rfl <| zn <| hc_ret <| hx_then_ret <| ?_
  exact results_2 (.inr rfl) rfl rfl rfl fun w' H' => ⟨rfl, H'⟩
theorem SOpen_no (D : Nat → Prop) (w : World) (g : Nat) (S : List Sec) (p : Int) (hbad : S.length < 40 ∨ p < 1 ∨ 8 < p) (H : Own D w w [dsk g S []]) : Calls Tryz.prog 17 #[.pointer (some ⟨g, 0, none⟩), .int .i64 p] w fun e w' => e = .returned (.tuple #[.pointer none, .int .i64 1]) ∧ Own D w w' [dsk g S []] := by
  refine hc_enter (vs := [.pointer (some ⟨g, 0, none⟩), .int .i64 p]) Tryz.func17 rfl _ Tryz.ntmps17 rfl H ?_
  simp only [argSlots, Nat.zero_add]
  refine zg <| hl_v (ov_assign rfl) rfl <| hl_v (ov_assign rfl) rfl <| zn <| ?_
  refine hc_seq <| zg <| hl_v (ov_move rfl) rfl <| ?_
  refine hl_c Tryz.call44 rfl rfl (fun w1 H1 => Own.callp (dsk g S []) H1 fun D' hold hin H2 => Len_spec D' w1 g S [] H2) ?_
  refine hl_v (ov_lss rfl rfl) rfl <| hl_v (ov_move rfl) rfl <| ?_
  refine hl_part (t := 14) rfl (fun c1 => ?_) (fun c1 => ?_)
  · refine hl_off rfl rfl rfl rfl rfl rfl <| hl_off rfl rfl rfl rfl rfl rfl <| hl_v (ov_pickT rfl rfl) rfl <| hl_v (ov_move rfl) rfl <| hl_off rfl rfl rfl rfl rfl rfl <| hl_off rfl rfl rfl rfl rfl rfl <| ?_
    refine hl_v (ov_pickT rfl rfl) rfl <| zn <| hc_cond_true rfl <| zg <| ?_
    refine hl_v (ov_assign rfl) rfl <| hl_v (ov_assign rfl) rfl <| zn <| hc_ret <| hx_then_ret <| ?_
    exact results_2 (.inr rfl) rfl rfl rfl fun w' H' => ⟨rfl, H'⟩
  refine hl_on rfl rfl <| hl_v (ov_move rfl) rfl <| hl_on rfl rfl <| hl_v (ov_lss rfl rfl) rfl <| hl_v (ov_pickF rfl rfl) rfl <| hl_v (ov_move rfl) rfl <| ?_
  refine hl_part (t := 18) rfl (fun c2 => ?_) (fun c2 => ?_)
  · refine hl_off rfl rfl rfl rfl rfl rfl <| hl_off rfl rfl rfl rfl rfl rfl <| hl_v (ov_pickT rfl rfl) rfl <| zn <| hc_cond_true rfl <| ?_
    refine zg <| hl_v (ov_assign rfl) rfl <| hl_v (ov_assign rfl) rfl <| zn <| ?_
    refine hc_ret <| hx_then_ret <| ?_
    exact results_2 (.inr rfl) rfl rfl rfl fun w' H' => ⟨rfl, H'⟩
  refine hl_on rfl rfl <| hl_v (ov_move rfl) rfl <| hl_on rfl rfl <| hl_v (ov_gtr rfl rfl) rfl <| hl_v (ov_pickF rfl rfl) rfl <| zn <| ?_
  refine hc_cond_T rfl ((by omega)) ?_
  refine zg <| hl_v (ov_assign rfl) rfl <| hl_v (ov_assign rfl) rfl <| zn <| ?_
  refine hc_ret <| hx_then_ret <| ?_
  exact results_2 (.inr rfl) rfl rfl rfl fun w' H' => ⟨rfl, H'⟩
set_option maxHeartbeats 1000000 in
theorem SOpen_gen (D : Nat → Prop) (w : World) (g m : Nat) (Sa : List Sec) (s : SSt) (p : Nat) (h : SI m s) (hm2 : m ≤ 100000) (hep : s.ep < 4294967296) (h1 : 1 ≤ p) (h8 : p ≤ 8) (hp : s.c0.2.2.2.1.length = p) (hSa : Sa.length = m)
    (hb : ∀ D w, Own D w w [dsk g Sa []] → Calls Tryz.prog 45 #[.pointer (some ⟨g, 0, none⟩), .int .i64 (p : Int)] w fun e w' => ∃ q : Option Addr × Nat, e = .returned (.tuple #[.int .u32 (s.ep : Int), .slice q.1 (cfgB s.c0).length q.2, .int .i64 0]) ∧ Own D w w' [dsk g s.S [], row q.1 5 1 (cfgB s.c0).length q.2 ((cfgB s.c0).map u8v)])
    (H : Own D w w [dsk g Sa []]) : Calls Tryz.prog 17 #[.pointer (some ⟨g, 0, none⟩), .int .i64 (p : Int)] w fun e w' => ∃ sb : Nat, e = .returned (.tuple #[.pointer (some ⟨sb, 0, none⟩), .int .i64 0]) ∧ Own D w w' [sto sb g m s, dsk g s.S []] := by
  have hlen := h.len
  have hm := h.m40
  have hk := h.kle
  have hmany := h.many
  have hreg := h.reg
  have hE : entsF s.ep (m - 32) 0 (regS s.S) = (s.Ls.map edsB, s.k) := by
    have := h.ji.open hep (by omega)
    rwa [hreg] at this
  have hT : regS s.S = (s.S.drop 32).take (m - 32) := by
    show s.S.drop 32 = _
    rw [List.take_of_length_le za27]
  have hsml : ∀ x ∈ s.Ls.map edsB, x.length ≤ 1000000 := fun x hx => by
    obtain ⟨l, hl, rfl⟩ := List.mem_map.1 hx
    have := edsB_small (h.oks l hl).1.1
    omega
  have hml : (s.Ls.map edsB).length = s.Ls.length := List.length_map _
  refine hc_enter (vs := [.pointer (some ⟨g, 0, none⟩), .int .i64 (p : Int)]) Tryz.func17 rfl _ Tryz.ntmps17 rfl H ?_
  simp only [argSlots, Nat.zero_add]
  refine zg <| hl_v (ov_assign rfl) rfl <| hl_v (ov_assign rfl) rfl <| zn <| ?_
  refine hc_seq <| zg <| hl_v (ov_move rfl) rfl <| ?_
  refine hl_c Tryz.call44 rfl rfl (fun w1 H1 => Own.callp (dsk g Sa []) H1 fun D' hold hin H2 => Len_spec D' w1 g Sa [] H2) ?_
  refine hl_v (ov_lss rfl rfl) rfl <| hl_v (ov_move rfl) rfl <| ?_
  refine hl_partF (t := 14) rfl ((by omega)) ?_
  refine hl_on rfl rfl <| hl_v (ov_move rfl) rfl <| hl_on rfl rfl <| hl_v (ov_lss rfl rfl) rfl <| hl_v (ov_pickF rfl rfl) rfl <| hl_v (ov_move rfl) rfl <| ?_
  refine hl_partF (t := 18) rfl ((by omega)) ?_
  refine hl_on rfl rfl <| hl_v (ov_move rfl) rfl <| hl_on rfl rfl <| hl_v (ov_gtr rfl rfl) rfl <| hl_v (ov_pickF rfl rfl) rfl <| zn <| ?_
  refine hc_cond_F rfl ((by omega)) ?_
  refine zk <| zg <| hl_v (ov_move rfl) rfl <| hl_v (ov_move rfl) rfl <| ?_
  refine hl_call (σ := Option Addr × Nat) Tryz.call45 rfl rfl (fun w1 H1 => Own.callpx (dsk g Sa []) H1 fun D' hold hin H2 => hb D' w1 H2) ?_
  intro qb
  refine hl_v (ov_move rfl) rfl <| hl_v (ov_extract rfl rfl) rfl <| hl_v (ov_extract rfl rfl) rfl <| hl_v (ov_extract rfl rfl) rfl <| hl_v (ov_assign rfl) rfl <| hl_v (ov_assign rfl) rfl <| ?_
  refine hl_v (ov_assign rfl) rfl <| zn <| hc_seq <| zg <| ?_
  refine hl_v (ov_move rfl) rfl <| hl_v (ov_neq rfl rfl) rfl <| zn <| ?_
  refine hc_cond_F rfl ((fun h => h rfl)) ?_
  refine zk <| zg <| hl_v (ov_move rfl) rfl <| ?_
  refine hl_call (σ := Three) Tryz.call46 rfl rfl (fun w1 H1 => Own.callx0 H1 fun D' hold hin H2 => Parse_g D' w1 _ s.c0 h.g0 (hin _ fun h hs ho => rep_row (A := qb.1) hs (cfgB s.c0) rfl (repL_bytes.2 rfl))) ?_
  intro qc
  try rw [List.nil_append]
  refine hl_v (ov_move rfl) rfl <| hl_v (ov_extract rfl rfl) rfl <| hl_v (ov_extract rfl rfl) rfl <| hl_new (on_alloc) rfl rfl rfl fun b9 =>  ?_
  refine hl_u0 (on_storeW (vs := cfgA s.c0 qc) rfl rfl rfl (by simp) za33) rfl rfl ?_
  refine hl_v (ov_assign rfl) rfl <| zn <| hc_seq <| zg <| ?_
  refine hl_v (ov_move rfl) rfl <| hl_v (ov_neq rfl rfl) rfl <| hl_v (ov_move rfl) rfl <| ?_
  refine hl_partF (t := 39) rfl ((fun h => h rfl)) ?_
  refine hl_on rfl rfl <| hl_v (ov_fieldA rfl) rfl <| hl_on rfl rfl <| hl_v (ov_load rfl (CellIs.blk rfl)) rfl <| hl_on rfl rfl <| hl_v za15 rfl <| ?_
  refine hl_on rfl rfl <| hl_v (ov_move rfl) rfl <| hl_on rfl rfl <| hl_v (ov_neq rfl rfl) rfl <| hl_v (ov_pickF rfl rfl) rfl <| zn <| ?_
  refine hc_cond_F rfl ((by omega)) ?_
  refine zk <| zg <| hl_v (ov_move rfl) rfl <| hl_v (ov_move rfl) rfl <| ?_
  refine hl_c Tryz.call44 rfl rfl (fun w1 H1 => Own.callp (dsk g s.S []) H1 fun D' hold hin H2 => Len_spec D' w1 g s.S [] H2) ?_
  rw [hlen]
  refine hl_v (ov_move rfl) rfl <| ?_
  refine hl_call (σ := Nat) Tryz.call47 rfl rfl (fun w1 H1 => Own.callpx (dsk g s.S []) H1 fun D' hold hin H2 => JOpen_is D' w1 g s.S 32 m (m - 32) (regS s.S) s.ep (s.Ls.map edsB) s.k (32 + s.k) hE rfl (by omega) (by omega) (by omega) (by omega) hT H2) ?_
  intro jb
  refine hl_v (ov_move rfl) rfl <| hl_v (ov_extract rfl rfl) rfl <| hl_v (ov_extract rfl rfl) rfl <| hl_v (ov_assign rfl) rfl <| hl_v (ov_assign rfl) rfl <| hl_nil <| ?_
  refine hx_then_normal <| hc_seq <| zg <| hl_v (ov_move rfl) rfl <| hl_v (ov_neq rfl rfl) rfl <| ?_
  refine zn <| ?_
  refine hc_cond_F rfl ((fun h => h rfl)) ?_
  refine zk <| hc_seq <| hc_seq <| ?_
  refine hc_any [] mixed 9 rfl ?_
  refine ha_v 1 rfl (ov_move rfl) rfl <| ?_
  refine ha_two 0 2 (by kernel_rfl) ?_ ?_
  · skip
    refine ho_v rfl (ov_loadW rfl rfl) rfl ?_
    refine ha_one 2 (by kernel_rfl) <| ?_
    refine ho_kx (σ := Option Addr × Nat × List Value) rfl Tryz.call49 rfl (fun w1 H1 => Own.callpx (jou jb g 32 m s.ep (32 + s.k) (s.Ls.map edsB)) H1 fun D' hold hin H2 => All_spec D' w1 jb g 32 m s.ep (32 + s.k) (s.Ls.map edsB) (by omega) hsml H2) ?_
    rintro ⟨A7, cap7, cs7⟩
    refine ha_one 3 (by kernel_rfl) <| ?_
    refine ho_kx (σ := Three) rfl Tryz.call48 rfl (fun w1 H1 => Own.callpx3 (row qc.1.1 83 3 s.c0.2.2.2.1.length qc.1.2 (s.c0.2.2.2.1.flatMap portV)) (row qc.2.1.1 147 3 s.c0.2.2.2.2.1.length qc.2.1.2 (s.c0.2.2.2.2.1.flatMap vlanV)) (row qc.2.2.1 149 3 s.c0.2.2.2.2.2.length qc.2.2.2 (s.c0.2.2.2.2.2.flatMap statV)) H1 fun D' hold hin H2 => replay_spec D' w1 s.c0 qc _ s.Ls s.c h.ok0 h.rep h.oks (hin _ fun h hs ho => rep_row (A := A7) hs (s.Ls.map edsB) rfl (stars_rowsB (t := 5) (xs := s.Ls.map edsB) (cs := cs7) hs)) H2) ?_
    intro qd
    refine ha_v 4 rfl (ov_move rfl) rfl <| ?_
    refine ha_v 5 rfl (ov_extract rfl rfl) rfl <| ?_
    refine ha_v 6 rfl (ov_extract rfl rfl) rfl <| ?_
    refine ha_one 7 (by kernel_rfl) <| ?_
    refine ho_w0 rfl (on_storeW (vs := cfgA s.c qd) rfl rfl rfl (by simp) za33) rfl ?_
    refine ha_v 8 rfl (ov_assign rfl) rfl <| ?_
    refine ha_done (by kernel_rfl) <| ?_
    refine hx_then_normal <| zg <| hl_v (ov_move rfl) rfl <| hl_v (ov_neq rfl rfl) rfl <| hl_nil <| ?_
    refine hx_then_normal <| ?_
    refine hc_cond_F rfl ((fun h => h rfl)) ?_
    refine zk <| zg <| hl_v (ov_move rfl) rfl <| hl_v (ov_move rfl) rfl <| ?_
    refine hl_v (ov_loadW rfl rfl) rfl ?_
    dsimp only [List.getElem_toArray, List.getElem_cons_zero, List.getElem_cons_succ]
    refine hl_v (ov_move rfl) rfl <| hl_v (ov_buildSN rfl rfl) rfl <| ?_
    refine hl_new (on_boxN rfl rfl) rfl rfl rfl fun b72 =>  ?_
    refine hl_v (ov_assign rfl) rfl <| hl_v (ov_assign rfl) rfl <| zn <| hc_ret <| ?_
    exact results_2 (.inr rfl) rfl rfl rfl fun w' H' => ⟨b72, rfl, H'.ent (Ent.trans (b := blk b72 120 (stoC jb g s qd) :: jou jb g 32 m s.ep (32 + s.k) (s.Ls.map edsB) :: (cfgR s.c qd ++ [dsk g s.S []])) za4 (sto_mk jb qd))⟩
  skip
  refine ho_kx (σ := Option Addr × Nat × List Value) rfl Tryz.call49 rfl (fun w1 H1 => Own.callpx (jou jb g 32 m s.ep (32 + s.k) (s.Ls.map edsB)) H1 fun D' hold hin H2 => All_spec D' w1 jb g 32 m s.ep (32 + s.k) (s.Ls.map edsB) (by omega) hsml H2) ?_
  rintro ⟨A7, cap7, cs7⟩
  refine ha_one 0 (by kernel_rfl) <| ?_
  refine ho_v rfl (ov_loadW rfl rfl) rfl ?_
  refine ha_one 3 (by kernel_rfl) <| ?_
  refine ho_kx (σ := Three) rfl Tryz.call48 rfl (fun w1 H1 => Own.callpx3 (row qc.1.1 83 3 s.c0.2.2.2.1.length qc.1.2 (s.c0.2.2.2.1.flatMap portV)) (row qc.2.1.1 147 3 s.c0.2.2.2.2.1.length qc.2.1.2 (s.c0.2.2.2.2.1.flatMap vlanV)) (row qc.2.2.1 149 3 s.c0.2.2.2.2.2.length qc.2.2.2 (s.c0.2.2.2.2.2.flatMap statV)) H1 fun D' hold hin H2 => replay_spec D' w1 s.c0 qc _ s.Ls s.c h.ok0 h.rep h.oks (hin _ fun h hs ho => rep_row (A := A7) hs (s.Ls.map edsB) rfl (stars_rowsB (t := 5) (xs := s.Ls.map edsB) (cs := cs7) hs)) H2) ?_
  intro qd
  refine ha_v 4 rfl (ov_move rfl) rfl <| ?_
  refine ha_v 5 rfl (ov_extract rfl rfl) rfl <| ?_
  refine ha_v 6 rfl (ov_extract rfl rfl) rfl <| ?_
  refine ha_one 7 (by kernel_rfl) <| ?_
  refine ho_w0 rfl (on_storeW (vs := cfgA s.c qd) rfl rfl rfl (by simp) za33) rfl ?_
  refine ha_v 8 rfl (ov_assign rfl) rfl <| ?_
  refine ha_done (by kernel_rfl) <| ?_
  refine hx_then_normal <| zg <| hl_v (ov_move rfl) rfl <| hl_v (ov_neq rfl rfl) rfl <| hl_nil <| ?_
  refine hx_then_normal <| ?_
  refine hc_cond_F rfl ((fun h => h rfl)) ?_
  refine zk <| zg <| hl_v (ov_move rfl) rfl <| hl_v (ov_move rfl) rfl <| ?_
  refine hl_v (ov_loadW rfl rfl) rfl ?_
  dsimp only [List.getElem_toArray, List.getElem_cons_zero, List.getElem_cons_succ]
  refine hl_v (ov_move rfl) rfl <| hl_v (ov_buildSN rfl rfl) rfl <| ?_
  refine hl_new (on_boxN rfl rfl) rfl rfl rfl fun b72 =>  ?_
  refine hl_v (ov_assign rfl) rfl <| hl_v (ov_assign rfl) rfl <| zn <| hc_ret <| ?_
  exact results_2 (.inr rfl) rfl rfl rfl fun w' H' => ⟨b72, rfl, H'.ent (Ent.trans (b := blk b72 120 (stoC jb g s qd) :: jou jb g 32 m s.ep (32 + s.k) (s.Ls.map edsB) :: (cfgR s.c qd ++ [dsk g s.S []])) za4 (sto_mk jb qd))⟩
theorem SOpen_old (D : Nat → Prop) (w : World) (g m : Nat) (s : SSt) (p : Nat) (h : SI m s) (hm2 : m ≤ 100000) (hep : s.ep < 4294967296) (h1 : 1 ≤ p) (h8 : p ≤ 8) (hp : s.c0.2.2.2.1.length = p) (H : Own D w w [dsk g s.S []]) :
    Calls Tryz.prog 17 #[.pointer (some ⟨g, 0, none⟩), .int .i64 (p : Int)] w fun e w' => ∃ sb : Nat, e = .returned (.tuple #[.pointer (some ⟨sb, 0, none⟩), .int .i64 0]) ∧ Own D w w' [sto sb g m s, dsk g s.S []] :=
  SOpen_gen D w g m s.S s p h hm2 hep h1 h8 hp h.len (fun D w H => begin_old D w g p s.S s.ep (cfgB s.c0) (by have := h.len; have := h.m40; omega) h.ld H) H
theorem SOpen_new (D : Nat → Prop) (w : World) (g m p : Nat) (hm : 40 ≤ m) (hm2 : m ≤ 100000) (h1 : 1 ≤ p) (h8 : p ≤ 8) (S : List Sec) (hS : S = List.replicate m zeroSec) (H : Own D w w [dsk g S []]) :
    Calls Tryz.prog 17 #[.pointer (some ⟨g, 0, none⟩), .int .i64 (p : Int)] w fun e w' => ∃ sb : Nat, e = .returned (.tuple #[.pointer (some ⟨sb, 0, none⟩), .int .i64 0]) ∧ Own D w w' [sto sb g m (firstSt m p), dsk g (firstSt m p).S []] := by
  have hl : S.length = m := by rw [hS]; exact List.length_replicate
  have hok := firstSt_ok hm h1 h8
  refine SOpen_gen D w g m S (firstSt m p) p hok hm2 (show 1 < 4294967296 by decide) h1 h8 List.length_replicate hl (fun D w H => ?_) H
  exact begin_new D w g p S (firstSt m p).S (by omega) h1 h8 (loadE_none (by rw [hS]; exact blank_new (by omega))) (by rw [hS]; rfl) hok.ld H
end Go.Proofs.YtjlolpmmpafjeaaGreat
