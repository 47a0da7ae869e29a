import Derived.Test.YtjlolpmmpafjeaaGreatW16
set_option linter.unusedVariables false
set_option linter.unusedSimpArgs false
namespace Go.Proofs.YtjlolpmmpafjeaaGreat
open Slk
def lastW (i : Nat) (P : List (Nat × Sec)) (s : Sec) : Sec := P.foldl (fun s p => if p.1 = i then p.2 else s) s
theorem lastW_snoc (i : Nat) (P : List (Nat × Sec)) (p : Nat × Sec) (s : Sec) : lastW i (P ++ [p]) s = if p.1 = i then p.2 else lastW i P s := by simp [lastW]
def settleL (kept : Nat → Bool) : Nat → List Sec → List (Nat × Sec) → List Sec
  | _, S, [] => S
  | k, S, p :: r => settleL kept (k + 1) (if kept k then S.set p.1 p.2 else S) r
theorem settleL_snoc (kept : Nat → Bool) : ∀ (P : List (Nat × Sec)) (k : Nat) (S : List Sec) (p : Nat × Sec), settleL kept k S (P ++ [p]) = if kept (k + P.length) then (settleL kept k S P).set p.1 p.2 else settleL kept k S P
  | [], k, S, p => by simp [settleL]
  | q :: r, k, S, p => by
    simp only [List.cons_append, settleL]
    rw [settleL_snoc kept r (k + 1)]
    simp only [List.length_cons]
    rw [show k + 1 + r.length = k + (r.length + 1) by omega]
theorem settleL_len (kept : Nat → Bool) : ∀ (P : List (Nat × Sec)) (k : Nat) (S : List Sec), (settleL kept k S P).length = S.length
  | [], _, _ => rfl
  | p :: r, k, S => by
    simp only [settleL]
    rw [settleL_len kept r]
    split <;> simp
theorem latC_at (p : Nat × Sec) (k : Nat) (v : Value) (h : (secC p.2)[k]? = some v) : (latC p)[0 + 1 + k]? = some v := by
  rw [show 0 + 1 + k = k + 1 by omega]
  exact h
theorem dsk_facts {D : Nat → Prop} {w0 w : World} {l r : List HProp} {A : Option Addr} {t : TypeId} {sz n cap : Nat} {cs : List Value} [h : PickR l A t sz n cap cs r] (H : Own D w0 w l) : n ≤ 9223372036854775807 ∧ (cs ≠ [] → isA A) := by
  have := Own.factR A H
  exact ⟨by omega, this.2.2.2⟩
theorem flat_ne {α : Type} {f : α → List Value} {sz : Nat} (hf : ∀ x, (f x).length = sz) (hz : 0 < sz) {xs : List α} (h : 0 < xs.length) : xs.flatMap f ≠ [] := by
  intro e
  have := flat_len hf xs
  rw [e, List.length_nil] at this
  have := Nat.mul_pos h hz
  omega
theorem Read_ok (D : Nat → Prop) (w : World) (g : Nat) (i : Nat) (S : List Sec) (P : List (Nat × Sec)) (hi : i < S.length) (H : Own D w w [dsk g S P]) :
    Calls Tryz.prog 35 #[.pointer (some ⟨g, 0, none⟩), .int .i64 i] w fun e w' => e = .returned (.tuple #[.agg (secC (lastW i P S[i])).toArray, .int .i64 0]) ∧ Own D w w' [dsk g S P] := by
  refine hc_enter (vs := [.pointer (some ⟨g, 0, none⟩), .int .i64 i]) Tryz.func35 rfl _ Tryz.ntmps35 rfl H ?_
  simp only [argSlots, Nat.zero_add]
  refine HC.exs ?_
  rintro ⟨⟨A0, c0⟩, A1, c1⟩
  refine HC.ent (l' := [blk g 107 [.slice A0 S.length c0, .slice A1 P.length c1], row A0 61 64 S.length c0 (S.flatMap secC), row A1 143 65 P.length c1 (P.flatMap latC)]) (fun _ h => h) ?_
  refine HC.fact (fun w H => dsk_facts (A := A0) H) (fun hf0 => ?_)
  refine HC.fact (fun w H => dsk_facts (A := A1) H) (fun hf1 => ?_)
  have hA0 : isA A0 := hf0.2 (flat_ne secC_len (by decide) (by omega))
  refine zg <| hl_new (on_alloc) rfl rfl rfl fun b4 =>
    hl_v (ov_assign rfl) rfl <| zn <| ?_
  refine hc_seq <| zg <| hl_v (ov_move rfl) rfl <| hl_v (ov_move rfl) rfl <| ?_
  refine hl_c Tryz.call61 rfl rfl (fun w1 H1 => Own.callp (blk g 107 [.slice A0 S.length c0, .slice A1 P.length c1]) H1 fun D' hold hin H2 => has_spec D' w1 g i A0 A1 _ c0 _ c1 H2) ?_
  refine hl_v za16 rfl <| ?_
  refine zn <| ?_
  refine hc_cond_F rfl (by simp [hi]) ?_
  refine zk <| zg <| hl_v (ov_move rfl) rfl <| hl_v (ov_nil rfl) rfl <| ?_
  refine hl_v (ov_fieldA rfl) rfl <| hl_v (ov_load rfl (CellIs.blk rfl)) rfl <| hl_v (ov_move rfl) rfl <| hl_v (ov_idxS rfl (by assumption) rfl _ rfl (by omega)) rfl <| ?_
  refine hl_v (ov_loadG (cs := secC S[i]) rfl (secC_len _) (CellsAre.flat secC_len hA0 hi)) rfl ?_
  refine hl_new (on_alloc) rfl rfl rfl fun b6 =>  ?_
  refine hl_u0 (on_storeW rfl rfl (by simp) (by simp) (secC_one _)) rfl rfl ?_
  refine zn <| hc_seq <| zg <| hl_v (ov_move rfl) rfl <| ?_
  refine hl_v (ov_nil rfl) rfl <| hl_v (ov_fieldA rfl) rfl <| hl_v (ov_load rfl (CellIs.blk rfl)) rfl <| hl_v za15 rfl <| ?_
  refine hl_v (ov_move rfl) rfl <| zn <| hc_block <| ?_
  refine hc_loopK1 (σ := Nat) [1, 4, 6, 24, 25] rfl 26 (fun j => .int .i64 j) (fun j => [blk b6 61 (secC (lastW i (P.take j) S[i])), blk b4 61 (List.replicate 64 (.int .u8 0)), blk g 107 [.slice A0 S.length c0, .slice A1 P.length c1], row A0 61 64 S.length c0 (S.flatMap secC), row A1 143 65 P.length c1 (P.flatMap latC)]) (fun j => j ≤ P.length) (fun j => P.length - j) (0) (Nat.zero_le _) rfl ((show Ent _ (blk b6 61 (secC S[i]) :: _) from za4)) ?_
  rintro j hj K1 hK1
  refine zg <| hl_v (ov_lss rfl rfl) rfl <| zn <| hc_seq <| ?_
  refine hc_cond rfl (fun hlt => ?_) (fun hlt => ?_)
  · have hlt : j < P.length := by omega
    have hA1 : isA A1 := hf1.2 (flat_ne latC_len (by decide) (by omega))
    have hsn := List.take_succ_eq_append_getElem hlt
    refine zk <| hc_seq <| hc_block <| zg <| ?_
    refine hl_v (ov_idxS rfl (by assumption) rfl _ rfl (by omega)) rfl <| ?_
    refine hl_v (ov_loadG (cs := latC P[j]) rfl (latC_len _) (CellsAre.flat latC_len hA1 hlt)) rfl ?_
    refine hl_new (on_alloc) rfl rfl rfl fun b8 =>  ?_
    refine hl_u0 (on_storeW rfl rfl (by simp) (by simp) (latC_one _)) rfl rfl ?_
    refine zn <| zg <| hl_v (ov_fieldA rfl) rfl <| hl_v (ov_load rfl (CellIs.blk rfl)) rfl <| ?_
    refine hl_v (ov_move rfl) rfl <| hl_v (ov_eql rfl rfl) rfl <| zn <| ?_
    refine hc_cutK0 (σ := Unit) [1, 4, 6, 24, 25, 26] rfl  (fun _u => [blk b6 61 (secC (lastW i (P.take (j + 1)) S[i])), blk b4 61 (List.replicate 64 (.int .u8 0)), blk g 107 [.slice A0 S.length c0, .slice A1 P.length c1], row A0 61 64 S.length c0 (S.flatMap secC), row A1 143 65 P.length c1 (P.flatMap latC)]) (fun K2 hK2 => ?_) (fun _u => ?_)
    · rw [hsn, lastW_snoc] at hK2
      refine hc_cond rfl (fun he => ?_) (fun he => ?_)
      · rw [if_pos (by omega)] at hK2
        refine hc_region <| hl_v (ov_fieldA rfl) rfl <| ?_
        refine hl_v (ov_loadG (cs := secC P[j].2) rfl (secC_len _) (CellsAre.blk (latC_at P[j]))) rfl ?_
        refine hl_u0 (on_storeW rfl rfl (by simp) (by simp) (secC_one _)) rfl rfl ?_
        refine hl_nil <| ?_
        refine hx_cut hK2 (()) za9 za6
      rw [if_neg (by omega)] at hK2
      refine hc_skip <| ?_
      refine hx_cut hK2 (()) za9 za6
    refine hx_block_normal <| hx_then_normal <| hc_region <| hl_v (ov_add rfl rfl za18) rfl <| ?_
    refine hl_v (ov_move rfl) rfl <| hl_nil <| ?_
    refine hx_next hK1 (j + 1) (hlt) (by omega) za9 za6
  have : j = P.length := by omega
  subst this
  rw [List.take_length]
  refine hc_exit <| hx_then_exit <| hx_then_exit <| hx_block_out <| hx_then_normal <| hc_seq <| ?_
  refine hc_region <| hl_v za10 rfl <| ?_
  refine hl_u0 (on_storeW rfl rfl (by simp) (by simp) (secC_one _)) rfl rfl ?_
  refine hl_v (ov_assign rfl) rfl <| zn <| hc_ret <| ?_
  exact results_ct (.inr rfl) rfl rfl (by simp) rfl fun w' H' => ⟨rfl, H'.ent (Ent.trans za4 (dsk_mk (A0 := A0) (c0 := c0) (A1 := A1) (c1 := c1)))⟩
theorem settle_spec (D : Nat → Prop) (w : World) (g f : Nat) (cap : List Value) (kept : Nat → Bool) (S : List Sec) (P : List (Nat × Sec)) (hP : ∀ p ∈ P, p.1 < S.length) (hcf : ∀ args w, (callFunc f args).run Tryz.prog w = .ok (.enter f args) w)
    (HK : ∀ D' w1, (∀ A, Old D w A → Old D' w1 A) → ∀ at' : Nat, at' < P.length → Calls Tryz.prog f ([Value.int .i64 (at' : Int)] ++ cap).toArray w1 fun e w' => e = .returned (.bool (kept at')) ∧ Own D' w1 w' []) (H : Own D w w [dsk g S P]) :
    Calls Tryz.prog 62 #[.pointer (some ⟨g, 0, none⟩), .func (.func f) #[] cap.toArray] w fun e w' => e = .returned (.tuple #[]) ∧ Own D w w' [dsk g (settleL kept 0 S P) []] := by
  refine hc_enter (vs := [.pointer (some ⟨g, 0, none⟩), .func (.func f) #[] cap.toArray]) Tryz.func62 rfl _ Tryz.ntmps62 rfl H ?_
  simp only [argSlots, Nat.zero_add]
  refine HC.exs ?_
  rintro ⟨⟨A0, c0⟩, A1, c1⟩
  refine HC.ent (l' := [blk g 107 [.slice A0 S.length c0, .slice A1 P.length c1], row A0 61 64 S.length c0 (S.flatMap secC), row A1 143 65 P.length c1 (P.flatMap latC)]) (fun _ h => h) ?_
  refine HC.fact (fun w H => dsk_facts (A := A0) H) (fun hf0 => ?_)
  refine HC.fact (fun w H => dsk_facts (A := A1) H) (fun hf1 => ?_)
  refine hc_seq <| zg <| hl_v (ov_move rfl) rfl <| hl_v (ov_nil rfl) rfl <| hl_v (ov_fieldA rfl) rfl <| ?_
  refine hl_v (ov_load rfl (CellIs.blk rfl)) rfl <| hl_v za15 rfl <| ?_
  refine hl_v (ov_move rfl) rfl <| zn <| hc_block <| ?_
  refine hc_loopK1 (σ := Nat) [0, 1, 9, 10] rfl 11 (fun j => .int .i64 j) (fun j => [blk g 107 [.slice A0 S.length c0, .slice A1 P.length c1], row A0 61 64 S.length c0 ((settleL kept 0 S (P.take j)).flatMap secC), row A1 143 65 P.length c1 (P.flatMap latC)]) (fun j => j ≤ P.length) (fun j => P.length - j) (0) (Nat.zero_le _) rfl (Ent.refl _) ?_
  rintro j hj K1 hK1
  refine zg <| hl_v (ov_lss rfl rfl) rfl <| zn <| hc_seq <| ?_
  refine hc_cond rfl (fun hlt => ?_) (fun hlt => ?_)
  · have hlt : j < P.length := by omega
    have hA1 : isA A1 := hf1.2 (flat_ne latC_len (by decide) (by omega))
    have hsn := List.take_succ_eq_append_getElem hlt
    have hpj := hP _ (List.getElem_mem hlt)
    have hA0 : isA A0 := hf0.2 (flat_ne secC_len (by decide) (by omega))
    have hsl := settleL_len kept (P.take j) 0 S
    refine zk <| hc_seq <| hc_block <| zg <| ?_
    refine hl_v (ov_move rfl) rfl <| hl_v (ov_idxS rfl (by assumption) rfl _ rfl (by omega)) rfl <| ?_
    refine hl_v (ov_loadG (cs := latC P[j]) rfl (latC_len _) (CellsAre.flat latC_len hA1 hlt)) rfl ?_
    refine hl_new (on_alloc) rfl rfl rfl fun b5 => 
      hl_v (ov_assign rfl) rfl <| ?_
    refine hl_u0 (on_storeW rfl rfl (by simp) (by simp) (latC_one _)) rfl rfl ?_
    refine zn <| zg <| hl_v (ov_move rfl) rfl <| hl_v (ov_move rfl) rfl <| ?_
    refine hl_cv rfl hcf rfl rfl (fun w1 H1 => Own.calln H1 fun D' hold hin H2 => HK D' w1 hold j hlt) ?_
    refine zn <| ?_
    refine hc_cutK0 (σ := Unit) [0, 1, 9, 10, 11] rfl  (fun _u => [blk g 107 [.slice A0 S.length c0, .slice A1 P.length c1], row A0 61 64 S.length c0 ((settleL kept 0 S (P.take (j + 1))).flatMap secC), row A1 143 65 P.length c1 (P.flatMap latC)]) (fun K2 hK2 => ?_) (fun _u => ?_)
    · rw [hsn, settleL_snoc, List.length_take, Nat.zero_add, Nat.min_eq_left (by omega)] at hK2
      refine hc_cond_bool rfl (fun hk => ?_) (fun hk => ?_)
      · rw [if_pos hk] at hK2
        generalize settleL kept 0 S (P.take j) = T at *
        generalize P[j] = p at *
        refine hc_any [blk g 107 [.slice A0 S.length c0, .slice A1 P.length c1], blk b5 143 (latC p)] mixed 10 rfl ?_
        refine ha_v 0 rfl (ov_move rfl) rfl <| ?_
        refine ha_v 1 rfl (ov_nil rfl) rfl <| ?_
        refine ha_v 2 rfl (ov_fieldA rfl) rfl <| ?_
        refine ha_v 3 rfl (ov_load rfl (CellIs.blk rfl)) rfl <| ?_
        refine ha_v 4 rfl (ov_fieldA rfl) rfl <| ?_
        refine ha_v 5 rfl (ov_load rfl (CellIs.blk rfl)) rfl <| ?_
        refine ha_v 6 rfl (ov_fieldA rfl) rfl <| ?_
        refine ha_one 7 (by kernel_rfl) <| ?_
        refine ho_v rfl (ov_loadG (cs := secC p.2) rfl (secC_len _) (CellsAre.blk (latC_at p))) rfl ?_
        refine ha_v 8 rfl (ov_idxS rfl (by assumption) rfl _ rfl (by omega)) rfl <| ?_
        refine ha_one 9 (by kernel_rfl) <| ?_
        refine ho_w0 rfl (on_storeRG (A := A0) (vs := secC p.2) rfl rfl (secC_len _) (by rw [flat_len secC_len]; omega) (by rw [flat_len secC_len, secC_len, ← Nat.succ_mul]; exact Nat.mul_le_mul_right _ (by omega)) (secC_one _)) rfl ?_
        rw [flat_set secC_len T p.1 p.2 (by omega)]
        refine ha_done (by kernel_rfl) <| ?_
        refine hx_cut hK2 (()) za9 za6
      rw [if_neg (by simp [hk])] at hK2
      refine hc_skip <| ?_
      refine hx_cut hK2 (()) za9 za6
    refine hx_block_normal <| hx_then_normal <| hc_region <| hl_v (ov_add rfl rfl za18) rfl <| ?_
    refine hl_v (ov_move rfl) rfl <| hl_nil <| ?_
    refine hx_next hK1 (j + 1) (hlt) (by omega) za9 za6
  have : j = P.length := by omega
  subst this
  rw [List.take_length]
  have hsl := settleL_len kept P 0 S
  refine hc_exit <| hx_then_exit <| hx_then_exit <| hx_block_out <| hx_then_normal <| hc_region <| ?_
  refine hl_v (ov_move rfl) rfl <| hl_v (ov_nil rfl) rfl <| hl_v (ov_fieldA rfl) rfl <| hl_u0 (on_storeN rfl rfl rfl rfl rfl) rfl rfl <| hl_nil <| ?_
  refine results_0 (.inl rfl) rfl fun w' H' => ⟨rfl, H'.ent ?_⟩
  have hd := dsk_mk (tD := 107) (tL := 143) (g := g) (S := settleL kept 0 S P) (P := []) (A0 := A0) (c0 := c0) (A1 := none) (c1 := 0) (l := [])
  rw [hsl] at hd
  exact Ent.trans (Ent.cons (Ent.cons ((Ent.nil _).trans (Ent.nil_row _ _)))) hd
theorem Flush1_spec (D : Nat → Prop) (w : World) (i : Int) : Calls Tryz.prog 63 #[.int .i64 i] w fun e w' => e = .returned (.bool true) ∧ Own D w w' [] := by
  refine hc_enter (vs := [.int .i64 i]) Tryz.func63 rfl _ Tryz.ntmps63 rfl (Own.start D w) ?_
  simp only [argSlots, Nat.zero_add]
  refine zg <| hl_v (ov_assign rfl) rfl <| zn <| hc_seq <| ?_
  refine hc_region <| hl_v (ov_assign rfl) rfl <| zn <| hc_ret <| ?_
  exact results_1 (.inr rfl) rfl rfl fun w' H' => ⟨rfl, H'⟩
theorem Flush_spec (D : Nat → Prop) (w : World) (g : Nat) (S : List Sec) (P : List (Nat × Sec)) (hP : ∀ p ∈ P, p.1 < S.length) (H : Own D w w [dsk g S P]) :
    Calls Tryz.prog 24 #[.pointer (some ⟨g, 0, none⟩)] w fun e w' => e = .returned (.int .i64 0) ∧ Own D w w' [dsk g (settleL (fun _ => true) 0 S P) []] := by
  refine hc_enter (vs := [.pointer (some ⟨g, 0, none⟩)]) Tryz.func24 rfl _ Tryz.ntmps24 rfl H ?_
  simp only [argSlots, Nat.zero_add]
  refine zg <| hl_v (ov_assign rfl) rfl <| zn <| hc_seq <| ?_
  refine zg <| hl_v (ov_move rfl) rfl <| hl_v (ov_eqlP rfl rfl) rfl <| zn <| ?_
  refine hc_cond_false rfl ?_
  refine zk <| zg <| hl_v (ov_move rfl) rfl <| ?_
  refine hl_c Tryz.call62 rfl rfl (fun w1 H1 => Own.callp (dsk g S P) H1 fun D' hold hin H2 => settle_spec D' w1 g 63 [] (fun _ => true) S P hP Tryz.call63 (fun D2 w2 _ k _ => Flush1_spec D2 w2 k) H2) ?_
  refine zn <| zg <| hl_v (ov_assign rfl) rfl <| hl_nil <| ?_
  refine hx_then_normal <| hc_ret <| ?_
  exact results_1 (.inr rfl) rfl rfl fun w' H' => ⟨rfl, H'⟩
theorem Crash1_spec (D : Nat → Prop) (w : World) (i b : Nat) (v : Value) (keep : List Bool) (h1 : Old D w (blk b 24 [v])) (h2 : Old D w (Rep.rep keep [v])) :
    Calls Tryz.prog 64 #[.int .i64 i, .pointer (some ⟨b, 0, none⟩)] w fun e w' => e = .returned (.bool (keep.getD i false)) ∧ Own D w w' [] := by
  obtain ⟨A, cap, rfl, hc1, hc2, hel⟩ := h2.openE rfl
  have hb : ∀ l, CellIs D w l b 0 (.slice A keep.length cap) := fun l => CellIs.old (Old.blk h1)
  refine hc_enter (vs := [.int .i64 i, .pointer (some ⟨b, 0, none⟩)]) Tryz.func64 rfl _ Tryz.ntmps64 rfl (Own.start D w) ?_
  simp only [argSlots, Nat.zero_add]
  refine zg <| hl_v (ov_assign rfl) rfl <| zn <| hc_seq <| ?_
  refine hc_region <| hl_v (ov_move rfl) rfl <| ?_
  refine hl_v (ov_load rfl (hb _)) rfl ?_
  refine hl_v za15 rfl <| ?_
  refine hl_v (ov_lss rfl rfl) rfl <| hl_v (ov_move rfl) rfl <| ?_
  refine hl_part (t := 8) rfl (fun hlt => ?_) (fun hlt => ?_)
  · have hlt : i < keep.length := by omega
    obtain ⟨hA, u, hu, hcl⟩ := hel i hlt
    have hu := hu.pure
    simp only [List.cons.injEq, and_true] at hu
    subst hu
    refine hl_on rfl rfl <| hl_v (ov_load rfl (hb _)) rfl ?_
    refine hl_on rfl rfl <| hl_v (ov_move rfl) rfl <| hl_on rfl rfl <| hl_v (ov_idxS rfl (by assumption) rfl _ rfl (by omega)) rfl <| hl_on rfl rfl <| hl_v za5 rfl <| ?_
    refine hl_v (ov_pickT rfl rfl) rfl <| hl_v (ov_assign rfl) rfl <| zn <| hc_ret <| ?_
    exact results_1 (.inr rfl) rfl rfl fun w' H' => ⟨by simp [List.getD_eq_getElem?_getD, List.getElem?_eq_getElem hlt], H'⟩
  refine hl_off rfl rfl rfl rfl rfl rfl <| hl_off rfl rfl rfl rfl rfl rfl <| hl_off rfl rfl rfl rfl rfl rfl <| hl_off rfl rfl rfl rfl rfl rfl <| hl_v (ov_pickF rfl rfl) rfl <| hl_v (ov_assign rfl) rfl <| ?_
  refine zn <| hc_ret <| ?_
  exact results_1 (.inr rfl) rfl rfl fun w' H' => ⟨by rw [List.getD_eq_getElem?_getD, List.getElem?_eq_none (by omega)]; rfl, H'⟩
theorem Crash_spec (D : Nat → Prop) (w : World) (g : Nat) (S : List Sec) (P : List (Nat × Sec)) (v : Value) (keep : List Bool) (hP : ∀ p ∈ P, p.1 < S.length) (hv : Old D w (Rep.rep keep [v])) (H : Own D w w [dsk g S P]) :
    Calls Tryz.prog 25 #[.pointer (some ⟨g, 0, none⟩), v] w fun e w' => e = .returned (.tuple #[]) ∧ Own D w w' [dsk g (settleL (fun k => keep.getD k false) 0 S P) []] := by
  obtain ⟨A, cap, rfl, hc1, hc2, _⟩ := hv.openE rfl
  refine hc_enter (vs := [.pointer (some ⟨g, 0, none⟩), .slice A keep.length cap]) Tryz.func25 rfl _ Tryz.ntmps25 rfl H ?_
  simp only [argSlots, Nat.zero_add]
  refine zg <| hl_new (on_boxN rfl rfl) rfl rfl rfl fun b3 =>  ?_
  refine zn <| zg <| hl_v (ov_move rfl) rfl <| hl_v (ov_neqP rfl rfl) rfl <| ?_
  refine zn <| ?_
  refine hc_cond_true rfl ?_
  refine hc_region <| hl_v (ov_move rfl) rfl <| ?_
  refine hl_v (ov_func (first := []) (captured := [.tmp 3]) rfl rfl) rfl ?_
  refine hl_c Tryz.call62 rfl rfl (fun w1 H1 => Own.callp (dsk g S P) H1 fun D' hold hin H2 => settle_spec D' w1 g 64 [.pointer (some ⟨b3, 0, none⟩)] (fun k => keep.getD k false) S P hP Tryz.call64 (fun D2 w2 ho k _ => Crash1_spec D2 w2 k b3 (.slice A keep.length cap) keep (ho _ (hin _ fun h hs _ => stars_blk hs)) (ho _ (hold _ hv))) H2) ?_
  refine hl_nil <| ?_
  exact results_0 (.inl rfl) rfl fun w' H' => ⟨rfl, H'.ent za4⟩
theorem Len_nil (D : Nat → Prop) (w : World) : Calls Tryz.prog 44 #[.pointer none] w fun e w' => e = .returned (.int .i64 0) ∧ Own D w w' [] := by
  refine hc_enter (vs := [.pointer none]) Tryz.func44 rfl _ Tryz.ntmps44 rfl (Own.start D w) ?_
  simp only [argSlots, Nat.zero_add]
  refine zg <| hl_v (ov_assign rfl) rfl <| zn <| hc_seq <| ?_
  refine zg <| hl_v (ov_move rfl) rfl <| hl_v (ov_eqlP rfl rfl) rfl <| zn <| ?_
  refine hc_cond_true rfl ?_
  refine zg <| hl_v (ov_assign rfl) rfl <| zn <| hc_ret <| ?_
  refine hx_then_ret <| ?_
  exact results_1 (.inr rfl) rfl rfl fun w' H' => ⟨rfl, H'⟩
theorem Len_spec (D : Nat → Prop) (w : World) (g : Nat) (S : List Sec) (P : List (Nat × Sec)) (H : Own D w w [dsk g S P]) : Calls Tryz.prog 44 #[.pointer (some ⟨g, 0, none⟩)] w fun e w' => e = .returned (.int .i64 S.length) ∧ Own D w w' [dsk g S P] := by
  refine hc_enter (vs := [.pointer (some ⟨g, 0, none⟩)]) Tryz.func44 rfl _ Tryz.ntmps44 rfl H ?_
  simp only [argSlots, Nat.zero_add]
  refine HC.exs ?_
  rintro ⟨⟨A0, c0⟩, A1, c1⟩
  refine HC.ent (l' := [blk g 107 [.slice A0 S.length c0, .slice A1 P.length c1], row A0 61 64 S.length c0 (S.flatMap secC), row A1 143 65 P.length c1 (P.flatMap latC)]) (fun _ h => h) ?_
  refine zg <| hl_v (ov_assign rfl) rfl <| zn <| hc_seq <| ?_
  refine zg <| hl_v (ov_move rfl) rfl <| hl_v (ov_eqlP rfl rfl) rfl <| zn <| ?_
  refine hc_cond_false rfl ?_
  refine zk <| zg <| hl_v (ov_move rfl) rfl <| hl_v (ov_nil rfl) rfl <| ?_
  refine hl_v (ov_fieldA rfl) rfl <| hl_v (ov_load rfl (CellIs.blk rfl)) rfl <| hl_v za15 rfl <| ?_
  refine hl_v (ov_assign rfl) rfl <| zn <| hc_ret <| ?_
  exact results_1 (.inr rfl) rfl rfl fun w' H' => ⟨rfl, H'.ent (Ent.trans za4 (dsk_mk (A0 := A0) (c0 := c0) (A1 := A1) (c1 := c1)))⟩
end Go.Proofs.YtjlolpmmpafjeaaGreat
set_option linter.unusedVariables false
set_option linter.unusedSimpArgs false
namespace Go.Proofs.YtjlolpmmpafjeaaGreat
open Slk
/-! ### Snapshots on a disk (plain) -/
def lookS (S : List Sec) (at_ : Nat) : Option EntT :=
  match decS ((S.drop at_).take 16) with
  | some (e, _) => if e.1 = 2 ∧ e.2.2.1 = 0 then some e else none
  | none => none
def pickS (b : Option (EntT × Nat)) (at_ : Nat) (x : Option EntT) : Option (EntT × Nat) :=
  match x with
  | none => b
  | some e => match b with
    | none => some (e, at_)
    | some y => if y.1.2.1 < e.2.1 then some (e, at_) else b
def bestS (S : List Sec) : Nat → Option (EntT × Nat)
  | 0 => none
  | j + 1 => pickS (bestS S j) (16 * j) (lookS S (16 * j))
def newS (S : List Sec) : Option (EntT × Nat) := bestS S 2
def putS (S : List Sec) (at_ : Nat) (l : List Sec) : List Sec := S.take at_ ++ l ++ S.drop (at_ + l.length)
theorem putS_len {S : List Sec} {at_ : Nat} {l : List Sec} (h : at_ + l.length ≤ S.length) : (putS S at_ l).length = S.length := by
  unfold putS; simp only [List.length_append, List.length_take, List.length_drop]; omega
theorem putS_get {S : List Sec} {at_ : Nat} {l : List Sec} (h : at_ + l.length ≤ S.length) (i : Nat) : (putS S at_ l)[i]? = if i < at_ then S[i]? else if i < at_ + l.length then l[i - at_]? else S[i]? := by
  unfold putS
  rw [List.append_assoc]
  rcases Nat.lt_or_ge i at_ with h1 | h1
  · rw [if_pos h1, List.getElem?_append_left za26, List.getElem?_take_of_lt h1]
  · rw [if_neg (by omega), List.getElem?_append_right za26, List.length_take, Nat.min_eq_left (by omega)]
    rcases Nat.lt_or_ge i (at_ + l.length) with h2 | h2
    · rw [if_pos h2, List.getElem?_append_left (by omega)]
    · rw [if_neg (by omega), List.getElem?_append_right (by omega), List.getElem?_drop]
      congr 1; omega
theorem settle_true : ∀ (P : List (Nat × Sec)) (k : Nat) (S : List Sec), settleL (fun _ => true) k S P = P.foldl (fun s p => s.set p.1 p.2) S
  | [], _, _ => rfl
  | p :: r, k, S => by
    show settleL (fun _ => true) (k + 1) (if true = true then S.set p.1 p.2 else S) r = _
    rw [if_pos rfl, settle_true r (k + 1)]; rfl
theorem foldl_row (l : List Sec) : ∀ (at_ : Nat) (S : List Sec), at_ + l.length ≤ S.length → (l.zipIdx.map fun p => (at_ + p.2, p.1)).foldl (fun s p => s.set p.1 p.2) S = putS S at_ l := by
  induction l with
  | nil => intro at_ S h; simp [putS]
  | cons x r ih =>
    intro at_ S h
    rw [List.length_cons] at h
    rw [List.zipIdx_cons, List.map_cons, List.foldl_cons]
    have e : (r.zipIdx (0 + 1)).map (fun p => (at_ + p.2, p.1)) = r.zipIdx.map (fun p => (at_ + 1 + p.2, p.1)) := by
      rw [List.zipIdx_succ, List.map_map]
      refine List.map_congr_left fun p _ => ?_
      show (at_ + (p.2 + 1), p.1) = _
      rw [show at_ + (p.2 + 1) = at_ + 1 + p.2 by omega]
    rw [e, ih (at_ + 1) _ (by rw [List.length_set]; omega)]
    refine List.ext_getElem? fun i => ?_
    rw [putS_get (by rw [List.length_set]; omega), putS_get (by rw [List.length_cons]; omega), List.getElem?_set]
    simp only [List.length_cons, Nat.add_zero]
    rcases Nat.lt_trichotomy i at_ with h1 | h1 | h1
    · rw [if_pos (by omega), if_neg (by omega), if_pos h1]
    · subst h1
      rw [if_pos (by omega), if_pos rfl, if_pos (by omega), if_neg (by omega), if_pos (by omega), Nat.sub_self]; rfl
    · rw [if_neg (by omega), if_neg (by omega : ¬ i < at_)]
      rcases Nat.lt_or_ge i (at_ + 1 + r.length) with h2 | h2
      · rw [if_pos h2, if_pos (by omega), show i - at_ = (i - (at_ + 1)) + 1 by omega, List.getElem?_cons_succ]
      · rw [if_neg (by omega), if_neg (by omega), if_neg (by omega)]
def PW (at_ : Nat) (l : List Sec) (i : Nat) : List (Nat × Sec) := ((l.take i).zipIdx).map fun p => (at_ + p.2, p.1)
theorem PW_succ {at_ : Nat} {l : List Sec} {i : Nat} (h : i < l.length) : PW at_ l (i + 1) = PW at_ l i ++ [(at_ + i, l[i])] := by
  unfold PW
  rw [List.take_succ_eq_append_getElem h, List.zipIdx_append, List.map_append]
  congr 1
  simp only [List.zipIdx_cons, List.zipIdx_nil, List.map_cons, List.map_nil, List.length_take]
  rw [Nat.min_eq_left (by omega), Nat.zero_add]
theorem PW_len {at_ : Nat} {l : List Sec} {i : Nat} : (PW at_ l i).length ≤ l.length := by
  unfold PW; rw [List.length_map, List.length_zipIdx, List.length_take]; omega
theorem PW_lt {at_ : Nat} {l : List Sec} {i n : Nat} (h : at_ + l.length ≤ n) : ∀ p ∈ PW at_ l i, p.1 < n := fun p hp => by
  obtain ⟨⟨x, k⟩, hx, rfl⟩ := List.mem_map.1 hp
  have := List.snd_lt_of_mem_zipIdx hx
  rw [List.length_take] at this
  show at_ + k < n
  omega
theorem PW_done {at_ : Nat} {l : List Sec} {S : List Sec} (h : at_ + l.length ≤ S.length) : settleL (fun _ => true) 0 S (PW at_ l l.length) = putS S at_ l := by
  rw [settle_true]
  unfold PW
  rw [List.take_length]
  exact foldl_row l at_ S h
theorem put_first {S : List Sec} {at_ : Nat} {x : Sec} {r : List Sec} (h : at_ + (x :: r).length ≤ S.length) : (putS S (at_ + 1) r).set at_ x = putS S at_ (x :: r) := by
  rw [List.length_cons] at h
  refine List.ext_getElem? fun i => ?_
  have hl : (putS S (at_ + 1) r).length = S.length := putS_len (by omega)
  rw [List.getElem?_set, putS_get (by omega), putS_get (by rw [List.length_cons]; omega), hl]
  simp only [List.length_cons]
  rcases Nat.lt_trichotomy i at_ with h1 | h1 | h1
  · rw [if_neg (by omega), if_pos (by omega), if_pos h1]
  · subst h1
    rw [if_pos rfl, if_pos (by omega), if_neg (by omega), if_pos (by omega), Nat.sub_self]; rfl
  · rw [if_neg (by omega), if_neg (by omega), if_neg (by omega : ¬ i < at_)]
    rcases Nat.lt_or_ge i (at_ + 1 + r.length) with h2 | h2
    · rw [if_pos h2, if_pos (by omega), show i - at_ = (i - (at_ + 1)) + 1 by omega, List.getElem?_cons_succ]
    · rw [if_neg (by omega), if_neg (by omega)]
theorem bytes_open {D : Nat → Prop} {w0 : World} {xs : List UInt8} {cs : List Value} (k : Old D w0 (Rep.rep xs cs)) : ∃ B cb, cs = [.slice B xs.length cb] ∧ Old D w0 (Rep.rep xs [.slice B xs.length cb]) := by
  obtain ⟨h, hh, B, cb, e, r⟩ := k
  subst e
  exact ⟨B, cb, rfl, h, hh, B, cb, rfl, r⟩
end Go.Proofs.YtjlolpmmpafjeaaGreat
set_option linter.unusedVariables false
set_option linter.unusedSimpArgs false
namespace Go.Proofs.YtjlolpmmpafjeaaGreat
open Slk
/-! ### Journals on a disk (plain) -/
def entsF (ep : Nat) : Nat → Nat → List Sec → List (List UInt8) × Nat
  | 0, _, _ => ([], 0)
  | f + 1, seq, l => match decS l with
    | none => ([], 0)
    | some (e, n) => if e.1 = 1 ∧ e.2.1 = ep ∧ e.2.2.1 = seq then (e.2.2.2 :: (entsF ep f (seq + 1) (l.drop n)).1, n + (entsF ep f (seq + 1) (l.drop n)).2) else ([], 0)
abbrev jouE (ep seq : Nat) (xs : List UInt8) : EntT := (1, ep, seq, xs)
def jencS (ep : Nat) : Nat → List (List UInt8) → List Sec
  | _, [] => []
  | seq, x :: r => encE (jouE ep seq x) ++ jencS ep (seq + 1) r
theorem jenc_snoc (ep : Nat) (xss : List (List UInt8)) : ∀ (seq : Nat) (x : List UInt8), jencS ep seq (xss ++ [x]) = jencS ep seq xss ++ encE (jouE ep (seq + xss.length) x) := by
  induction xss with
  | nil => intro seq x; simp [jencS]
  | cons y r ih =>
    intro seq x
    rw [List.cons_append, jencS, ih (seq + 1) x, jencS, List.append_assoc]
    rw [List.length_cons, show seq + (r.length + 1) = seq + 1 + r.length by omega]
theorem ents_enc (ep : Nat) (hep : ep < 4294967296) : ∀ (xss : List (List UInt8)) (f seq : Nat) (rest : List Sec), xss.length ≤ f → seq + xss.length < 4294967296 → (∀ x ∈ xss, x.length ≤ 4000) →
    entsF ep f seq (jencS ep seq xss ++ rest) = (xss ++ (entsF ep (f - xss.length) (seq + xss.length) rest).1, (jencS ep seq xss).length + (entsF ep (f - xss.length) (seq + xss.length) rest).2)
  | [], f, seq, rest, _, _, _ => by simp [jencS]
  | x :: r, 0, seq, rest, h, _, _ => by simp at h
  | x :: r, f + 1, seq, rest, h, hs, hx => by
    rw [List.length_cons] at h hs
    have hok : okE (jouE ep seq x) := ⟨show 1 < 256 by decide, hep, show seq < _ by omega, hx x (by simp)⟩
    have hl := encE_len (jouE ep seq x) (hx x (by simp))
    have ih := ents_enc ep hep r f (seq + 1) rest (by omega) (by omega) (fun y hy => hx y (by simp [hy]))
    rw [jencS, List.append_assoc, entsF, decS_enc _ hok]
    dsimp only
    rw [if_pos ⟨rfl, rfl, rfl⟩, List.drop_left' hl, ih]
    rw [List.length_append, hl, List.length_cons, show f + 1 - (r.length + 1) = f - r.length by omega, show seq + (r.length + 1) = seq + 1 + r.length by omega]
    simp only [List.cons_append, Prod.mk.injEq, true_and]
    omega
/-! ### What begins an entry of an epoch -/
def headOf (ep : Nat) (s : Sec) : Prop := s[0] = 87 ∧ numAt s 2 4 = ep
def noHead (ep : Nat) (l : List Sec) : Prop := ∀ s ∈ l, ¬ headOf ep s
theorem decS_head {s : Sec} {r : List Sec} {e : EntT} {n : Nat} (h : decS (s :: r) = some (e, n)) : headOf e.2.1 s ∧ 1 ≤ n ∧ n ≤ (s :: r).length := by
  have h' : (if s[0].toNat = 87 ∧ needM (numAt s 10 2) ≠ 0 ∧ needM (numAt s 10 2) ≤ (s :: r).length ∧ encE (candE (s :: r) s) = (s :: r).take (needM (numAt s 10 2)) then some (candE (s :: r) s, needM (numAt s 10 2)) else none) = some (e, n) := h
  by_cases hh : s[0].toNat = 87 ∧ needM (numAt s 10 2) ≠ 0 ∧ needM (numAt s 10 2) ≤ (s :: r).length ∧ encE (candE (s :: r) s) = (s :: r).take (needM (numAt s 10 2))
  · rw [if_pos hh] at h'
    injection h' with h'
    injection h' with h1 h2
    subst h1; subst h2
    exact ⟨⟨UInt8.toNat_inj.1 hh.1, rfl⟩, by omega, hh.2.2.1⟩
  · rw [if_neg hh] at h'; cases h'
theorem ents_none {ep : Nat} {l : List Sec} (h : ∀ s, l[0]? = some s → ¬ headOf ep s) (f seq : Nat) : entsF ep f seq l = ([], 0) := by
  cases f with
  | zero => rfl
  | succ f =>
    rw [entsF]
    cases l with
    | nil => rfl
    | cons s r =>
      rcases hd : decS (s :: r) with _ | ⟨e, n⟩
      · rfl
      · dsimp only
        rw [if_neg]
        rintro ⟨_, h2, _⟩
        have := (decS_head hd).1
        rw [h2] at this
        exact h s rfl this
theorem encE_nth' (e : EntT) (i : Nat) (h : i < (encE e).length) : (encE e)[i] = secOf (fullB e.1 e.2.1 e.2.2.1 e.2.2.2) i := by
  have : (encE e)[i]? = some (secOf (fullB e.1 e.2.1 e.2.2.1 e.2.2.2) i) := by
    unfold encE encS secsTo
    rw [List.getElem?_map, List.getElem?_range (by simpa [encE, encS, secsTo] using h)]; rfl
  rw [List.getElem?_eq_getElem h] at this
  simpa using this
theorem enc_mark (e : EntT) (i : Nat) (h : i < (encE e).length) : (encE e)[i][0] = if i = 0 then 87 else 119 := by
  rw [encE_nth' e i h, secOf_mark]; rfl
theorem enc_pos (e : EntT) : 1 ≤ (encE e).length := by
  rw [encE, encS_len, fullB_length]; omega
theorem enc_epoch (e : EntT) (h2 : e.2.1 < 4294967296) : numAt ((encE e)[0]'(enc_pos e)) 2 4 = e.2.1 := by
  rw [encE_nth' e 0 (enc_pos e)]
  obtain ⟨t, ht⟩ := head_list e
  unfold numAt; rw [ht]
  exact numB_four _ h2
theorem noHead_enc {ep : Nat} (e : EntT) (h2 : e.2.1 < 4294967296) (h : e.2.1 ≠ ep) : noHead ep (encE e) := by
  intro s hs ⟨h87, hep⟩
  obtain ⟨i, hi, rfl⟩ := List.mem_iff_getElem.1 hs
  rw [enc_mark e i hi] at h87
  by_cases h0 : i = 0
  · subst h0
    rw [enc_epoch e h2] at hep
    exact h hep
  · rw [if_neg h0] at h87
    exact absurd h87 (by decide)
theorem noHead_zero {ep n : Nat} : noHead ep (List.replicate n zeroSec) := by
  intro s hs ⟨h87, _⟩
  obtain ⟨_, rfl⟩ := List.mem_replicate.1 hs
  exact absurd h87 (by decide)
theorem noHead_app {ep : Nat} {a b : List Sec} : noHead ep (a ++ b) ↔ noHead ep a ∧ noHead ep b := by
  unfold noHead
  constructor
  · exact fun h => ⟨fun s hs => h s (List.mem_append.2 (.inl hs)), fun s hs => h s (List.mem_append.2 (.inr hs))⟩
  · rintro ⟨h1, h2⟩ s hs
    rcases List.mem_append.1 hs with h | h
    · exact h1 s h
    · exact h2 s h
theorem noHead_sub {ep : Nat} {a b : List Sec} (h : noHead ep b) (hs : ∀ s ∈ a, s ∈ b) : noHead ep a := fun s m => h s (hs s m)
theorem noHead_put {ep at_ : Nat} {S l : List Sec} (h : noHead ep S) (hl : noHead ep l) : noHead ep (putS S at_ l) := by
  unfold putS
  rw [noHead_app, noHead_app]
  exact ⟨⟨noHead_sub h fun s m => List.mem_of_mem_take m, hl⟩, noHead_sub h fun s m => List.mem_of_mem_drop m⟩
structure JI (T : List Sec) (ep : Nat) (L : List (List UInt8)) (k : Nat) : Prop where
  kle : k ≤ T.length
  eq : T.take k = jencS ep 0 L
  small : ∀ x ∈ L, x.length ≤ 4000
  rest : noHead ep (T.drop k)
theorem jenc_ge (ep : Nat) : ∀ (L : List (List UInt8)) (seq : Nat), L.length ≤ (jencS ep seq L).length
  | [], _ => Nat.le_refl _
  | x :: r, seq => by
    rw [jencS, List.length_append, List.length_cons]
    have := jenc_ge ep r (seq + 1)
    have := enc_pos (jouE ep seq x)
    omega
section
variable {T : List Sec} {ep k : Nat} {L : List (List UInt8)}
theorem JI.len (h : JI T ep L k) : (jencS ep 0 L).length = k := by rw [← h.eq, List.length_take, Nat.min_eq_left h.kle]
theorem JI.many (h : JI T ep L k) : L.length ≤ k := by have := jenc_ge ep L 0; rw [h.len] at this; exact this
theorem JI.open (h : JI T ep L k) (hep : ep < 4294967296) (hT : T.length < 4294967296) : entsF ep T.length 0 T = (L, k) := by
  have hm := h.many
  have hk := h.kle
  have e := ents_enc ep hep L T.length 0 (T.drop k) (by omega) (by omega) h.small
  rw [← h.eq, List.take_append_drop] at e
  rw [e, ents_none (fun s hs => h.rest s (List.mem_of_getElem? hs)), List.append_nil, h.eq, h.len]; rfl
theorem JI.append (h : JI T ep L k) {x : List UInt8} (hx : x.length ≤ 4000) {e : EntT} (he : e = jouE ep L.length x) (hl : k + (encE e).length ≤ T.length) : JI (putS T k (encE e)) ep (L ++ [x]) (k + (encE e).length) := by
  have hk := h.kle
  have hlen : (T.take k ++ encE e).length = k + (encE e).length := by rw [List.length_append, List.length_take, Nat.min_eq_left hk]
  refine ⟨by rw [putS_len hl]; exact hl, ?_, ?_, ?_⟩
  · unfold putS
    rw [List.take_left' hlen, jenc_snoc, h.eq, he, Nat.zero_add]
  · intro y hy
    rcases List.mem_append.1 hy with hy | hy
    · exact h.small y hy
    · obtain rfl := List.mem_singleton.1 hy; exact hx
  · unfold putS
    rw [List.drop_left' hlen]
    refine noHead_sub h.rest fun s m => ?_
    rw [← List.drop_drop] at m
    exact List.mem_of_mem_drop m
theorem JI.begin (h : noHead ep T) : JI T ep [] 0 := ⟨Nat.zero_le _, by rw [List.take_zero]; rfl, (fun x hx => by cases hx), h⟩
end
end Go.Proofs.YtjlolpmmpafjeaaGreat
