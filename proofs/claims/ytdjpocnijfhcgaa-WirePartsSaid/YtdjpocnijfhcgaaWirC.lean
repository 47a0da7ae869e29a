import Derived.Test.YtdjpocnijfhcgaaWirA
import Derived.Test.YtdjpocnijfhcgaaSlkR
set_option linter.unusedVariables false
set_option linter.unusedSimpArgs false
namespace Go.Proofs.Ytdjpocnijfhcgaa
open Slk
theorem Lists_T (D : Nat → Prop) (w : World) (v1 v2 : Value) (xss yss : LL) (H1 : Old D w (Rep.rep xss [v1])) (H2 : Old D w (Rep.rep yss [v2])) (he : xss = yss) :
    Calls Try.prog 17 #[v1, v2] w fun e w' => e = .returned (.bool true) ∧ Own D w w' [] := (Lists_spec D w v1 v2 xss yss H1 H2).mono fun e w' ⟨h, H'⟩ => ⟨by rw [h, dec_T he], H'⟩
theorem All_w (D : Nat → Prop) (w : World) (g k : Nat) (hk : k < 2) (lw lo : LL) (h1 : lw.length ≤ 64) (h2 : ∀ x ∈ lw, x.length ≤ 1000000) (H : Own D w w [wir k g lw lo]) :
    Calls Try.prog 22 #[.pointer (some ⟨g, 0, none⟩), .int .i64 k] w fun e w' => ∃ c, e = .returned c ∧ Own D w w' [Rep.rep lw [c], wir k g lw lo] :=
  (All_spec D w g k hk lw lo (by omega) (mem_idx h2) H).mono fun e w' ⟨q, he, H'⟩ => ⟨_, he, H'.ent Ent.rowsB_rep⟩
theorem Put_new (D : Nat → Prop) (w : World) (g k : Nat) (hk : k < 2) (v : Value) (fs : LL) (hf : ∀ x ∈ fs, x.length ≤ 1000000) (H : Own D w w [wir k g [] []]) (HA : Old D w (Rep.rep fs [v])) :
    Calls Try.prog 19 #[.pointer (some ⟨g, 0, none⟩), .int .i64 k, v] w fun e w' => e = .returned (.int .i64 ((min fs.length 64 : Nat) : Int)) ∧ Own D w w' [wir k g (fs.take 64) []] :=
  Put_spec D w g k hk [] [] v fs (by decide) (mem_idx hf) H HA
theorem All_flip (D : Nat → Prop) (w : World) (g k : Nat) (hk : k < 2) (lw : LL) (H : Own D w w [wir k g lw []]) :
    Calls Try.prog 22 #[.pointer (some ⟨g, 0, none⟩), .int .i64 ((1 - k : Nat) : Int)] w fun e w' => ∃ q : Option Addr × Nat, e = .returned (.slice q.1 0 q.2) ∧ Own D w w' [wir k g lw []] :=
  (All_spec D w g (1 - k) (by omega) [] lw (by decide) (by simp) (H.ent (Ent.head (wir_flip hk _ _)))).mono fun e w' ⟨q, he, H'⟩ => ⟨(q.1, q.2.1), he, H'.ent (Ent.drop (Ent.drop (Ent.head (wir_flip' hk _ _))))⟩
theorem take_join {α : Type} (l : List α) (k : Nat) (hk : k ≤ l.length) : (l.take k).take 64 ++ (l.drop k).take (64 - ((l.take k).take 64).length) = l.take 64 := by
  have h := List.take_append (i := 64) (l₁ := l.take k) (l₂ := l.drop k)
  rw [List.take_append_drop] at h
  rw [h]
  congr 2
  simp only [List.length_take]
  omega
theorem WireParts_walk (W : World) (v0 v1 v2 : Value) (l : LL) (cut way : UInt8) (h0 : Old none' W (Rep.rep l [v0])) (h1 : Old none' W (Rep.rep cut [v1])) (h2 : Old none' W (Rep.rep way [v2])) :
    Calls Try.prog 8 #[v0, v1, v2] W fun e w' => e = .returned (.bool true) ∧ Own none' W w' [] := by
  have e1 : [v1] = [u8v cut] := h1.pure
  have e2 : [v2] = [u8v way] := h2.pure
  simp only [List.cons.injEq, and_true, u8v] at e1 e2
  subst e1; subst e2
  have l1 := cut.toNat_lt
  have l2 := way.toNat_lt
  obtain ⟨A, cap, rfl, hc1, hc2, hel⟩ := h0.openE rfl
  refine hc_enter (vs := [.slice A l.length cap, .int .u8 cut.toNat, .int .u8 way.toNat]) Try.func8 rfl _ Try.ntmps8 rfl (Own.start none' W) ?_
  simp only [argSlots, Nat.zero_add]
  refine hc_seq <|
    hc_region <|
    hl_val (ov_assign rfl) rfl rfl rfl <|
    hl_nil <|
    hx_then_normal <|
    hc_seq <| ?_
  refine hc_seq <|
    hc_region <|
    hl_val (ov_move rfl) rfl rfl rfl <|
    hl_val (ov_buildSN rfl rfl) rfl rfl rfl <| ?_
  refine hl_new (on_buildSliceN rfl rfl rfl) rfl rfl rfl fun b17 =>  ?_
  refine hl_call (σ := { b : Bool // b = true → fairP [(0, 0, l)] }) Try.call24 rfl rfl (fun w1 H1 => Own.callx0 H1 fun D' hold hin H2 => wfair_spec D' w1 _ [(0, 0, l)] (hin _ fun h hs ho => rep_lits (b := b17) hs [((0, 0, l) : Step)] ⟨_, [], rfl, ⟨[.int .i64 0], [.int .i64 0, .slice A l.length cap], rfl, ⟨rfl, by simp [inI64]⟩, [.int .i64 0], [.slice A l.length cap], rfl, ⟨rfl, by simp [inI64]⟩, rep_old ho h0⟩, rfl⟩ (by simp))) ?_
  rintro ⟨bv, hbv⟩
  try rw [List.nil_append]
  cases bv
  · skip
    refine hl_val (ov_not rfl) rfl rfl rfl <|
      hl_nil <|
      hx_then_normal <|
      hc_cond_true rfl <|
      hc_seq <|
      hc_region <| ?_
    refine hl_c Try.call23 rfl rfl (fun w1 H1 => Own.calln H1 fun D' hold hin H2 => wwakes_spec D' w1) ?_
    refine hl_val (ov_assign rfl) rfl rfl rfl <|
      hl_nil <|
      hx_then_normal <|
      hc_ret <|
      hx_then_ret <| ?_
    exact results_1 (.inr rfl) rfl rfl fun w' H' => ⟨rfl, H'.ent (Ent.nil _)⟩
  · skip
    have hfair := (hbv rfl).2 0 (by simp)
    dsimp only [List.getElem_cons_zero] at hfair
    have hl : ∀ x ∈ l, x.length ≤ 1000000 := fun x hx => by
      obtain ⟨j, hj, rfl⟩ := List.getElem_of_mem hx
      have := hfair.2 j hj
      omega
    have hll := hfair.1
    obtain ⟨k, hk⟩ : ∃ k, k = cut.toNat % (l.length + 1) := ⟨_, rfl⟩
    obtain ⟨w, hw⟩ : ∃ k, k = way.toNat % 2 := ⟨_, rfl⟩
    have hkl : k ≤ l.length := by have := Nat.mod_lt cut.toNat (show 0 < l.length + 1 by omega); omega
    have hw2 : w < 2 := by omega
    refine hl_val (ov_not rfl) rfl rfl rfl <|
      hl_nil <|
      hx_then_normal <|
      hc_cond_false rfl <|
      hc_skip <|
      hx_then_normal <| ?_
    refine hc_seq <|
      hc_region <|
      hl_val (ov_buildSN rfl rfl) rfl rfl rfl <| ?_
    refine hl_new (on_boxN rfl rfl) rfl rfl rfl fun b22 =>  ?_
    refine hl_val (ov_buildSN rfl rfl) rfl rfl rfl <| ?_
    refine hl_new (on_boxN rfl rfl) rfl rfl rfl fun b24 =>  ?_
    refine hl_val (ov_assign rfl) rfl rfl rfl <|
      hl_val (ov_assign rfl) rfl rfl rfl <|
      hl_nil <|
      hx_then_normal <|
      hc_seq <|
      hc_region <| ?_
    refine hl_val (ov_move rfl) rfl rfl rfl <|
      hl_val (ov_conv rfl (by first | exact wrap_i64 (by omega) | rfl)) rfl rfl rfl <| ?_
    refine hl_val (ov_move rfl) rfl rfl rfl <|
      hl_val (by first | exact ov_len rfl | exact ov_lenS rfl) rfl rfl rfl <| ?_
    refine hl_val (ov_add rfl rfl (by first | exact wrap_i64 (by omega) | rfl)) rfl rfl rfl <| ?_
    refine hl_val (ov_remN (b := l.length + 1) rfl rfl (by omega)) rfl rfl rfl ?_
    refine hl_val (ov_move rfl) rfl rfl rfl <|
      hl_val (ov_conv rfl (by first | exact wrap_i64 (by omega) | rfl)) rfl rfl rfl <| ?_
    refine hl_val (ov_remN (b := 2) rfl rfl (by omega)) rfl rfl rfl ?_
    rw [← hk, ← hw]
    refine HL.ent (l' := [wir w b22 [] [], wir w b24 [] []]) ((wir_new' hw2).trans ((Ent.perm (List.Perm.swap _ _ _)).trans ((wir_new' hw2).trans ?_))) ?_
    · exact (by first | assumption | exact Ent.refl _ | exact Ent.nil _ | exact Ent.row_any (Ent.refl _) | (repeat (first | exact Ent.refl _ | exact Ent.nil _ | refine Ent.pick ?_)))
    refine hl_val (ov_assign rfl) rfl rfl rfl <|
      hl_val (ov_assign rfl) rfl rfl rfl <|
      hl_nil <|
      hx_then_normal <|
      hc_seq <|
      hc_region <| ?_
    refine hl_val (ov_move rfl) rfl rfl rfl <|
      hl_val (ov_move rfl) rfl rfl rfl <|
      hl_val (ov_move rfl) rfl rfl rfl <| ?_
    refine hl_c Try.call19 rfl rfl (fun w1 H1 => Own.callp (wir w b22 [] []) H1 fun D' hold hin H2 => Put_new D' w1 b22 w hw2 _ l hl H2 (hold _ h0)) ?_
    refine hl_val (ov_assign rfl) rfl rfl rfl <|
      hl_nil <|
      hx_then_normal <|
      hc_seq <| ?_
    have hlk : ∀ x ∈ l.take k, x.length ≤ 1000000 := fun x hx => hl x (List.mem_of_mem_take hx)
    have hcut1 : Old none' W (Rep.rep (l.take k) [.slice (if cap = 0 then A else A.map (·.add (0 * 1))) (k - 0) (cap - 0)]) := Old.cut h0 0 k (by omega) (by omega)
    have hcut2 : Old none' W (Rep.rep (l.drop k) [.slice (if cap = k then A else A.map (·.add (k * 1))) (l.length - k) (cap - k)]) := by
      have := Old.cut h0 k l.length (by omega) (by omega)
      rw [List.take_of_length_le (by simp)] at this
      exact this
    have hldk : ∀ x ∈ l.drop k, x.length ≤ 1000000 := fun x hx => hl x (List.mem_of_mem_drop hx)
    refine hc_any [wir w b22 (l.take 64) []] mixed 14 rfl ?_
    refine ha_take 0 rfl (ov_move rfl) rfl rfl rfl (by kernel_rfl) (by kernel_rfl) (by kernel_rfl) (by first | assumption | exact Ent.refl _ | exact Ent.nil _ | (repeat (first | exact Ent.refl _ | exact Ent.nil _ | refine Ent.pick ?_))) <| ?_
    refine ha_take 1 rfl (ov_move rfl) rfl rfl rfl (by kernel_rfl) (by kernel_rfl) (by kernel_rfl) (by first | assumption | exact Ent.refl _ | exact Ent.nil _ | (repeat (first | exact Ent.refl _ | exact Ent.nil _ | refine Ent.pick ?_))) <| ?_
    refine ha_take 2 rfl (ov_move rfl) rfl rfl rfl (by kernel_rfl) (by kernel_rfl) (by kernel_rfl) (by first | assumption | exact Ent.refl _ | exact Ent.nil _ | (repeat (first | exact Ent.refl _ | exact Ent.nil _ | refine Ent.pick ?_))) <| ?_
    refine ha_take 3 rfl (ov_move rfl) rfl rfl rfl (by kernel_rfl) (by kernel_rfl) (by kernel_rfl) (by first | assumption | exact Ent.refl _ | exact Ent.nil _ | (repeat (first | exact Ent.refl _ | exact Ent.nil _ | refine Ent.pick ?_))) <| ?_
    refine ha_take 4 rfl (ov_slice rfl _ _ (.inl ⟨rfl, rfl⟩) (.inr ⟨_, _, rfl, rfl⟩) (by omega) (by omega)) rfl rfl rfl (by kernel_rfl) (by kernel_rfl) (by kernel_rfl) (by first | assumption | exact Ent.refl _ | exact Ent.nil _ | (repeat (first | exact Ent.refl _ | exact Ent.nil _ | refine Ent.pick ?_))) <| ?_
    refine ha_take 6 rfl (ov_move rfl) rfl rfl rfl (by kernel_rfl) (by kernel_rfl) (by kernel_rfl) (by first | assumption | exact Ent.refl _ | exact Ent.nil _ | (repeat (first | exact Ent.refl _ | exact Ent.nil _ | refine Ent.pick ?_))) <| ?_
    refine ha_take 7 rfl (ov_move rfl) rfl rfl rfl (by kernel_rfl) (by kernel_rfl) (by kernel_rfl) (by first | assumption | exact Ent.refl _ | exact Ent.nil _ | (repeat (first | exact Ent.refl _ | exact Ent.nil _ | refine Ent.pick ?_))) <| ?_
    refine ha_take 8 rfl (ov_move rfl) rfl rfl rfl (by kernel_rfl) (by kernel_rfl) (by kernel_rfl) (by first | assumption | exact Ent.refl _ | exact Ent.nil _ | (repeat (first | exact Ent.refl _ | exact Ent.nil _ | refine Ent.pick ?_))) <| ?_
    refine ha_take 9 rfl (ov_move rfl) rfl rfl rfl (by kernel_rfl) (by kernel_rfl) (by kernel_rfl) (by first | assumption | exact Ent.refl _ | exact Ent.nil _ | (repeat (first | exact Ent.refl _ | exact Ent.nil _ | refine Ent.pick ?_))) <| ?_
    refine ha_take 10 rfl (ov_slice rfl _ _ (.inr ⟨_, _, rfl, rfl⟩) (.inl ⟨rfl, rfl⟩) (by omega) (by omega)) rfl rfl rfl (by kernel_rfl) (by kernel_rfl) (by kernel_rfl) (by first | assumption | exact Ent.refl _ | exact Ent.nil _ | (repeat (first | exact Ent.refl _ | exact Ent.nil _ | refine Ent.pick ?_))) <| ?_
    refine ha_one 5 (by kernel_rfl) <| ?_
    refine ho_c rfl Try.call19 rfl rfl rfl (fun w1 H1 => Own.callp (wir w b24 [] []) H1 fun D' hold hin H2 => Put_new D' w1 b24 w hw2 _ (l.take k) hlk H2 (hold _ hcut1)) (by first | assumption | exact Ent.refl _ | exact Ent.nil _ | (repeat (first | exact Ent.refl _ | exact Ent.nil _ | refine Ent.pick ?_))) ?_
    refine ha_one 11 (by kernel_rfl) <| ?_
    refine ho_c rfl Try.call19 rfl rfl rfl (fun w1 H1 => Own.callp (wir w b24 ((l.take k).take 64) []) H1 fun D' hold hin H2 => Put_spec D' w1 b24 w hw2 ((l.take k).take 64) [] _ (l.drop k) (by simp only [List.length_take]; omega) (mem_idx hldk) H2 (hold _ hcut2)) (by first | assumption | exact Ent.refl _ | exact Ent.nil _ | (repeat (first | exact Ent.refl _ | exact Ent.nil _ | refine Ent.pick ?_))) ?_
    rw [take_join l k hkl]
    refine ha_take 12 rfl (ov_add rfl rfl (by first | exact wrap_i64 (by omega) | rfl)) rfl rfl rfl (by kernel_rfl) (by kernel_rfl) (by kernel_rfl) (by first | assumption | exact Ent.refl _ | exact Ent.nil _ | (repeat (first | exact Ent.refl _ | exact Ent.nil _ | refine Ent.pick ?_))) <| ?_
    refine ha_take 13 rfl (ov_assign rfl) rfl rfl rfl (by kernel_rfl) (by kernel_rfl) (by kernel_rfl) (by first | assumption | exact Ent.refl _ | exact Ent.nil _ | (repeat (first | exact Ent.refl _ | exact Ent.nil _ | refine Ent.pick ?_))) <| ?_
    refine ha_done (by kernel_rfl) <|
      hx_then_normal <|
      hc_seq <|
      hc_seq <| ?_
    refine hc_any [wir w b22 (l.take 64) [], wir w b24 (l.take 64) []] mixed 38 rfl ?_
    refine ha_take 0 rfl (ov_move rfl) rfl rfl rfl (by kernel_rfl) (by kernel_rfl) (by kernel_rfl) (by first | assumption | exact Ent.refl _ | exact Ent.nil _ | (repeat (first | exact Ent.refl _ | exact Ent.nil _ | refine Ent.pick ?_))) <| ?_
    refine ha_take 1 rfl (ov_move rfl) rfl rfl rfl (by kernel_rfl) (by kernel_rfl) (by kernel_rfl) (by first | assumption | exact Ent.refl _ | exact Ent.nil _ | (repeat (first | exact Ent.refl _ | exact Ent.nil _ | refine Ent.pick ?_))) <| ?_
    refine ha_take 2 rfl (ov_neq rfl rfl) rfl rfl rfl (by kernel_rfl) (by kernel_rfl) (by kernel_rfl) (by first | assumption | exact Ent.refl _ | exact Ent.nil _ | (repeat (first | exact Ent.refl _ | exact Ent.nil _ | refine Ent.pick ?_))) <| ?_
    refine ha_take 3 rfl (ov_move rfl) rfl rfl rfl (by kernel_rfl) (by kernel_rfl) (by kernel_rfl) (by first | assumption | exact Ent.refl _ | exact Ent.nil _ | (repeat (first | exact Ent.refl _ | exact Ent.nil _ | refine Ent.pick ?_))) <| ?_
    refine ha_partF (t := 54) rfl (by simp only [List.length_take, List.length_drop]; omega) ?_
    refine ha_take 4 rfl (ov_move rfl) rfl rfl rfl (by kernel_rfl) (by kernel_rfl) (by kernel_rfl) (by first | assumption | exact Ent.refl _ | exact Ent.nil _ | (repeat (first | exact Ent.refl _ | exact Ent.nil _ | refine Ent.pick ?_))) <| ?_
    refine ha_take 5 rfl (ov_move rfl) rfl rfl rfl (by kernel_rfl) (by kernel_rfl) (by kernel_rfl) (by first | assumption | exact Ent.refl _ | exact Ent.nil _ | (repeat (first | exact Ent.refl _ | exact Ent.nil _ | refine Ent.pick ?_))) <| ?_
    refine ha_take 6 rfl (by first | exact ov_len rfl | exact ov_lenS rfl) rfl rfl rfl (by kernel_rfl) (by kernel_rfl) (by kernel_rfl) (by first | assumption | exact Ent.refl _ | exact Ent.nil _ | (repeat (first | exact Ent.refl _ | exact Ent.nil _ | refine Ent.pick ?_))) <| ?_
    refine ha_take 7 rfl (ov_min (m := ((min l.length 64 : Nat) : Int)) rfl rfl (by split <;> omega)) rfl rfl rfl (by kernel_rfl) (by kernel_rfl) (by kernel_rfl) (by first | assumption | exact Ent.refl _ | exact Ent.nil _ | (repeat (first | exact Ent.refl _ | exact Ent.nil _ | refine Ent.pick ?_))) ?_
    refine ha_take 8 rfl (ov_neq rfl rfl) rfl rfl rfl (by kernel_rfl) (by kernel_rfl) (by kernel_rfl) (by first | assumption | exact Ent.refl _ | exact Ent.nil _ | (repeat (first | exact Ent.refl _ | exact Ent.nil _ | refine Ent.pick ?_))) <| ?_
    refine ha_take 9 rfl (ov_pickF rfl rfl) rfl rfl rfl (by kernel_rfl) (by kernel_rfl) (by kernel_rfl) (by first | assumption | exact Ent.refl _ | exact Ent.nil _ | (repeat (first | exact Ent.refl _ | exact Ent.nil _ | refine Ent.pick ?_))) <| ?_
    refine ha_take 10 rfl (ov_move rfl) rfl rfl rfl (by kernel_rfl) (by kernel_rfl) (by kernel_rfl) (by first | assumption | exact Ent.refl _ | exact Ent.nil _ | (repeat (first | exact Ent.refl _ | exact Ent.nil _ | refine Ent.pick ?_))) <| ?_
    refine ha_partF (t := 61) rfl (fun h => h rfl) ?_
    refine ha_take 11 rfl (ov_move rfl) rfl rfl rfl (by kernel_rfl) (by kernel_rfl) (by kernel_rfl) (by first | assumption | exact Ent.refl _ | exact Ent.nil _ | (repeat (first | exact Ent.refl _ | exact Ent.nil _ | refine Ent.pick ?_))) <| ?_
    refine ha_take 12 rfl (ov_move rfl) rfl rfl rfl (by kernel_rfl) (by kernel_rfl) (by kernel_rfl) (by first | assumption | exact Ent.refl _ | exact Ent.nil _ | (repeat (first | exact Ent.refl _ | exact Ent.nil _ | refine Ent.pick ?_))) <| ?_
    refine ha_take 14 rfl (ov_move rfl) rfl rfl rfl (by kernel_rfl) (by kernel_rfl) (by kernel_rfl) (by first | assumption | exact Ent.refl _ | exact Ent.nil _ | (repeat (first | exact Ent.refl _ | exact Ent.nil _ | refine Ent.pick ?_))) <| ?_
    refine ha_take 15 rfl (ov_move rfl) rfl rfl rfl (by kernel_rfl) (by kernel_rfl) (by kernel_rfl) (by first | assumption | exact Ent.refl _ | exact Ent.nil _ | (repeat (first | exact Ent.refl _ | exact Ent.nil _ | refine Ent.pick ?_))) <| ?_
    refine ha_one 13 (by kernel_rfl) <| ?_
    have hl64 : (l.take 64).length ≤ 64 := by rw [List.length_take]; omega
    have hlt64 : ∀ x ∈ l.take 64, x.length ≤ 1000000 := fun x hx => hl x (List.mem_of_mem_take hx)
    refine ho_call (σ := Value) rfl Try.call22 rfl rfl rfl (fun w1 H1 => Own.callpx (wir w b22 (l.take 64) []) H1 fun D' hold hin H2 => All_w D' w1 b22 w hw2 (l.take 64) [] hl64 hlt64 H2) (fun _ => (by first | assumption | exact Ent.refl _ | exact Ent.nil _ | (repeat (first | exact Ent.refl _ | exact Ent.nil _ | refine Ent.pick ?_)))) ?_
    intro c0
    refine ha_one 16 (by kernel_rfl) <| ?_
    refine ho_call (σ := Value) rfl Try.call22 rfl rfl rfl (fun w1 H1 => Own.callpx (wir w b24 (l.take 64) []) H1 fun D' hold hin H2 => All_w D' w1 b24 w hw2 (l.take 64) [] hl64 hlt64 H2) (fun _ => (by first | assumption | exact Ent.refl _ | exact Ent.nil _ | (repeat (first | exact Ent.refl _ | exact Ent.nil _ | refine Ent.pick ?_)))) ?_
    intro c1
    refine ha_one 17 (by kernel_rfl) <| ?_
    refine ho_c rfl Try.call17 rfl rfl rfl (fun w1 H1 => Own.calln H1 fun D' hold hin H2 => Lists_T D' w1 c0 c1 (l.take 64) (l.take 64) (hin _ fun h hs ho => stars_rep (cs := [c0]) hs) (hin _ fun h hs ho => stars_rep (cs := [c1]) hs) rfl) (by first | assumption | exact Ent.refl _ | exact Ent.nil _ | (repeat (first | exact Ent.refl _ | exact Ent.nil _ | refine Ent.pick ?_))) ?_
    refine ha_take 18 rfl (ov_not rfl) rfl rfl rfl (by kernel_rfl) (by kernel_rfl) (by kernel_rfl) (by first | assumption | exact Ent.refl _ | exact Ent.nil _ | (repeat (first | exact Ent.refl _ | exact Ent.nil _ | refine Ent.pick ?_))) <| ?_
    refine ha_take 19 rfl (ov_pickF rfl rfl) rfl rfl rfl (by kernel_rfl) (by kernel_rfl) (by kernel_rfl) (by first | assumption | exact Ent.refl _ | exact Ent.nil _ | (repeat (first | exact Ent.refl _ | exact Ent.nil _ | refine Ent.pick ?_))) <| ?_
    refine ha_take 20 rfl (ov_move rfl) rfl rfl rfl (by kernel_rfl) (by kernel_rfl) (by kernel_rfl) (by first | assumption | exact Ent.refl _ | exact Ent.nil _ | (repeat (first | exact Ent.refl _ | exact Ent.nil _ | refine Ent.pick ?_))) <| ?_
    refine ha_take 21 rfl (ov_move rfl) rfl rfl rfl (by kernel_rfl) (by kernel_rfl) (by kernel_rfl) (by first | assumption | exact Ent.refl _ | exact Ent.nil _ | (repeat (first | exact Ent.refl _ | exact Ent.nil _ | refine Ent.pick ?_))) <| ?_
    refine ha_take 22 rfl (ov_move rfl) rfl rfl rfl (by kernel_rfl) (by kernel_rfl) (by kernel_rfl) (by first | assumption | exact Ent.refl _ | exact Ent.nil _ | (repeat (first | exact Ent.refl _ | exact Ent.nil _ | refine Ent.pick ?_))) <| ?_
    refine ha_take 24 rfl (ov_move rfl) rfl rfl rfl (by kernel_rfl) (by kernel_rfl) (by kernel_rfl) (by first | assumption | exact Ent.refl _ | exact Ent.nil _ | (repeat (first | exact Ent.refl _ | exact Ent.nil _ | refine Ent.pick ?_))) <| ?_
    refine ha_take 25 rfl (ov_move rfl) rfl rfl rfl (by kernel_rfl) (by kernel_rfl) (by kernel_rfl) (by first | assumption | exact Ent.refl _ | exact Ent.nil _ | (repeat (first | exact Ent.refl _ | exact Ent.nil _ | refine Ent.pick ?_))) <| ?_
    refine ha_take 26 rfl (ov_slice rfl _ _ (.inl ⟨rfl, rfl⟩) (.inr ⟨_, _, rfl, rfl⟩) (by omega) (by omega)) rfl rfl rfl (by kernel_rfl) (by kernel_rfl) (by kernel_rfl) (by first | assumption | exact Ent.refl _ | exact Ent.nil _ | (repeat (first | exact Ent.refl _ | exact Ent.nil _ | refine Ent.pick ?_))) <| ?_
    refine ha_one 23 (by kernel_rfl) <| ?_
    refine ho_call (σ := Value) rfl Try.call22 rfl rfl rfl (fun w1 H1 => Own.callpx (wir w b22 (l.take 64) []) H1 fun D' hold hin H2 => All_w D' w1 b22 w hw2 (l.take 64) [] hl64 hlt64 H2) (fun _ => (by first | assumption | exact Ent.refl _ | exact Ent.nil _ | (repeat (first | exact Ent.refl _ | exact Ent.nil _ | refine Ent.pick ?_)))) ?_
    intro c2
    have hcut3 : Old none' W (Rep.rep (l.take (min l.length 64)) [.slice (if cap = 0 then A else A.map (·.add (0 * 1))) (min l.length 64 - 0) (cap - 0)]) := Old.cut h0 0 (min l.length 64) (by omega) (by omega)
    have htk : l.take (min l.length 64) = l.take 64 := by
      rcases Nat.le_total l.length 64 with h | h
      · rw [Nat.min_eq_left h, List.take_length, List.take_of_length_le h]
      · rw [Nat.min_eq_right h]
    refine ha_one 27 (by kernel_rfl) <| ?_
    refine ho_c rfl Try.call17 rfl rfl rfl (fun w1 H1 => Own.calln H1 fun D' hold hin H2 => Lists_T D' w1 c2 _ (l.take 64) (l.take (min l.length 64)) (hin _ fun h hs ho => stars_rep (cs := [c2]) hs) (hold _ hcut3) htk.symm) (by first | assumption | exact Ent.refl _ | exact Ent.nil _ | (repeat (first | exact Ent.refl _ | exact Ent.nil _ | refine Ent.pick ?_))) ?_
    refine ha_take 28 rfl (ov_not rfl) rfl rfl rfl (by kernel_rfl) (by kernel_rfl) (by kernel_rfl) (by first | assumption | exact Ent.refl _ | exact Ent.nil _ | (repeat (first | exact Ent.refl _ | exact Ent.nil _ | refine Ent.pick ?_))) <| ?_
    refine ha_take 29 rfl (ov_pickF rfl rfl) rfl rfl rfl (by kernel_rfl) (by kernel_rfl) (by kernel_rfl) (by first | assumption | exact Ent.refl _ | exact Ent.nil _ | (repeat (first | exact Ent.refl _ | exact Ent.nil _ | refine Ent.pick ?_))) <| ?_
    refine ha_take 30 rfl (ov_move rfl) rfl rfl rfl (by kernel_rfl) (by kernel_rfl) (by kernel_rfl) (by first | assumption | exact Ent.refl _ | exact Ent.nil _ | (repeat (first | exact Ent.refl _ | exact Ent.nil _ | refine Ent.pick ?_))) <| ?_
    refine ha_take 31 rfl (ov_move rfl) rfl rfl rfl (by kernel_rfl) (by kernel_rfl) (by kernel_rfl) (by first | assumption | exact Ent.refl _ | exact Ent.nil _ | (repeat (first | exact Ent.refl _ | exact Ent.nil _ | refine Ent.pick ?_))) <| ?_
    refine ha_take 32 rfl (ov_move rfl) rfl rfl rfl (by kernel_rfl) (by kernel_rfl) (by kernel_rfl) (by first | assumption | exact Ent.refl _ | exact Ent.nil _ | (repeat (first | exact Ent.refl _ | exact Ent.nil _ | refine Ent.pick ?_))) <| ?_
    refine ha_one 33 (by kernel_rfl) <| ?_
    refine ho_val rfl (ov_sub (m := ((1 - w : Nat) : Int)) rfl rfl (by rw [wrap_i64 (by omega)]; omega)) rfl rfl rfl (by first | assumption | exact Ent.refl _ | exact Ent.nil _ | (repeat (first | exact Ent.refl _ | exact Ent.nil _ | refine Ent.pick ?_))) ?_
    refine ha_one 34 (by kernel_rfl) <| ?_
    refine ho_call (σ := Option Addr × Nat) rfl Try.call22 rfl rfl rfl (fun w1 H1 => Own.callpx (wir w b22 (l.take 64) []) H1 fun D' hold hin H2 => All_flip D' w1 b22 w hw2 (l.take 64) H2) (fun _ => (by first | assumption | exact Ent.refl _ | exact Ent.nil _ | (repeat (first | exact Ent.refl _ | exact Ent.nil _ | refine Ent.pick ?_)))) ?_
    rintro ⟨A9, cap9⟩
    dsimp only
    refine ha_take 35 rfl (by first | exact ov_len rfl | exact ov_lenS rfl) rfl rfl rfl (by kernel_rfl) (by kernel_rfl) (by kernel_rfl) (by first | assumption | exact Ent.refl _ | exact Ent.nil _ | (repeat (first | exact Ent.refl _ | exact Ent.nil _ | refine Ent.pick ?_))) <| ?_
    refine ha_take 36 rfl (ov_neq rfl rfl) rfl rfl rfl (by kernel_rfl) (by kernel_rfl) (by kernel_rfl) (by first | assumption | exact Ent.refl _ | exact Ent.nil _ | (repeat (first | exact Ent.refl _ | exact Ent.nil _ | refine Ent.pick ?_))) <| ?_
    refine ha_take 37 rfl (ov_pickF rfl rfl) rfl rfl rfl (by kernel_rfl) (by kernel_rfl) (by kernel_rfl) (by first | assumption | exact Ent.refl _ | exact Ent.nil _ | (repeat (first | exact Ent.refl _ | exact Ent.nil _ | refine Ent.pick ?_))) <| ?_
    refine ha_done (by kernel_rfl) <|
      hx_then_normal <| ?_
    refine hc_cond_F rfl (fun h => h rfl) ?_
    refine hc_skip <|
      hx_then_normal <|
      hc_seq <|
      hc_seq <|
      hc_region <|
      hl_val (ov_move rfl) rfl rfl rfl <| ?_
    refine hl_val (ov_eql rfl rfl) rfl rfl rfl <|
      hl_nil <|
      hx_then_normal <| ?_
    refine hc_cond rfl (fun hn => ?_) (fun hn => ?_)
    · refine hc_seq <|
        hc_region <| ?_
      refine hl_c Try.call23 rfl rfl (fun w1 H1 => Own.calln H1 fun D' hold hin H2 => wwakes_spec D' w1) ?_
      refine hl_val (ov_assign rfl) rfl rfl rfl <|
        hl_nil <|
        hx_then_normal <|
        hc_ret <|
        hx_then_ret <| ?_
      exact results_1 (.inr rfl) rfl rfl fun w' H' => ⟨rfl, H'.ent (Ent.nil _)⟩
    · obtain ⟨x0, r0, rfl⟩ : ∃ x r, l = x :: r := by
        cases l with
        | nil => simp at hn
        | cons x r => exact ⟨x, r, rfl⟩
      refine HC.ent (l' := [wir w b22 (x0 :: r0.take 63) []]) (show Ent _ [wir w b22 ((x0 :: r0).take 64) []] from (by first | assumption | exact Ent.refl _ | exact Ent.nil _ | exact Ent.row_any (Ent.refl _) | (repeat (first | exact Ent.refl _ | exact Ent.nil _ | refine Ent.pick ?_)))) ?_
      refine hc_skip <|
        hx_then_normal <|
        hc_seq <|
        hc_region <|
        hl_val (ov_move rfl) rfl rfl rfl <|
        hl_val (ov_move rfl) rfl rfl rfl <| ?_
      refine hl_call (σ := Value) Try.call21 rfl rfl (fun w1 H1 => Own.callpx (wir w b22 (x0 :: r0.take 63) []) H1 fun D' hold hin H2 => Take_cons D' w1 b22 w hw2 x0 (r0.take 63) [] H2) ?_
      intro c3
      refine HL.ent (l' := [Rep.rep x0 [c3], wir w b22 (r0.take 63) []]) (Ent.rowB_rep.trans (by first | assumption | exact Ent.refl _ | exact Ent.nil _ | exact Ent.row_any (Ent.refl _) | (repeat (first | exact Ent.refl _ | exact Ent.nil _ | refine Ent.pick ?_)))) ?_
      refine hl_val (ov_move rfl) rfl rfl rfl <|
        hl_val (ov_extract rfl rfl) rfl rfl rfl <|
        hl_val (ov_extract rfl rfl) rfl rfl rfl <|
        hl_val (ov_assign rfl) rfl rfl rfl <|
        hl_val (ov_assign rfl) rfl rfl rfl <|
        hl_nil <| ?_
      refine hx_then_normal <|
        hc_seq <|
        hc_seq <|
        hc_region <|
        hl_val (ov_move rfl) rfl rfl rfl <|
        hl_val (by first | exact ov_notd rfl | exact ov_not rfl) rfl rfl rfl <| ?_
      refine hl_val (ov_move rfl) rfl rfl rfl <| ?_
      obtain ⟨hA, u, hu, hcl⟩ := hel 0 (by simp)
      refine hl_on rfl rfl <| hl_val (ov_move rfl) rfl rfl rfl <|
        hl_on rfl rfl <| hl_val (ov_move rfl) rfl rfl rfl <|
        hl_on rfl rfl <| hl_val (ov_idxSc rfl (by assumption) rfl rfl (by omega)) rfl rfl rfl <|
        hl_on rfl rfl <| hl_val (by first | exact ov_load rfl (by assumption) | exact ov_load rfl (hcl _) | exact ov_load rfl (hcl2 _) | exact ov_load rfl (hcl3 _) | exact ov_load rfl (CellIs.blk rfl)) rfl rfl rfl <| ?_
      refine hl_on rfl rfl <| hl_c Try.call25 rfl rfl (fun w1 H1 => Own.calln H1 fun D' hold hin H2 => Bytes_spec D' w1 c3 u x0 x0 (hin _ fun h hs ho => stars_rep (cs := [c3]) hs) (hold _ hu)) ?_
      refine hl_on rfl rfl <| hl_val (by first | exact ov_notd rfl | exact ov_not rfl) rfl rfl rfl <| ?_
      refine hl_val (ov_pickF rfl rfl) rfl rfl rfl <|
        hl_val (ov_move rfl) rfl rfl rfl <| ?_
      refine hl_partF (t := 108) rfl (fun h => h rfl) ?_
      refine hl_on rfl rfl <| hl_val (ov_move rfl) rfl rfl rfl <|
        hl_on rfl rfl <| hl_val (ov_move rfl) rfl rfl rfl <|
        hl_on rfl rfl <| hl_new (on_buildSliceN rfl rfl rfl) rfl rfl rfl fun b111 => 
        hl_on rfl rfl <| hl_u (on_mark rfl) rfl rfl rfl <|
        hl_on rfl rfl <| hl_new (on_buildSliceN rfl rfl rfl) rfl rfl rfl fun b113 =>  ?_
      refine hl_on rfl rfl <| hl_c Try.call19 rfl rfl (fun w1 H1 => Own.callp (wir w b22 (r0.take 63) []) H1 fun D' hold hin H2 => Put_spec D' w1 b22 w hw2 (r0.take 63) [] _ [[122]] (by simp only [List.length_take]; omega) (by intro i hi; simp at hi; subst hi; simp) H2 (hin _ fun h hs ho => rep_lits (b := b113) hs _ ⟨[_], [], rfl, rep_bytes (b := b111) hs [122] rfl (by simp), rfl⟩ (by simp))) ?_
      have hr63 : (r0.take 63).length ≤ 63 := by rw [List.length_take]; omega
      rw [show min ([[122]] : LL).length (64 - (r0.take 63).length) = 1 by simp only [List.length_cons, List.length_nil]; omega, show ([[122]] : LL).take (64 - (r0.take 63).length) = [[122]] from List.take_of_length_le (by simp only [List.length_cons, List.length_nil]; omega)]
      refine hl_on rfl rfl <| hl_val (ov_neq rfl rfl) rfl rfl rfl <|
        hl_val (ov_pickF rfl rfl) rfl rfl rfl <|
        hl_nil <|
        hx_then_normal <| ?_
      refine hc_cond_F rfl (fun h => h rfl) ?_
      have hcut4 : Old none' W (Rep.rep (r0.take 63) [.slice (if cap = 1 then A else A.map (·.add (1 * 1))) (min (x0 :: r0).length 64 - 1) (cap - 1)]) := by
        have h := Old.cut h0 1 (min (x0 :: r0).length 64) (by simp only [List.length_cons]; omega) (Nat.min_le_left _ _)
        rw [show ((x0 :: r0).drop 1).take (min (x0 :: r0).length 64 - 1) = r0.take 63 by
          rw [List.drop_succ_cons, List.drop_zero]
          rcases Nat.le_total r0.length 63 with h | h
          · rw [List.take_of_length_le (by simp only [List.length_cons]; omega), List.take_of_length_le h]
          · congr 1; simp only [List.length_cons]; omega] at h
        exact h
      have hlen63 : (r0.take 63).length = min (x0 :: r0).length 64 - 1 := by rw [List.length_take, List.length_cons]; omega
      obtain ⟨A3, cap3, hs3, e3, h31, h32, HS3, hs3l, hone3, hrep3, _⟩ := hcut4.openES rfl
      simp only [Value.slice.injEq] at e3
      have hwok : ∀ x ∈ r0.take 63 ++ [[122]], x.length ≤ 1000000 := fun x hx => by
        rcases List.mem_append.1 hx with h | h
        · exact hl x (List.mem_cons_of_mem _ (List.mem_of_mem_take h))
        · simp at h; subst h; simp
      refine hc_skip <|
        hx_then_normal <|
        hc_seq <| ?_
      refine hc_any [] mixed 17 rfl ?_
      refine ha_take 0 rfl (ov_move rfl) rfl rfl rfl (by kernel_rfl) (by kernel_rfl) (by kernel_rfl) (by first | assumption | exact Ent.refl _ | exact Ent.nil _ | (repeat (first | exact Ent.refl _ | exact Ent.nil _ | refine Ent.pick ?_))) <| ?_
      refine ha_take 1 rfl (ov_move rfl) rfl rfl rfl (by kernel_rfl) (by kernel_rfl) (by kernel_rfl) (by first | assumption | exact Ent.refl _ | exact Ent.nil _ | (repeat (first | exact Ent.refl _ | exact Ent.nil _ | refine Ent.pick ?_))) <| ?_
      refine ha_take 4 rfl (ov_move rfl) rfl rfl rfl (by kernel_rfl) (by kernel_rfl) (by kernel_rfl) (by first | assumption | exact Ent.refl _ | exact Ent.nil _ | (repeat (first | exact Ent.refl _ | exact Ent.nil _ | refine Ent.pick ?_))) <| ?_
      refine ha_take 5 rfl (ov_move rfl) rfl rfl rfl (by kernel_rfl) (by kernel_rfl) (by kernel_rfl) (by first | assumption | exact Ent.refl _ | exact Ent.nil _ | (repeat (first | exact Ent.refl _ | exact Ent.nil _ | refine Ent.pick ?_))) <| ?_
      refine ha_take 6 rfl (ov_slice rfl 1 _ (.inr ⟨_, _, rfl, rfl⟩) (.inr ⟨_, _, rfl, rfl⟩) (by omega) (by omega)) rfl rfl rfl (by kernel_rfl) (by kernel_rfl) (by kernel_rfl) (by first | assumption | exact Ent.refl _ | exact Ent.nil _ | (repeat (first | exact Ent.refl _ | exact Ent.nil _ | refine Ent.pick ?_))) <| ?_
      refine ha_three 2 3 8 (by kernel_rfl) ?_ ?_ ?_
      · skip
        refine ho_call (σ := Value) rfl Try.call22 rfl rfl rfl (fun w1 H1 => Own.callpx (wir w b22 (r0.take 63 ++ [[122]]) []) H1 fun D' hold hin H2 => All_w D' w1 b22 w hw2 (r0.take 63 ++ [[122]]) [] (by simp only [List.length_append, List.length_cons, List.length_nil]; omega) hwok H2) (fun _ => (by first | assumption | exact Ent.refl _ | exact Ent.nil _ | (repeat (first | exact Ent.refl _ | exact Ent.nil _ | refine Ent.pick ?_)))) ?_
        intro c4
        refine ha_two 3 8 (by kernel_rfl) ?_ ?_
        · skip
          refine ho_new rfl (on_buildSliceN rfl rfl rfl) rfl rfl rfl (fun _ => (by first | assumption | exact Ent.refl _ | exact Ent.nil _ | (repeat (first | exact Ent.refl _ | exact Ent.nil _ | refine Ent.pick ?_)))) (fun b120 => ?_)
          refine ha_ent (Ent.blk_row (b := b120) 1 0 rfl (by decide)) ?_
          refine ha_two 7 8 (by kernel_rfl) ?_ ?_
          · skip
            refine ho_new rfl (on_appendR (A := some ⟨b120, 0, none⟩) (news := hs3) rfl rfl (by rw [e3.1]; exact SrcIs.old HS3) (by rw [hs3l, hlen63, Nat.mul_one]) hone3 (by decide) (by omega)) rfl rfl rfl (fun _ => (by first | assumption | exact Ent.refl _ | exact Ent.nil _ | (repeat (first | exact Ent.refl _ | exact Ent.nil _ | refine Ent.pick ?_)))) ?_
            rintro ⟨B5, capB5⟩
            dsimp only
            refine ha_one 8 (by kernel_rfl) <| ?_
            refine ho_new rfl (on_buildSliceN rfl rfl rfl) rfl rfl rfl (fun _ => (by first | assumption | exact Ent.refl _ | exact Ent.nil _ | (repeat (first | exact Ent.refl _ | exact Ent.nil _ | refine Ent.pick ?_)))) (fun b125 => ?_)
            refine ha_one 9 (by kernel_rfl) <| ?_
            refine ho_u rfl (on_mark rfl) rfl rfl rfl (by first | assumption | exact Ent.refl _ | exact Ent.nil _ | (repeat (first | exact Ent.refl _ | exact Ent.nil _ | refine Ent.pick ?_))) ?_
            refine ha_one 10 (by kernel_rfl) <| ?_
            refine ho_new rfl (on_buildSliceN rfl rfl rfl) rfl rfl rfl (fun _ => (by first | assumption | exact Ent.refl _ | exact Ent.nil _ | (repeat (first | exact Ent.refl _ | exact Ent.nil _ | refine Ent.pick ?_)))) (fun b127 => ?_)
            refine ha_one 11 (by kernel_rfl) <| ?_
            refine ho_new rfl (on_appendR (A := B5) (news := [.slice (some ⟨b125, 0, none⟩) 1 1]) rfl rfl (SrcIs.blk (b := b127)) rfl (by simp [Value.oneCell']) (by decide) (by omega)) rfl rfl rfl (fun _ => (by first | assumption | exact Ent.refl _ | exact Ent.nil _ | (repeat (first | exact Ent.refl _ | exact Ent.nil _ | refine Ent.pick ?_)))) ?_
            rintro ⟨B6, capB6⟩
            dsimp only
            refine ha_one 12 (by kernel_rfl) <| ?_
            refine ho_c rfl Try.call17 rfl rfl rfl (fun w1 H1 => Own.calln H1 fun D' hold hin H2 => Lists_T D' w1 c4 _ (r0.take 63 ++ [[122]]) (r0.take 63 ++ [[122]]) (hin _ fun h hs ho => stars_rep (cs := [c4]) hs) (hin _ fun h hs ho => rep_row (A := B6) hs _ (by rw [List.length_append, hlen63]; simp) (by rw [List.nil_append]; exact repL_append (repL_of_old ho hrep3) (repL_one1 (rep_bytes (b := b125) hs [122] rfl (by simp))))) rfl) (by first | assumption | exact Ent.refl _ | exact Ent.nil _ | (repeat (first | exact Ent.refl _ | exact Ent.nil _ | refine Ent.pick ?_))) ?_
            refine ha_take 13 rfl (ov_move rfl) rfl rfl rfl (by kernel_rfl) (by kernel_rfl) (by kernel_rfl) (by first | assumption | exact Ent.refl _ | exact Ent.nil _ | (repeat (first | exact Ent.refl _ | exact Ent.nil _ | refine Ent.pick ?_))) <| ?_
            refine ha_one 14 (by kernel_rfl) <| ?_
            refine ho_c rfl Try.call23 rfl rfl rfl (fun w1 H1 => Own.calln H1 fun D' hold hin H2 => wwakes_spec D' w1) (by first | assumption | exact Ent.refl _ | exact Ent.nil _ | (repeat (first | exact Ent.refl _ | exact Ent.nil _ | refine Ent.pick ?_))) ?_
            refine ha_take 15 rfl (ov_pickT rfl rfl) rfl rfl rfl (by kernel_rfl) (by kernel_rfl) (by kernel_rfl) (by first | assumption | exact Ent.refl _ | exact Ent.nil _ | (repeat (first | exact Ent.refl _ | exact Ent.nil _ | refine Ent.pick ?_))) <| ?_
            refine ha_take 16 rfl (ov_assign rfl) rfl rfl rfl (by kernel_rfl) (by kernel_rfl) (by kernel_rfl) (by first | assumption | exact Ent.refl _ | exact Ent.nil _ | (repeat (first | exact Ent.refl _ | exact Ent.nil _ | refine Ent.pick ?_))) <| ?_
            refine ha_done (by kernel_rfl) <|
              hx_then_normal <|
              hc_ret <| ?_
            exact results_1 (.inr rfl) rfl rfl fun w' H' => ⟨rfl, H'.ent (Ent.nil _)⟩
          · skip
            refine ho_new rfl (on_buildSliceN rfl rfl rfl) rfl rfl rfl (fun _ => (by first | assumption | exact Ent.refl _ | exact Ent.nil _ | (repeat (first | exact Ent.refl _ | exact Ent.nil _ | refine Ent.pick ?_)))) (fun b125 => ?_)
            refine ha_two 7 9 (by kernel_rfl) ?_ ?_
            · skip
              refine ho_new rfl (on_appendR (A := some ⟨b120, 0, none⟩) (news := hs3) rfl rfl (by rw [e3.1]; exact SrcIs.old HS3) (by rw [hs3l, hlen63, Nat.mul_one]) hone3 (by decide) (by omega)) rfl rfl rfl (fun _ => (by first | assumption | exact Ent.refl _ | exact Ent.nil _ | (repeat (first | exact Ent.refl _ | exact Ent.nil _ | refine Ent.pick ?_)))) ?_
              rintro ⟨B5, capB5⟩
              dsimp only
              refine ha_one 9 (by kernel_rfl) <| ?_
              refine ho_u rfl (on_mark rfl) rfl rfl rfl (by first | assumption | exact Ent.refl _ | exact Ent.nil _ | (repeat (first | exact Ent.refl _ | exact Ent.nil _ | refine Ent.pick ?_))) ?_
              refine ha_one 10 (by kernel_rfl) <| ?_
              refine ho_new rfl (on_buildSliceN rfl rfl rfl) rfl rfl rfl (fun _ => (by first | assumption | exact Ent.refl _ | exact Ent.nil _ | (repeat (first | exact Ent.refl _ | exact Ent.nil _ | refine Ent.pick ?_)))) (fun b127 => ?_)
              refine ha_one 11 (by kernel_rfl) <| ?_
              refine ho_new rfl (on_appendR (A := B5) (news := [.slice (some ⟨b125, 0, none⟩) 1 1]) rfl rfl (SrcIs.blk (b := b127)) rfl (by simp [Value.oneCell']) (by decide) (by omega)) rfl rfl rfl (fun _ => (by first | assumption | exact Ent.refl _ | exact Ent.nil _ | (repeat (first | exact Ent.refl _ | exact Ent.nil _ | refine Ent.pick ?_)))) ?_
              rintro ⟨B6, capB6⟩
              dsimp only
              refine ha_one 12 (by kernel_rfl) <| ?_
              refine ho_c rfl Try.call17 rfl rfl rfl (fun w1 H1 => Own.calln H1 fun D' hold hin H2 => Lists_T D' w1 c4 _ (r0.take 63 ++ [[122]]) (r0.take 63 ++ [[122]]) (hin _ fun h hs ho => stars_rep (cs := [c4]) hs) (hin _ fun h hs ho => rep_row (A := B6) hs _ (by rw [List.length_append, hlen63]; simp) (by rw [List.nil_append]; exact repL_append (repL_of_old ho hrep3) (repL_one1 (rep_bytes (b := b125) hs [122] rfl (by simp))))) rfl) (by first | assumption | exact Ent.refl _ | exact Ent.nil _ | (repeat (first | exact Ent.refl _ | exact Ent.nil _ | refine Ent.pick ?_))) ?_
              refine ha_take 13 rfl (ov_move rfl) rfl rfl rfl (by kernel_rfl) (by kernel_rfl) (by kernel_rfl) (by first | assumption | exact Ent.refl _ | exact Ent.nil _ | (repeat (first | exact Ent.refl _ | exact Ent.nil _ | refine Ent.pick ?_))) <| ?_
              refine ha_one 14 (by kernel_rfl) <| ?_
              refine ho_c rfl Try.call23 rfl rfl rfl (fun w1 H1 => Own.calln H1 fun D' hold hin H2 => wwakes_spec D' w1) (by first | assumption | exact Ent.refl _ | exact Ent.nil _ | (repeat (first | exact Ent.refl _ | exact Ent.nil _ | refine Ent.pick ?_))) ?_
              refine ha_take 15 rfl (ov_pickT rfl rfl) rfl rfl rfl (by kernel_rfl) (by kernel_rfl) (by kernel_rfl) (by first | assumption | exact Ent.refl _ | exact Ent.nil _ | (repeat (first | exact Ent.refl _ | exact Ent.nil _ | refine Ent.pick ?_))) <| ?_
              refine ha_take 16 rfl (ov_assign rfl) rfl rfl rfl (by kernel_rfl) (by kernel_rfl) (by kernel_rfl) (by first | assumption | exact Ent.refl _ | exact Ent.nil _ | (repeat (first | exact Ent.refl _ | exact Ent.nil _ | refine Ent.pick ?_))) <| ?_
              refine ha_done (by kernel_rfl) <|
                hx_then_normal <|
                hc_ret <| ?_
              exact results_1 (.inr rfl) rfl rfl fun w' H' => ⟨rfl, H'.ent (Ent.nil _)⟩
            · skip
              refine ho_u rfl (on_mark rfl) rfl rfl rfl (by first | assumption | exact Ent.refl _ | exact Ent.nil _ | (repeat (first | exact Ent.refl _ | exact Ent.nil _ | refine Ent.pick ?_))) ?_
              refine ha_two 7 10 (by kernel_rfl) ?_ ?_
              · skip
                refine ho_new rfl (on_appendR (A := some ⟨b120, 0, none⟩) (news := hs3) rfl rfl (by rw [e3.1]; exact SrcIs.old HS3) (by rw [hs3l, hlen63, Nat.mul_one]) hone3 (by decide) (by omega)) rfl rfl rfl (fun _ => (by first | assumption | exact Ent.refl _ | exact Ent.nil _ | (repeat (first | exact Ent.refl _ | exact Ent.nil _ | refine Ent.pick ?_)))) ?_
                rintro ⟨B5, capB5⟩
                dsimp only
                refine ha_one 10 (by kernel_rfl) <| ?_
                refine ho_new rfl (on_buildSliceN rfl rfl rfl) rfl rfl rfl (fun _ => (by first | assumption | exact Ent.refl _ | exact Ent.nil _ | (repeat (first | exact Ent.refl _ | exact Ent.nil _ | refine Ent.pick ?_)))) (fun b127 => ?_)
                refine ha_one 11 (by kernel_rfl) <| ?_
                refine ho_new rfl (on_appendR (A := B5) (news := [.slice (some ⟨b125, 0, none⟩) 1 1]) rfl rfl (SrcIs.blk (b := b127)) rfl (by simp [Value.oneCell']) (by decide) (by omega)) rfl rfl rfl (fun _ => (by first | assumption | exact Ent.refl _ | exact Ent.nil _ | (repeat (first | exact Ent.refl _ | exact Ent.nil _ | refine Ent.pick ?_)))) ?_
                rintro ⟨B6, capB6⟩
                dsimp only
                refine ha_one 12 (by kernel_rfl) <| ?_
                refine ho_c rfl Try.call17 rfl rfl rfl (fun w1 H1 => Own.calln H1 fun D' hold hin H2 => Lists_T D' w1 c4 _ (r0.take 63 ++ [[122]]) (r0.take 63 ++ [[122]]) (hin _ fun h hs ho => stars_rep (cs := [c4]) hs) (hin _ fun h hs ho => rep_row (A := B6) hs _ (by rw [List.length_append, hlen63]; simp) (by rw [List.nil_append]; exact repL_append (repL_of_old ho hrep3) (repL_one1 (rep_bytes (b := b125) hs [122] rfl (by simp))))) rfl) (by first | assumption | exact Ent.refl _ | exact Ent.nil _ | (repeat (first | exact Ent.refl _ | exact Ent.nil _ | refine Ent.pick ?_))) ?_
                refine ha_take 13 rfl (ov_move rfl) rfl rfl rfl (by kernel_rfl) (by kernel_rfl) (by kernel_rfl) (by first | assumption | exact Ent.refl _ | exact Ent.nil _ | (repeat (first | exact Ent.refl _ | exact Ent.nil _ | refine Ent.pick ?_))) <| ?_
                refine ha_one 14 (by kernel_rfl) <| ?_
                refine ho_c rfl Try.call23 rfl rfl rfl (fun w1 H1 => Own.calln H1 fun D' hold hin H2 => wwakes_spec D' w1) (by first | assumption | exact Ent.refl _ | exact Ent.nil _ | (repeat (first | exact Ent.refl _ | exact Ent.nil _ | refine Ent.pick ?_))) ?_
                refine ha_take 15 rfl (ov_pickT rfl rfl) rfl rfl rfl (by kernel_rfl) (by kernel_rfl) (by kernel_rfl) (by first | assumption | exact Ent.refl _ | exact Ent.nil _ | (repeat (first | exact Ent.refl _ | exact Ent.nil _ | refine Ent.pick ?_))) <| ?_
                refine ha_take 16 rfl (ov_assign rfl) rfl rfl rfl (by kernel_rfl) (by kernel_rfl) (by kernel_rfl) (by first | assumption | exact Ent.refl _ | exact Ent.nil _ | (repeat (first | exact Ent.refl _ | exact Ent.nil _ | refine Ent.pick ?_))) <| ?_
                refine ha_done (by kernel_rfl) <|
                  hx_then_normal <|
                  hc_ret <| ?_
                exact results_1 (.inr rfl) rfl rfl fun w' H' => ⟨rfl, H'.ent (Ent.nil _)⟩
              · skip
                refine ho_new rfl (on_buildSliceN rfl rfl rfl) rfl rfl rfl (fun _ => (by first | assumption | exact Ent.refl _ | exact Ent.nil _ | (repeat (first | exact Ent.refl _ | exact Ent.nil _ | refine Ent.pick ?_)))) (fun b127 => ?_)
                refine ha_one 7 (by kernel_rfl) <| ?_
                refine ho_new rfl (on_appendR (A := some ⟨b120, 0, none⟩) (news := hs3) rfl rfl (by rw [e3.1]; exact SrcIs.old HS3) (by rw [hs3l, hlen63, Nat.mul_one]) hone3 (by decide) (by omega)) rfl rfl rfl (fun _ => (by first | assumption | exact Ent.refl _ | exact Ent.nil _ | (repeat (first | exact Ent.refl _ | exact Ent.nil _ | refine Ent.pick ?_)))) ?_
                rintro ⟨B5, capB5⟩
                dsimp only
                refine ha_one 11 (by kernel_rfl) <| ?_
                refine ho_new rfl (on_appendR (A := B5) (news := [.slice (some ⟨b125, 0, none⟩) 1 1]) rfl rfl (SrcIs.blk (b := b127)) rfl (by simp [Value.oneCell']) (by decide) (by omega)) rfl rfl rfl (fun _ => (by first | assumption | exact Ent.refl _ | exact Ent.nil _ | (repeat (first | exact Ent.refl _ | exact Ent.nil _ | refine Ent.pick ?_)))) ?_
                rintro ⟨B6, capB6⟩
                dsimp only
                refine ha_one 12 (by kernel_rfl) <| ?_
                refine ho_c rfl Try.call17 rfl rfl rfl (fun w1 H1 => Own.calln H1 fun D' hold hin H2 => Lists_T D' w1 c4 _ (r0.take 63 ++ [[122]]) (r0.take 63 ++ [[122]]) (hin _ fun h hs ho => stars_rep (cs := [c4]) hs) (hin _ fun h hs ho => rep_row (A := B6) hs _ (by rw [List.length_append, hlen63]; simp) (by rw [List.nil_append]; exact repL_append (repL_of_old ho hrep3) (repL_one1 (rep_bytes (b := b125) hs [122] rfl (by simp))))) rfl) (by first | assumption | exact Ent.refl _ | exact Ent.nil _ | (repeat (first | exact Ent.refl _ | exact Ent.nil _ | refine Ent.pick ?_))) ?_
                refine ha_take 13 rfl (ov_move rfl) rfl rfl rfl (by kernel_rfl) (by kernel_rfl) (by kernel_rfl) (by first | assumption | exact Ent.refl _ | exact Ent.nil _ | (repeat (first | exact Ent.refl _ | exact Ent.nil _ | refine Ent.pick ?_))) <| ?_
                refine ha_one 14 (by kernel_rfl) <| ?_
                refine ho_c rfl Try.call23 rfl rfl rfl (fun w1 H1 => Own.calln H1 fun D' hold hin H2 => wwakes_spec D' w1) (by first | assumption | exact Ent.refl _ | exact Ent.nil _ | (repeat (first | exact Ent.refl _ | exact Ent.nil _ | refine Ent.pick ?_))) ?_
                refine ha_take 15 rfl (ov_pickT rfl rfl) rfl rfl rfl (by kernel_rfl) (by kernel_rfl) (by kernel_rfl) (by first | assumption | exact Ent.refl _ | exact Ent.nil _ | (repeat (first | exact Ent.refl _ | exact Ent.nil _ | refine Ent.pick ?_))) <| ?_
                refine ha_take 16 rfl (ov_assign rfl) rfl rfl rfl (by kernel_rfl) (by kernel_rfl) (by kernel_rfl) (by first | assumption | exact Ent.refl _ | exact Ent.nil _ | (repeat (first | exact Ent.refl _ | exact Ent.nil _ | refine Ent.pick ?_))) <| ?_
                refine ha_done (by kernel_rfl) <|
                  hx_then_normal <|
                  hc_ret <| ?_
                exact results_1 (.inr rfl) rfl rfl fun w' H' => ⟨rfl, H'.ent (Ent.nil _)⟩
        · skip
          refine ho_new rfl (on_buildSliceN rfl rfl rfl) rfl rfl rfl (fun _ => (by first | assumption | exact Ent.refl _ | exact Ent.nil _ | (repeat (first | exact Ent.refl _ | exact Ent.nil _ | refine Ent.pick ?_)))) (fun b125 => ?_)
          refine ha_two 3 9 (by kernel_rfl) ?_ ?_
          · skip
            refine ho_new rfl (on_buildSliceN rfl rfl rfl) rfl rfl rfl (fun _ => (by first | assumption | exact Ent.refl _ | exact Ent.nil _ | (repeat (first | exact Ent.refl _ | exact Ent.nil _ | refine Ent.pick ?_)))) (fun b120 => ?_)
            refine ha_ent (Ent.blk_row (b := b120) 1 0 rfl (by decide)) ?_
            refine ha_two 7 9 (by kernel_rfl) ?_ ?_
            · skip
              refine ho_new rfl (on_appendR (A := some ⟨b120, 0, none⟩) (news := hs3) rfl rfl (by rw [e3.1]; exact SrcIs.old HS3) (by rw [hs3l, hlen63, Nat.mul_one]) hone3 (by decide) (by omega)) rfl rfl rfl (fun _ => (by first | assumption | exact Ent.refl _ | exact Ent.nil _ | (repeat (first | exact Ent.refl _ | exact Ent.nil _ | refine Ent.pick ?_)))) ?_
              rintro ⟨B5, capB5⟩
              dsimp only
              refine ha_one 9 (by kernel_rfl) <| ?_
              refine ho_u rfl (on_mark rfl) rfl rfl rfl (by first | assumption | exact Ent.refl _ | exact Ent.nil _ | (repeat (first | exact Ent.refl _ | exact Ent.nil _ | refine Ent.pick ?_))) ?_
              refine ha_one 10 (by kernel_rfl) <| ?_
              refine ho_new rfl (on_buildSliceN rfl rfl rfl) rfl rfl rfl (fun _ => (by first | assumption | exact Ent.refl _ | exact Ent.nil _ | (repeat (first | exact Ent.refl _ | exact Ent.nil _ | refine Ent.pick ?_)))) (fun b127 => ?_)
              refine ha_one 11 (by kernel_rfl) <| ?_
              refine ho_new rfl (on_appendR (A := B5) (news := [.slice (some ⟨b125, 0, none⟩) 1 1]) rfl rfl (SrcIs.blk (b := b127)) rfl (by simp [Value.oneCell']) (by decide) (by omega)) rfl rfl rfl (fun _ => (by first | assumption | exact Ent.refl _ | exact Ent.nil _ | (repeat (first | exact Ent.refl _ | exact Ent.nil _ | refine Ent.pick ?_)))) ?_
              rintro ⟨B6, capB6⟩
              dsimp only
              refine ha_one 12 (by kernel_rfl) <| ?_
              refine ho_c rfl Try.call17 rfl rfl rfl (fun w1 H1 => Own.calln H1 fun D' hold hin H2 => Lists_T D' w1 c4 _ (r0.take 63 ++ [[122]]) (r0.take 63 ++ [[122]]) (hin _ fun h hs ho => stars_rep (cs := [c4]) hs) (hin _ fun h hs ho => rep_row (A := B6) hs _ (by rw [List.length_append, hlen63]; simp) (by rw [List.nil_append]; exact repL_append (repL_of_old ho hrep3) (repL_one1 (rep_bytes (b := b125) hs [122] rfl (by simp))))) rfl) (by first | assumption | exact Ent.refl _ | exact Ent.nil _ | (repeat (first | exact Ent.refl _ | exact Ent.nil _ | refine Ent.pick ?_))) ?_
              refine ha_take 13 rfl (ov_move rfl) rfl rfl rfl (by kernel_rfl) (by kernel_rfl) (by kernel_rfl) (by first | assumption | exact Ent.refl _ | exact Ent.nil _ | (repeat (first | exact Ent.refl _ | exact Ent.nil _ | refine Ent.pick ?_))) <| ?_
              refine ha_one 14 (by kernel_rfl) <| ?_
              refine ho_c rfl Try.call23 rfl rfl rfl (fun w1 H1 => Own.calln H1 fun D' hold hin H2 => wwakes_spec D' w1) (by first | assumption | exact Ent.refl _ | exact Ent.nil _ | (repeat (first | exact Ent.refl _ | exact Ent.nil _ | refine Ent.pick ?_))) ?_
              refine ha_take 15 rfl (ov_pickT rfl rfl) rfl rfl rfl (by kernel_rfl) (by kernel_rfl) (by kernel_rfl) (by first | assumption | exact Ent.refl _ | exact Ent.nil _ | (repeat (first | exact Ent.refl _ | exact Ent.nil _ | refine Ent.pick ?_))) <| ?_
              refine ha_take 16 rfl (ov_assign rfl) rfl rfl rfl (by kernel_rfl) (by kernel_rfl) (by kernel_rfl) (by first | assumption | exact Ent.refl _ | exact Ent.nil _ | (repeat (first | exact Ent.refl _ | exact Ent.nil _ | refine Ent.pick ?_))) <| ?_
              refine ha_done (by kernel_rfl) <|
                hx_then_normal <|
                hc_ret <| ?_
              exact results_1 (.inr rfl) rfl rfl fun w' H' => ⟨rfl, H'.ent (Ent.nil _)⟩
            · skip
              refine ho_u rfl (on_mark rfl) rfl rfl rfl (by first | assumption | exact Ent.refl _ | exact Ent.nil _ | (repeat (first | exact Ent.refl _ | exact Ent.nil _ | refine Ent.pick ?_))) ?_
              refine ha_two 7 10 (by kernel_rfl) ?_ ?_
              · skip
                refine ho_new rfl (on_appendR (A := some ⟨b120, 0, none⟩) (news := hs3) rfl rfl (by rw [e3.1]; exact SrcIs.old HS3) (by rw [hs3l, hlen63, Nat.mul_one]) hone3 (by decide) (by omega)) rfl rfl rfl (fun _ => (by first | assumption | exact Ent.refl _ | exact Ent.nil _ | (repeat (first | exact Ent.refl _ | exact Ent.nil _ | refine Ent.pick ?_)))) ?_
                rintro ⟨B5, capB5⟩
                dsimp only
                refine ha_one 10 (by kernel_rfl) <| ?_
                refine ho_new rfl (on_buildSliceN rfl rfl rfl) rfl rfl rfl (fun _ => (by first | assumption | exact Ent.refl _ | exact Ent.nil _ | (repeat (first | exact Ent.refl _ | exact Ent.nil _ | refine Ent.pick ?_)))) (fun b127 => ?_)
                refine ha_one 11 (by kernel_rfl) <| ?_
                refine ho_new rfl (on_appendR (A := B5) (news := [.slice (some ⟨b125, 0, none⟩) 1 1]) rfl rfl (SrcIs.blk (b := b127)) rfl (by simp [Value.oneCell']) (by decide) (by omega)) rfl rfl rfl (fun _ => (by first | assumption | exact Ent.refl _ | exact Ent.nil _ | (repeat (first | exact Ent.refl _ | exact Ent.nil _ | refine Ent.pick ?_)))) ?_
                rintro ⟨B6, capB6⟩
                dsimp only
                refine ha_one 12 (by kernel_rfl) <| ?_
                refine ho_c rfl Try.call17 rfl rfl rfl (fun w1 H1 => Own.calln H1 fun D' hold hin H2 => Lists_T D' w1 c4 _ (r0.take 63 ++ [[122]]) (r0.take 63 ++ [[122]]) (hin _ fun h hs ho => stars_rep (cs := [c4]) hs) (hin _ fun h hs ho => rep_row (A := B6) hs _ (by rw [List.length_append, hlen63]; simp) (by rw [List.nil_append]; exact repL_append (repL_of_old ho hrep3) (repL_one1 (rep_bytes (b := b125) hs [122] rfl (by simp))))) rfl) (by first | assumption | exact Ent.refl _ | exact Ent.nil _ | (repeat (first | exact Ent.refl _ | exact Ent.nil _ | refine Ent.pick ?_))) ?_
                refine ha_take 13 rfl (ov_move rfl) rfl rfl rfl (by kernel_rfl) (by kernel_rfl) (by kernel_rfl) (by first | assumption | exact Ent.refl _ | exact Ent.nil _ | (repeat (first | exact Ent.refl _ | exact Ent.nil _ | refine Ent.pick ?_))) <| ?_
                refine ha_one 14 (by kernel_rfl) <| ?_
                refine ho_c rfl Try.call23 rfl rfl rfl (fun w1 H1 => Own.calln H1 fun D' hold hin H2 => wwakes_spec D' w1) (by first | assumption | exact Ent.refl _ | exact Ent.nil _ | (repeat (first | exact Ent.refl _ | exact Ent.nil _ | refine Ent.pick ?_))) ?_
                refine ha_take 15 rfl (ov_pickT rfl rfl) rfl rfl rfl (by kernel_rfl) (by kernel_rfl) (by kernel_rfl) (by first | assumption | exact Ent.refl _ | exact Ent.nil _ | (repeat (first | exact Ent.refl _ | exact Ent.nil _ | refine Ent.pick ?_))) <| ?_
                refine ha_take 16 rfl (ov_assign rfl) rfl rfl rfl (by kernel_rfl) (by kernel_rfl) (by kernel_rfl) (by first | assumption | exact Ent.refl _ | exact Ent.nil _ | (repeat (first | exact Ent.refl _ | exact Ent.nil _ | refine Ent.pick ?_))) <| ?_
                refine ha_done (by kernel_rfl) <|
                  hx_then_normal <|
                  hc_ret <| ?_
                exact results_1 (.inr rfl) rfl rfl fun w' H' => ⟨rfl, H'.ent (Ent.nil _)⟩
              · skip
                refine ho_new rfl (on_buildSliceN rfl rfl rfl) rfl rfl rfl (fun _ => (by first | assumption | exact Ent.refl _ | exact Ent.nil _ | (repeat (first | exact Ent.refl _ | exact Ent.nil _ | refine Ent.pick ?_)))) (fun b127 => ?_)
                refine ha_one 7 (by kernel_rfl) <| ?_
                refine ho_new rfl (on_appendR (A := some ⟨b120, 0, none⟩) (news := hs3) rfl rfl (by rw [e3.1]; exact SrcIs.old HS3) (by rw [hs3l, hlen63, Nat.mul_one]) hone3 (by decide) (by omega)) rfl rfl rfl (fun _ => (by first | assumption | exact Ent.refl _ | exact Ent.nil _ | (repeat (first | exact Ent.refl _ | exact Ent.nil _ | refine Ent.pick ?_)))) ?_
                rintro ⟨B5, capB5⟩
                dsimp only
                refine ha_one 11 (by kernel_rfl) <| ?_
                refine ho_new rfl (on_appendR (A := B5) (news := [.slice (some ⟨b125, 0, none⟩) 1 1]) rfl rfl (SrcIs.blk (b := b127)) rfl (by simp [Value.oneCell']) (by decide) (by omega)) rfl rfl rfl (fun _ => (by first | assumption | exact Ent.refl _ | exact Ent.nil _ | (repeat (first | exact Ent.refl _ | exact Ent.nil _ | refine Ent.pick ?_)))) ?_
                rintro ⟨B6, capB6⟩
                dsimp only
                refine ha_one 12 (by kernel_rfl) <| ?_
                refine ho_c rfl Try.call17 rfl rfl rfl (fun w1 H1 => Own.calln H1 fun D' hold hin H2 => Lists_T D' w1 c4 _ (r0.take 63 ++ [[122]]) (r0.take 63 ++ [[122]]) (hin _ fun h hs ho => stars_rep (cs := [c4]) hs) (hin _ fun h hs ho => rep_row (A := B6) hs _ (by rw [List.length_append, hlen63]; simp) (by rw [List.nil_append]; exact repL_append (repL_of_old ho hrep3) (repL_one1 (rep_bytes (b := b125) hs [122] rfl (by simp))))) rfl) (by first | assumption | exact Ent.refl _ | exact Ent.nil _ | (repeat (first | exact Ent.refl _ | exact Ent.nil _ | refine Ent.pick ?_))) ?_
                refine ha_take 13 rfl (ov_move rfl) rfl rfl rfl (by kernel_rfl) (by kernel_rfl) (by kernel_rfl) (by first | assumption | exact Ent.refl _ | exact Ent.nil _ | (repeat (first | exact Ent.refl _ | exact Ent.nil _ | refine Ent.pick ?_))) <| ?_
                refine ha_one 14 (by kernel_rfl) <| ?_
                refine ho_c rfl Try.call23 rfl rfl rfl (fun w1 H1 => Own.calln H1 fun D' hold hin H2 => wwakes_spec D' w1) (by first | assumption | exact Ent.refl _ | exact Ent.nil _ | (repeat (first | exact Ent.refl _ | exact Ent.nil _ | refine Ent.pick ?_))) ?_
                refine ha_take 15 rfl (ov_pickT rfl rfl) rfl rfl rfl (by kernel_rfl) (by kernel_rfl) (by kernel_rfl) (by first | assumption | exact Ent.refl _ | exact Ent.nil _ | (repeat (first | exact Ent.refl _ | exact Ent.nil _ | refine Ent.pick ?_))) <| ?_
                refine ha_take 16 rfl (ov_assign rfl) rfl rfl rfl (by kernel_rfl) (by kernel_rfl) (by kernel_rfl) (by first | assumption | exact Ent.refl _ | exact Ent.nil _ | (repeat (first | exact Ent.refl _ | exact Ent.nil _ | refine Ent.pick ?_))) <| ?_
                refine ha_done (by kernel_rfl) <|
                  hx_then_normal <|
                  hc_ret <| ?_
                exact results_1 (.inr rfl) rfl rfl fun w' H' => ⟨rfl, H'.ent (Ent.nil _)⟩
          · skip
            refine ho_u rfl (on_mark rfl) rfl rfl rfl (by first | assumption | exact Ent.refl _ | exact Ent.nil _ | (repeat (first | exact Ent.refl _ | exact Ent.nil _ | refine Ent.pick ?_))) ?_
            refine ha_two 3 10 (by kernel_rfl) ?_ ?_
            · skip
              refine ho_new rfl (on_buildSliceN rfl rfl rfl) rfl rfl rfl (fun _ => (by first | assumption | exact Ent.refl _ | exact Ent.nil _ | (repeat (first | exact Ent.refl _ | exact Ent.nil _ | refine Ent.pick ?_)))) (fun b120 => ?_)
              refine ha_ent (Ent.blk_row (b := b120) 1 0 rfl (by decide)) ?_
              refine ha_two 7 10 (by kernel_rfl) ?_ ?_
              · skip
                refine ho_new rfl (on_appendR (A := some ⟨b120, 0, none⟩) (news := hs3) rfl rfl (by rw [e3.1]; exact SrcIs.old HS3) (by rw [hs3l, hlen63, Nat.mul_one]) hone3 (by decide) (by omega)) rfl rfl rfl (fun _ => (by first | assumption | exact Ent.refl _ | exact Ent.nil _ | (repeat (first | exact Ent.refl _ | exact Ent.nil _ | refine Ent.pick ?_)))) ?_
                rintro ⟨B5, capB5⟩
                dsimp only
                refine ha_one 10 (by kernel_rfl) <| ?_
                refine ho_new rfl (on_buildSliceN rfl rfl rfl) rfl rfl rfl (fun _ => (by first | assumption | exact Ent.refl _ | exact Ent.nil _ | (repeat (first | exact Ent.refl _ | exact Ent.nil _ | refine Ent.pick ?_)))) (fun b127 => ?_)
                refine ha_one 11 (by kernel_rfl) <| ?_
                refine ho_new rfl (on_appendR (A := B5) (news := [.slice (some ⟨b125, 0, none⟩) 1 1]) rfl rfl (SrcIs.blk (b := b127)) rfl (by simp [Value.oneCell']) (by decide) (by omega)) rfl rfl rfl (fun _ => (by first | assumption | exact Ent.refl _ | exact Ent.nil _ | (repeat (first | exact Ent.refl _ | exact Ent.nil _ | refine Ent.pick ?_)))) ?_
                rintro ⟨B6, capB6⟩
                dsimp only
                refine ha_one 12 (by kernel_rfl) <| ?_
                refine ho_c rfl Try.call17 rfl rfl rfl (fun w1 H1 => Own.calln H1 fun D' hold hin H2 => Lists_T D' w1 c4 _ (r0.take 63 ++ [[122]]) (r0.take 63 ++ [[122]]) (hin _ fun h hs ho => stars_rep (cs := [c4]) hs) (hin _ fun h hs ho => rep_row (A := B6) hs _ (by rw [List.length_append, hlen63]; simp) (by rw [List.nil_append]; exact repL_append (repL_of_old ho hrep3) (repL_one1 (rep_bytes (b := b125) hs [122] rfl (by simp))))) rfl) (by first | assumption | exact Ent.refl _ | exact Ent.nil _ | (repeat (first | exact Ent.refl _ | exact Ent.nil _ | refine Ent.pick ?_))) ?_
                refine ha_take 13 rfl (ov_move rfl) rfl rfl rfl (by kernel_rfl) (by kernel_rfl) (by kernel_rfl) (by first | assumption | exact Ent.refl _ | exact Ent.nil _ | (repeat (first | exact Ent.refl _ | exact Ent.nil _ | refine Ent.pick ?_))) <| ?_
                refine ha_one 14 (by kernel_rfl) <| ?_
                refine ho_c rfl Try.call23 rfl rfl rfl (fun w1 H1 => Own.calln H1 fun D' hold hin H2 => wwakes_spec D' w1) (by first | assumption | exact Ent.refl _ | exact Ent.nil _ | (repeat (first | exact Ent.refl _ | exact Ent.nil _ | refine Ent.pick ?_))) ?_
                refine ha_take 15 rfl (ov_pickT rfl rfl) rfl rfl rfl (by kernel_rfl) (by kernel_rfl) (by kernel_rfl) (by first | assumption | exact Ent.refl _ | exact Ent.nil _ | (repeat (first | exact Ent.refl _ | exact Ent.nil _ | refine Ent.pick ?_))) <| ?_
                refine ha_take 16 rfl (ov_assign rfl) rfl rfl rfl (by kernel_rfl) (by kernel_rfl) (by kernel_rfl) (by first | assumption | exact Ent.refl _ | exact Ent.nil _ | (repeat (first | exact Ent.refl _ | exact Ent.nil _ | refine Ent.pick ?_))) <| ?_
                refine ha_done (by kernel_rfl) <|
                  hx_then_normal <|
                  hc_ret <| ?_
                exact results_1 (.inr rfl) rfl rfl fun w' H' => ⟨rfl, H'.ent (Ent.nil _)⟩
              · skip
                refine ho_new rfl (on_buildSliceN rfl rfl rfl) rfl rfl rfl (fun _ => (by first | assumption | exact Ent.refl _ | exact Ent.nil _ | (repeat (first | exact Ent.refl _ | exact Ent.nil _ | refine Ent.pick ?_)))) (fun b127 => ?_)
                refine ha_one 7 (by kernel_rfl) <| ?_
                refine ho_new rfl (on_appendR (A := some ⟨b120, 0, none⟩) (news := hs3) rfl rfl (by rw [e3.1]; exact SrcIs.old HS3) (by rw [hs3l, hlen63, Nat.mul_one]) hone3 (by decide) (by omega)) rfl rfl rfl (fun _ => (by first | assumption | exact Ent.refl _ | exact Ent.nil _ | (repeat (first | exact Ent.refl _ | exact Ent.nil _ | refine Ent.pick ?_)))) ?_
                rintro ⟨B5, capB5⟩
                dsimp only
                refine ha_one 11 (by kernel_rfl) <| ?_
                refine ho_new rfl (on_appendR (A := B5) (news := [.slice (some ⟨b125, 0, none⟩) 1 1]) rfl rfl (SrcIs.blk (b := b127)) rfl (by simp [Value.oneCell']) (by decide) (by omega)) rfl rfl rfl (fun _ => (by first | assumption | exact Ent.refl _ | exact Ent.nil _ | (repeat (first | exact Ent.refl _ | exact Ent.nil _ | refine Ent.pick ?_)))) ?_
                rintro ⟨B6, capB6⟩
                dsimp only
                refine ha_one 12 (by kernel_rfl) <| ?_
                refine ho_c rfl Try.call17 rfl rfl rfl (fun w1 H1 => Own.calln H1 fun D' hold hin H2 => Lists_T D' w1 c4 _ (r0.take 63 ++ [[122]]) (r0.take 63 ++ [[122]]) (hin _ fun h hs ho => stars_rep (cs := [c4]) hs) (hin _ fun h hs ho => rep_row (A := B6) hs _ (by rw [List.length_append, hlen63]; simp) (by rw [List.nil_append]; exact repL_append (repL_of_old ho hrep3) (repL_one1 (rep_bytes (b := b125) hs [122] rfl (by simp))))) rfl) (by first | assumption | exact Ent.refl _ | exact Ent.nil _ | (repeat (first | exact Ent.refl _ | exact Ent.nil _ | refine Ent.pick ?_))) ?_
                refine ha_take 13 rfl (ov_move rfl) rfl rfl rfl (by kernel_rfl) (by kernel_rfl) (by kernel_rfl) (by first | assumption | exact Ent.refl _ | exact Ent.nil _ | (repeat (first | exact Ent.refl _ | exact Ent.nil _ | refine Ent.pick ?_))) <| ?_
                refine ha_one 14 (by kernel_rfl) <| ?_
                refine ho_c rfl Try.call23 rfl rfl rfl (fun w1 H1 => Own.calln H1 fun D' hold hin H2 => wwakes_spec D' w1) (by first | assumption | exact Ent.refl _ | exact Ent.nil _ | (repeat (first | exact Ent.refl _ | exact Ent.nil _ | refine Ent.pick ?_))) ?_
                refine ha_take 15 rfl (ov_pickT rfl rfl) rfl rfl rfl (by kernel_rfl) (by kernel_rfl) (by kernel_rfl) (by first | assumption | exact Ent.refl _ | exact Ent.nil _ | (repeat (first | exact Ent.refl _ | exact Ent.nil _ | refine Ent.pick ?_))) <| ?_
                refine ha_take 16 rfl (ov_assign rfl) rfl rfl rfl (by kernel_rfl) (by kernel_rfl) (by kernel_rfl) (by first | assumption | exact Ent.refl _ | exact Ent.nil _ | (repeat (first | exact Ent.refl _ | exact Ent.nil _ | refine Ent.pick ?_))) <| ?_
                refine ha_done (by kernel_rfl) <|
                  hx_then_normal <|
                  hc_ret <| ?_
                exact results_1 (.inr rfl) rfl rfl fun w' H' => ⟨rfl, H'.ent (Ent.nil _)⟩
            · skip
              refine ho_new rfl (on_buildSliceN rfl rfl rfl) rfl rfl rfl (fun _ => (by first | assumption | exact Ent.refl _ | exact Ent.nil _ | (repeat (first | exact Ent.refl _ | exact Ent.nil _ | refine Ent.pick ?_)))) (fun b127 => ?_)
              refine ha_one 3 (by kernel_rfl) <| ?_
              refine ho_new rfl (on_buildSliceN rfl rfl rfl) rfl rfl rfl (fun _ => (by first | assumption | exact Ent.refl _ | exact Ent.nil _ | (repeat (first | exact Ent.refl _ | exact Ent.nil _ | refine Ent.pick ?_)))) (fun b120 => ?_)
              refine ha_ent (Ent.blk_row (b := b120) 1 0 rfl (by decide)) ?_
              refine ha_one 7 (by kernel_rfl) <| ?_
              refine ho_new rfl (on_appendR (A := some ⟨b120, 0, none⟩) (news := hs3) rfl rfl (by rw [e3.1]; exact SrcIs.old HS3) (by rw [hs3l, hlen63, Nat.mul_one]) hone3 (by decide) (by omega)) rfl rfl rfl (fun _ => (by first | assumption | exact Ent.refl _ | exact Ent.nil _ | (repeat (first | exact Ent.refl _ | exact Ent.nil _ | refine Ent.pick ?_)))) ?_
              rintro ⟨B5, capB5⟩
              dsimp only
              refine ha_one 11 (by kernel_rfl) <| ?_
              refine ho_new rfl (on_appendR (A := B5) (news := [.slice (some ⟨b125, 0, none⟩) 1 1]) rfl rfl (SrcIs.blk (b := b127)) rfl (by simp [Value.oneCell']) (by decide) (by omega)) rfl rfl rfl (fun _ => (by first | assumption | exact Ent.refl _ | exact Ent.nil _ | (repeat (first | exact Ent.refl _ | exact Ent.nil _ | refine Ent.pick ?_)))) ?_
              rintro ⟨B6, capB6⟩
              dsimp only
              refine ha_one 12 (by kernel_rfl) <| ?_
              refine ho_c rfl Try.call17 rfl rfl rfl (fun w1 H1 => Own.calln H1 fun D' hold hin H2 => Lists_T D' w1 c4 _ (r0.take 63 ++ [[122]]) (r0.take 63 ++ [[122]]) (hin _ fun h hs ho => stars_rep (cs := [c4]) hs) (hin _ fun h hs ho => rep_row (A := B6) hs _ (by rw [List.length_append, hlen63]; simp) (by rw [List.nil_append]; exact repL_append (repL_of_old ho hrep3) (repL_one1 (rep_bytes (b := b125) hs [122] rfl (by simp))))) rfl) (by first | assumption | exact Ent.refl _ | exact Ent.nil _ | (repeat (first | exact Ent.refl _ | exact Ent.nil _ | refine Ent.pick ?_))) ?_
              refine ha_take 13 rfl (ov_move rfl) rfl rfl rfl (by kernel_rfl) (by kernel_rfl) (by kernel_rfl) (by first | assumption | exact Ent.refl _ | exact Ent.nil _ | (repeat (first | exact Ent.refl _ | exact Ent.nil _ | refine Ent.pick ?_))) <| ?_
              refine ha_one 14 (by kernel_rfl) <| ?_
              refine ho_c rfl Try.call23 rfl rfl rfl (fun w1 H1 => Own.calln H1 fun D' hold hin H2 => wwakes_spec D' w1) (by first | assumption | exact Ent.refl _ | exact Ent.nil _ | (repeat (first | exact Ent.refl _ | exact Ent.nil _ | refine Ent.pick ?_))) ?_
              refine ha_take 15 rfl (ov_pickT rfl rfl) rfl rfl rfl (by kernel_rfl) (by kernel_rfl) (by kernel_rfl) (by first | assumption | exact Ent.refl _ | exact Ent.nil _ | (repeat (first | exact Ent.refl _ | exact Ent.nil _ | refine Ent.pick ?_))) <| ?_
              refine ha_take 16 rfl (ov_assign rfl) rfl rfl rfl (by kernel_rfl) (by kernel_rfl) (by kernel_rfl) (by first | assumption | exact Ent.refl _ | exact Ent.nil _ | (repeat (first | exact Ent.refl _ | exact Ent.nil _ | refine Ent.pick ?_))) <| ?_
              refine ha_done (by kernel_rfl) <|
                hx_then_normal <|
                hc_ret <| ?_
              exact results_1 (.inr rfl) rfl rfl fun w' H' => ⟨rfl, H'.ent (Ent.nil _)⟩
      · skip
        refine ho_new rfl (on_buildSliceN rfl rfl rfl) rfl rfl rfl (fun _ => (by first | assumption | exact Ent.refl _ | exact Ent.nil _ | (repeat (first | exact Ent.refl _ | exact Ent.nil _ | refine Ent.pick ?_)))) (fun b120 => ?_)
        refine ha_ent (Ent.blk_row (b := b120) 1 0 rfl (by decide)) ?_
        refine ha_two 2 8 (by kernel_rfl) ?_ ?_
        · skip
          refine ho_call (σ := Value) rfl Try.call22 rfl rfl rfl (fun w1 H1 => Own.callpx (wir w b22 (r0.take 63 ++ [[122]]) []) H1 fun D' hold hin H2 => All_w D' w1 b22 w hw2 (r0.take 63 ++ [[122]]) [] (by simp only [List.length_append, List.length_cons, List.length_nil]; omega) hwok H2) (fun _ => (by first | assumption | exact Ent.refl _ | exact Ent.nil _ | (repeat (first | exact Ent.refl _ | exact Ent.nil _ | refine Ent.pick ?_)))) ?_
          intro c4
          refine ha_two 7 8 (by kernel_rfl) ?_ ?_
          · skip
            refine ho_new rfl (on_appendR (A := some ⟨b120, 0, none⟩) (news := hs3) rfl rfl (by rw [e3.1]; exact SrcIs.old HS3) (by rw [hs3l, hlen63, Nat.mul_one]) hone3 (by decide) (by omega)) rfl rfl rfl (fun _ => (by first | assumption | exact Ent.refl _ | exact Ent.nil _ | (repeat (first | exact Ent.refl _ | exact Ent.nil _ | refine Ent.pick ?_)))) ?_
            rintro ⟨B5, capB5⟩
            dsimp only
            refine ha_one 8 (by kernel_rfl) <| ?_
            refine ho_new rfl (on_buildSliceN rfl rfl rfl) rfl rfl rfl (fun _ => (by first | assumption | exact Ent.refl _ | exact Ent.nil _ | (repeat (first | exact Ent.refl _ | exact Ent.nil _ | refine Ent.pick ?_)))) (fun b125 => ?_)
            refine ha_one 9 (by kernel_rfl) <| ?_
            refine ho_u rfl (on_mark rfl) rfl rfl rfl (by first | assumption | exact Ent.refl _ | exact Ent.nil _ | (repeat (first | exact Ent.refl _ | exact Ent.nil _ | refine Ent.pick ?_))) ?_
            refine ha_one 10 (by kernel_rfl) <| ?_
            refine ho_new rfl (on_buildSliceN rfl rfl rfl) rfl rfl rfl (fun _ => (by first | assumption | exact Ent.refl _ | exact Ent.nil _ | (repeat (first | exact Ent.refl _ | exact Ent.nil _ | refine Ent.pick ?_)))) (fun b127 => ?_)
            refine ha_one 11 (by kernel_rfl) <| ?_
            refine ho_new rfl (on_appendR (A := B5) (news := [.slice (some ⟨b125, 0, none⟩) 1 1]) rfl rfl (SrcIs.blk (b := b127)) rfl (by simp [Value.oneCell']) (by decide) (by omega)) rfl rfl rfl (fun _ => (by first | assumption | exact Ent.refl _ | exact Ent.nil _ | (repeat (first | exact Ent.refl _ | exact Ent.nil _ | refine Ent.pick ?_)))) ?_
            rintro ⟨B6, capB6⟩
            dsimp only
            refine ha_one 12 (by kernel_rfl) <| ?_
            refine ho_c rfl Try.call17 rfl rfl rfl (fun w1 H1 => Own.calln H1 fun D' hold hin H2 => Lists_T D' w1 c4 _ (r0.take 63 ++ [[122]]) (r0.take 63 ++ [[122]]) (hin _ fun h hs ho => stars_rep (cs := [c4]) hs) (hin _ fun h hs ho => rep_row (A := B6) hs _ (by rw [List.length_append, hlen63]; simp) (by rw [List.nil_append]; exact repL_append (repL_of_old ho hrep3) (repL_one1 (rep_bytes (b := b125) hs [122] rfl (by simp))))) rfl) (by first | assumption | exact Ent.refl _ | exact Ent.nil _ | (repeat (first | exact Ent.refl _ | exact Ent.nil _ | refine Ent.pick ?_))) ?_
            refine ha_take 13 rfl (ov_move rfl) rfl rfl rfl (by kernel_rfl) (by kernel_rfl) (by kernel_rfl) (by first | assumption | exact Ent.refl _ | exact Ent.nil _ | (repeat (first | exact Ent.refl _ | exact Ent.nil _ | refine Ent.pick ?_))) <| ?_
            refine ha_one 14 (by kernel_rfl) <| ?_
            refine ho_c rfl Try.call23 rfl rfl rfl (fun w1 H1 => Own.calln H1 fun D' hold hin H2 => wwakes_spec D' w1) (by first | assumption | exact Ent.refl _ | exact Ent.nil _ | (repeat (first | exact Ent.refl _ | exact Ent.nil _ | refine Ent.pick ?_))) ?_
            refine ha_take 15 rfl (ov_pickT rfl rfl) rfl rfl rfl (by kernel_rfl) (by kernel_rfl) (by kernel_rfl) (by first | assumption | exact Ent.refl _ | exact Ent.nil _ | (repeat (first | exact Ent.refl _ | exact Ent.nil _ | refine Ent.pick ?_))) <| ?_
            refine ha_take 16 rfl (ov_assign rfl) rfl rfl rfl (by kernel_rfl) (by kernel_rfl) (by kernel_rfl) (by first | assumption | exact Ent.refl _ | exact Ent.nil _ | (repeat (first | exact Ent.refl _ | exact Ent.nil _ | refine Ent.pick ?_))) <| ?_
            refine ha_done (by kernel_rfl) <|
              hx_then_normal <|
              hc_ret <| ?_
            exact results_1 (.inr rfl) rfl rfl fun w' H' => ⟨rfl, H'.ent (Ent.nil _)⟩
          · skip
            refine ho_new rfl (on_buildSliceN rfl rfl rfl) rfl rfl rfl (fun _ => (by first | assumption | exact Ent.refl _ | exact Ent.nil _ | (repeat (first | exact Ent.refl _ | exact Ent.nil _ | refine Ent.pick ?_)))) (fun b125 => ?_)
            refine ha_two 7 9 (by kernel_rfl) ?_ ?_
            · skip
              refine ho_new rfl (on_appendR (A := some ⟨b120, 0, none⟩) (news := hs3) rfl rfl (by rw [e3.1]; exact SrcIs.old HS3) (by rw [hs3l, hlen63, Nat.mul_one]) hone3 (by decide) (by omega)) rfl rfl rfl (fun _ => (by first | assumption | exact Ent.refl _ | exact Ent.nil _ | (repeat (first | exact Ent.refl _ | exact Ent.nil _ | refine Ent.pick ?_)))) ?_
              rintro ⟨B5, capB5⟩
              dsimp only
              refine ha_one 9 (by kernel_rfl) <| ?_
              refine ho_u rfl (on_mark rfl) rfl rfl rfl (by first | assumption | exact Ent.refl _ | exact Ent.nil _ | (repeat (first | exact Ent.refl _ | exact Ent.nil _ | refine Ent.pick ?_))) ?_
              refine ha_one 10 (by kernel_rfl) <| ?_
              refine ho_new rfl (on_buildSliceN rfl rfl rfl) rfl rfl rfl (fun _ => (by first | assumption | exact Ent.refl _ | exact Ent.nil _ | (repeat (first | exact Ent.refl _ | exact Ent.nil _ | refine Ent.pick ?_)))) (fun b127 => ?_)
              refine ha_one 11 (by kernel_rfl) <| ?_
              refine ho_new rfl (on_appendR (A := B5) (news := [.slice (some ⟨b125, 0, none⟩) 1 1]) rfl rfl (SrcIs.blk (b := b127)) rfl (by simp [Value.oneCell']) (by decide) (by omega)) rfl rfl rfl (fun _ => (by first | assumption | exact Ent.refl _ | exact Ent.nil _ | (repeat (first | exact Ent.refl _ | exact Ent.nil _ | refine Ent.pick ?_)))) ?_
              rintro ⟨B6, capB6⟩
              dsimp only
              refine ha_one 12 (by kernel_rfl) <| ?_
              refine ho_c rfl Try.call17 rfl rfl rfl (fun w1 H1 => Own.calln H1 fun D' hold hin H2 => Lists_T D' w1 c4 _ (r0.take 63 ++ [[122]]) (r0.take 63 ++ [[122]]) (hin _ fun h hs ho => stars_rep (cs := [c4]) hs) (hin _ fun h hs ho => rep_row (A := B6) hs _ (by rw [List.length_append, hlen63]; simp) (by rw [List.nil_append]; exact repL_append (repL_of_old ho hrep3) (repL_one1 (rep_bytes (b := b125) hs [122] rfl (by simp))))) rfl) (by first | assumption | exact Ent.refl _ | exact Ent.nil _ | (repeat (first | exact Ent.refl _ | exact Ent.nil _ | refine Ent.pick ?_))) ?_
              refine ha_take 13 rfl (ov_move rfl) rfl rfl rfl (by kernel_rfl) (by kernel_rfl) (by kernel_rfl) (by first | assumption | exact Ent.refl _ | exact Ent.nil _ | (repeat (first | exact Ent.refl _ | exact Ent.nil _ | refine Ent.pick ?_))) <| ?_
              refine ha_one 14 (by kernel_rfl) <| ?_
              refine ho_c rfl Try.call23 rfl rfl rfl (fun w1 H1 => Own.calln H1 fun D' hold hin H2 => wwakes_spec D' w1) (by first | assumption | exact Ent.refl _ | exact Ent.nil _ | (repeat (first | exact Ent.refl _ | exact Ent.nil _ | refine Ent.pick ?_))) ?_
              refine ha_take 15 rfl (ov_pickT rfl rfl) rfl rfl rfl (by kernel_rfl) (by kernel_rfl) (by kernel_rfl) (by first | assumption | exact Ent.refl _ | exact Ent.nil _ | (repeat (first | exact Ent.refl _ | exact Ent.nil _ | refine Ent.pick ?_))) <| ?_
              refine ha_take 16 rfl (ov_assign rfl) rfl rfl rfl (by kernel_rfl) (by kernel_rfl) (by kernel_rfl) (by first | assumption | exact Ent.refl _ | exact Ent.nil _ | (repeat (first | exact Ent.refl _ | exact Ent.nil _ | refine Ent.pick ?_))) <| ?_
              refine ha_done (by kernel_rfl) <|
                hx_then_normal <|
                hc_ret <| ?_
              exact results_1 (.inr rfl) rfl rfl fun w' H' => ⟨rfl, H'.ent (Ent.nil _)⟩
            · skip
              refine ho_u rfl (on_mark rfl) rfl rfl rfl (by first | assumption | exact Ent.refl _ | exact Ent.nil _ | (repeat (first | exact Ent.refl _ | exact Ent.nil _ | refine Ent.pick ?_))) ?_
              refine ha_two 7 10 (by kernel_rfl) ?_ ?_
              · skip
                refine ho_new rfl (on_appendR (A := some ⟨b120, 0, none⟩) (news := hs3) rfl rfl (by rw [e3.1]; exact SrcIs.old HS3) (by rw [hs3l, hlen63, Nat.mul_one]) hone3 (by decide) (by omega)) rfl rfl rfl (fun _ => (by first | assumption | exact Ent.refl _ | exact Ent.nil _ | (repeat (first | exact Ent.refl _ | exact Ent.nil _ | refine Ent.pick ?_)))) ?_
                rintro ⟨B5, capB5⟩
                dsimp only
                refine ha_one 10 (by kernel_rfl) <| ?_
                refine ho_new rfl (on_buildSliceN rfl rfl rfl) rfl rfl rfl (fun _ => (by first | assumption | exact Ent.refl _ | exact Ent.nil _ | (repeat (first | exact Ent.refl _ | exact Ent.nil _ | refine Ent.pick ?_)))) (fun b127 => ?_)
                refine ha_one 11 (by kernel_rfl) <| ?_
                refine ho_new rfl (on_appendR (A := B5) (news := [.slice (some ⟨b125, 0, none⟩) 1 1]) rfl rfl (SrcIs.blk (b := b127)) rfl (by simp [Value.oneCell']) (by decide) (by omega)) rfl rfl rfl (fun _ => (by first | assumption | exact Ent.refl _ | exact Ent.nil _ | (repeat (first | exact Ent.refl _ | exact Ent.nil _ | refine Ent.pick ?_)))) ?_
                rintro ⟨B6, capB6⟩
                dsimp only
                refine ha_one 12 (by kernel_rfl) <| ?_
                refine ho_c rfl Try.call17 rfl rfl rfl (fun w1 H1 => Own.calln H1 fun D' hold hin H2 => Lists_T D' w1 c4 _ (r0.take 63 ++ [[122]]) (r0.take 63 ++ [[122]]) (hin _ fun h hs ho => stars_rep (cs := [c4]) hs) (hin _ fun h hs ho => rep_row (A := B6) hs _ (by rw [List.length_append, hlen63]; simp) (by rw [List.nil_append]; exact repL_append (repL_of_old ho hrep3) (repL_one1 (rep_bytes (b := b125) hs [122] rfl (by simp))))) rfl) (by first | assumption | exact Ent.refl _ | exact Ent.nil _ | (repeat (first | exact Ent.refl _ | exact Ent.nil _ | refine Ent.pick ?_))) ?_
                refine ha_take 13 rfl (ov_move rfl) rfl rfl rfl (by kernel_rfl) (by kernel_rfl) (by kernel_rfl) (by first | assumption | exact Ent.refl _ | exact Ent.nil _ | (repeat (first | exact Ent.refl _ | exact Ent.nil _ | refine Ent.pick ?_))) <| ?_
                refine ha_one 14 (by kernel_rfl) <| ?_
                refine ho_c rfl Try.call23 rfl rfl rfl (fun w1 H1 => Own.calln H1 fun D' hold hin H2 => wwakes_spec D' w1) (by first | assumption | exact Ent.refl _ | exact Ent.nil _ | (repeat (first | exact Ent.refl _ | exact Ent.nil _ | refine Ent.pick ?_))) ?_
                refine ha_take 15 rfl (ov_pickT rfl rfl) rfl rfl rfl (by kernel_rfl) (by kernel_rfl) (by kernel_rfl) (by first | assumption | exact Ent.refl _ | exact Ent.nil _ | (repeat (first | exact Ent.refl _ | exact Ent.nil _ | refine Ent.pick ?_))) <| ?_
                refine ha_take 16 rfl (ov_assign rfl) rfl rfl rfl (by kernel_rfl) (by kernel_rfl) (by kernel_rfl) (by first | assumption | exact Ent.refl _ | exact Ent.nil _ | (repeat (first | exact Ent.refl _ | exact Ent.nil _ | refine Ent.pick ?_))) <| ?_
                refine ha_done (by kernel_rfl) <|
                  hx_then_normal <|
                  hc_ret <| ?_
                exact results_1 (.inr rfl) rfl rfl fun w' H' => ⟨rfl, H'.ent (Ent.nil _)⟩
              · skip
                refine ho_new rfl (on_buildSliceN rfl rfl rfl) rfl rfl rfl (fun _ => (by first | assumption | exact Ent.refl _ | exact Ent.nil _ | (repeat (first | exact Ent.refl _ | exact Ent.nil _ | refine Ent.pick ?_)))) (fun b127 => ?_)
                refine ha_one 7 (by kernel_rfl) <| ?_
                refine ho_new rfl (on_appendR (A := some ⟨b120, 0, none⟩) (news := hs3) rfl rfl (by rw [e3.1]; exact SrcIs.old HS3) (by rw [hs3l, hlen63, Nat.mul_one]) hone3 (by decide) (by omega)) rfl rfl rfl (fun _ => (by first | assumption | exact Ent.refl _ | exact Ent.nil _ | (repeat (first | exact Ent.refl _ | exact Ent.nil _ | refine Ent.pick ?_)))) ?_
                rintro ⟨B5, capB5⟩
                dsimp only
                refine ha_one 11 (by kernel_rfl) <| ?_
                refine ho_new rfl (on_appendR (A := B5) (news := [.slice (some ⟨b125, 0, none⟩) 1 1]) rfl rfl (SrcIs.blk (b := b127)) rfl (by simp [Value.oneCell']) (by decide) (by omega)) rfl rfl rfl (fun _ => (by first | assumption | exact Ent.refl _ | exact Ent.nil _ | (repeat (first | exact Ent.refl _ | exact Ent.nil _ | refine Ent.pick ?_)))) ?_
                rintro ⟨B6, capB6⟩
                dsimp only
                refine ha_one 12 (by kernel_rfl) <| ?_
                refine ho_c rfl Try.call17 rfl rfl rfl (fun w1 H1 => Own.calln H1 fun D' hold hin H2 => Lists_T D' w1 c4 _ (r0.take 63 ++ [[122]]) (r0.take 63 ++ [[122]]) (hin _ fun h hs ho => stars_rep (cs := [c4]) hs) (hin _ fun h hs ho => rep_row (A := B6) hs _ (by rw [List.length_append, hlen63]; simp) (by rw [List.nil_append]; exact repL_append (repL_of_old ho hrep3) (repL_one1 (rep_bytes (b := b125) hs [122] rfl (by simp))))) rfl) (by first | assumption | exact Ent.refl _ | exact Ent.nil _ | (repeat (first | exact Ent.refl _ | exact Ent.nil _ | refine Ent.pick ?_))) ?_
                refine ha_take 13 rfl (ov_move rfl) rfl rfl rfl (by kernel_rfl) (by kernel_rfl) (by kernel_rfl) (by first | assumption | exact Ent.refl _ | exact Ent.nil _ | (repeat (first | exact Ent.refl _ | exact Ent.nil _ | refine Ent.pick ?_))) <| ?_
                refine ha_one 14 (by kernel_rfl) <| ?_
                refine ho_c rfl Try.call23 rfl rfl rfl (fun w1 H1 => Own.calln H1 fun D' hold hin H2 => wwakes_spec D' w1) (by first | assumption | exact Ent.refl _ | exact Ent.nil _ | (repeat (first | exact Ent.refl _ | exact Ent.nil _ | refine Ent.pick ?_))) ?_
                refine ha_take 15 rfl (ov_pickT rfl rfl) rfl rfl rfl (by kernel_rfl) (by kernel_rfl) (by kernel_rfl) (by first | assumption | exact Ent.refl _ | exact Ent.nil _ | (repeat (first | exact Ent.refl _ | exact Ent.nil _ | refine Ent.pick ?_))) <| ?_
                refine ha_take 16 rfl (ov_assign rfl) rfl rfl rfl (by kernel_rfl) (by kernel_rfl) (by kernel_rfl) (by first | assumption | exact Ent.refl _ | exact Ent.nil _ | (repeat (first | exact Ent.refl _ | exact Ent.nil _ | refine Ent.pick ?_))) <| ?_
                refine ha_done (by kernel_rfl) <|
                  hx_then_normal <|
                  hc_ret <| ?_
                exact results_1 (.inr rfl) rfl rfl fun w' H' => ⟨rfl, H'.ent (Ent.nil _)⟩
        · skip
          refine ho_new rfl (on_buildSliceN rfl rfl rfl) rfl rfl rfl (fun _ => (by first | assumption | exact Ent.refl _ | exact Ent.nil _ | (repeat (first | exact Ent.refl _ | exact Ent.nil _ | refine Ent.pick ?_)))) (fun b125 => ?_)
          refine ha_two 2 9 (by kernel_rfl) ?_ ?_
          · skip
            refine ho_call (σ := Value) rfl Try.call22 rfl rfl rfl (fun w1 H1 => Own.callpx (wir w b22 (r0.take 63 ++ [[122]]) []) H1 fun D' hold hin H2 => All_w D' w1 b22 w hw2 (r0.take 63 ++ [[122]]) [] (by simp only [List.length_append, List.length_cons, List.length_nil]; omega) hwok H2) (fun _ => (by first | assumption | exact Ent.refl _ | exact Ent.nil _ | (repeat (first | exact Ent.refl _ | exact Ent.nil _ | refine Ent.pick ?_)))) ?_
            intro c4
            refine ha_two 7 9 (by kernel_rfl) ?_ ?_
            · skip
              refine ho_new rfl (on_appendR (A := some ⟨b120, 0, none⟩) (news := hs3) rfl rfl (by rw [e3.1]; exact SrcIs.old HS3) (by rw [hs3l, hlen63, Nat.mul_one]) hone3 (by decide) (by omega)) rfl rfl rfl (fun _ => (by first | assumption | exact Ent.refl _ | exact Ent.nil _ | (repeat (first | exact Ent.refl _ | exact Ent.nil _ | refine Ent.pick ?_)))) ?_
              rintro ⟨B5, capB5⟩
              dsimp only
              refine ha_one 9 (by kernel_rfl) <| ?_
              refine ho_u rfl (on_mark rfl) rfl rfl rfl (by first | assumption | exact Ent.refl _ | exact Ent.nil _ | (repeat (first | exact Ent.refl _ | exact Ent.nil _ | refine Ent.pick ?_))) ?_
              refine ha_one 10 (by kernel_rfl) <| ?_
              refine ho_new rfl (on_buildSliceN rfl rfl rfl) rfl rfl rfl (fun _ => (by first | assumption | exact Ent.refl _ | exact Ent.nil _ | (repeat (first | exact Ent.refl _ | exact Ent.nil _ | refine Ent.pick ?_)))) (fun b127 => ?_)
              refine ha_one 11 (by kernel_rfl) <| ?_
              refine ho_new rfl (on_appendR (A := B5) (news := [.slice (some ⟨b125, 0, none⟩) 1 1]) rfl rfl (SrcIs.blk (b := b127)) rfl (by simp [Value.oneCell']) (by decide) (by omega)) rfl rfl rfl (fun _ => (by first | assumption | exact Ent.refl _ | exact Ent.nil _ | (repeat (first | exact Ent.refl _ | exact Ent.nil _ | refine Ent.pick ?_)))) ?_
              rintro ⟨B6, capB6⟩
              dsimp only
              refine ha_one 12 (by kernel_rfl) <| ?_
              refine ho_c rfl Try.call17 rfl rfl rfl (fun w1 H1 => Own.calln H1 fun D' hold hin H2 => Lists_T D' w1 c4 _ (r0.take 63 ++ [[122]]) (r0.take 63 ++ [[122]]) (hin _ fun h hs ho => stars_rep (cs := [c4]) hs) (hin _ fun h hs ho => rep_row (A := B6) hs _ (by rw [List.length_append, hlen63]; simp) (by rw [List.nil_append]; exact repL_append (repL_of_old ho hrep3) (repL_one1 (rep_bytes (b := b125) hs [122] rfl (by simp))))) rfl) (by first | assumption | exact Ent.refl _ | exact Ent.nil _ | (repeat (first | exact Ent.refl _ | exact Ent.nil _ | refine Ent.pick ?_))) ?_
              refine ha_take 13 rfl (ov_move rfl) rfl rfl rfl (by kernel_rfl) (by kernel_rfl) (by kernel_rfl) (by first | assumption | exact Ent.refl _ | exact Ent.nil _ | (repeat (first | exact Ent.refl _ | exact Ent.nil _ | refine Ent.pick ?_))) <| ?_
              refine ha_one 14 (by kernel_rfl) <| ?_
              refine ho_c rfl Try.call23 rfl rfl rfl (fun w1 H1 => Own.calln H1 fun D' hold hin H2 => wwakes_spec D' w1) (by first | assumption | exact Ent.refl _ | exact Ent.nil _ | (repeat (first | exact Ent.refl _ | exact Ent.nil _ | refine Ent.pick ?_))) ?_
              refine ha_take 15 rfl (ov_pickT rfl rfl) rfl rfl rfl (by kernel_rfl) (by kernel_rfl) (by kernel_rfl) (by first | assumption | exact Ent.refl _ | exact Ent.nil _ | (repeat (first | exact Ent.refl _ | exact Ent.nil _ | refine Ent.pick ?_))) <| ?_
              refine ha_take 16 rfl (ov_assign rfl) rfl rfl rfl (by kernel_rfl) (by kernel_rfl) (by kernel_rfl) (by first | assumption | exact Ent.refl _ | exact Ent.nil _ | (repeat (first | exact Ent.refl _ | exact Ent.nil _ | refine Ent.pick ?_))) <| ?_
              refine ha_done (by kernel_rfl) <|
                hx_then_normal <|
                hc_ret <| ?_
              exact results_1 (.inr rfl) rfl rfl fun w' H' => ⟨rfl, H'.ent (Ent.nil _)⟩
            · skip
              refine ho_u rfl (on_mark rfl) rfl rfl rfl (by first | assumption | exact Ent.refl _ | exact Ent.nil _ | (repeat (first | exact Ent.refl _ | exact Ent.nil _ | refine Ent.pick ?_))) ?_
              refine ha_two 7 10 (by kernel_rfl) ?_ ?_
              · skip
                refine ho_new rfl (on_appendR (A := some ⟨b120, 0, none⟩) (news := hs3) rfl rfl (by rw [e3.1]; exact SrcIs.old HS3) (by rw [hs3l, hlen63, Nat.mul_one]) hone3 (by decide) (by omega)) rfl rfl rfl (fun _ => (by first | assumption | exact Ent.refl _ | exact Ent.nil _ | (repeat (first | exact Ent.refl _ | exact Ent.nil _ | refine Ent.pick ?_)))) ?_
                rintro ⟨B5, capB5⟩
                dsimp only
                refine ha_one 10 (by kernel_rfl) <| ?_
                refine ho_new rfl (on_buildSliceN rfl rfl rfl) rfl rfl rfl (fun _ => (by first | assumption | exact Ent.refl _ | exact Ent.nil _ | (repeat (first | exact Ent.refl _ | exact Ent.nil _ | refine Ent.pick ?_)))) (fun b127 => ?_)
                refine ha_one 11 (by kernel_rfl) <| ?_
                refine ho_new rfl (on_appendR (A := B5) (news := [.slice (some ⟨b125, 0, none⟩) 1 1]) rfl rfl (SrcIs.blk (b := b127)) rfl (by simp [Value.oneCell']) (by decide) (by omega)) rfl rfl rfl (fun _ => (by first | assumption | exact Ent.refl _ | exact Ent.nil _ | (repeat (first | exact Ent.refl _ | exact Ent.nil _ | refine Ent.pick ?_)))) ?_
                rintro ⟨B6, capB6⟩
                dsimp only
                refine ha_one 12 (by kernel_rfl) <| ?_
                refine ho_c rfl Try.call17 rfl rfl rfl (fun w1 H1 => Own.calln H1 fun D' hold hin H2 => Lists_T D' w1 c4 _ (r0.take 63 ++ [[122]]) (r0.take 63 ++ [[122]]) (hin _ fun h hs ho => stars_rep (cs := [c4]) hs) (hin _ fun h hs ho => rep_row (A := B6) hs _ (by rw [List.length_append, hlen63]; simp) (by rw [List.nil_append]; exact repL_append (repL_of_old ho hrep3) (repL_one1 (rep_bytes (b := b125) hs [122] rfl (by simp))))) rfl) (by first | assumption | exact Ent.refl _ | exact Ent.nil _ | (repeat (first | exact Ent.refl _ | exact Ent.nil _ | refine Ent.pick ?_))) ?_
                refine ha_take 13 rfl (ov_move rfl) rfl rfl rfl (by kernel_rfl) (by kernel_rfl) (by kernel_rfl) (by first | assumption | exact Ent.refl _ | exact Ent.nil _ | (repeat (first | exact Ent.refl _ | exact Ent.nil _ | refine Ent.pick ?_))) <| ?_
                refine ha_one 14 (by kernel_rfl) <| ?_
                refine ho_c rfl Try.call23 rfl rfl rfl (fun w1 H1 => Own.calln H1 fun D' hold hin H2 => wwakes_spec D' w1) (by first | assumption | exact Ent.refl _ | exact Ent.nil _ | (repeat (first | exact Ent.refl _ | exact Ent.nil _ | refine Ent.pick ?_))) ?_
                refine ha_take 15 rfl (ov_pickT rfl rfl) rfl rfl rfl (by kernel_rfl) (by kernel_rfl) (by kernel_rfl) (by first | assumption | exact Ent.refl _ | exact Ent.nil _ | (repeat (first | exact Ent.refl _ | exact Ent.nil _ | refine Ent.pick ?_))) <| ?_
                refine ha_take 16 rfl (ov_assign rfl) rfl rfl rfl (by kernel_rfl) (by kernel_rfl) (by kernel_rfl) (by first | assumption | exact Ent.refl _ | exact Ent.nil _ | (repeat (first | exact Ent.refl _ | exact Ent.nil _ | refine Ent.pick ?_))) <| ?_
                refine ha_done (by kernel_rfl) <|
                  hx_then_normal <|
                  hc_ret <| ?_
                exact results_1 (.inr rfl) rfl rfl fun w' H' => ⟨rfl, H'.ent (Ent.nil _)⟩
              · skip
                refine ho_new rfl (on_buildSliceN rfl rfl rfl) rfl rfl rfl (fun _ => (by first | assumption | exact Ent.refl _ | exact Ent.nil _ | (repeat (first | exact Ent.refl _ | exact Ent.nil _ | refine Ent.pick ?_)))) (fun b127 => ?_)
                refine ha_one 7 (by kernel_rfl) <| ?_
                refine ho_new rfl (on_appendR (A := some ⟨b120, 0, none⟩) (news := hs3) rfl rfl (by rw [e3.1]; exact SrcIs.old HS3) (by rw [hs3l, hlen63, Nat.mul_one]) hone3 (by decide) (by omega)) rfl rfl rfl (fun _ => (by first | assumption | exact Ent.refl _ | exact Ent.nil _ | (repeat (first | exact Ent.refl _ | exact Ent.nil _ | refine Ent.pick ?_)))) ?_
                rintro ⟨B5, capB5⟩
                dsimp only
                refine ha_one 11 (by kernel_rfl) <| ?_
                refine ho_new rfl (on_appendR (A := B5) (news := [.slice (some ⟨b125, 0, none⟩) 1 1]) rfl rfl (SrcIs.blk (b := b127)) rfl (by simp [Value.oneCell']) (by decide) (by omega)) rfl rfl rfl (fun _ => (by first | assumption | exact Ent.refl _ | exact Ent.nil _ | (repeat (first | exact Ent.refl _ | exact Ent.nil _ | refine Ent.pick ?_)))) ?_
                rintro ⟨B6, capB6⟩
                dsimp only
                refine ha_one 12 (by kernel_rfl) <| ?_
                refine ho_c rfl Try.call17 rfl rfl rfl (fun w1 H1 => Own.calln H1 fun D' hold hin H2 => Lists_T D' w1 c4 _ (r0.take 63 ++ [[122]]) (r0.take 63 ++ [[122]]) (hin _ fun h hs ho => stars_rep (cs := [c4]) hs) (hin _ fun h hs ho => rep_row (A := B6) hs _ (by rw [List.length_append, hlen63]; simp) (by rw [List.nil_append]; exact repL_append (repL_of_old ho hrep3) (repL_one1 (rep_bytes (b := b125) hs [122] rfl (by simp))))) rfl) (by first | assumption | exact Ent.refl _ | exact Ent.nil _ | (repeat (first | exact Ent.refl _ | exact Ent.nil _ | refine Ent.pick ?_))) ?_
                refine ha_take 13 rfl (ov_move rfl) rfl rfl rfl (by kernel_rfl) (by kernel_rfl) (by kernel_rfl) (by first | assumption | exact Ent.refl _ | exact Ent.nil _ | (repeat (first | exact Ent.refl _ | exact Ent.nil _ | refine Ent.pick ?_))) <| ?_
                refine ha_one 14 (by kernel_rfl) <| ?_
                refine ho_c rfl Try.call23 rfl rfl rfl (fun w1 H1 => Own.calln H1 fun D' hold hin H2 => wwakes_spec D' w1) (by first | assumption | exact Ent.refl _ | exact Ent.nil _ | (repeat (first | exact Ent.refl _ | exact Ent.nil _ | refine Ent.pick ?_))) ?_
                refine ha_take 15 rfl (ov_pickT rfl rfl) rfl rfl rfl (by kernel_rfl) (by kernel_rfl) (by kernel_rfl) (by first | assumption | exact Ent.refl _ | exact Ent.nil _ | (repeat (first | exact Ent.refl _ | exact Ent.nil _ | refine Ent.pick ?_))) <| ?_
                refine ha_take 16 rfl (ov_assign rfl) rfl rfl rfl (by kernel_rfl) (by kernel_rfl) (by kernel_rfl) (by first | assumption | exact Ent.refl _ | exact Ent.nil _ | (repeat (first | exact Ent.refl _ | exact Ent.nil _ | refine Ent.pick ?_))) <| ?_
                refine ha_done (by kernel_rfl) <|
                  hx_then_normal <|
                  hc_ret <| ?_
                exact results_1 (.inr rfl) rfl rfl fun w' H' => ⟨rfl, H'.ent (Ent.nil _)⟩
          · skip
            refine ho_u rfl (on_mark rfl) rfl rfl rfl (by first | assumption | exact Ent.refl _ | exact Ent.nil _ | (repeat (first | exact Ent.refl _ | exact Ent.nil _ | refine Ent.pick ?_))) ?_
            refine ha_two 2 10 (by kernel_rfl) ?_ ?_
            · skip
              refine ho_call (σ := Value) rfl Try.call22 rfl rfl rfl (fun w1 H1 => Own.callpx (wir w b22 (r0.take 63 ++ [[122]]) []) H1 fun D' hold hin H2 => All_w D' w1 b22 w hw2 (r0.take 63 ++ [[122]]) [] (by simp only [List.length_append, List.length_cons, List.length_nil]; omega) hwok H2) (fun _ => (by first | assumption | exact Ent.refl _ | exact Ent.nil _ | (repeat (first | exact Ent.refl _ | exact Ent.nil _ | refine Ent.pick ?_)))) ?_
              intro c4
              refine ha_two 7 10 (by kernel_rfl) ?_ ?_
              · skip
                refine ho_new rfl (on_appendR (A := some ⟨b120, 0, none⟩) (news := hs3) rfl rfl (by rw [e3.1]; exact SrcIs.old HS3) (by rw [hs3l, hlen63, Nat.mul_one]) hone3 (by decide) (by omega)) rfl rfl rfl (fun _ => (by first | assumption | exact Ent.refl _ | exact Ent.nil _ | (repeat (first | exact Ent.refl _ | exact Ent.nil _ | refine Ent.pick ?_)))) ?_
                rintro ⟨B5, capB5⟩
                dsimp only
                refine ha_one 10 (by kernel_rfl) <| ?_
                refine ho_new rfl (on_buildSliceN rfl rfl rfl) rfl rfl rfl (fun _ => (by first | assumption | exact Ent.refl _ | exact Ent.nil _ | (repeat (first | exact Ent.refl _ | exact Ent.nil _ | refine Ent.pick ?_)))) (fun b127 => ?_)
                refine ha_one 11 (by kernel_rfl) <| ?_
                refine ho_new rfl (on_appendR (A := B5) (news := [.slice (some ⟨b125, 0, none⟩) 1 1]) rfl rfl (SrcIs.blk (b := b127)) rfl (by simp [Value.oneCell']) (by decide) (by omega)) rfl rfl rfl (fun _ => (by first | assumption | exact Ent.refl _ | exact Ent.nil _ | (repeat (first | exact Ent.refl _ | exact Ent.nil _ | refine Ent.pick ?_)))) ?_
                rintro ⟨B6, capB6⟩
                dsimp only
                refine ha_one 12 (by kernel_rfl) <| ?_
                refine ho_c rfl Try.call17 rfl rfl rfl (fun w1 H1 => Own.calln H1 fun D' hold hin H2 => Lists_T D' w1 c4 _ (r0.take 63 ++ [[122]]) (r0.take 63 ++ [[122]]) (hin _ fun h hs ho => stars_rep (cs := [c4]) hs) (hin _ fun h hs ho => rep_row (A := B6) hs _ (by rw [List.length_append, hlen63]; simp) (by rw [List.nil_append]; exact repL_append (repL_of_old ho hrep3) (repL_one1 (rep_bytes (b := b125) hs [122] rfl (by simp))))) rfl) (by first | assumption | exact Ent.refl _ | exact Ent.nil _ | (repeat (first | exact Ent.refl _ | exact Ent.nil _ | refine Ent.pick ?_))) ?_
                refine ha_take 13 rfl (ov_move rfl) rfl rfl rfl (by kernel_rfl) (by kernel_rfl) (by kernel_rfl) (by first | assumption | exact Ent.refl _ | exact Ent.nil _ | (repeat (first | exact Ent.refl _ | exact Ent.nil _ | refine Ent.pick ?_))) <| ?_
                refine ha_one 14 (by kernel_rfl) <| ?_
                refine ho_c rfl Try.call23 rfl rfl rfl (fun w1 H1 => Own.calln H1 fun D' hold hin H2 => wwakes_spec D' w1) (by first | assumption | exact Ent.refl _ | exact Ent.nil _ | (repeat (first | exact Ent.refl _ | exact Ent.nil _ | refine Ent.pick ?_))) ?_
                refine ha_take 15 rfl (ov_pickT rfl rfl) rfl rfl rfl (by kernel_rfl) (by kernel_rfl) (by kernel_rfl) (by first | assumption | exact Ent.refl _ | exact Ent.nil _ | (repeat (first | exact Ent.refl _ | exact Ent.nil _ | refine Ent.pick ?_))) <| ?_
                refine ha_take 16 rfl (ov_assign rfl) rfl rfl rfl (by kernel_rfl) (by kernel_rfl) (by kernel_rfl) (by first | assumption | exact Ent.refl _ | exact Ent.nil _ | (repeat (first | exact Ent.refl _ | exact Ent.nil _ | refine Ent.pick ?_))) <| ?_
                refine ha_done (by kernel_rfl) <|
                  hx_then_normal <|
                  hc_ret <| ?_
                exact results_1 (.inr rfl) rfl rfl fun w' H' => ⟨rfl, H'.ent (Ent.nil _)⟩
              · skip
                refine ho_new rfl (on_buildSliceN rfl rfl rfl) rfl rfl rfl (fun _ => (by first | assumption | exact Ent.refl _ | exact Ent.nil _ | (repeat (first | exact Ent.refl _ | exact Ent.nil _ | refine Ent.pick ?_)))) (fun b127 => ?_)
                refine ha_one 7 (by kernel_rfl) <| ?_
                refine ho_new rfl (on_appendR (A := some ⟨b120, 0, none⟩) (news := hs3) rfl rfl (by rw [e3.1]; exact SrcIs.old HS3) (by rw [hs3l, hlen63, Nat.mul_one]) hone3 (by decide) (by omega)) rfl rfl rfl (fun _ => (by first | assumption | exact Ent.refl _ | exact Ent.nil _ | (repeat (first | exact Ent.refl _ | exact Ent.nil _ | refine Ent.pick ?_)))) ?_
                rintro ⟨B5, capB5⟩
                dsimp only
                refine ha_one 11 (by kernel_rfl) <| ?_
                refine ho_new rfl (on_appendR (A := B5) (news := [.slice (some ⟨b125, 0, none⟩) 1 1]) rfl rfl (SrcIs.blk (b := b127)) rfl (by simp [Value.oneCell']) (by decide) (by omega)) rfl rfl rfl (fun _ => (by first | assumption | exact Ent.refl _ | exact Ent.nil _ | (repeat (first | exact Ent.refl _ | exact Ent.nil _ | refine Ent.pick ?_)))) ?_
                rintro ⟨B6, capB6⟩
                dsimp only
                refine ha_one 12 (by kernel_rfl) <| ?_
                refine ho_c rfl Try.call17 rfl rfl rfl (fun w1 H1 => Own.calln H1 fun D' hold hin H2 => Lists_T D' w1 c4 _ (r0.take 63 ++ [[122]]) (r0.take 63 ++ [[122]]) (hin _ fun h hs ho => stars_rep (cs := [c4]) hs) (hin _ fun h hs ho => rep_row (A := B6) hs _ (by rw [List.length_append, hlen63]; simp) (by rw [List.nil_append]; exact repL_append (repL_of_old ho hrep3) (repL_one1 (rep_bytes (b := b125) hs [122] rfl (by simp))))) rfl) (by first | assumption | exact Ent.refl _ | exact Ent.nil _ | (repeat (first | exact Ent.refl _ | exact Ent.nil _ | refine Ent.pick ?_))) ?_
                refine ha_take 13 rfl (ov_move rfl) rfl rfl rfl (by kernel_rfl) (by kernel_rfl) (by kernel_rfl) (by first | assumption | exact Ent.refl _ | exact Ent.nil _ | (repeat (first | exact Ent.refl _ | exact Ent.nil _ | refine Ent.pick ?_))) <| ?_
                refine ha_one 14 (by kernel_rfl) <| ?_
                refine ho_c rfl Try.call23 rfl rfl rfl (fun w1 H1 => Own.calln H1 fun D' hold hin H2 => wwakes_spec D' w1) (by first | assumption | exact Ent.refl _ | exact Ent.nil _ | (repeat (first | exact Ent.refl _ | exact Ent.nil _ | refine Ent.pick ?_))) ?_
                refine ha_take 15 rfl (ov_pickT rfl rfl) rfl rfl rfl (by kernel_rfl) (by kernel_rfl) (by kernel_rfl) (by first | assumption | exact Ent.refl _ | exact Ent.nil _ | (repeat (first | exact Ent.refl _ | exact Ent.nil _ | refine Ent.pick ?_))) <| ?_
                refine ha_take 16 rfl (ov_assign rfl) rfl rfl rfl (by kernel_rfl) (by kernel_rfl) (by kernel_rfl) (by first | assumption | exact Ent.refl _ | exact Ent.nil _ | (repeat (first | exact Ent.refl _ | exact Ent.nil _ | refine Ent.pick ?_))) <| ?_
                refine ha_done (by kernel_rfl) <|
                  hx_then_normal <|
                  hc_ret <| ?_
                exact results_1 (.inr rfl) rfl rfl fun w' H' => ⟨rfl, H'.ent (Ent.nil _)⟩
            · skip
              refine ho_new rfl (on_buildSliceN rfl rfl rfl) rfl rfl rfl (fun _ => (by first | assumption | exact Ent.refl _ | exact Ent.nil _ | (repeat (first | exact Ent.refl _ | exact Ent.nil _ | refine Ent.pick ?_)))) (fun b127 => ?_)
              refine ha_one 2 (by kernel_rfl) <| ?_
              refine ho_call (σ := Value) rfl Try.call22 rfl rfl rfl (fun w1 H1 => Own.callpx (wir w b22 (r0.take 63 ++ [[122]]) []) H1 fun D' hold hin H2 => All_w D' w1 b22 w hw2 (r0.take 63 ++ [[122]]) [] (by simp only [List.length_append, List.length_cons, List.length_nil]; omega) hwok H2) (fun _ => (by first | assumption | exact Ent.refl _ | exact Ent.nil _ | (repeat (first | exact Ent.refl _ | exact Ent.nil _ | refine Ent.pick ?_)))) ?_
              intro c4
              refine ha_one 7 (by kernel_rfl) <| ?_
              refine ho_new rfl (on_appendR (A := some ⟨b120, 0, none⟩) (news := hs3) rfl rfl (by rw [e3.1]; exact SrcIs.old HS3) (by rw [hs3l, hlen63, Nat.mul_one]) hone3 (by decide) (by omega)) rfl rfl rfl (fun _ => (by first | assumption | exact Ent.refl _ | exact Ent.nil _ | (repeat (first | exact Ent.refl _ | exact Ent.nil _ | refine Ent.pick ?_)))) ?_
              rintro ⟨B5, capB5⟩
              dsimp only
              refine ha_one 11 (by kernel_rfl) <| ?_
              refine ho_new rfl (on_appendR (A := B5) (news := [.slice (some ⟨b125, 0, none⟩) 1 1]) rfl rfl (SrcIs.blk (b := b127)) rfl (by simp [Value.oneCell']) (by decide) (by omega)) rfl rfl rfl (fun _ => (by first | assumption | exact Ent.refl _ | exact Ent.nil _ | (repeat (first | exact Ent.refl _ | exact Ent.nil _ | refine Ent.pick ?_)))) ?_
              rintro ⟨B6, capB6⟩
              dsimp only
              refine ha_one 12 (by kernel_rfl) <| ?_
              refine ho_c rfl Try.call17 rfl rfl rfl (fun w1 H1 => Own.calln H1 fun D' hold hin H2 => Lists_T D' w1 c4 _ (r0.take 63 ++ [[122]]) (r0.take 63 ++ [[122]]) (hin _ fun h hs ho => stars_rep (cs := [c4]) hs) (hin _ fun h hs ho => rep_row (A := B6) hs _ (by rw [List.length_append, hlen63]; simp) (by rw [List.nil_append]; exact repL_append (repL_of_old ho hrep3) (repL_one1 (rep_bytes (b := b125) hs [122] rfl (by simp))))) rfl) (by first | assumption | exact Ent.refl _ | exact Ent.nil _ | (repeat (first | exact Ent.refl _ | exact Ent.nil _ | refine Ent.pick ?_))) ?_
              refine ha_take 13 rfl (ov_move rfl) rfl rfl rfl (by kernel_rfl) (by kernel_rfl) (by kernel_rfl) (by first | assumption | exact Ent.refl _ | exact Ent.nil _ | (repeat (first | exact Ent.refl _ | exact Ent.nil _ | refine Ent.pick ?_))) <| ?_
              refine ha_one 14 (by kernel_rfl) <| ?_
              refine ho_c rfl Try.call23 rfl rfl rfl (fun w1 H1 => Own.calln H1 fun D' hold hin H2 => wwakes_spec D' w1) (by first | assumption | exact Ent.refl _ | exact Ent.nil _ | (repeat (first | exact Ent.refl _ | exact Ent.nil _ | refine Ent.pick ?_))) ?_
              refine ha_take 15 rfl (ov_pickT rfl rfl) rfl rfl rfl (by kernel_rfl) (by kernel_rfl) (by kernel_rfl) (by first | assumption | exact Ent.refl _ | exact Ent.nil _ | (repeat (first | exact Ent.refl _ | exact Ent.nil _ | refine Ent.pick ?_))) <| ?_
              refine ha_take 16 rfl (ov_assign rfl) rfl rfl rfl (by kernel_rfl) (by kernel_rfl) (by kernel_rfl) (by first | assumption | exact Ent.refl _ | exact Ent.nil _ | (repeat (first | exact Ent.refl _ | exact Ent.nil _ | refine Ent.pick ?_))) <| ?_
              refine ha_done (by kernel_rfl) <|
                hx_then_normal <|
                hc_ret <| ?_
              exact results_1 (.inr rfl) rfl rfl fun w' H' => ⟨rfl, H'.ent (Ent.nil _)⟩
      · skip
        refine ho_new rfl (on_buildSliceN rfl rfl rfl) rfl rfl rfl (fun _ => (by first | assumption | exact Ent.refl _ | exact Ent.nil _ | (repeat (first | exact Ent.refl _ | exact Ent.nil _ | refine Ent.pick ?_)))) (fun b125 => ?_)
        refine ha_three 2 3 9 (by kernel_rfl) ?_ ?_ ?_
        · skip
          refine ho_call (σ := Value) rfl Try.call22 rfl rfl rfl (fun w1 H1 => Own.callpx (wir w b22 (r0.take 63 ++ [[122]]) []) H1 fun D' hold hin H2 => All_w D' w1 b22 w hw2 (r0.take 63 ++ [[122]]) [] (by simp only [List.length_append, List.length_cons, List.length_nil]; omega) hwok H2) (fun _ => (by first | assumption | exact Ent.refl _ | exact Ent.nil _ | (repeat (first | exact Ent.refl _ | exact Ent.nil _ | refine Ent.pick ?_)))) ?_
          intro c4
          refine ha_two 3 9 (by kernel_rfl) ?_ ?_
          · skip
            refine ho_new rfl (on_buildSliceN rfl rfl rfl) rfl rfl rfl (fun _ => (by first | assumption | exact Ent.refl _ | exact Ent.nil _ | (repeat (first | exact Ent.refl _ | exact Ent.nil _ | refine Ent.pick ?_)))) (fun b120 => ?_)
            refine ha_ent (Ent.blk_row (b := b120) 1 0 rfl (by decide)) ?_
            refine ha_two 7 9 (by kernel_rfl) ?_ ?_
            · skip
              refine ho_new rfl (on_appendR (A := some ⟨b120, 0, none⟩) (news := hs3) rfl rfl (by rw [e3.1]; exact SrcIs.old HS3) (by rw [hs3l, hlen63, Nat.mul_one]) hone3 (by decide) (by omega)) rfl rfl rfl (fun _ => (by first | assumption | exact Ent.refl _ | exact Ent.nil _ | (repeat (first | exact Ent.refl _ | exact Ent.nil _ | refine Ent.pick ?_)))) ?_
              rintro ⟨B5, capB5⟩
              dsimp only
              refine ha_one 9 (by kernel_rfl) <| ?_
              refine ho_u rfl (on_mark rfl) rfl rfl rfl (by first | assumption | exact Ent.refl _ | exact Ent.nil _ | (repeat (first | exact Ent.refl _ | exact Ent.nil _ | refine Ent.pick ?_))) ?_
              refine ha_one 10 (by kernel_rfl) <| ?_
              refine ho_new rfl (on_buildSliceN rfl rfl rfl) rfl rfl rfl (fun _ => (by first | assumption | exact Ent.refl _ | exact Ent.nil _ | (repeat (first | exact Ent.refl _ | exact Ent.nil _ | refine Ent.pick ?_)))) (fun b127 => ?_)
              refine ha_one 11 (by kernel_rfl) <| ?_
              refine ho_new rfl (on_appendR (A := B5) (news := [.slice (some ⟨b125, 0, none⟩) 1 1]) rfl rfl (SrcIs.blk (b := b127)) rfl (by simp [Value.oneCell']) (by decide) (by omega)) rfl rfl rfl (fun _ => (by first | assumption | exact Ent.refl _ | exact Ent.nil _ | (repeat (first | exact Ent.refl _ | exact Ent.nil _ | refine Ent.pick ?_)))) ?_
              rintro ⟨B6, capB6⟩
              dsimp only
              refine ha_one 12 (by kernel_rfl) <| ?_
              refine ho_c rfl Try.call17 rfl rfl rfl (fun w1 H1 => Own.calln H1 fun D' hold hin H2 => Lists_T D' w1 c4 _ (r0.take 63 ++ [[122]]) (r0.take 63 ++ [[122]]) (hin _ fun h hs ho => stars_rep (cs := [c4]) hs) (hin _ fun h hs ho => rep_row (A := B6) hs _ (by rw [List.length_append, hlen63]; simp) (by rw [List.nil_append]; exact repL_append (repL_of_old ho hrep3) (repL_one1 (rep_bytes (b := b125) hs [122] rfl (by simp))))) rfl) (by first | assumption | exact Ent.refl _ | exact Ent.nil _ | (repeat (first | exact Ent.refl _ | exact Ent.nil _ | refine Ent.pick ?_))) ?_
              refine ha_take 13 rfl (ov_move rfl) rfl rfl rfl (by kernel_rfl) (by kernel_rfl) (by kernel_rfl) (by first | assumption | exact Ent.refl _ | exact Ent.nil _ | (repeat (first | exact Ent.refl _ | exact Ent.nil _ | refine Ent.pick ?_))) <| ?_
              refine ha_one 14 (by kernel_rfl) <| ?_
              refine ho_c rfl Try.call23 rfl rfl rfl (fun w1 H1 => Own.calln H1 fun D' hold hin H2 => wwakes_spec D' w1) (by first | assumption | exact Ent.refl _ | exact Ent.nil _ | (repeat (first | exact Ent.refl _ | exact Ent.nil _ | refine Ent.pick ?_))) ?_
              refine ha_take 15 rfl (ov_pickT rfl rfl) rfl rfl rfl (by kernel_rfl) (by kernel_rfl) (by kernel_rfl) (by first | assumption | exact Ent.refl _ | exact Ent.nil _ | (repeat (first | exact Ent.refl _ | exact Ent.nil _ | refine Ent.pick ?_))) <| ?_
              refine ha_take 16 rfl (ov_assign rfl) rfl rfl rfl (by kernel_rfl) (by kernel_rfl) (by kernel_rfl) (by first | assumption | exact Ent.refl _ | exact Ent.nil _ | (repeat (first | exact Ent.refl _ | exact Ent.nil _ | refine Ent.pick ?_))) <| ?_
              refine ha_done (by kernel_rfl) <|
                hx_then_normal <|
                hc_ret <| ?_
              exact results_1 (.inr rfl) rfl rfl fun w' H' => ⟨rfl, H'.ent (Ent.nil _)⟩
            · skip
              refine ho_u rfl (on_mark rfl) rfl rfl rfl (by first | assumption | exact Ent.refl _ | exact Ent.nil _ | (repeat (first | exact Ent.refl _ | exact Ent.nil _ | refine Ent.pick ?_))) ?_
              refine ha_two 7 10 (by kernel_rfl) ?_ ?_
              · skip
                refine ho_new rfl (on_appendR (A := some ⟨b120, 0, none⟩) (news := hs3) rfl rfl (by rw [e3.1]; exact SrcIs.old HS3) (by rw [hs3l, hlen63, Nat.mul_one]) hone3 (by decide) (by omega)) rfl rfl rfl (fun _ => (by first | assumption | exact Ent.refl _ | exact Ent.nil _ | (repeat (first | exact Ent.refl _ | exact Ent.nil _ | refine Ent.pick ?_)))) ?_
                rintro ⟨B5, capB5⟩
                dsimp only
                refine ha_one 10 (by kernel_rfl) <| ?_
                refine ho_new rfl (on_buildSliceN rfl rfl rfl) rfl rfl rfl (fun _ => (by first | assumption | exact Ent.refl _ | exact Ent.nil _ | (repeat (first | exact Ent.refl _ | exact Ent.nil _ | refine Ent.pick ?_)))) (fun b127 => ?_)
                refine ha_one 11 (by kernel_rfl) <| ?_
                refine ho_new rfl (on_appendR (A := B5) (news := [.slice (some ⟨b125, 0, none⟩) 1 1]) rfl rfl (SrcIs.blk (b := b127)) rfl (by simp [Value.oneCell']) (by decide) (by omega)) rfl rfl rfl (fun _ => (by first | assumption | exact Ent.refl _ | exact Ent.nil _ | (repeat (first | exact Ent.refl _ | exact Ent.nil _ | refine Ent.pick ?_)))) ?_
                rintro ⟨B6, capB6⟩
                dsimp only
                refine ha_one 12 (by kernel_rfl) <| ?_
                refine ho_c rfl Try.call17 rfl rfl rfl (fun w1 H1 => Own.calln H1 fun D' hold hin H2 => Lists_T D' w1 c4 _ (r0.take 63 ++ [[122]]) (r0.take 63 ++ [[122]]) (hin _ fun h hs ho => stars_rep (cs := [c4]) hs) (hin _ fun h hs ho => rep_row (A := B6) hs _ (by rw [List.length_append, hlen63]; simp) (by rw [List.nil_append]; exact repL_append (repL_of_old ho hrep3) (repL_one1 (rep_bytes (b := b125) hs [122] rfl (by simp))))) rfl) (by first | assumption | exact Ent.refl _ | exact Ent.nil _ | (repeat (first | exact Ent.refl _ | exact Ent.nil _ | refine Ent.pick ?_))) ?_
                refine ha_take 13 rfl (ov_move rfl) rfl rfl rfl (by kernel_rfl) (by kernel_rfl) (by kernel_rfl) (by first | assumption | exact Ent.refl _ | exact Ent.nil _ | (repeat (first | exact Ent.refl _ | exact Ent.nil _ | refine Ent.pick ?_))) <| ?_
                refine ha_one 14 (by kernel_rfl) <| ?_
                refine ho_c rfl Try.call23 rfl rfl rfl (fun w1 H1 => Own.calln H1 fun D' hold hin H2 => wwakes_spec D' w1) (by first | assumption | exact Ent.refl _ | exact Ent.nil _ | (repeat (first | exact Ent.refl _ | exact Ent.nil _ | refine Ent.pick ?_))) ?_
                refine ha_take 15 rfl (ov_pickT rfl rfl) rfl rfl rfl (by kernel_rfl) (by kernel_rfl) (by kernel_rfl) (by first | assumption | exact Ent.refl _ | exact Ent.nil _ | (repeat (first | exact Ent.refl _ | exact Ent.nil _ | refine Ent.pick ?_))) <| ?_
                refine ha_take 16 rfl (ov_assign rfl) rfl rfl rfl (by kernel_rfl) (by kernel_rfl) (by kernel_rfl) (by first | assumption | exact Ent.refl _ | exact Ent.nil _ | (repeat (first | exact Ent.refl _ | exact Ent.nil _ | refine Ent.pick ?_))) <| ?_
                refine ha_done (by kernel_rfl) <|
                  hx_then_normal <|
                  hc_ret <| ?_
                exact results_1 (.inr rfl) rfl rfl fun w' H' => ⟨rfl, H'.ent (Ent.nil _)⟩
              · skip
                refine ho_new rfl (on_buildSliceN rfl rfl rfl) rfl rfl rfl (fun _ => (by first | assumption | exact Ent.refl _ | exact Ent.nil _ | (repeat (first | exact Ent.refl _ | exact Ent.nil _ | refine Ent.pick ?_)))) (fun b127 => ?_)
                refine ha_one 7 (by kernel_rfl) <| ?_
                refine ho_new rfl (on_appendR (A := some ⟨b120, 0, none⟩) (news := hs3) rfl rfl (by rw [e3.1]; exact SrcIs.old HS3) (by rw [hs3l, hlen63, Nat.mul_one]) hone3 (by decide) (by omega)) rfl rfl rfl (fun _ => (by first | assumption | exact Ent.refl _ | exact Ent.nil _ | (repeat (first | exact Ent.refl _ | exact Ent.nil _ | refine Ent.pick ?_)))) ?_
                rintro ⟨B5, capB5⟩
                dsimp only
                refine ha_one 11 (by kernel_rfl) <| ?_
                refine ho_new rfl (on_appendR (A := B5) (news := [.slice (some ⟨b125, 0, none⟩) 1 1]) rfl rfl (SrcIs.blk (b := b127)) rfl (by simp [Value.oneCell']) (by decide) (by omega)) rfl rfl rfl (fun _ => (by first | assumption | exact Ent.refl _ | exact Ent.nil _ | (repeat (first | exact Ent.refl _ | exact Ent.nil _ | refine Ent.pick ?_)))) ?_
                rintro ⟨B6, capB6⟩
                dsimp only
                refine ha_one 12 (by kernel_rfl) <| ?_
                refine ho_c rfl Try.call17 rfl rfl rfl (fun w1 H1 => Own.calln H1 fun D' hold hin H2 => Lists_T D' w1 c4 _ (r0.take 63 ++ [[122]]) (r0.take 63 ++ [[122]]) (hin _ fun h hs ho => stars_rep (cs := [c4]) hs) (hin _ fun h hs ho => rep_row (A := B6) hs _ (by rw [List.length_append, hlen63]; simp) (by rw [List.nil_append]; exact repL_append (repL_of_old ho hrep3) (repL_one1 (rep_bytes (b := b125) hs [122] rfl (by simp))))) rfl) (by first | assumption | exact Ent.refl _ | exact Ent.nil _ | (repeat (first | exact Ent.refl _ | exact Ent.nil _ | refine Ent.pick ?_))) ?_
                refine ha_take 13 rfl (ov_move rfl) rfl rfl rfl (by kernel_rfl) (by kernel_rfl) (by kernel_rfl) (by first | assumption | exact Ent.refl _ | exact Ent.nil _ | (repeat (first | exact Ent.refl _ | exact Ent.nil _ | refine Ent.pick ?_))) <| ?_
                refine ha_one 14 (by kernel_rfl) <| ?_
                refine ho_c rfl Try.call23 rfl rfl rfl (fun w1 H1 => Own.calln H1 fun D' hold hin H2 => wwakes_spec D' w1) (by first | assumption | exact Ent.refl _ | exact Ent.nil _ | (repeat (first | exact Ent.refl _ | exact Ent.nil _ | refine Ent.pick ?_))) ?_
                refine ha_take 15 rfl (ov_pickT rfl rfl) rfl rfl rfl (by kernel_rfl) (by kernel_rfl) (by kernel_rfl) (by first | assumption | exact Ent.refl _ | exact Ent.nil _ | (repeat (first | exact Ent.refl _ | exact Ent.nil _ | refine Ent.pick ?_))) <| ?_
                refine ha_take 16 rfl (ov_assign rfl) rfl rfl rfl (by kernel_rfl) (by kernel_rfl) (by kernel_rfl) (by first | assumption | exact Ent.refl _ | exact Ent.nil _ | (repeat (first | exact Ent.refl _ | exact Ent.nil _ | refine Ent.pick ?_))) <| ?_
                refine ha_done (by kernel_rfl) <|
                  hx_then_normal <|
                  hc_ret <| ?_
                exact results_1 (.inr rfl) rfl rfl fun w' H' => ⟨rfl, H'.ent (Ent.nil _)⟩
          · skip
            refine ho_u rfl (on_mark rfl) rfl rfl rfl (by first | assumption | exact Ent.refl _ | exact Ent.nil _ | (repeat (first | exact Ent.refl _ | exact Ent.nil _ | refine Ent.pick ?_))) ?_
            refine ha_two 3 10 (by kernel_rfl) ?_ ?_
            · skip
              refine ho_new rfl (on_buildSliceN rfl rfl rfl) rfl rfl rfl (fun _ => (by first | assumption | exact Ent.refl _ | exact Ent.nil _ | (repeat (first | exact Ent.refl _ | exact Ent.nil _ | refine Ent.pick ?_)))) (fun b120 => ?_)
              refine ha_ent (Ent.blk_row (b := b120) 1 0 rfl (by decide)) ?_
              refine ha_two 7 10 (by kernel_rfl) ?_ ?_
              · skip
                refine ho_new rfl (on_appendR (A := some ⟨b120, 0, none⟩) (news := hs3) rfl rfl (by rw [e3.1]; exact SrcIs.old HS3) (by rw [hs3l, hlen63, Nat.mul_one]) hone3 (by decide) (by omega)) rfl rfl rfl (fun _ => (by first | assumption | exact Ent.refl _ | exact Ent.nil _ | (repeat (first | exact Ent.refl _ | exact Ent.nil _ | refine Ent.pick ?_)))) ?_
                rintro ⟨B5, capB5⟩
                dsimp only
                refine ha_one 10 (by kernel_rfl) <| ?_
                refine ho_new rfl (on_buildSliceN rfl rfl rfl) rfl rfl rfl (fun _ => (by first | assumption | exact Ent.refl _ | exact Ent.nil _ | (repeat (first | exact Ent.refl _ | exact Ent.nil _ | refine Ent.pick ?_)))) (fun b127 => ?_)
                refine ha_one 11 (by kernel_rfl) <| ?_
                refine ho_new rfl (on_appendR (A := B5) (news := [.slice (some ⟨b125, 0, none⟩) 1 1]) rfl rfl (SrcIs.blk (b := b127)) rfl (by simp [Value.oneCell']) (by decide) (by omega)) rfl rfl rfl (fun _ => (by first | assumption | exact Ent.refl _ | exact Ent.nil _ | (repeat (first | exact Ent.refl _ | exact Ent.nil _ | refine Ent.pick ?_)))) ?_
                rintro ⟨B6, capB6⟩
                dsimp only
                refine ha_one 12 (by kernel_rfl) <| ?_
                refine ho_c rfl Try.call17 rfl rfl rfl (fun w1 H1 => Own.calln H1 fun D' hold hin H2 => Lists_T D' w1 c4 _ (r0.take 63 ++ [[122]]) (r0.take 63 ++ [[122]]) (hin _ fun h hs ho => stars_rep (cs := [c4]) hs) (hin _ fun h hs ho => rep_row (A := B6) hs _ (by rw [List.length_append, hlen63]; simp) (by rw [List.nil_append]; exact repL_append (repL_of_old ho hrep3) (repL_one1 (rep_bytes (b := b125) hs [122] rfl (by simp))))) rfl) (by first | assumption | exact Ent.refl _ | exact Ent.nil _ | (repeat (first | exact Ent.refl _ | exact Ent.nil _ | refine Ent.pick ?_))) ?_
                refine ha_take 13 rfl (ov_move rfl) rfl rfl rfl (by kernel_rfl) (by kernel_rfl) (by kernel_rfl) (by first | assumption | exact Ent.refl _ | exact Ent.nil _ | (repeat (first | exact Ent.refl _ | exact Ent.nil _ | refine Ent.pick ?_))) <| ?_
                refine ha_one 14 (by kernel_rfl) <| ?_
                refine ho_c rfl Try.call23 rfl rfl rfl (fun w1 H1 => Own.calln H1 fun D' hold hin H2 => wwakes_spec D' w1) (by first | assumption | exact Ent.refl _ | exact Ent.nil _ | (repeat (first | exact Ent.refl _ | exact Ent.nil _ | refine Ent.pick ?_))) ?_
                refine ha_take 15 rfl (ov_pickT rfl rfl) rfl rfl rfl (by kernel_rfl) (by kernel_rfl) (by kernel_rfl) (by first | assumption | exact Ent.refl _ | exact Ent.nil _ | (repeat (first | exact Ent.refl _ | exact Ent.nil _ | refine Ent.pick ?_))) <| ?_
                refine ha_take 16 rfl (ov_assign rfl) rfl rfl rfl (by kernel_rfl) (by kernel_rfl) (by kernel_rfl) (by first | assumption | exact Ent.refl _ | exact Ent.nil _ | (repeat (first | exact Ent.refl _ | exact Ent.nil _ | refine Ent.pick ?_))) <| ?_
                refine ha_done (by kernel_rfl) <|
                  hx_then_normal <|
                  hc_ret <| ?_
                exact results_1 (.inr rfl) rfl rfl fun w' H' => ⟨rfl, H'.ent (Ent.nil _)⟩
              · skip
                refine ho_new rfl (on_buildSliceN rfl rfl rfl) rfl rfl rfl (fun _ => (by first | assumption | exact Ent.refl _ | exact Ent.nil _ | (repeat (first | exact Ent.refl _ | exact Ent.nil _ | refine Ent.pick ?_)))) (fun b127 => ?_)
                refine ha_one 7 (by kernel_rfl) <| ?_
                refine ho_new rfl (on_appendR (A := some ⟨b120, 0, none⟩) (news := hs3) rfl rfl (by rw [e3.1]; exact SrcIs.old HS3) (by rw [hs3l, hlen63, Nat.mul_one]) hone3 (by decide) (by omega)) rfl rfl rfl (fun _ => (by first | assumption | exact Ent.refl _ | exact Ent.nil _ | (repeat (first | exact Ent.refl _ | exact Ent.nil _ | refine Ent.pick ?_)))) ?_
                rintro ⟨B5, capB5⟩
                dsimp only
                refine ha_one 11 (by kernel_rfl) <| ?_
                refine ho_new rfl (on_appendR (A := B5) (news := [.slice (some ⟨b125, 0, none⟩) 1 1]) rfl rfl (SrcIs.blk (b := b127)) rfl (by simp [Value.oneCell']) (by decide) (by omega)) rfl rfl rfl (fun _ => (by first | assumption | exact Ent.refl _ | exact Ent.nil _ | (repeat (first | exact Ent.refl _ | exact Ent.nil _ | refine Ent.pick ?_)))) ?_
                rintro ⟨B6, capB6⟩
                dsimp only
                refine ha_one 12 (by kernel_rfl) <| ?_
                refine ho_c rfl Try.call17 rfl rfl rfl (fun w1 H1 => Own.calln H1 fun D' hold hin H2 => Lists_T D' w1 c4 _ (r0.take 63 ++ [[122]]) (r0.take 63 ++ [[122]]) (hin _ fun h hs ho => stars_rep (cs := [c4]) hs) (hin _ fun h hs ho => rep_row (A := B6) hs _ (by rw [List.length_append, hlen63]; simp) (by rw [List.nil_append]; exact repL_append (repL_of_old ho hrep3) (repL_one1 (rep_bytes (b := b125) hs [122] rfl (by simp))))) rfl) (by first | assumption | exact Ent.refl _ | exact Ent.nil _ | (repeat (first | exact Ent.refl _ | exact Ent.nil _ | refine Ent.pick ?_))) ?_
                refine ha_take 13 rfl (ov_move rfl) rfl rfl rfl (by kernel_rfl) (by kernel_rfl) (by kernel_rfl) (by first | assumption | exact Ent.refl _ | exact Ent.nil _ | (repeat (first | exact Ent.refl _ | exact Ent.nil _ | refine Ent.pick ?_))) <| ?_
                refine ha_one 14 (by kernel_rfl) <| ?_
                refine ho_c rfl Try.call23 rfl rfl rfl (fun w1 H1 => Own.calln H1 fun D' hold hin H2 => wwakes_spec D' w1) (by first | assumption | exact Ent.refl _ | exact Ent.nil _ | (repeat (first | exact Ent.refl _ | exact Ent.nil _ | refine Ent.pick ?_))) ?_
                refine ha_take 15 rfl (ov_pickT rfl rfl) rfl rfl rfl (by kernel_rfl) (by kernel_rfl) (by kernel_rfl) (by first | assumption | exact Ent.refl _ | exact Ent.nil _ | (repeat (first | exact Ent.refl _ | exact Ent.nil _ | refine Ent.pick ?_))) <| ?_
                refine ha_take 16 rfl (ov_assign rfl) rfl rfl rfl (by kernel_rfl) (by kernel_rfl) (by kernel_rfl) (by first | assumption | exact Ent.refl _ | exact Ent.nil _ | (repeat (first | exact Ent.refl _ | exact Ent.nil _ | refine Ent.pick ?_))) <| ?_
                refine ha_done (by kernel_rfl) <|
                  hx_then_normal <|
                  hc_ret <| ?_
                exact results_1 (.inr rfl) rfl rfl fun w' H' => ⟨rfl, H'.ent (Ent.nil _)⟩
            · skip
              refine ho_new rfl (on_buildSliceN rfl rfl rfl) rfl rfl rfl (fun _ => (by first | assumption | exact Ent.refl _ | exact Ent.nil _ | (repeat (first | exact Ent.refl _ | exact Ent.nil _ | refine Ent.pick ?_)))) (fun b127 => ?_)
              refine ha_one 3 (by kernel_rfl) <| ?_
              refine ho_new rfl (on_buildSliceN rfl rfl rfl) rfl rfl rfl (fun _ => (by first | assumption | exact Ent.refl _ | exact Ent.nil _ | (repeat (first | exact Ent.refl _ | exact Ent.nil _ | refine Ent.pick ?_)))) (fun b120 => ?_)
              refine ha_ent (Ent.blk_row (b := b120) 1 0 rfl (by decide)) ?_
              refine ha_one 7 (by kernel_rfl) <| ?_
              refine ho_new rfl (on_appendR (A := some ⟨b120, 0, none⟩) (news := hs3) rfl rfl (by rw [e3.1]; exact SrcIs.old HS3) (by rw [hs3l, hlen63, Nat.mul_one]) hone3 (by decide) (by omega)) rfl rfl rfl (fun _ => (by first | assumption | exact Ent.refl _ | exact Ent.nil _ | (repeat (first | exact Ent.refl _ | exact Ent.nil _ | refine Ent.pick ?_)))) ?_
              rintro ⟨B5, capB5⟩
              dsimp only
              refine ha_one 11 (by kernel_rfl) <| ?_
              refine ho_new rfl (on_appendR (A := B5) (news := [.slice (some ⟨b125, 0, none⟩) 1 1]) rfl rfl (SrcIs.blk (b := b127)) rfl (by simp [Value.oneCell']) (by decide) (by omega)) rfl rfl rfl (fun _ => (by first | assumption | exact Ent.refl _ | exact Ent.nil _ | (repeat (first | exact Ent.refl _ | exact Ent.nil _ | refine Ent.pick ?_)))) ?_
              rintro ⟨B6, capB6⟩
              dsimp only
              refine ha_one 12 (by kernel_rfl) <| ?_
              refine ho_c rfl Try.call17 rfl rfl rfl (fun w1 H1 => Own.calln H1 fun D' hold hin H2 => Lists_T D' w1 c4 _ (r0.take 63 ++ [[122]]) (r0.take 63 ++ [[122]]) (hin _ fun h hs ho => stars_rep (cs := [c4]) hs) (hin _ fun h hs ho => rep_row (A := B6) hs _ (by rw [List.length_append, hlen63]; simp) (by rw [List.nil_append]; exact repL_append (repL_of_old ho hrep3) (repL_one1 (rep_bytes (b := b125) hs [122] rfl (by simp))))) rfl) (by first | assumption | exact Ent.refl _ | exact Ent.nil _ | (repeat (first | exact Ent.refl _ | exact Ent.nil _ | refine Ent.pick ?_))) ?_
              refine ha_take 13 rfl (ov_move rfl) rfl rfl rfl (by kernel_rfl) (by kernel_rfl) (by kernel_rfl) (by first | assumption | exact Ent.refl _ | exact Ent.nil _ | (repeat (first | exact Ent.refl _ | exact Ent.nil _ | refine Ent.pick ?_))) <| ?_
              refine ha_one 14 (by kernel_rfl) <| ?_
              refine ho_c rfl Try.call23 rfl rfl rfl (fun w1 H1 => Own.calln H1 fun D' hold hin H2 => wwakes_spec D' w1) (by first | assumption | exact Ent.refl _ | exact Ent.nil _ | (repeat (first | exact Ent.refl _ | exact Ent.nil _ | refine Ent.pick ?_))) ?_
              refine ha_take 15 rfl (ov_pickT rfl rfl) rfl rfl rfl (by kernel_rfl) (by kernel_rfl) (by kernel_rfl) (by first | assumption | exact Ent.refl _ | exact Ent.nil _ | (repeat (first | exact Ent.refl _ | exact Ent.nil _ | refine Ent.pick ?_))) <| ?_
              refine ha_take 16 rfl (ov_assign rfl) rfl rfl rfl (by kernel_rfl) (by kernel_rfl) (by kernel_rfl) (by first | assumption | exact Ent.refl _ | exact Ent.nil _ | (repeat (first | exact Ent.refl _ | exact Ent.nil _ | refine Ent.pick ?_))) <| ?_
              refine ha_done (by kernel_rfl) <|
                hx_then_normal <|
                hc_ret <| ?_
              exact results_1 (.inr rfl) rfl rfl fun w' H' => ⟨rfl, H'.ent (Ent.nil _)⟩
        · skip
          refine ho_new rfl (on_buildSliceN rfl rfl rfl) rfl rfl rfl (fun _ => (by first | assumption | exact Ent.refl _ | exact Ent.nil _ | (repeat (first | exact Ent.refl _ | exact Ent.nil _ | refine Ent.pick ?_)))) (fun b120 => ?_)
          refine ha_ent (Ent.blk_row (b := b120) 1 0 rfl (by decide)) ?_
          refine ha_two 2 9 (by kernel_rfl) ?_ ?_
          · skip
            refine ho_call (σ := Value) rfl Try.call22 rfl rfl rfl (fun w1 H1 => Own.callpx (wir w b22 (r0.take 63 ++ [[122]]) []) H1 fun D' hold hin H2 => All_w D' w1 b22 w hw2 (r0.take 63 ++ [[122]]) [] (by simp only [List.length_append, List.length_cons, List.length_nil]; omega) hwok H2) (fun _ => (by first | assumption | exact Ent.refl _ | exact Ent.nil _ | (repeat (first | exact Ent.refl _ | exact Ent.nil _ | refine Ent.pick ?_)))) ?_
            intro c4
            refine ha_two 7 9 (by kernel_rfl) ?_ ?_
            · skip
              refine ho_new rfl (on_appendR (A := some ⟨b120, 0, none⟩) (news := hs3) rfl rfl (by rw [e3.1]; exact SrcIs.old HS3) (by rw [hs3l, hlen63, Nat.mul_one]) hone3 (by decide) (by omega)) rfl rfl rfl (fun _ => (by first | assumption | exact Ent.refl _ | exact Ent.nil _ | (repeat (first | exact Ent.refl _ | exact Ent.nil _ | refine Ent.pick ?_)))) ?_
              rintro ⟨B5, capB5⟩
              dsimp only
              refine ha_one 9 (by kernel_rfl) <| ?_
              refine ho_u rfl (on_mark rfl) rfl rfl rfl (by first | assumption | exact Ent.refl _ | exact Ent.nil _ | (repeat (first | exact Ent.refl _ | exact Ent.nil _ | refine Ent.pick ?_))) ?_
              refine ha_one 10 (by kernel_rfl) <| ?_
              refine ho_new rfl (on_buildSliceN rfl rfl rfl) rfl rfl rfl (fun _ => (by first | assumption | exact Ent.refl _ | exact Ent.nil _ | (repeat (first | exact Ent.refl _ | exact Ent.nil _ | refine Ent.pick ?_)))) (fun b127 => ?_)
              refine ha_one 11 (by kernel_rfl) <| ?_
              refine ho_new rfl (on_appendR (A := B5) (news := [.slice (some ⟨b125, 0, none⟩) 1 1]) rfl rfl (SrcIs.blk (b := b127)) rfl (by simp [Value.oneCell']) (by decide) (by omega)) rfl rfl rfl (fun _ => (by first | assumption | exact Ent.refl _ | exact Ent.nil _ | (repeat (first | exact Ent.refl _ | exact Ent.nil _ | refine Ent.pick ?_)))) ?_
              rintro ⟨B6, capB6⟩
              dsimp only
              refine ha_one 12 (by kernel_rfl) <| ?_
              refine ho_c rfl Try.call17 rfl rfl rfl (fun w1 H1 => Own.calln H1 fun D' hold hin H2 => Lists_T D' w1 c4 _ (r0.take 63 ++ [[122]]) (r0.take 63 ++ [[122]]) (hin _ fun h hs ho => stars_rep (cs := [c4]) hs) (hin _ fun h hs ho => rep_row (A := B6) hs _ (by rw [List.length_append, hlen63]; simp) (by rw [List.nil_append]; exact repL_append (repL_of_old ho hrep3) (repL_one1 (rep_bytes (b := b125) hs [122] rfl (by simp))))) rfl) (by first | assumption | exact Ent.refl _ | exact Ent.nil _ | (repeat (first | exact Ent.refl _ | exact Ent.nil _ | refine Ent.pick ?_))) ?_
              refine ha_take 13 rfl (ov_move rfl) rfl rfl rfl (by kernel_rfl) (by kernel_rfl) (by kernel_rfl) (by first | assumption | exact Ent.refl _ | exact Ent.nil _ | (repeat (first | exact Ent.refl _ | exact Ent.nil _ | refine Ent.pick ?_))) <| ?_
              refine ha_one 14 (by kernel_rfl) <| ?_
              refine ho_c rfl Try.call23 rfl rfl rfl (fun w1 H1 => Own.calln H1 fun D' hold hin H2 => wwakes_spec D' w1) (by first | assumption | exact Ent.refl _ | exact Ent.nil _ | (repeat (first | exact Ent.refl _ | exact Ent.nil _ | refine Ent.pick ?_))) ?_
              refine ha_take 15 rfl (ov_pickT rfl rfl) rfl rfl rfl (by kernel_rfl) (by kernel_rfl) (by kernel_rfl) (by first | assumption | exact Ent.refl _ | exact Ent.nil _ | (repeat (first | exact Ent.refl _ | exact Ent.nil _ | refine Ent.pick ?_))) <| ?_
              refine ha_take 16 rfl (ov_assign rfl) rfl rfl rfl (by kernel_rfl) (by kernel_rfl) (by kernel_rfl) (by first | assumption | exact Ent.refl _ | exact Ent.nil _ | (repeat (first | exact Ent.refl _ | exact Ent.nil _ | refine Ent.pick ?_))) <| ?_
              refine ha_done (by kernel_rfl) <|
                hx_then_normal <|
                hc_ret <| ?_
              exact results_1 (.inr rfl) rfl rfl fun w' H' => ⟨rfl, H'.ent (Ent.nil _)⟩
            · skip
              refine ho_u rfl (on_mark rfl) rfl rfl rfl (by first | assumption | exact Ent.refl _ | exact Ent.nil _ | (repeat (first | exact Ent.refl _ | exact Ent.nil _ | refine Ent.pick ?_))) ?_
              refine ha_two 7 10 (by kernel_rfl) ?_ ?_
              · skip
                refine ho_new rfl (on_appendR (A := some ⟨b120, 0, none⟩) (news := hs3) rfl rfl (by rw [e3.1]; exact SrcIs.old HS3) (by rw [hs3l, hlen63, Nat.mul_one]) hone3 (by decide) (by omega)) rfl rfl rfl (fun _ => (by first | assumption | exact Ent.refl _ | exact Ent.nil _ | (repeat (first | exact Ent.refl _ | exact Ent.nil _ | refine Ent.pick ?_)))) ?_
                rintro ⟨B5, capB5⟩
                dsimp only
                refine ha_one 10 (by kernel_rfl) <| ?_
                refine ho_new rfl (on_buildSliceN rfl rfl rfl) rfl rfl rfl (fun _ => (by first | assumption | exact Ent.refl _ | exact Ent.nil _ | (repeat (first | exact Ent.refl _ | exact Ent.nil _ | refine Ent.pick ?_)))) (fun b127 => ?_)
                refine ha_one 11 (by kernel_rfl) <| ?_
                refine ho_new rfl (on_appendR (A := B5) (news := [.slice (some ⟨b125, 0, none⟩) 1 1]) rfl rfl (SrcIs.blk (b := b127)) rfl (by simp [Value.oneCell']) (by decide) (by omega)) rfl rfl rfl (fun _ => (by first | assumption | exact Ent.refl _ | exact Ent.nil _ | (repeat (first | exact Ent.refl _ | exact Ent.nil _ | refine Ent.pick ?_)))) ?_
                rintro ⟨B6, capB6⟩
                dsimp only
                refine ha_one 12 (by kernel_rfl) <| ?_
                refine ho_c rfl Try.call17 rfl rfl rfl (fun w1 H1 => Own.calln H1 fun D' hold hin H2 => Lists_T D' w1 c4 _ (r0.take 63 ++ [[122]]) (r0.take 63 ++ [[122]]) (hin _ fun h hs ho => stars_rep (cs := [c4]) hs) (hin _ fun h hs ho => rep_row (A := B6) hs _ (by rw [List.length_append, hlen63]; simp) (by rw [List.nil_append]; exact repL_append (repL_of_old ho hrep3) (repL_one1 (rep_bytes (b := b125) hs [122] rfl (by simp))))) rfl) (by first | assumption | exact Ent.refl _ | exact Ent.nil _ | (repeat (first | exact Ent.refl _ | exact Ent.nil _ | refine Ent.pick ?_))) ?_
                refine ha_take 13 rfl (ov_move rfl) rfl rfl rfl (by kernel_rfl) (by kernel_rfl) (by kernel_rfl) (by first | assumption | exact Ent.refl _ | exact Ent.nil _ | (repeat (first | exact Ent.refl _ | exact Ent.nil _ | refine Ent.pick ?_))) <| ?_
                refine ha_one 14 (by kernel_rfl) <| ?_
                refine ho_c rfl Try.call23 rfl rfl rfl (fun w1 H1 => Own.calln H1 fun D' hold hin H2 => wwakes_spec D' w1) (by first | assumption | exact Ent.refl _ | exact Ent.nil _ | (repeat (first | exact Ent.refl _ | exact Ent.nil _ | refine Ent.pick ?_))) ?_
                refine ha_take 15 rfl (ov_pickT rfl rfl) rfl rfl rfl (by kernel_rfl) (by kernel_rfl) (by kernel_rfl) (by first | assumption | exact Ent.refl _ | exact Ent.nil _ | (repeat (first | exact Ent.refl _ | exact Ent.nil _ | refine Ent.pick ?_))) <| ?_
                refine ha_take 16 rfl (ov_assign rfl) rfl rfl rfl (by kernel_rfl) (by kernel_rfl) (by kernel_rfl) (by first | assumption | exact Ent.refl _ | exact Ent.nil _ | (repeat (first | exact Ent.refl _ | exact Ent.nil _ | refine Ent.pick ?_))) <| ?_
                refine ha_done (by kernel_rfl) <|
                  hx_then_normal <|
                  hc_ret <| ?_
                exact results_1 (.inr rfl) rfl rfl fun w' H' => ⟨rfl, H'.ent (Ent.nil _)⟩
              · skip
                refine ho_new rfl (on_buildSliceN rfl rfl rfl) rfl rfl rfl (fun _ => (by first | assumption | exact Ent.refl _ | exact Ent.nil _ | (repeat (first | exact Ent.refl _ | exact Ent.nil _ | refine Ent.pick ?_)))) (fun b127 => ?_)
                refine ha_one 7 (by kernel_rfl) <| ?_
                refine ho_new rfl (on_appendR (A := some ⟨b120, 0, none⟩) (news := hs3) rfl rfl (by rw [e3.1]; exact SrcIs.old HS3) (by rw [hs3l, hlen63, Nat.mul_one]) hone3 (by decide) (by omega)) rfl rfl rfl (fun _ => (by first | assumption | exact Ent.refl _ | exact Ent.nil _ | (repeat (first | exact Ent.refl _ | exact Ent.nil _ | refine Ent.pick ?_)))) ?_
                rintro ⟨B5, capB5⟩
                dsimp only
                refine ha_one 11 (by kernel_rfl) <| ?_
                refine ho_new rfl (on_appendR (A := B5) (news := [.slice (some ⟨b125, 0, none⟩) 1 1]) rfl rfl (SrcIs.blk (b := b127)) rfl (by simp [Value.oneCell']) (by decide) (by omega)) rfl rfl rfl (fun _ => (by first | assumption | exact Ent.refl _ | exact Ent.nil _ | (repeat (first | exact Ent.refl _ | exact Ent.nil _ | refine Ent.pick ?_)))) ?_
                rintro ⟨B6, capB6⟩
                dsimp only
                refine ha_one 12 (by kernel_rfl) <| ?_
                refine ho_c rfl Try.call17 rfl rfl rfl (fun w1 H1 => Own.calln H1 fun D' hold hin H2 => Lists_T D' w1 c4 _ (r0.take 63 ++ [[122]]) (r0.take 63 ++ [[122]]) (hin _ fun h hs ho => stars_rep (cs := [c4]) hs) (hin _ fun h hs ho => rep_row (A := B6) hs _ (by rw [List.length_append, hlen63]; simp) (by rw [List.nil_append]; exact repL_append (repL_of_old ho hrep3) (repL_one1 (rep_bytes (b := b125) hs [122] rfl (by simp))))) rfl) (by first | assumption | exact Ent.refl _ | exact Ent.nil _ | (repeat (first | exact Ent.refl _ | exact Ent.nil _ | refine Ent.pick ?_))) ?_
                refine ha_take 13 rfl (ov_move rfl) rfl rfl rfl (by kernel_rfl) (by kernel_rfl) (by kernel_rfl) (by first | assumption | exact Ent.refl _ | exact Ent.nil _ | (repeat (first | exact Ent.refl _ | exact Ent.nil _ | refine Ent.pick ?_))) <| ?_
                refine ha_one 14 (by kernel_rfl) <| ?_
                refine ho_c rfl Try.call23 rfl rfl rfl (fun w1 H1 => Own.calln H1 fun D' hold hin H2 => wwakes_spec D' w1) (by first | assumption | exact Ent.refl _ | exact Ent.nil _ | (repeat (first | exact Ent.refl _ | exact Ent.nil _ | refine Ent.pick ?_))) ?_
                refine ha_take 15 rfl (ov_pickT rfl rfl) rfl rfl rfl (by kernel_rfl) (by kernel_rfl) (by kernel_rfl) (by first | assumption | exact Ent.refl _ | exact Ent.nil _ | (repeat (first | exact Ent.refl _ | exact Ent.nil _ | refine Ent.pick ?_))) <| ?_
                refine ha_take 16 rfl (ov_assign rfl) rfl rfl rfl (by kernel_rfl) (by kernel_rfl) (by kernel_rfl) (by first | assumption | exact Ent.refl _ | exact Ent.nil _ | (repeat (first | exact Ent.refl _ | exact Ent.nil _ | refine Ent.pick ?_))) <| ?_
                refine ha_done (by kernel_rfl) <|
                  hx_then_normal <|
                  hc_ret <| ?_
                exact results_1 (.inr rfl) rfl rfl fun w' H' => ⟨rfl, H'.ent (Ent.nil _)⟩
          · skip
            refine ho_u rfl (on_mark rfl) rfl rfl rfl (by first | assumption | exact Ent.refl _ | exact Ent.nil _ | (repeat (first | exact Ent.refl _ | exact Ent.nil _ | refine Ent.pick ?_))) ?_
            refine ha_two 2 10 (by kernel_rfl) ?_ ?_
            · skip
              refine ho_call (σ := Value) rfl Try.call22 rfl rfl rfl (fun w1 H1 => Own.callpx (wir w b22 (r0.take 63 ++ [[122]]) []) H1 fun D' hold hin H2 => All_w D' w1 b22 w hw2 (r0.take 63 ++ [[122]]) [] (by simp only [List.length_append, List.length_cons, List.length_nil]; omega) hwok H2) (fun _ => (by first | assumption | exact Ent.refl _ | exact Ent.nil _ | (repeat (first | exact Ent.refl _ | exact Ent.nil _ | refine Ent.pick ?_)))) ?_
              intro c4
              refine ha_two 7 10 (by kernel_rfl) ?_ ?_
              · skip
                refine ho_new rfl (on_appendR (A := some ⟨b120, 0, none⟩) (news := hs3) rfl rfl (by rw [e3.1]; exact SrcIs.old HS3) (by rw [hs3l, hlen63, Nat.mul_one]) hone3 (by decide) (by omega)) rfl rfl rfl (fun _ => (by first | assumption | exact Ent.refl _ | exact Ent.nil _ | (repeat (first | exact Ent.refl _ | exact Ent.nil _ | refine Ent.pick ?_)))) ?_
                rintro ⟨B5, capB5⟩
                dsimp only
                refine ha_one 10 (by kernel_rfl) <| ?_
                refine ho_new rfl (on_buildSliceN rfl rfl rfl) rfl rfl rfl (fun _ => (by first | assumption | exact Ent.refl _ | exact Ent.nil _ | (repeat (first | exact Ent.refl _ | exact Ent.nil _ | refine Ent.pick ?_)))) (fun b127 => ?_)
                refine ha_one 11 (by kernel_rfl) <| ?_
                refine ho_new rfl (on_appendR (A := B5) (news := [.slice (some ⟨b125, 0, none⟩) 1 1]) rfl rfl (SrcIs.blk (b := b127)) rfl (by simp [Value.oneCell']) (by decide) (by omega)) rfl rfl rfl (fun _ => (by first | assumption | exact Ent.refl _ | exact Ent.nil _ | (repeat (first | exact Ent.refl _ | exact Ent.nil _ | refine Ent.pick ?_)))) ?_
                rintro ⟨B6, capB6⟩
                dsimp only
                refine ha_one 12 (by kernel_rfl) <| ?_
                refine ho_c rfl Try.call17 rfl rfl rfl (fun w1 H1 => Own.calln H1 fun D' hold hin H2 => Lists_T D' w1 c4 _ (r0.take 63 ++ [[122]]) (r0.take 63 ++ [[122]]) (hin _ fun h hs ho => stars_rep (cs := [c4]) hs) (hin _ fun h hs ho => rep_row (A := B6) hs _ (by rw [List.length_append, hlen63]; simp) (by rw [List.nil_append]; exact repL_append (repL_of_old ho hrep3) (repL_one1 (rep_bytes (b := b125) hs [122] rfl (by simp))))) rfl) (by first | assumption | exact Ent.refl _ | exact Ent.nil _ | (repeat (first | exact Ent.refl _ | exact Ent.nil _ | refine Ent.pick ?_))) ?_
                refine ha_take 13 rfl (ov_move rfl) rfl rfl rfl (by kernel_rfl) (by kernel_rfl) (by kernel_rfl) (by first | assumption | exact Ent.refl _ | exact Ent.nil _ | (repeat (first | exact Ent.refl _ | exact Ent.nil _ | refine Ent.pick ?_))) <| ?_
                refine ha_one 14 (by kernel_rfl) <| ?_
                refine ho_c rfl Try.call23 rfl rfl rfl (fun w1 H1 => Own.calln H1 fun D' hold hin H2 => wwakes_spec D' w1) (by first | assumption | exact Ent.refl _ | exact Ent.nil _ | (repeat (first | exact Ent.refl _ | exact Ent.nil _ | refine Ent.pick ?_))) ?_
                refine ha_take 15 rfl (ov_pickT rfl rfl) rfl rfl rfl (by kernel_rfl) (by kernel_rfl) (by kernel_rfl) (by first | assumption | exact Ent.refl _ | exact Ent.nil _ | (repeat (first | exact Ent.refl _ | exact Ent.nil _ | refine Ent.pick ?_))) <| ?_
                refine ha_take 16 rfl (ov_assign rfl) rfl rfl rfl (by kernel_rfl) (by kernel_rfl) (by kernel_rfl) (by first | assumption | exact Ent.refl _ | exact Ent.nil _ | (repeat (first | exact Ent.refl _ | exact Ent.nil _ | refine Ent.pick ?_))) <| ?_
                refine ha_done (by kernel_rfl) <|
                  hx_then_normal <|
                  hc_ret <| ?_
                exact results_1 (.inr rfl) rfl rfl fun w' H' => ⟨rfl, H'.ent (Ent.nil _)⟩
              · skip
                refine ho_new rfl (on_buildSliceN rfl rfl rfl) rfl rfl rfl (fun _ => (by first | assumption | exact Ent.refl _ | exact Ent.nil _ | (repeat (first | exact Ent.refl _ | exact Ent.nil _ | refine Ent.pick ?_)))) (fun b127 => ?_)
                refine ha_one 7 (by kernel_rfl) <| ?_
                refine ho_new rfl (on_appendR (A := some ⟨b120, 0, none⟩) (news := hs3) rfl rfl (by rw [e3.1]; exact SrcIs.old HS3) (by rw [hs3l, hlen63, Nat.mul_one]) hone3 (by decide) (by omega)) rfl rfl rfl (fun _ => (by first | assumption | exact Ent.refl _ | exact Ent.nil _ | (repeat (first | exact Ent.refl _ | exact Ent.nil _ | refine Ent.pick ?_)))) ?_
                rintro ⟨B5, capB5⟩
                dsimp only
                refine ha_one 11 (by kernel_rfl) <| ?_
                refine ho_new rfl (on_appendR (A := B5) (news := [.slice (some ⟨b125, 0, none⟩) 1 1]) rfl rfl (SrcIs.blk (b := b127)) rfl (by simp [Value.oneCell']) (by decide) (by omega)) rfl rfl rfl (fun _ => (by first | assumption | exact Ent.refl _ | exact Ent.nil _ | (repeat (first | exact Ent.refl _ | exact Ent.nil _ | refine Ent.pick ?_)))) ?_
                rintro ⟨B6, capB6⟩
                dsimp only
                refine ha_one 12 (by kernel_rfl) <| ?_
                refine ho_c rfl Try.call17 rfl rfl rfl (fun w1 H1 => Own.calln H1 fun D' hold hin H2 => Lists_T D' w1 c4 _ (r0.take 63 ++ [[122]]) (r0.take 63 ++ [[122]]) (hin _ fun h hs ho => stars_rep (cs := [c4]) hs) (hin _ fun h hs ho => rep_row (A := B6) hs _ (by rw [List.length_append, hlen63]; simp) (by rw [List.nil_append]; exact repL_append (repL_of_old ho hrep3) (repL_one1 (rep_bytes (b := b125) hs [122] rfl (by simp))))) rfl) (by first | assumption | exact Ent.refl _ | exact Ent.nil _ | (repeat (first | exact Ent.refl _ | exact Ent.nil _ | refine Ent.pick ?_))) ?_
                refine ha_take 13 rfl (ov_move rfl) rfl rfl rfl (by kernel_rfl) (by kernel_rfl) (by kernel_rfl) (by first | assumption | exact Ent.refl _ | exact Ent.nil _ | (repeat (first | exact Ent.refl _ | exact Ent.nil _ | refine Ent.pick ?_))) <| ?_
                refine ha_one 14 (by kernel_rfl) <| ?_
                refine ho_c rfl Try.call23 rfl rfl rfl (fun w1 H1 => Own.calln H1 fun D' hold hin H2 => wwakes_spec D' w1) (by first | assumption | exact Ent.refl _ | exact Ent.nil _ | (repeat (first | exact Ent.refl _ | exact Ent.nil _ | refine Ent.pick ?_))) ?_
                refine ha_take 15 rfl (ov_pickT rfl rfl) rfl rfl rfl (by kernel_rfl) (by kernel_rfl) (by kernel_rfl) (by first | assumption | exact Ent.refl _ | exact Ent.nil _ | (repeat (first | exact Ent.refl _ | exact Ent.nil _ | refine Ent.pick ?_))) <| ?_
                refine ha_take 16 rfl (ov_assign rfl) rfl rfl rfl (by kernel_rfl) (by kernel_rfl) (by kernel_rfl) (by first | assumption | exact Ent.refl _ | exact Ent.nil _ | (repeat (first | exact Ent.refl _ | exact Ent.nil _ | refine Ent.pick ?_))) <| ?_
                refine ha_done (by kernel_rfl) <|
                  hx_then_normal <|
                  hc_ret <| ?_
                exact results_1 (.inr rfl) rfl rfl fun w' H' => ⟨rfl, H'.ent (Ent.nil _)⟩
            · skip
              refine ho_new rfl (on_buildSliceN rfl rfl rfl) rfl rfl rfl (fun _ => (by first | assumption | exact Ent.refl _ | exact Ent.nil _ | (repeat (first | exact Ent.refl _ | exact Ent.nil _ | refine Ent.pick ?_)))) (fun b127 => ?_)
              refine ha_one 2 (by kernel_rfl) <| ?_
              refine ho_call (σ := Value) rfl Try.call22 rfl rfl rfl (fun w1 H1 => Own.callpx (wir w b22 (r0.take 63 ++ [[122]]) []) H1 fun D' hold hin H2 => All_w D' w1 b22 w hw2 (r0.take 63 ++ [[122]]) [] (by simp only [List.length_append, List.length_cons, List.length_nil]; omega) hwok H2) (fun _ => (by first | assumption | exact Ent.refl _ | exact Ent.nil _ | (repeat (first | exact Ent.refl _ | exact Ent.nil _ | refine Ent.pick ?_)))) ?_
              intro c4
              refine ha_one 7 (by kernel_rfl) <| ?_
              refine ho_new rfl (on_appendR (A := some ⟨b120, 0, none⟩) (news := hs3) rfl rfl (by rw [e3.1]; exact SrcIs.old HS3) (by rw [hs3l, hlen63, Nat.mul_one]) hone3 (by decide) (by omega)) rfl rfl rfl (fun _ => (by first | assumption | exact Ent.refl _ | exact Ent.nil _ | (repeat (first | exact Ent.refl _ | exact Ent.nil _ | refine Ent.pick ?_)))) ?_
              rintro ⟨B5, capB5⟩
              dsimp only
              refine ha_one 11 (by kernel_rfl) <| ?_
              refine ho_new rfl (on_appendR (A := B5) (news := [.slice (some ⟨b125, 0, none⟩) 1 1]) rfl rfl (SrcIs.blk (b := b127)) rfl (by simp [Value.oneCell']) (by decide) (by omega)) rfl rfl rfl (fun _ => (by first | assumption | exact Ent.refl _ | exact Ent.nil _ | (repeat (first | exact Ent.refl _ | exact Ent.nil _ | refine Ent.pick ?_)))) ?_
              rintro ⟨B6, capB6⟩
              dsimp only
              refine ha_one 12 (by kernel_rfl) <| ?_
              refine ho_c rfl Try.call17 rfl rfl rfl (fun w1 H1 => Own.calln H1 fun D' hold hin H2 => Lists_T D' w1 c4 _ (r0.take 63 ++ [[122]]) (r0.take 63 ++ [[122]]) (hin _ fun h hs ho => stars_rep (cs := [c4]) hs) (hin _ fun h hs ho => rep_row (A := B6) hs _ (by rw [List.length_append, hlen63]; simp) (by rw [List.nil_append]; exact repL_append (repL_of_old ho hrep3) (repL_one1 (rep_bytes (b := b125) hs [122] rfl (by simp))))) rfl) (by first | assumption | exact Ent.refl _ | exact Ent.nil _ | (repeat (first | exact Ent.refl _ | exact Ent.nil _ | refine Ent.pick ?_))) ?_
              refine ha_take 13 rfl (ov_move rfl) rfl rfl rfl (by kernel_rfl) (by kernel_rfl) (by kernel_rfl) (by first | assumption | exact Ent.refl _ | exact Ent.nil _ | (repeat (first | exact Ent.refl _ | exact Ent.nil _ | refine Ent.pick ?_))) <| ?_
              refine ha_one 14 (by kernel_rfl) <| ?_
              refine ho_c rfl Try.call23 rfl rfl rfl (fun w1 H1 => Own.calln H1 fun D' hold hin H2 => wwakes_spec D' w1) (by first | assumption | exact Ent.refl _ | exact Ent.nil _ | (repeat (first | exact Ent.refl _ | exact Ent.nil _ | refine Ent.pick ?_))) ?_
              refine ha_take 15 rfl (ov_pickT rfl rfl) rfl rfl rfl (by kernel_rfl) (by kernel_rfl) (by kernel_rfl) (by first | assumption | exact Ent.refl _ | exact Ent.nil _ | (repeat (first | exact Ent.refl _ | exact Ent.nil _ | refine Ent.pick ?_))) <| ?_
              refine ha_take 16 rfl (ov_assign rfl) rfl rfl rfl (by kernel_rfl) (by kernel_rfl) (by kernel_rfl) (by first | assumption | exact Ent.refl _ | exact Ent.nil _ | (repeat (first | exact Ent.refl _ | exact Ent.nil _ | refine Ent.pick ?_))) <| ?_
              refine ha_done (by kernel_rfl) <|
                hx_then_normal <|
                hc_ret <| ?_
              exact results_1 (.inr rfl) rfl rfl fun w' H' => ⟨rfl, H'.ent (Ent.nil _)⟩
        · skip
          refine ho_u rfl (on_mark rfl) rfl rfl rfl (by first | assumption | exact Ent.refl _ | exact Ent.nil _ | (repeat (first | exact Ent.refl _ | exact Ent.nil _ | refine Ent.pick ?_))) ?_
          refine ha_three 2 3 10 (by kernel_rfl) ?_ ?_ ?_
          · skip
            refine ho_call (σ := Value) rfl Try.call22 rfl rfl rfl (fun w1 H1 => Own.callpx (wir w b22 (r0.take 63 ++ [[122]]) []) H1 fun D' hold hin H2 => All_w D' w1 b22 w hw2 (r0.take 63 ++ [[122]]) [] (by simp only [List.length_append, List.length_cons, List.length_nil]; omega) hwok H2) (fun _ => (by first | assumption | exact Ent.refl _ | exact Ent.nil _ | (repeat (first | exact Ent.refl _ | exact Ent.nil _ | refine Ent.pick ?_)))) ?_
            intro c4
            refine ha_two 3 10 (by kernel_rfl) ?_ ?_
            · skip
              refine ho_new rfl (on_buildSliceN rfl rfl rfl) rfl rfl rfl (fun _ => (by first | assumption | exact Ent.refl _ | exact Ent.nil _ | (repeat (first | exact Ent.refl _ | exact Ent.nil _ | refine Ent.pick ?_)))) (fun b120 => ?_)
              refine ha_ent (Ent.blk_row (b := b120) 1 0 rfl (by decide)) ?_
              refine ha_two 7 10 (by kernel_rfl) ?_ ?_
              · skip
                refine ho_new rfl (on_appendR (A := some ⟨b120, 0, none⟩) (news := hs3) rfl rfl (by rw [e3.1]; exact SrcIs.old HS3) (by rw [hs3l, hlen63, Nat.mul_one]) hone3 (by decide) (by omega)) rfl rfl rfl (fun _ => (by first | assumption | exact Ent.refl _ | exact Ent.nil _ | (repeat (first | exact Ent.refl _ | exact Ent.nil _ | refine Ent.pick ?_)))) ?_
                rintro ⟨B5, capB5⟩
                dsimp only
                refine ha_one 10 (by kernel_rfl) <| ?_
                refine ho_new rfl (on_buildSliceN rfl rfl rfl) rfl rfl rfl (fun _ => (by first | assumption | exact Ent.refl _ | exact Ent.nil _ | (repeat (first | exact Ent.refl _ | exact Ent.nil _ | refine Ent.pick ?_)))) (fun b127 => ?_)
                refine ha_one 11 (by kernel_rfl) <| ?_
                refine ho_new rfl (on_appendR (A := B5) (news := [.slice (some ⟨b125, 0, none⟩) 1 1]) rfl rfl (SrcIs.blk (b := b127)) rfl (by simp [Value.oneCell']) (by decide) (by omega)) rfl rfl rfl (fun _ => (by first | assumption | exact Ent.refl _ | exact Ent.nil _ | (repeat (first | exact Ent.refl _ | exact Ent.nil _ | refine Ent.pick ?_)))) ?_
                rintro ⟨B6, capB6⟩
                dsimp only
                refine ha_one 12 (by kernel_rfl) <| ?_
                refine ho_c rfl Try.call17 rfl rfl rfl (fun w1 H1 => Own.calln H1 fun D' hold hin H2 => Lists_T D' w1 c4 _ (r0.take 63 ++ [[122]]) (r0.take 63 ++ [[122]]) (hin _ fun h hs ho => stars_rep (cs := [c4]) hs) (hin _ fun h hs ho => rep_row (A := B6) hs _ (by rw [List.length_append, hlen63]; simp) (by rw [List.nil_append]; exact repL_append (repL_of_old ho hrep3) (repL_one1 (rep_bytes (b := b125) hs [122] rfl (by simp))))) rfl) (by first | assumption | exact Ent.refl _ | exact Ent.nil _ | (repeat (first | exact Ent.refl _ | exact Ent.nil _ | refine Ent.pick ?_))) ?_
                refine ha_take 13 rfl (ov_move rfl) rfl rfl rfl (by kernel_rfl) (by kernel_rfl) (by kernel_rfl) (by first | assumption | exact Ent.refl _ | exact Ent.nil _ | (repeat (first | exact Ent.refl _ | exact Ent.nil _ | refine Ent.pick ?_))) <| ?_
                refine ha_one 14 (by kernel_rfl) <| ?_
                refine ho_c rfl Try.call23 rfl rfl rfl (fun w1 H1 => Own.calln H1 fun D' hold hin H2 => wwakes_spec D' w1) (by first | assumption | exact Ent.refl _ | exact Ent.nil _ | (repeat (first | exact Ent.refl _ | exact Ent.nil _ | refine Ent.pick ?_))) ?_
                refine ha_take 15 rfl (ov_pickT rfl rfl) rfl rfl rfl (by kernel_rfl) (by kernel_rfl) (by kernel_rfl) (by first | assumption | exact Ent.refl _ | exact Ent.nil _ | (repeat (first | exact Ent.refl _ | exact Ent.nil _ | refine Ent.pick ?_))) <| ?_
                refine ha_take 16 rfl (ov_assign rfl) rfl rfl rfl (by kernel_rfl) (by kernel_rfl) (by kernel_rfl) (by first | assumption | exact Ent.refl _ | exact Ent.nil _ | (repeat (first | exact Ent.refl _ | exact Ent.nil _ | refine Ent.pick ?_))) <| ?_
                refine ha_done (by kernel_rfl) <|
                  hx_then_normal <|
                  hc_ret <| ?_
                exact results_1 (.inr rfl) rfl rfl fun w' H' => ⟨rfl, H'.ent (Ent.nil _)⟩
              · skip
                refine ho_new rfl (on_buildSliceN rfl rfl rfl) rfl rfl rfl (fun _ => (by first | assumption | exact Ent.refl _ | exact Ent.nil _ | (repeat (first | exact Ent.refl _ | exact Ent.nil _ | refine Ent.pick ?_)))) (fun b127 => ?_)
                refine ha_one 7 (by kernel_rfl) <| ?_
                refine ho_new rfl (on_appendR (A := some ⟨b120, 0, none⟩) (news := hs3) rfl rfl (by rw [e3.1]; exact SrcIs.old HS3) (by rw [hs3l, hlen63, Nat.mul_one]) hone3 (by decide) (by omega)) rfl rfl rfl (fun _ => (by first | assumption | exact Ent.refl _ | exact Ent.nil _ | (repeat (first | exact Ent.refl _ | exact Ent.nil _ | refine Ent.pick ?_)))) ?_
                rintro ⟨B5, capB5⟩
                dsimp only
                refine ha_one 11 (by kernel_rfl) <| ?_
                refine ho_new rfl (on_appendR (A := B5) (news := [.slice (some ⟨b125, 0, none⟩) 1 1]) rfl rfl (SrcIs.blk (b := b127)) rfl (by simp [Value.oneCell']) (by decide) (by omega)) rfl rfl rfl (fun _ => (by first | assumption | exact Ent.refl _ | exact Ent.nil _ | (repeat (first | exact Ent.refl _ | exact Ent.nil _ | refine Ent.pick ?_)))) ?_
                rintro ⟨B6, capB6⟩
                dsimp only
                refine ha_one 12 (by kernel_rfl) <| ?_
                refine ho_c rfl Try.call17 rfl rfl rfl (fun w1 H1 => Own.calln H1 fun D' hold hin H2 => Lists_T D' w1 c4 _ (r0.take 63 ++ [[122]]) (r0.take 63 ++ [[122]]) (hin _ fun h hs ho => stars_rep (cs := [c4]) hs) (hin _ fun h hs ho => rep_row (A := B6) hs _ (by rw [List.length_append, hlen63]; simp) (by rw [List.nil_append]; exact repL_append (repL_of_old ho hrep3) (repL_one1 (rep_bytes (b := b125) hs [122] rfl (by simp))))) rfl) (by first | assumption | exact Ent.refl _ | exact Ent.nil _ | (repeat (first | exact Ent.refl _ | exact Ent.nil _ | refine Ent.pick ?_))) ?_
                refine ha_take 13 rfl (ov_move rfl) rfl rfl rfl (by kernel_rfl) (by kernel_rfl) (by kernel_rfl) (by first | assumption | exact Ent.refl _ | exact Ent.nil _ | (repeat (first | exact Ent.refl _ | exact Ent.nil _ | refine Ent.pick ?_))) <| ?_
                refine ha_one 14 (by kernel_rfl) <| ?_
                refine ho_c rfl Try.call23 rfl rfl rfl (fun w1 H1 => Own.calln H1 fun D' hold hin H2 => wwakes_spec D' w1) (by first | assumption | exact Ent.refl _ | exact Ent.nil _ | (repeat (first | exact Ent.refl _ | exact Ent.nil _ | refine Ent.pick ?_))) ?_
                refine ha_take 15 rfl (ov_pickT rfl rfl) rfl rfl rfl (by kernel_rfl) (by kernel_rfl) (by kernel_rfl) (by first | assumption | exact Ent.refl _ | exact Ent.nil _ | (repeat (first | exact Ent.refl _ | exact Ent.nil _ | refine Ent.pick ?_))) <| ?_
                refine ha_take 16 rfl (ov_assign rfl) rfl rfl rfl (by kernel_rfl) (by kernel_rfl) (by kernel_rfl) (by first | assumption | exact Ent.refl _ | exact Ent.nil _ | (repeat (first | exact Ent.refl _ | exact Ent.nil _ | refine Ent.pick ?_))) <| ?_
                refine ha_done (by kernel_rfl) <|
                  hx_then_normal <|
                  hc_ret <| ?_
                exact results_1 (.inr rfl) rfl rfl fun w' H' => ⟨rfl, H'.ent (Ent.nil _)⟩
            · skip
              refine ho_new rfl (on_buildSliceN rfl rfl rfl) rfl rfl rfl (fun _ => (by first | assumption | exact Ent.refl _ | exact Ent.nil _ | (repeat (first | exact Ent.refl _ | exact Ent.nil _ | refine Ent.pick ?_)))) (fun b127 => ?_)
              refine ha_one 3 (by kernel_rfl) <| ?_
              refine ho_new rfl (on_buildSliceN rfl rfl rfl) rfl rfl rfl (fun _ => (by first | assumption | exact Ent.refl _ | exact Ent.nil _ | (repeat (first | exact Ent.refl _ | exact Ent.nil _ | refine Ent.pick ?_)))) (fun b120 => ?_)
              refine ha_ent (Ent.blk_row (b := b120) 1 0 rfl (by decide)) ?_
              refine ha_one 7 (by kernel_rfl) <| ?_
              refine ho_new rfl (on_appendR (A := some ⟨b120, 0, none⟩) (news := hs3) rfl rfl (by rw [e3.1]; exact SrcIs.old HS3) (by rw [hs3l, hlen63, Nat.mul_one]) hone3 (by decide) (by omega)) rfl rfl rfl (fun _ => (by first | assumption | exact Ent.refl _ | exact Ent.nil _ | (repeat (first | exact Ent.refl _ | exact Ent.nil _ | refine Ent.pick ?_)))) ?_
              rintro ⟨B5, capB5⟩
              dsimp only
              refine ha_one 11 (by kernel_rfl) <| ?_
              refine ho_new rfl (on_appendR (A := B5) (news := [.slice (some ⟨b125, 0, none⟩) 1 1]) rfl rfl (SrcIs.blk (b := b127)) rfl (by simp [Value.oneCell']) (by decide) (by omega)) rfl rfl rfl (fun _ => (by first | assumption | exact Ent.refl _ | exact Ent.nil _ | (repeat (first | exact Ent.refl _ | exact Ent.nil _ | refine Ent.pick ?_)))) ?_
              rintro ⟨B6, capB6⟩
              dsimp only
              refine ha_one 12 (by kernel_rfl) <| ?_
              refine ho_c rfl Try.call17 rfl rfl rfl (fun w1 H1 => Own.calln H1 fun D' hold hin H2 => Lists_T D' w1 c4 _ (r0.take 63 ++ [[122]]) (r0.take 63 ++ [[122]]) (hin _ fun h hs ho => stars_rep (cs := [c4]) hs) (hin _ fun h hs ho => rep_row (A := B6) hs _ (by rw [List.length_append, hlen63]; simp) (by rw [List.nil_append]; exact repL_append (repL_of_old ho hrep3) (repL_one1 (rep_bytes (b := b125) hs [122] rfl (by simp))))) rfl) (by first | assumption | exact Ent.refl _ | exact Ent.nil _ | (repeat (first | exact Ent.refl _ | exact Ent.nil _ | refine Ent.pick ?_))) ?_
              refine ha_take 13 rfl (ov_move rfl) rfl rfl rfl (by kernel_rfl) (by kernel_rfl) (by kernel_rfl) (by first | assumption | exact Ent.refl _ | exact Ent.nil _ | (repeat (first | exact Ent.refl _ | exact Ent.nil _ | refine Ent.pick ?_))) <| ?_
              refine ha_one 14 (by kernel_rfl) <| ?_
              refine ho_c rfl Try.call23 rfl rfl rfl (fun w1 H1 => Own.calln H1 fun D' hold hin H2 => wwakes_spec D' w1) (by first | assumption | exact Ent.refl _ | exact Ent.nil _ | (repeat (first | exact Ent.refl _ | exact Ent.nil _ | refine Ent.pick ?_))) ?_
              refine ha_take 15 rfl (ov_pickT rfl rfl) rfl rfl rfl (by kernel_rfl) (by kernel_rfl) (by kernel_rfl) (by first | assumption | exact Ent.refl _ | exact Ent.nil _ | (repeat (first | exact Ent.refl _ | exact Ent.nil _ | refine Ent.pick ?_))) <| ?_
              refine ha_take 16 rfl (ov_assign rfl) rfl rfl rfl (by kernel_rfl) (by kernel_rfl) (by kernel_rfl) (by first | assumption | exact Ent.refl _ | exact Ent.nil _ | (repeat (first | exact Ent.refl _ | exact Ent.nil _ | refine Ent.pick ?_))) <| ?_
              refine ha_done (by kernel_rfl) <|
                hx_then_normal <|
                hc_ret <| ?_
              exact results_1 (.inr rfl) rfl rfl fun w' H' => ⟨rfl, H'.ent (Ent.nil _)⟩
          · skip
            refine ho_new rfl (on_buildSliceN rfl rfl rfl) rfl rfl rfl (fun _ => (by first | assumption | exact Ent.refl _ | exact Ent.nil _ | (repeat (first | exact Ent.refl _ | exact Ent.nil _ | refine Ent.pick ?_)))) (fun b120 => ?_)
            refine ha_ent (Ent.blk_row (b := b120) 1 0 rfl (by decide)) ?_
            refine ha_two 2 10 (by kernel_rfl) ?_ ?_
            · skip
              refine ho_call (σ := Value) rfl Try.call22 rfl rfl rfl (fun w1 H1 => Own.callpx (wir w b22 (r0.take 63 ++ [[122]]) []) H1 fun D' hold hin H2 => All_w D' w1 b22 w hw2 (r0.take 63 ++ [[122]]) [] (by simp only [List.length_append, List.length_cons, List.length_nil]; omega) hwok H2) (fun _ => (by first | assumption | exact Ent.refl _ | exact Ent.nil _ | (repeat (first | exact Ent.refl _ | exact Ent.nil _ | refine Ent.pick ?_)))) ?_
              intro c4
              refine ha_two 7 10 (by kernel_rfl) ?_ ?_
              · skip
                refine ho_new rfl (on_appendR (A := some ⟨b120, 0, none⟩) (news := hs3) rfl rfl (by rw [e3.1]; exact SrcIs.old HS3) (by rw [hs3l, hlen63, Nat.mul_one]) hone3 (by decide) (by omega)) rfl rfl rfl (fun _ => (by first | assumption | exact Ent.refl _ | exact Ent.nil _ | (repeat (first | exact Ent.refl _ | exact Ent.nil _ | refine Ent.pick ?_)))) ?_
                rintro ⟨B5, capB5⟩
                dsimp only
                refine ha_one 10 (by kernel_rfl) <| ?_
                refine ho_new rfl (on_buildSliceN rfl rfl rfl) rfl rfl rfl (fun _ => (by first | assumption | exact Ent.refl _ | exact Ent.nil _ | (repeat (first | exact Ent.refl _ | exact Ent.nil _ | refine Ent.pick ?_)))) (fun b127 => ?_)
                refine ha_one 11 (by kernel_rfl) <| ?_
                refine ho_new rfl (on_appendR (A := B5) (news := [.slice (some ⟨b125, 0, none⟩) 1 1]) rfl rfl (SrcIs.blk (b := b127)) rfl (by simp [Value.oneCell']) (by decide) (by omega)) rfl rfl rfl (fun _ => (by first | assumption | exact Ent.refl _ | exact Ent.nil _ | (repeat (first | exact Ent.refl _ | exact Ent.nil _ | refine Ent.pick ?_)))) ?_
                rintro ⟨B6, capB6⟩
                dsimp only
                refine ha_one 12 (by kernel_rfl) <| ?_
                refine ho_c rfl Try.call17 rfl rfl rfl (fun w1 H1 => Own.calln H1 fun D' hold hin H2 => Lists_T D' w1 c4 _ (r0.take 63 ++ [[122]]) (r0.take 63 ++ [[122]]) (hin _ fun h hs ho => stars_rep (cs := [c4]) hs) (hin _ fun h hs ho => rep_row (A := B6) hs _ (by rw [List.length_append, hlen63]; simp) (by rw [List.nil_append]; exact repL_append (repL_of_old ho hrep3) (repL_one1 (rep_bytes (b := b125) hs [122] rfl (by simp))))) rfl) (by first | assumption | exact Ent.refl _ | exact Ent.nil _ | (repeat (first | exact Ent.refl _ | exact Ent.nil _ | refine Ent.pick ?_))) ?_
                refine ha_take 13 rfl (ov_move rfl) rfl rfl rfl (by kernel_rfl) (by kernel_rfl) (by kernel_rfl) (by first | assumption | exact Ent.refl _ | exact Ent.nil _ | (repeat (first | exact Ent.refl _ | exact Ent.nil _ | refine Ent.pick ?_))) <| ?_
                refine ha_one 14 (by kernel_rfl) <| ?_
                refine ho_c rfl Try.call23 rfl rfl rfl (fun w1 H1 => Own.calln H1 fun D' hold hin H2 => wwakes_spec D' w1) (by first | assumption | exact Ent.refl _ | exact Ent.nil _ | (repeat (first | exact Ent.refl _ | exact Ent.nil _ | refine Ent.pick ?_))) ?_
                refine ha_take 15 rfl (ov_pickT rfl rfl) rfl rfl rfl (by kernel_rfl) (by kernel_rfl) (by kernel_rfl) (by first | assumption | exact Ent.refl _ | exact Ent.nil _ | (repeat (first | exact Ent.refl _ | exact Ent.nil _ | refine Ent.pick ?_))) <| ?_
                refine ha_take 16 rfl (ov_assign rfl) rfl rfl rfl (by kernel_rfl) (by kernel_rfl) (by kernel_rfl) (by first | assumption | exact Ent.refl _ | exact Ent.nil _ | (repeat (first | exact Ent.refl _ | exact Ent.nil _ | refine Ent.pick ?_))) <| ?_
                refine ha_done (by kernel_rfl) <|
                  hx_then_normal <|
                  hc_ret <| ?_
                exact results_1 (.inr rfl) rfl rfl fun w' H' => ⟨rfl, H'.ent (Ent.nil _)⟩
              · skip
                refine ho_new rfl (on_buildSliceN rfl rfl rfl) rfl rfl rfl (fun _ => (by first | assumption | exact Ent.refl _ | exact Ent.nil _ | (repeat (first | exact Ent.refl _ | exact Ent.nil _ | refine Ent.pick ?_)))) (fun b127 => ?_)
                refine ha_one 7 (by kernel_rfl) <| ?_
                refine ho_new rfl (on_appendR (A := some ⟨b120, 0, none⟩) (news := hs3) rfl rfl (by rw [e3.1]; exact SrcIs.old HS3) (by rw [hs3l, hlen63, Nat.mul_one]) hone3 (by decide) (by omega)) rfl rfl rfl (fun _ => (by first | assumption | exact Ent.refl _ | exact Ent.nil _ | (repeat (first | exact Ent.refl _ | exact Ent.nil _ | refine Ent.pick ?_)))) ?_
                rintro ⟨B5, capB5⟩
                dsimp only
                refine ha_one 11 (by kernel_rfl) <| ?_
                refine ho_new rfl (on_appendR (A := B5) (news := [.slice (some ⟨b125, 0, none⟩) 1 1]) rfl rfl (SrcIs.blk (b := b127)) rfl (by simp [Value.oneCell']) (by decide) (by omega)) rfl rfl rfl (fun _ => (by first | assumption | exact Ent.refl _ | exact Ent.nil _ | (repeat (first | exact Ent.refl _ | exact Ent.nil _ | refine Ent.pick ?_)))) ?_
                rintro ⟨B6, capB6⟩
                dsimp only
                refine ha_one 12 (by kernel_rfl) <| ?_
                refine ho_c rfl Try.call17 rfl rfl rfl (fun w1 H1 => Own.calln H1 fun D' hold hin H2 => Lists_T D' w1 c4 _ (r0.take 63 ++ [[122]]) (r0.take 63 ++ [[122]]) (hin _ fun h hs ho => stars_rep (cs := [c4]) hs) (hin _ fun h hs ho => rep_row (A := B6) hs _ (by rw [List.length_append, hlen63]; simp) (by rw [List.nil_append]; exact repL_append (repL_of_old ho hrep3) (repL_one1 (rep_bytes (b := b125) hs [122] rfl (by simp))))) rfl) (by first | assumption | exact Ent.refl _ | exact Ent.nil _ | (repeat (first | exact Ent.refl _ | exact Ent.nil _ | refine Ent.pick ?_))) ?_
                refine ha_take 13 rfl (ov_move rfl) rfl rfl rfl (by kernel_rfl) (by kernel_rfl) (by kernel_rfl) (by first | assumption | exact Ent.refl _ | exact Ent.nil _ | (repeat (first | exact Ent.refl _ | exact Ent.nil _ | refine Ent.pick ?_))) <| ?_
                refine ha_one 14 (by kernel_rfl) <| ?_
                refine ho_c rfl Try.call23 rfl rfl rfl (fun w1 H1 => Own.calln H1 fun D' hold hin H2 => wwakes_spec D' w1) (by first | assumption | exact Ent.refl _ | exact Ent.nil _ | (repeat (first | exact Ent.refl _ | exact Ent.nil _ | refine Ent.pick ?_))) ?_
                refine ha_take 15 rfl (ov_pickT rfl rfl) rfl rfl rfl (by kernel_rfl) (by kernel_rfl) (by kernel_rfl) (by first | assumption | exact Ent.refl _ | exact Ent.nil _ | (repeat (first | exact Ent.refl _ | exact Ent.nil _ | refine Ent.pick ?_))) <| ?_
                refine ha_take 16 rfl (ov_assign rfl) rfl rfl rfl (by kernel_rfl) (by kernel_rfl) (by kernel_rfl) (by first | assumption | exact Ent.refl _ | exact Ent.nil _ | (repeat (first | exact Ent.refl _ | exact Ent.nil _ | refine Ent.pick ?_))) <| ?_
                refine ha_done (by kernel_rfl) <|
                  hx_then_normal <|
                  hc_ret <| ?_
                exact results_1 (.inr rfl) rfl rfl fun w' H' => ⟨rfl, H'.ent (Ent.nil _)⟩
            · skip
              refine ho_new rfl (on_buildSliceN rfl rfl rfl) rfl rfl rfl (fun _ => (by first | assumption | exact Ent.refl _ | exact Ent.nil _ | (repeat (first | exact Ent.refl _ | exact Ent.nil _ | refine Ent.pick ?_)))) (fun b127 => ?_)
              refine ha_one 2 (by kernel_rfl) <| ?_
              refine ho_call (σ := Value) rfl Try.call22 rfl rfl rfl (fun w1 H1 => Own.callpx (wir w b22 (r0.take 63 ++ [[122]]) []) H1 fun D' hold hin H2 => All_w D' w1 b22 w hw2 (r0.take 63 ++ [[122]]) [] (by simp only [List.length_append, List.length_cons, List.length_nil]; omega) hwok H2) (fun _ => (by first | assumption | exact Ent.refl _ | exact Ent.nil _ | (repeat (first | exact Ent.refl _ | exact Ent.nil _ | refine Ent.pick ?_)))) ?_
              intro c4
              refine ha_one 7 (by kernel_rfl) <| ?_
              refine ho_new rfl (on_appendR (A := some ⟨b120, 0, none⟩) (news := hs3) rfl rfl (by rw [e3.1]; exact SrcIs.old HS3) (by rw [hs3l, hlen63, Nat.mul_one]) hone3 (by decide) (by omega)) rfl rfl rfl (fun _ => (by first | assumption | exact Ent.refl _ | exact Ent.nil _ | (repeat (first | exact Ent.refl _ | exact Ent.nil _ | refine Ent.pick ?_)))) ?_
              rintro ⟨B5, capB5⟩
              dsimp only
              refine ha_one 11 (by kernel_rfl) <| ?_
              refine ho_new rfl (on_appendR (A := B5) (news := [.slice (some ⟨b125, 0, none⟩) 1 1]) rfl rfl (SrcIs.blk (b := b127)) rfl (by simp [Value.oneCell']) (by decide) (by omega)) rfl rfl rfl (fun _ => (by first | assumption | exact Ent.refl _ | exact Ent.nil _ | (repeat (first | exact Ent.refl _ | exact Ent.nil _ | refine Ent.pick ?_)))) ?_
              rintro ⟨B6, capB6⟩
              dsimp only
              refine ha_one 12 (by kernel_rfl) <| ?_
              refine ho_c rfl Try.call17 rfl rfl rfl (fun w1 H1 => Own.calln H1 fun D' hold hin H2 => Lists_T D' w1 c4 _ (r0.take 63 ++ [[122]]) (r0.take 63 ++ [[122]]) (hin _ fun h hs ho => stars_rep (cs := [c4]) hs) (hin _ fun h hs ho => rep_row (A := B6) hs _ (by rw [List.length_append, hlen63]; simp) (by rw [List.nil_append]; exact repL_append (repL_of_old ho hrep3) (repL_one1 (rep_bytes (b := b125) hs [122] rfl (by simp))))) rfl) (by first | assumption | exact Ent.refl _ | exact Ent.nil _ | (repeat (first | exact Ent.refl _ | exact Ent.nil _ | refine Ent.pick ?_))) ?_
              refine ha_take 13 rfl (ov_move rfl) rfl rfl rfl (by kernel_rfl) (by kernel_rfl) (by kernel_rfl) (by first | assumption | exact Ent.refl _ | exact Ent.nil _ | (repeat (first | exact Ent.refl _ | exact Ent.nil _ | refine Ent.pick ?_))) <| ?_
              refine ha_one 14 (by kernel_rfl) <| ?_
              refine ho_c rfl Try.call23 rfl rfl rfl (fun w1 H1 => Own.calln H1 fun D' hold hin H2 => wwakes_spec D' w1) (by first | assumption | exact Ent.refl _ | exact Ent.nil _ | (repeat (first | exact Ent.refl _ | exact Ent.nil _ | refine Ent.pick ?_))) ?_
              refine ha_take 15 rfl (ov_pickT rfl rfl) rfl rfl rfl (by kernel_rfl) (by kernel_rfl) (by kernel_rfl) (by first | assumption | exact Ent.refl _ | exact Ent.nil _ | (repeat (first | exact Ent.refl _ | exact Ent.nil _ | refine Ent.pick ?_))) <| ?_
              refine ha_take 16 rfl (ov_assign rfl) rfl rfl rfl (by kernel_rfl) (by kernel_rfl) (by kernel_rfl) (by first | assumption | exact Ent.refl _ | exact Ent.nil _ | (repeat (first | exact Ent.refl _ | exact Ent.nil _ | refine Ent.pick ?_))) <| ?_
              refine ha_done (by kernel_rfl) <|
                hx_then_normal <|
                hc_ret <| ?_
              exact results_1 (.inr rfl) rfl rfl fun w' H' => ⟨rfl, H'.ent (Ent.nil _)⟩
          · skip
            refine ho_new rfl (on_buildSliceN rfl rfl rfl) rfl rfl rfl (fun _ => (by first | assumption | exact Ent.refl _ | exact Ent.nil _ | (repeat (first | exact Ent.refl _ | exact Ent.nil _ | refine Ent.pick ?_)))) (fun b127 => ?_)
            refine ha_two 2 3 (by kernel_rfl) ?_ ?_
            · skip
              refine ho_call (σ := Value) rfl Try.call22 rfl rfl rfl (fun w1 H1 => Own.callpx (wir w b22 (r0.take 63 ++ [[122]]) []) H1 fun D' hold hin H2 => All_w D' w1 b22 w hw2 (r0.take 63 ++ [[122]]) [] (by simp only [List.length_append, List.length_cons, List.length_nil]; omega) hwok H2) (fun _ => (by first | assumption | exact Ent.refl _ | exact Ent.nil _ | (repeat (first | exact Ent.refl _ | exact Ent.nil _ | refine Ent.pick ?_)))) ?_
              intro c4
              refine ha_one 3 (by kernel_rfl) <| ?_
              refine ho_new rfl (on_buildSliceN rfl rfl rfl) rfl rfl rfl (fun _ => (by first | assumption | exact Ent.refl _ | exact Ent.nil _ | (repeat (first | exact Ent.refl _ | exact Ent.nil _ | refine Ent.pick ?_)))) (fun b120 => ?_)
              refine ha_ent (Ent.blk_row (b := b120) 1 0 rfl (by decide)) ?_
              refine ha_one 7 (by kernel_rfl) <| ?_
              refine ho_new rfl (on_appendR (A := some ⟨b120, 0, none⟩) (news := hs3) rfl rfl (by rw [e3.1]; exact SrcIs.old HS3) (by rw [hs3l, hlen63, Nat.mul_one]) hone3 (by decide) (by omega)) rfl rfl rfl (fun _ => (by first | assumption | exact Ent.refl _ | exact Ent.nil _ | (repeat (first | exact Ent.refl _ | exact Ent.nil _ | refine Ent.pick ?_)))) ?_
              rintro ⟨B5, capB5⟩
              dsimp only
              refine ha_one 11 (by kernel_rfl) <| ?_
              refine ho_new rfl (on_appendR (A := B5) (news := [.slice (some ⟨b125, 0, none⟩) 1 1]) rfl rfl (SrcIs.blk (b := b127)) rfl (by simp [Value.oneCell']) (by decide) (by omega)) rfl rfl rfl (fun _ => (by first | assumption | exact Ent.refl _ | exact Ent.nil _ | (repeat (first | exact Ent.refl _ | exact Ent.nil _ | refine Ent.pick ?_)))) ?_
              rintro ⟨B6, capB6⟩
              dsimp only
              refine ha_one 12 (by kernel_rfl) <| ?_
              refine ho_c rfl Try.call17 rfl rfl rfl (fun w1 H1 => Own.calln H1 fun D' hold hin H2 => Lists_T D' w1 c4 _ (r0.take 63 ++ [[122]]) (r0.take 63 ++ [[122]]) (hin _ fun h hs ho => stars_rep (cs := [c4]) hs) (hin _ fun h hs ho => rep_row (A := B6) hs _ (by rw [List.length_append, hlen63]; simp) (by rw [List.nil_append]; exact repL_append (repL_of_old ho hrep3) (repL_one1 (rep_bytes (b := b125) hs [122] rfl (by simp))))) rfl) (by first | assumption | exact Ent.refl _ | exact Ent.nil _ | (repeat (first | exact Ent.refl _ | exact Ent.nil _ | refine Ent.pick ?_))) ?_
              refine ha_take 13 rfl (ov_move rfl) rfl rfl rfl (by kernel_rfl) (by kernel_rfl) (by kernel_rfl) (by first | assumption | exact Ent.refl _ | exact Ent.nil _ | (repeat (first | exact Ent.refl _ | exact Ent.nil _ | refine Ent.pick ?_))) <| ?_
              refine ha_one 14 (by kernel_rfl) <| ?_
              refine ho_c rfl Try.call23 rfl rfl rfl (fun w1 H1 => Own.calln H1 fun D' hold hin H2 => wwakes_spec D' w1) (by first | assumption | exact Ent.refl _ | exact Ent.nil _ | (repeat (first | exact Ent.refl _ | exact Ent.nil _ | refine Ent.pick ?_))) ?_
              refine ha_take 15 rfl (ov_pickT rfl rfl) rfl rfl rfl (by kernel_rfl) (by kernel_rfl) (by kernel_rfl) (by first | assumption | exact Ent.refl _ | exact Ent.nil _ | (repeat (first | exact Ent.refl _ | exact Ent.nil _ | refine Ent.pick ?_))) <| ?_
              refine ha_take 16 rfl (ov_assign rfl) rfl rfl rfl (by kernel_rfl) (by kernel_rfl) (by kernel_rfl) (by first | assumption | exact Ent.refl _ | exact Ent.nil _ | (repeat (first | exact Ent.refl _ | exact Ent.nil _ | refine Ent.pick ?_))) <| ?_
              refine ha_done (by kernel_rfl) <|
                hx_then_normal <|
                hc_ret <| ?_
              exact results_1 (.inr rfl) rfl rfl fun w' H' => ⟨rfl, H'.ent (Ent.nil _)⟩
            · skip
              refine ho_new rfl (on_buildSliceN rfl rfl rfl) rfl rfl rfl (fun _ => (by first | assumption | exact Ent.refl _ | exact Ent.nil _ | (repeat (first | exact Ent.refl _ | exact Ent.nil _ | refine Ent.pick ?_)))) (fun b120 => ?_)
              refine ha_ent (Ent.blk_row (b := b120) 1 0 rfl (by decide)) ?_
              refine ha_one 2 (by kernel_rfl) <| ?_
              refine ho_call (σ := Value) rfl Try.call22 rfl rfl rfl (fun w1 H1 => Own.callpx (wir w b22 (r0.take 63 ++ [[122]]) []) H1 fun D' hold hin H2 => All_w D' w1 b22 w hw2 (r0.take 63 ++ [[122]]) [] (by simp only [List.length_append, List.length_cons, List.length_nil]; omega) hwok H2) (fun _ => (by first | assumption | exact Ent.refl _ | exact Ent.nil _ | (repeat (first | exact Ent.refl _ | exact Ent.nil _ | refine Ent.pick ?_)))) ?_
              intro c4
              refine ha_one 7 (by kernel_rfl) <| ?_
              refine ho_new rfl (on_appendR (A := some ⟨b120, 0, none⟩) (news := hs3) rfl rfl (by rw [e3.1]; exact SrcIs.old HS3) (by rw [hs3l, hlen63, Nat.mul_one]) hone3 (by decide) (by omega)) rfl rfl rfl (fun _ => (by first | assumption | exact Ent.refl _ | exact Ent.nil _ | (repeat (first | exact Ent.refl _ | exact Ent.nil _ | refine Ent.pick ?_)))) ?_
              rintro ⟨B5, capB5⟩
              dsimp only
              refine ha_one 11 (by kernel_rfl) <| ?_
              refine ho_new rfl (on_appendR (A := B5) (news := [.slice (some ⟨b125, 0, none⟩) 1 1]) rfl rfl (SrcIs.blk (b := b127)) rfl (by simp [Value.oneCell']) (by decide) (by omega)) rfl rfl rfl (fun _ => (by first | assumption | exact Ent.refl _ | exact Ent.nil _ | (repeat (first | exact Ent.refl _ | exact Ent.nil _ | refine Ent.pick ?_)))) ?_
              rintro ⟨B6, capB6⟩
              dsimp only
              refine ha_one 12 (by kernel_rfl) <| ?_
              refine ho_c rfl Try.call17 rfl rfl rfl (fun w1 H1 => Own.calln H1 fun D' hold hin H2 => Lists_T D' w1 c4 _ (r0.take 63 ++ [[122]]) (r0.take 63 ++ [[122]]) (hin _ fun h hs ho => stars_rep (cs := [c4]) hs) (hin _ fun h hs ho => rep_row (A := B6) hs _ (by rw [List.length_append, hlen63]; simp) (by rw [List.nil_append]; exact repL_append (repL_of_old ho hrep3) (repL_one1 (rep_bytes (b := b125) hs [122] rfl (by simp))))) rfl) (by first | assumption | exact Ent.refl _ | exact Ent.nil _ | (repeat (first | exact Ent.refl _ | exact Ent.nil _ | refine Ent.pick ?_))) ?_
              refine ha_take 13 rfl (ov_move rfl) rfl rfl rfl (by kernel_rfl) (by kernel_rfl) (by kernel_rfl) (by first | assumption | exact Ent.refl _ | exact Ent.nil _ | (repeat (first | exact Ent.refl _ | exact Ent.nil _ | refine Ent.pick ?_))) <| ?_
              refine ha_one 14 (by kernel_rfl) <| ?_
              refine ho_c rfl Try.call23 rfl rfl rfl (fun w1 H1 => Own.calln H1 fun D' hold hin H2 => wwakes_spec D' w1) (by first | assumption | exact Ent.refl _ | exact Ent.nil _ | (repeat (first | exact Ent.refl _ | exact Ent.nil _ | refine Ent.pick ?_))) ?_
              refine ha_take 15 rfl (ov_pickT rfl rfl) rfl rfl rfl (by kernel_rfl) (by kernel_rfl) (by kernel_rfl) (by first | assumption | exact Ent.refl _ | exact Ent.nil _ | (repeat (first | exact Ent.refl _ | exact Ent.nil _ | refine Ent.pick ?_))) <| ?_
              refine ha_take 16 rfl (ov_assign rfl) rfl rfl rfl (by kernel_rfl) (by kernel_rfl) (by kernel_rfl) (by first | assumption | exact Ent.refl _ | exact Ent.nil _ | (repeat (first | exact Ent.refl _ | exact Ent.nil _ | refine Ent.pick ?_))) <| ?_
              refine ha_done (by kernel_rfl) <|
                hx_then_normal <|
                hc_ret <| ?_
              exact results_1 (.inr rfl) rfl rfl fun w' H' => ⟨rfl, H'.ent (Ent.nil _)⟩
end Go.Proofs.Ytdjpocnijfhcgaa
