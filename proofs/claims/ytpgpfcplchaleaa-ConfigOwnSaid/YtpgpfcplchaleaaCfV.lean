import Derived.Test.YtpgpfcplchaleaaCfP
import Derived.Test.YtpgpfcplchaleaaCodM
set_option linter.unusedVariables false
set_option linter.unusedSimpArgs false
namespace Go.Proofs.Ytpgpfcplchaleaa
open Slk
theorem u32_inc (x : UInt32) : IntKind.u32.wrap ((x.toNat : Int) + 1) = ((x + 1).toNat : Int) := by
  rw [wrap_u32_mod, UInt32.toNat_add]
  show ((x.toNat : Int) + 1) % 4294967296 = (((x.toNat + 1) % 4294967296 : Nat) : Int)
  omega
set_option maxHeartbeats 4000000 in
theorem ConfigOwn_walk (W : World) (c0 : List Value) (c : ConfC) (h0 : Old none' W (Rep.rep c c0)) :
    Calls Try.prog 11 #[.agg c0.toArray] W fun e w' => e = .returned (.bool true) ∧ Own none' W w' [] := by
  obtain ⟨Ap, cp, Av, cv, As, cx, rfl, HCo⟩ := conf_open h0
  refine hc_enter (vs := [.agg (cfgV c (.slice Ap c.2.2.2.1.length cp) (.slice Av c.2.2.2.2.1.length cv) (.slice As c.2.2.2.2.2.length cx)).toArray]) Try.func11 rfl _ Try.ntmps11 rfl (Own.start none' W) ?_
  simp only [argSlots, Nat.zero_add]
  refine hc_seq <| hc_region <| hl_new (on_boxN rfl rfl) rfl rfl rfl fun b1 =>  ?_
  refine hl_v (ov_assign rfl) rfl <| hl_nil <| hx_then_normal <| hc_seq <| hc_seq <| hc_region <| ?_
  refine hl_v (by first | exact ov_loadW rfl (by simp; done) | exact ov_loadGB rfl rfl) rfl <| ?_
  refine hl_call (σ := BIff (c.2.2.2.1.length ≤ 20 ∧ c.2.2.2.2.1.length ≤ 40 ∧ c.2.2.2.2.2.length ≤ 40)) Try.call15 rfl rfl (fun w1 H1 => Own.callx0 H1 fun D' hold hin H2 => Fair_spec D' w1 c.1 c.2.1 c.2.2.1 Ap Av As c.2.2.2.1.length cp c.2.2.2.2.1.length cv c.2.2.2.2.2.length cx) ?_
  intro f
  try rw [List.nil_append]
  refine hl_v (by first | exact ov_notd rfl | exact ov_not rfl) rfl <| ?_
  refine hl_v (ov_move rfl) rfl <| ?_
  refine hl_partb (t := 13) rfl (fun a1 => ?_) (fun a1 => ?_)
  · refine hl_off rfl rfl rfl rfl rfl rfl <| hl_off rfl rfl rfl rfl rfl rfl <| hl_off rfl rfl rfl rfl rfl rfl <| hl_v (ov_pickT rfl rfl) rfl <| hl_nil <| hx_then_normal <| ?_
    refine hc_cond_true rfl <| hc_seq <| hc_region <| ?_
    refine hl_c Try.call28 rfl rfl (fun w1 H1 => Own.calln H1 fun D' hold hin H2 => wakes5_spec D' w1) ?_
    refine hl_v (ov_assign rfl) rfl <| hl_nil <| hx_then_normal <| hc_ret <| hx_then_ret <| ?_
    exact results_1 (.inr rfl) rfl rfl fun w' H' => ⟨rfl, H'.ent (Ent.nil _)⟩
  have hf := f.2.1 (by simpa using a1)
  have HCf := HCo (by omega) (by omega) (by omega)
  have hokc := HCf.okC
  refine hl_on rfl rfl <| hl_v (by first | exact ov_loadW rfl (by simp; done) | exact ov_loadGB rfl rfl) rfl <| ?_
  refine hl_on rfl rfl <| hl_call (σ := BIff (goodP c)) Try.call33 rfl rfl (fun w1 H1 => Own.callx0 H1 fun D' hold hin H2 => RGood_spec D' w1 c _ _ _ (HCf.hold hold)) ?_
  intro g1
  try rw [List.nil_append]
  refine hl_on rfl rfl <| hl_v (by first | exact ov_notd rfl | exact ov_not rfl) rfl <| ?_
  refine hl_v (ov_pickF rfl rfl) rfl <| hl_nil <| hx_then_normal <| ?_
  refine hc_cond_bool rfl (fun a2 => ?_) (fun a2 => ?_)
  · refine hc_seq <| hc_region <| ?_
    refine hl_c Try.call28 rfl rfl (fun w1 H1 => Own.calln H1 fun D' hold hin H2 => wakes5_spec D' w1) ?_
    refine hl_v (ov_assign rfl) rfl <| hl_nil <| hx_then_normal <| hc_ret <| hx_then_ret <| ?_
    exact results_1 (.inr rfl) rfl rfl fun w' H' => ⟨rfl, H'.ent (Ent.nil _)⟩
  have hg : goodP c := g1.2.1 (by simpa using a2)
  refine hc_skip <| hx_then_normal <| hc_seq <| hc_region <| hl_v (by first | exact ov_loadW rfl (by simp; done) | exact ov_loadGB rfl rfl) rfl <| ?_
  refine hl_call (σ := Three) Try.call35 rfl rfl (fun w1 H1 => Own.callx0 H1 fun D' hold hin H2 => KCopy_spec D' w1 c _ _ _ (HCf.hold hold)) ?_
  intro q1
  try rw [List.nil_append]
  refine hl_new (on_alloc) rfl rfl rfl fun b3 =>  ?_
  refine hl_u0 (on_storeW (vs := cfgA c q1) rfl rfl rfl (by simp) (by simp [Value.oneCell'])) rfl rfl ?_
  refine hl_nil <| hx_then_normal <| hc_seq <| hc_region <| hl_v (by first | exact ov_loadW rfl (by simp; done) | exact ov_loadGB rfl rfl) rfl <| ?_
  refine hl_call (σ := Three) Try.call31 rfl rfl (fun w1 H1 => Own.callx0 H1 fun D' hold hin H2 => Copy_spec D' w1 c _ _ _ (HCf.hold hold)) ?_
  intro q2
  try rw [List.nil_append]
  refine hl_new (on_alloc) rfl rfl rfl fun b4 =>  ?_
  refine hl_u0 (on_storeW (vs := cfgA c q2) rfl rfl rfl (by simp) (by simp [Value.oneCell'])) rfl rfl ?_
  refine hl_nil <| hx_then_normal <| hc_seq <| hc_region <| hl_v (by first | exact ov_loadW rfl (by simp; done) | exact ov_loadGB rfl rfl) rfl <| ?_
  refine hl_call (σ := EditT c []) Try.call36 rfl rfl (fun w1 H1 => Own.callx0 H1 fun D' hold hin H2 => Edit_spec D' w1 c _ _ _ _ [] (by decide) (HCf.hold hold) Old.nil) ?_
  intro r3
  try rw [List.nil_append]
  refine hl_v (ov_move rfl) rfl <| hl_v (ov_extract rfl rfl) rfl <| hl_v (ov_extract rfl rfl) rfl <| hl_new (on_alloc) rfl rfl rfl fun b5 =>  ?_
  refine hl_u0 (on_storeW (vs := cfgA r3.1.2.1 r3.1.1) rfl rfl rfl (by simp) (by simp [Value.oneCell'])) rfl rfl ?_
  have hf3 := r3.2.ok hg (by decide) rfl hg
  obtain ⟨⟨q3, c3, e3⟩, hs3⟩ := r3
  have hf3 : (c3, e3) = (c, 0) := hf3
  simp only [Prod.mk.injEq] at hf3
  dsimp only
  obtain ⟨rfl, rfl⟩ := hf3
  refine hl_v (ov_assign rfl) rfl <| hl_nil <| hx_then_normal <| hc_seq <| hc_seq <| hc_region <| ?_
  refine hl_v (ov_move rfl) rfl <| hl_v (ov_neq rfl rfl) rfl <| hl_v (ov_move rfl) rfl <| ?_
  refine hl_partF (t := 30) rfl ((fun h => h rfl)) ?_
  refine hl_on rfl rfl <| hl_v (ov_fieldA rfl) rfl <| hl_on rfl rfl <| hl_v (ov_load rfl (CellIs.blk rfl)) rfl <| hl_on rfl rfl <| hl_v (by first | exact ov_len rfl | exact ov_lenS rfl) rfl <| ?_
  refine hl_on rfl rfl <| hl_v (ov_fieldA rfl) rfl <| hl_on rfl rfl <| hl_v (ov_load rfl (CellIs.blk rfl)) rfl <| hl_on rfl rfl <| hl_v (by first | exact ov_len rfl | exact ov_lenS rfl) rfl <| ?_
  refine hl_on rfl rfl <| hl_v (ov_neq rfl rfl) rfl <| hl_v (ov_pickF rfl rfl) rfl <| hl_v (ov_move rfl) rfl <| ?_
  refine hl_partF (t := 39) rfl ((fun h => h rfl)) ?_
  refine hl_on rfl rfl <| hl_v (ov_fieldA rfl) rfl <| hl_on rfl rfl <| hl_v (ov_load rfl (CellIs.blk rfl)) rfl <| hl_on rfl rfl <| hl_v (by first | exact ov_len rfl | exact ov_lenS rfl) rfl <| ?_
  refine hl_on rfl rfl <| hl_v (ov_fieldA rfl) rfl <| hl_on rfl rfl <| hl_v (ov_load rfl (CellIs.blk rfl)) rfl <| hl_on rfl rfl <| hl_v (by first | exact ov_len rfl | exact ov_lenS rfl) rfl <| ?_
  refine hl_on rfl rfl <| hl_v (ov_neq rfl rfl) rfl <| hl_v (ov_pickF rfl rfl) rfl <| hl_v (ov_move rfl) rfl <| ?_
  refine hl_partF (t := 48) rfl ((fun h => h rfl)) ?_
  refine hl_on rfl rfl <| hl_v (ov_fieldA rfl) rfl <| hl_on rfl rfl <| hl_v (ov_load rfl (CellIs.blk rfl)) rfl <| hl_on rfl rfl <| hl_v (by first | exact ov_len rfl | exact ov_lenS rfl) rfl <| ?_
  refine hl_on rfl rfl <| hl_v (ov_fieldA rfl) rfl <| hl_on rfl rfl <| hl_v (ov_load rfl (CellIs.blk rfl)) rfl <| hl_on rfl rfl <| hl_v (by first | exact ov_len rfl | exact ov_lenS rfl) rfl <| ?_
  refine hl_on rfl rfl <| hl_v (ov_neq rfl rfl) rfl <| hl_v (ov_pickF rfl rfl) rfl <| hl_nil <| hx_then_normal <| ?_
  refine hc_cond_F rfl ((fun h => h rfl)) ?_
  refine hc_skip <| hx_then_normal <| hc_seq <| hc_seq <| hc_region <| hl_v (ov_assign rfl) rfl <| ?_
  refine hl_nil <| hx_then_normal <| hc_block <| ?_
  refine hc_loopK1 (σ := Nat × List PortC) [1, 3, 4, 5] rfl 7 (fun s => .int .i64 (s.1 : Int)) (fun s => [row q2.1.1 70 3 c3.2.2.2.1.length q2.1.2 (s.2.flatMap portV), blk b4 26 (cfgA c3 q2), blk b5 26 (cfgA c3 q3), row q3.2.1.1 66 3 c3.2.2.2.2.1.length q3.2.1.2 (c3.2.2.2.2.1.flatMap vlanV), row q3.2.2.1 72 3 c3.2.2.2.2.2.length q3.2.2.2 (c3.2.2.2.2.2.flatMap statV), blk b1 26 (cfgV c3 (.slice Ap c3.2.2.2.1.length cp) (.slice Av c3.2.2.2.2.1.length cv) (.slice As c3.2.2.2.2.2.length cx)), blk b3 26 (cfgA c3 q1)] ++ cfgR c3 q1) (fun s => s.1 ≤ c3.2.2.2.1.length ∧ s.2.length = c3.2.2.2.1.length) (fun s => c3.2.2.2.1.length - s.1) ((0, c3.2.2.2.1)) (⟨Nat.zero_le _, rfl⟩) rfl (by first | assumption | exact Ent.refl _ | exact Ent.nil _ | (repeat (first | exact Ent.refl _ | exact Ent.nil _ | refine Ent.pick ?_))) ?_
  rintro ⟨i, P⟩ hj_ K1 hK1
  dsimp only at hj_ ⊢
  obtain ⟨hi, hPl⟩ := hj_
  refine hc_seq <| hc_seq <| hc_region <| hl_v (ov_move rfl) rfl <| hl_v (ov_fieldA rfl) rfl <| hl_v (ov_load rfl (CellIs.blk rfl)) rfl <| ?_
  refine hl_v (by first | exact ov_len rfl | exact ov_lenS rfl) rfl <| ?_
  refine hl_v (ov_lss rfl rfl) rfl <| hl_nil <| hx_then_normal <| ?_
  refine hc_cond rfl (fun h1 => ?_) (fun h1 => ?_)
  · have hlt : i < P.length := by omega
    refine HC.fact (fun w H => Own.factR q2.1.1 H) ?_
    rintro ⟨hpl, _, _, hA⟩
    have hA : isA q2.1.1 := hA (by intro h; have := congrArg List.length h; rw [hpl] at this; simp only [List.length_nil] at this; omega)
    have hfl := flat_len (f := portV) (sz := 3) (fun _ => rfl) P
    refine hc_skip <| hx_then_normal <| hc_seq <| hc_block <| hc_region <| hl_v (ov_fieldA rfl) rfl <| ?_
    refine hl_v (ov_load rfl (CellIs.blk rfl)) rfl <| hl_v (ov_move rfl) rfl <| ?_
    refine hl_v (ov_idxS rfl hA rfl i rfl (by omega)) rfl ?_
    refine hl_v (ov_fieldA rfl) rfl <| ?_
    refine hl_v (ov_load (v := .int .u32 P[i].2.1.toNat) rfl (CellIs.row (A := q2.1.1) hA (i := i * 3 + 1) (by rw [flat_at (f := portV) (sz := 3) (fun _ => rfl) _ i 1 hlt (by decide)]; rfl))) rfl ?_
    refine hl_v (ov_add (m := ((P[i].2.1 + 1).toNat : Int)) rfl rfl (u32_inc _)) rfl ?_
    refine hl_v (ov_idxS rfl hA rfl i rfl (by omega)) rfl ?_
    refine hl_v (ov_fieldA rfl) rfl <| ?_
    refine hl_u0 (on_storeRX (A := q2.1.1) (i * 3 + 1) ((P.set i (P[i].1, P[i].2.1 + 1, P[i].2.2)).flatMap portV) rfl rfl (by omega) (by rw [hfl]; omega) rfl (flat_set1 (f := portV) (sz := 3) (fun _ => rfl) _ i 1 _ _ hlt (by decide) rfl)) rfl rfl ?_
    refine hl_nil <| hx_block_normal <| hx_then_normal <| hc_region <| hl_v (ov_move rfl) rfl <| hl_v (ov_add rfl rfl (by first | exact wrap_i64 (by omega) | rfl)) rfl <| ?_
    refine hl_v (ov_assign rfl) rfl <| hl_nil <| ?_
    refine hx_next hK1 ((i + 1, P.set i (P[i].1, P[i].2.1 + 1, P[i].2.2))) (⟨by show i + 1 ≤ _; omega, by rw [List.length_set]; exact hPl⟩) (by omega) (by repeat (first | exact Slots.sub_nil _ | refine Slots.sub_cons rfl ?_)) (by first | assumption | exact Ent.refl _ | exact Ent.nil _ | (repeat (first | exact Ent.refl _ | exact Ent.nil _ | refine Ent.pick ?_)))
  refine hc_exit <| hx_then_exit <| hx_then_exit <| hx_block_out <| hx_then_normal <| hc_seq <| ?_
  refine hc_seq <| hc_region <| hl_v (ov_assign rfl) rfl <| hl_nil <| hx_then_normal <| hc_block <| ?_
  refine hc_loopK1 (σ := Nat × List VlanC) [1, 3, 5] rfl 8 (fun s => .int .i64 (s.1 : Int)) (fun s => [row q3.2.1.1 66 3 c3.2.2.2.2.1.length q3.2.1.2 (s.2.flatMap vlanV), blk b5 26 (cfgA c3 q3), row q3.2.2.1 72 3 c3.2.2.2.2.2.length q3.2.2.2 (c3.2.2.2.2.2.flatMap statV), blk b1 26 (cfgV c3 (.slice Ap c3.2.2.2.1.length cp) (.slice Av c3.2.2.2.2.1.length cv) (.slice As c3.2.2.2.2.2.length cx)), blk b3 26 (cfgA c3 q1)] ++ cfgR c3 q1) (fun s => s.1 ≤ c3.2.2.2.2.1.length ∧ s.2.length = c3.2.2.2.2.1.length) (fun s => c3.2.2.2.2.1.length - s.1) ((0, c3.2.2.2.2.1)) (⟨Nat.zero_le _, rfl⟩) rfl (by first | assumption | exact Ent.refl _ | exact Ent.nil _ | (repeat (first | exact Ent.refl _ | exact Ent.nil _ | refine Ent.pick ?_))) ?_
  rintro ⟨j, V⟩ hj_ K2 hK2
  dsimp only at hj_ ⊢
  obtain ⟨hj, hVl⟩ := hj_
  refine hc_seq <| hc_seq <| hc_region <| hl_v (ov_move rfl) rfl <| hl_v (ov_fieldA rfl) rfl <| hl_v (ov_load rfl (CellIs.blk rfl)) rfl <| ?_
  refine hl_v (by first | exact ov_len rfl | exact ov_lenS rfl) rfl <| ?_
  refine hl_v (ov_lss rfl rfl) rfl <| hl_nil <| hx_then_normal <| ?_
  refine hc_cond rfl (fun h2 => ?_) (fun h2 => ?_)
  · have hlt : j < V.length := by omega
    refine HC.fact (fun w H => Own.factR q3.2.1.1 H) ?_
    rintro ⟨hpl, _, _, hA⟩
    have hA : isA q3.2.1.1 := hA (by intro h; have := congrArg List.length h; rw [hpl] at this; simp only [List.length_nil] at this; omega)
    have hfl := flat_len (f := vlanV) (sz := 3) (fun _ => rfl) V
    refine hc_skip <| hx_then_normal <| hc_seq <| hc_block <| hc_region <| hl_v (ov_fieldA rfl) rfl <| ?_
    refine hl_v (ov_load rfl (CellIs.blk rfl)) rfl <| hl_v (ov_move rfl) rfl <| ?_
    refine hl_v (ov_idxS rfl hA rfl j rfl (by omega)) rfl ?_
    refine hl_v (ov_fieldA rfl) rfl <| ?_
    refine hl_u0 (on_storeRX (A := q3.2.1.1) (j * 3 + 1) ((V.set j (V[j].1, 77, V[j].2.2)).flatMap vlanV) rfl rfl (by omega) (by rw [hfl]; omega) rfl (flat_set1 (f := vlanV) (sz := 3) (fun _ => rfl) _ j 1 _ _ hlt (by decide) rfl)) rfl rfl ?_
    refine hl_nil <| hx_block_normal <| hx_then_normal <| hc_region <| hl_v (ov_move rfl) rfl <| hl_v (ov_add rfl rfl (by first | exact wrap_i64 (by omega) | rfl)) rfl <| ?_
    refine hl_v (ov_assign rfl) rfl <| hl_nil <| ?_
    refine hx_next hK2 ((j + 1, V.set j (V[j].1, 77, V[j].2.2))) (⟨by show j + 1 ≤ _; omega, by rw [List.length_set]; exact hVl⟩) (by omega) (by repeat (first | exact Slots.sub_nil _ | refine Slots.sub_cons rfl ?_)) (by first | assumption | exact Ent.refl _ | exact Ent.nil _ | (repeat (first | exact Ent.refl _ | exact Ent.nil _ | refine Ent.pick ?_)))
  refine hc_exit <| hx_then_exit <| hx_then_exit <| hx_block_out <| hx_then_normal <| hc_seq <| ?_
  refine hc_seq <| hc_region <| hl_v (ov_assign rfl) rfl <| hl_nil <| hx_then_normal <| hc_block <| ?_
  refine hc_loopK1 (σ := Nat × List StatC) [1, 3, 5] rfl 9 (fun s => .int .i64 (s.1 : Int)) (fun s => [row q3.2.2.1 72 3 c3.2.2.2.2.2.length q3.2.2.2 (s.2.flatMap statV), blk b5 26 (cfgA c3 q3), blk b1 26 (cfgV c3 (.slice Ap c3.2.2.2.1.length cp) (.slice Av c3.2.2.2.2.1.length cv) (.slice As c3.2.2.2.2.2.length cx)), blk b3 26 (cfgA c3 q1)] ++ cfgR c3 q1) (fun s => s.1 ≤ c3.2.2.2.2.2.length ∧ s.2.length = c3.2.2.2.2.2.length) (fun s => c3.2.2.2.2.2.length - s.1) ((0, c3.2.2.2.2.2)) (⟨Nat.zero_le _, rfl⟩) rfl (by first | assumption | exact Ent.refl _ | exact Ent.nil _ | (repeat (first | exact Ent.refl _ | exact Ent.nil _ | refine Ent.pick ?_))) ?_
  rintro ⟨k, S⟩ hj_ K3 hK3
  dsimp only at hj_ ⊢
  obtain ⟨hk, hSl⟩ := hj_
  refine hc_seq <| hc_seq <| hc_region <| hl_v (ov_move rfl) rfl <| hl_v (ov_fieldA rfl) rfl <| hl_v (ov_load rfl (CellIs.blk rfl)) rfl <| ?_
  refine hl_v (by first | exact ov_len rfl | exact ov_lenS rfl) rfl <| ?_
  refine hl_v (ov_lss rfl rfl) rfl <| hl_nil <| hx_then_normal <| ?_
  refine hc_cond rfl (fun h3 => ?_) (fun h3 => ?_)
  · have hlt : k < S.length := by omega
    refine HC.fact (fun w H => Own.factR q3.2.2.1 H) ?_
    rintro ⟨hpl, _, _, hA⟩
    have hA : isA q3.2.2.1 := hA (by intro h; have := congrArg List.length h; rw [hpl] at this; simp only [List.length_nil] at this; omega)
    have hfl := flat_len (f := statV) (sz := 3) (fun _ => rfl) S
    refine hc_skip <| hx_then_normal <| hc_seq <| hc_block <| hc_region <| hl_v (ov_fieldA rfl) rfl <| ?_
    refine hl_v (ov_load rfl (CellIs.blk rfl)) rfl <| hl_v (ov_move rfl) rfl <| ?_
    refine hl_v (ov_idxS rfl hA rfl k rfl (by omega)) rfl ?_
    refine hl_v (ov_fieldA rfl) rfl <| ?_
    refine hl_u0 (on_storeRX (A := q3.2.2.1) (k * 3 + 2) ((S.set k (S[k].1, S[k].2.1, 99)).flatMap statV) rfl rfl (by omega) (by rw [hfl]; omega) rfl (flat_set1 (f := statV) (sz := 3) (fun _ => rfl) _ k 2 _ _ hlt (by decide) rfl)) rfl rfl ?_
    refine hl_nil <| hx_block_normal <| hx_then_normal <| hc_region <| hl_v (ov_move rfl) rfl <| hl_v (ov_add rfl rfl (by first | exact wrap_i64 (by omega) | rfl)) rfl <| ?_
    refine hl_v (ov_assign rfl) rfl <| hl_nil <| ?_
    refine hx_next hK3 ((k + 1, S.set k (S[k].1, S[k].2.1, 99))) (⟨by show k + 1 ≤ _; omega, by rw [List.length_set]; exact hSl⟩) (by omega) (by repeat (first | exact Slots.sub_nil _ | refine Slots.sub_cons rfl ?_)) (by first | assumption | exact Ent.refl _ | exact Ent.nil _ | (repeat (first | exact Ent.refl _ | exact Ent.nil _ | refine Ent.pick ?_)))
  refine hc_exit <| hx_then_exit <| hx_then_exit <| hx_block_out <| hx_then_normal <| hc_seq <| ?_
  refine hc_region <| hl_v (by first | exact ov_loadW rfl (by simp; done) | exact ov_loadGB rfl rfl) rfl <| ?_
  refine hl_v (by first | exact ov_loadW rfl (by simp; done) | exact ov_loadGB rfl rfl) rfl <| ?_
  refine hl_call (σ := BIff (c3 = c3)) Try.call19 rfl rfl (fun w1 H1 => Own.callx0 H1 fun D' hold hin H2 => keepC_spec D' w1 c3 c3 _ _ _ _ _ _ (HCf.hold hold) (ConfOld.rows (q := q1) hokc hin)) ?_
  intro s4
  try rw [List.nil_append]
  have hs4 : s4.1 = true := s4.2.2 rfl
  refine hl_v (ov_move rfl) rfl <| ?_
  refine hl_partb (t := 100) rfl (fun a7 => ?_) (fun a7 => ?_)
  · skip
    refine hl_on rfl rfl <| hl_c Try.call28 rfl rfl (fun w1 H1 => Own.calln H1 fun D' hold hin H2 => wakes5_spec D' w1) ?_
    refine hl_v (ov_pickT rfl rfl) rfl <| hl_v (ov_assign rfl) rfl <| hl_nil <| hx_then_normal <| hc_ret <| ?_
    exact results_1 (.inr rfl) rfl rfl fun w' H' => ⟨rfl, H'.ent (Ent.nil _)⟩
  rw [hs4] at a7; cases a7
end Go.Proofs.Ytpgpfcplchaleaa
