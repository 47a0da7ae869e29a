import Derived.Test.YtjlolpmmpafjeaaGreatZ22
set_option linter.unusedVariables false
set_option linter.unusedSimpArgs false
namespace Go.Proofs.YtjlolpmmpafjeaaGreat
open Slk
abbrev stoC (jb g : Nat) (s : SSt) (q : Three) : List Value := [.pointer (some ⟨jb, 0, none⟩), .pointer (some ⟨g, 0, none⟩), .int .i64 s.c.1, .int .i64 s.c.2.1, .int .i64 s.c.2.2.1, .slice q.1.1 s.c.2.2.2.1.length q.1.2, .slice q.2.1.1 s.c.2.2.2.2.1.length q.2.1.2, .slice q.2.2.1 s.c.2.2.2.2.2.length q.2.2.2, .int .u32 (s.ep : Int)]
def stoL (sb g m : Nat) (s : SSt) (x : Nat × Three) : List HProp := blk sb 120 (stoC x.1 g s x.2) :: jou x.1 g 32 m s.ep (32 + s.k) (s.Ls.map edsB) :: cfgR s.c x.2
def sto (sb g m : Nat) (s : SSt) : HProp := exS (stoL sb g m s)
theorem sto_mk {sb g m : Nat} {s : SSt} {l : List HProp} (jb : Nat) (q : Three) : Ent (blk sb 120 (stoC jb g s q) :: jou jb g 32 m s.ep (32 + s.k) (s.Ls.map edsB) :: (cfgR s.c q ++ l)) (sto sb g m s :: l) := Ent.exS (L := stoL sb g m s) (l := l) (jb, q)
theorem SEpoch_nil (D : Nat → Prop) (w : World) : Calls Tryz.prog 32 #[.pointer none] w fun e w' => e = .returned (.int .u32 0) ∧ Own D w w' [] := by
  refine hc_enter (vs := [.pointer none]) Tryz.func32 rfl _ Tryz.ntmps32 rfl (Own.start D w) ?_
  simp only [argSlots, Nat.zero_add]
  refine hc_seq <| hc_region <| hl_v (ov_assign rfl) rfl <| hl_nil <| hx_then_normal <| hc_seq <| ?_
  refine hc_seq <| hc_region <| hl_v (ov_move rfl) rfl <| hl_v (ov_eqlP rfl rfl) rfl <| hl_nil <| hx_then_normal <| ?_
  refine hc_cond_true rfl ?_
  refine hc_seq <| hc_region <| hl_v (ov_assign rfl) rfl <| hl_nil <| hx_then_normal <| hc_ret <| ?_
  refine hx_then_ret <| ?_
  exact results_1 (.inr rfl) rfl rfl fun w' H' => ⟨rfl, H'⟩
theorem SEpoch_spec (D : Nat → Prop) (w : World) (sb g m : Nat) (s : SSt) (H : Own D w w [sto sb g m s]) : Calls Tryz.prog 32 #[.pointer (some ⟨sb, 0, none⟩)] w fun e w' => e = .returned (.int .u32 (s.ep : Int)) ∧ Own D w w' [sto sb g m s] := by
  refine hc_enter (vs := [.pointer (some ⟨sb, 0, none⟩)]) Tryz.func32 rfl _ Tryz.ntmps32 rfl H ?_
  simp only [argSlots, Nat.zero_add]
  refine HC.exs ?_
  rintro ⟨jb, q⟩
  refine HC.ent (l' := blk sb 120 (stoC jb g s q) :: jou jb g 32 m s.ep (32 + s.k) (s.Ls.map edsB) :: cfgR s.c q) (fun _ h => h) ?_
  refine hc_seq <| hc_region <| hl_v (ov_assign rfl) rfl <| hl_nil <| hx_then_normal <| hc_seq <| ?_
  refine hc_seq <| hc_region <| hl_v (ov_move rfl) rfl <| hl_v (ov_eqlP rfl rfl) rfl <| hl_nil <| hx_then_normal <| ?_
  refine hc_cond_false rfl ?_
  refine hc_skip <| hx_then_normal <| hc_seq <| hc_region <| hl_v (ov_move rfl) rfl <| hl_v (ov_nil rfl) rfl <| ?_
  refine hl_v (ov_fieldA rfl) rfl <| hl_v (ov_load rfl (CellIs.blk rfl)) rfl <| hl_v (ov_assign rfl) rfl <| hl_nil <| hx_then_normal <| hc_ret <| ?_
  exact results_1 (.inr rfl) rfl rfl fun w' H' => ⟨rfl, H'.ent (sto_mk (l := []) jb q)⟩
theorem SConfig_nil (D : Nat → Prop) (w : World) : Calls Tryz.prog 26 #[.pointer none] w fun e w' => ∃ q : Three, e = .returned (.agg (cfgA zeroC q).toArray) ∧ Own D w w' (cfgR zeroC q) := by
  refine hc_enter (vs := [.pointer none]) Tryz.func26 rfl _ Tryz.ntmps26 rfl (Own.start D w) ?_
  simp only [argSlots, Nat.zero_add]
  refine hc_seq <| hc_region <| hl_new (on_alloc) rfl rfl rfl fun b2 =>
    hl_nil <| hx_then_normal <| hc_seq <| ?_
  refine hc_seq <| hc_region <| hl_v (ov_move rfl) rfl <| hl_v (ov_eqlP rfl rfl) rfl <| hl_nil <| hx_then_normal <| ?_
  refine hc_cond_true rfl ?_
  refine hc_seq <| hc_region <| hl_v (ov_buildSN rfl rfl) rfl <| ?_
  refine hl_u0 (on_storeW (vs := cfgA zeroC q0) rfl rfl rfl (by simp) (by simp [Value.oneCell'])) rfl rfl ?_
  refine hl_nil <| hx_then_normal <| hc_ret <| hx_then_ret <| ?_
  exact results_c (.inr rfl) rfl rfl (by simp) fun w' H' => ⟨q0, rfl, H'.ent ((Ent.nil _).trans (Ent.cfgR0 []))⟩
theorem SConfig_spec (D : Nat → Prop) (w : World) (sb g m : Nat) (s : SSt) (hok : OkC s.c) (H : Own D w w [sto sb g m s]) : Calls Tryz.prog 26 #[.pointer (some ⟨sb, 0, none⟩)] w fun e w' => ∃ q : Three, e = .returned (.agg (cfgA s.c q).toArray) ∧ Own D w w' (sto sb g m s :: cfgR s.c q) := by
  refine hc_enter (vs := [.pointer (some ⟨sb, 0, none⟩)]) Tryz.func26 rfl _ Tryz.ntmps26 rfl H ?_
  simp only [argSlots, Nat.zero_add]
  refine HC.exs ?_
  rintro ⟨jb, q⟩
  refine HC.ent (l' := blk sb 120 (stoC jb g s q) :: jou jb g 32 m s.ep (32 + s.k) (s.Ls.map edsB) :: cfgR s.c q) (fun _ h => h) ?_
  refine hc_seq <| hc_region <| hl_new (on_alloc) rfl rfl rfl fun b2 =>
    hl_nil <| hx_then_normal <| hc_seq <| ?_
  refine hc_seq <| hc_region <| hl_v (ov_move rfl) rfl <| hl_v (ov_eqlP rfl rfl) rfl <| hl_nil <| hx_then_normal <| ?_
  refine hc_cond_false rfl ?_
  refine hc_skip <| hx_then_normal <| hc_seq <| hc_region <| hl_v (ov_move rfl) rfl <| hl_v (ov_nil rfl) rfl <| ?_
  refine hl_v (ov_fieldA rfl) rfl <| ?_
  refine hl_v (ov_loadGB (vs := cfgA s.c q) rfl rfl) rfl ?_
  refine hl_call (σ := Three) Tryz.call65 rfl rfl (fun w1 H1 => Own.callx0 H1 fun D' hold hin H2 => Copy_spec D' w1 s.c _ _ _ (ConfOld.rows (q := q) hok hin)) ?_
  intro q2
  try rw [List.nil_append]
  refine hl_u0 (on_storeW (vs := cfgA s.c q2) rfl rfl rfl (by simp) (by simp [Value.oneCell'])) rfl rfl ?_
  refine hl_nil <| hx_then_normal <| hc_ret <| ?_
  exact results_c (.inr rfl) rfl rfl (by simp) fun w' H' => ⟨q2, rfl, H'.ent (Ent.trans (b := blk sb 120 (stoC jb g s q) :: jou jb g 32 m s.ep (32 + s.k) (s.Ls.map edsB) :: (cfgR s.c q ++ cfgR s.c q2)) (by first | assumption | exact Ent.refl _ | exact Ent.nil _ | exact Ent.row_any (Ent.refl _) | (repeat (first | exact Ent.refl _ | exact Ent.nil _ | refine Ent.pick ?_))) (sto_mk jb q))⟩
theorem SSave_nil (D : Nat → Prop) (w : World) : Calls Tryz.prog 31 #[.pointer none] w fun e w' => e = .returned (.int .i64 1) ∧ Own D w w' [] := by
  refine hc_enter (vs := [.pointer none]) Tryz.func31 rfl _ Tryz.ntmps31 rfl (Own.start D w) ?_
  simp only [argSlots, Nat.zero_add]
  refine hc_seq <| hc_region <| hl_v (ov_assign rfl) rfl <| hl_nil <| hx_then_normal <| hc_seq <| ?_
  refine hc_seq <| hc_region <| hl_v (ov_move rfl) rfl <| hl_v (ov_eqlP rfl rfl) rfl <| hl_nil <| hx_then_normal <| ?_
  refine hc_cond_true rfl ?_
  refine hc_seq <| hc_region <| hl_v (ov_assign rfl) rfl <| hl_nil <| hx_then_normal <| hc_ret <| ?_
  refine hx_then_ret <| ?_
  exact results_1 (.inr rfl) rfl rfl fun w' H' => ⟨rfl, H'⟩
set_option maxHeartbeats 1000000 in
theorem SSave_spec (D : Nat → Prop) (w : World) (sb g m : Nat) (s : SSt) (h : SI m s) (hep : s.ep < 4294967290) (H : Own D w w [sto sb g m s, dsk g s.S []]) : Calls Tryz.prog 31 #[.pointer (some ⟨sb, 0, none⟩)] w fun e w' => e = .returned (.int .i64 0) ∧ Own D w w' [sto sb g m (saveSt s), dsk g (saveSt s).S []] := by
  have hlen := h.len
  have hm := h.m40
  refine hc_enter (vs := [.pointer (some ⟨sb, 0, none⟩)]) Tryz.func31 rfl _ Tryz.ntmps31 rfl H ?_
  simp only [argSlots, Nat.zero_add]
  refine HC.exs ?_
  rintro ⟨jb, q⟩
  refine HC.ent (l' := blk sb 120 (stoC jb g s q) :: jou jb g 32 m s.ep (32 + s.k) (s.Ls.map edsB) :: (cfgR s.c q ++ [dsk g s.S []])) (fun _ h => h) ?_
  refine hc_seq <| hc_region <| hl_v (ov_assign rfl) rfl <| hl_nil <| hx_then_normal <| hc_seq <| ?_
  refine hc_seq <| hc_region <| hl_v (ov_move rfl) rfl <| hl_v (ov_eqlP rfl rfl) rfl <| hl_nil <| hx_then_normal <| ?_
  refine hc_cond_false rfl ?_
  refine hc_skip <| hx_then_normal <| hc_seq <| hc_seq <| ?_
  refine hc_any [blk sb 120 (stoC jb g s q)] mixed 15 rfl ?_
  refine ha_v 0 rfl (ov_move rfl) rfl <| ?_
  refine ha_v 1 rfl (ov_nil rfl) rfl <| ?_
  refine ha_v 2 rfl (ov_fieldA rfl) rfl <| ?_
  refine ha_v 3 rfl (ov_load rfl (CellIs.blk rfl)) rfl <| ?_
  refine ha_v 4 rfl (ov_move rfl) rfl <| ?_
  refine ha_v 5 rfl (ov_nil rfl) rfl <| ?_
  refine ha_v 6 rfl (ov_fieldA rfl) rfl <| ?_
  refine ha_v 7 rfl (ov_load rfl (CellIs.blk rfl)) rfl <| ?_
  refine ha_v 8 rfl (ov_add rfl rfl (by first | exact wrap_u32 (by omega) | rfl)) rfl <| ?_
  refine ha_v 9 rfl (ov_move rfl) rfl <| ?_
  refine ha_v 10 rfl (ov_nil rfl) rfl <| ?_
  refine ha_v 11 rfl (ov_fieldA rfl) rfl <| ?_
  refine ha_one 12 (by kernel_rfl) <| ?_
  refine ho_v rfl (ov_loadGB (vs := cfgA s.c q) rfl rfl) rfl ?_
  refine ha_one 13 (by kernel_rfl) <| ?_
  refine ho_k rfl Tryz.call69 rfl (fun w1 H1 => Own.callp (dsk g s.S []) H1 fun D' hold hin H2 => save_spec D' w1 g (s.ep + 1) s.S s.c _ _ _ (by omega) h.gc (by omega) (ConfOld.rows (q := q) h.okc hin) H2) ?_
  refine ha_v 14 rfl (ov_assign rfl) rfl <| ?_
  refine ha_done (by kernel_rfl) <| hx_then_normal <| hc_seq <| hc_region <| hl_v (ov_move rfl) rfl <| hl_v (ov_neq rfl rfl) rfl <| ?_
  refine hl_nil <| hx_then_normal <| ?_
  refine hc_cond_F rfl ((fun h => h rfl)) ?_
  refine hc_skip <| hx_then_normal <| hc_seq <| hc_region <| hl_v (ov_move rfl) rfl <| hl_v (ov_nil rfl) rfl <| ?_
  refine hl_v (ov_fieldA rfl) rfl <| hl_v (ov_load rfl (CellIs.blk rfl)) rfl <| ?_
  refine hl_v (ov_add (m := ((s.ep + 1 : Nat) : Int)) rfl rfl ((wrap_u32 (by omega)).trans (by omega))) rfl ?_
  refine hl_v (ov_nil rfl) rfl <| hl_v (ov_fieldA rfl) rfl <| hl_u0 (on_storeN rfl rfl rfl rfl rfl) rfl rfl <| hl_nil <| hx_then_normal <| hc_seq <| ?_
  refine HC.ent (l' := blk sb 120 (stoC jb g (saveSt s) q) :: dsk g (saveSt s).S [] :: jou jb g 32 m s.ep (32 + s.k) (s.Ls.map edsB) :: cfgR s.c q) (fun _ h => h) ?_
  refine hc_any [blk sb 120 (stoC jb g (saveSt s) q)] mixed 9 rfl ?_
  refine ha_v 0 rfl (ov_move rfl) rfl <| ?_
  refine ha_v 1 rfl (ov_nil rfl) rfl <| ?_
  refine ha_v 2 rfl (ov_fieldA rfl) rfl <| ?_
  refine ha_v 3 rfl (ov_load rfl (CellIs.blk rfl)) rfl <| ?_
  refine ha_v 4 rfl (ov_move rfl) rfl <| ?_
  refine ha_v 5 rfl (ov_nil rfl) rfl <| ?_
  refine ha_v 6 rfl (ov_fieldA rfl) rfl <| ?_
  refine ha_v 7 rfl (ov_load rfl (CellIs.blk rfl)) rfl <| ?_
  refine ha_one 8 (by kernel_rfl) <| ?_
  refine ho_k rfl Tryz.call70 rfl (fun w1 H1 => Own.callp (jou jb g 32 m s.ep (32 + s.k) (s.Ls.map edsB)) H1 fun D' hold hin H2 => Next_spec D' w1 jb g 32 m s.ep (32 + s.k) (s.Ls.map edsB) (s.ep + 1) H2) ?_
  refine ha_done (by kernel_rfl) <| hx_then_normal <| hc_seq <| hc_region <| hl_v (ov_assign rfl) rfl <| hl_nil <| ?_
  refine hx_then_normal <| hc_ret <| ?_
  exact results_1 (.inr rfl) rfl rfl fun w' H' => ⟨rfl, H'.ent (Ent.trans (b := blk sb 120 (stoC jb g (saveSt s) q) :: jou jb g 32 m (s.ep + 1) 32 [] :: (cfgR s.c q ++ [dsk g (saveSt s).S []])) (by first | assumption | exact Ent.refl _ | exact Ent.nil _ | exact Ent.row_any (Ent.refl _) | (repeat (first | exact Ent.refl _ | exact Ent.nil _ | refine Ent.pick ?_))) (sto_mk (s := saveSt s) jb q))⟩
theorem SOpen_nil (D : Nat → Prop) (w : World) (p : Int) : Calls Tryz.prog 17 #[.pointer none, .int .i64 p] w fun e w' => e = .returned (.tuple #[.pointer none, .int .i64 1]) ∧ Own D w w' [] := by
  refine hc_enter (vs := [.pointer none, .int .i64 p]) Tryz.func17 rfl _ Tryz.ntmps17 rfl (Own.start D w) ?_
  simp only [argSlots, Nat.zero_add]
  refine hc_seq <| hc_region <| hl_v (ov_assign rfl) rfl <| hl_v (ov_assign rfl) rfl <| hl_nil <| hx_then_normal <| ?_
  refine hc_seq <| hc_seq <| hc_region <| hl_v (ov_move rfl) rfl <| ?_
  refine hl_c Tryz.call44 rfl rfl (fun w1 H1 => Own.calln H1 fun D' hold hin H2 => Len_nil D' w1) ?_
  refine hl_v (ov_lss rfl rfl) rfl <| hl_v (ov_move rfl) rfl <| ?_
  refine hl_partT (t := 14) rfl ((by decide)) ?_
  refine hl_off rfl rfl rfl rfl rfl rfl <| hl_off rfl rfl rfl rfl rfl rfl <| hl_v (ov_pickT rfl rfl) rfl <| hl_v (ov_move rfl) rfl <| hl_off rfl rfl rfl rfl rfl rfl <| hl_off rfl rfl rfl rfl rfl rfl <| ?_
  refine hl_v (ov_pickT rfl rfl) rfl <| hl_nil <| hx_then_normal <| hc_cond_true rfl <| hc_seq <| hc_region <| ?_
  refine hl_v (ov_assign rfl) rfl <| hl_v (ov_assign rfl) rfl <| hl_nil <| hx_then_normal <| hc_ret <| hx_then_ret <| ?_
  exact results_2 (.inr rfl) rfl rfl rfl fun w' H' => ⟨rfl, H'⟩
theorem SOpen_no (D : Nat → Prop) (w : World) (g : Nat) (S : List Sec) (p : Int) (hbad : S.length < 40 ∨ p < 1 ∨ 8 < p) (H : Own D w w [dsk g S []]) : Calls Tryz.prog 17 #[.pointer (some ⟨g, 0, none⟩), .int .i64 p] w fun e w' => e = .returned (.tuple #[.pointer none, .int .i64 1]) ∧ Own D w w' [dsk g S []] := by
  refine hc_enter (vs := [.pointer (some ⟨g, 0, none⟩), .int .i64 p]) Tryz.func17 rfl _ Tryz.ntmps17 rfl H ?_
  simp only [argSlots, Nat.zero_add]
  refine hc_seq <| hc_region <| hl_v (ov_assign rfl) rfl <| hl_v (ov_assign rfl) rfl <| hl_nil <| hx_then_normal <| ?_
  refine hc_seq <| hc_seq <| hc_region <| hl_v (ov_move rfl) rfl <| ?_
  refine hl_c Tryz.call44 rfl rfl (fun w1 H1 => Own.callp (dsk g S []) H1 fun D' hold hin H2 => Len_spec D' w1 g S [] H2) ?_
  refine hl_v (ov_lss rfl rfl) rfl <| hl_v (ov_move rfl) rfl <| ?_
  refine hl_part (t := 14) rfl (fun c1 => ?_) (fun c1 => ?_)
  · refine hl_off rfl rfl rfl rfl rfl rfl <| hl_off rfl rfl rfl rfl rfl rfl <| hl_v (ov_pickT rfl rfl) rfl <| hl_v (ov_move rfl) rfl <| hl_off rfl rfl rfl rfl rfl rfl <| hl_off rfl rfl rfl rfl rfl rfl <| ?_
    refine hl_v (ov_pickT rfl rfl) rfl <| hl_nil <| hx_then_normal <| hc_cond_true rfl <| hc_seq <| hc_region <| ?_
    refine hl_v (ov_assign rfl) rfl <| hl_v (ov_assign rfl) rfl <| hl_nil <| hx_then_normal <| hc_ret <| hx_then_ret <| ?_
    exact results_2 (.inr rfl) rfl rfl rfl fun w' H' => ⟨rfl, H'⟩
  refine hl_on rfl rfl <| hl_v (ov_move rfl) rfl <| hl_on rfl rfl <| hl_v (ov_lss rfl rfl) rfl <| hl_v (ov_pickF rfl rfl) rfl <| hl_v (ov_move rfl) rfl <| ?_
  refine hl_part (t := 18) rfl (fun c2 => ?_) (fun c2 => ?_)
  · refine hl_off rfl rfl rfl rfl rfl rfl <| hl_off rfl rfl rfl rfl rfl rfl <| hl_v (ov_pickT rfl rfl) rfl <| hl_nil <| hx_then_normal <| hc_cond_true rfl <| ?_
    refine hc_seq <| hc_region <| hl_v (ov_assign rfl) rfl <| hl_v (ov_assign rfl) rfl <| hl_nil <| hx_then_normal <| ?_
    refine hc_ret <| hx_then_ret <| ?_
    exact results_2 (.inr rfl) rfl rfl rfl fun w' H' => ⟨rfl, H'⟩
  refine hl_on rfl rfl <| hl_v (ov_move rfl) rfl <| hl_on rfl rfl <| hl_v (ov_gtr rfl rfl) rfl <| hl_v (ov_pickF rfl rfl) rfl <| hl_nil <| hx_then_normal <| ?_
  refine hc_cond_T rfl ((by omega)) ?_
  refine hc_seq <| hc_region <| hl_v (ov_assign rfl) rfl <| hl_v (ov_assign rfl) rfl <| hl_nil <| hx_then_normal <| ?_
  refine hc_ret <| hx_then_ret <| ?_
  exact results_2 (.inr rfl) rfl rfl rfl fun w' H' => ⟨rfl, H'⟩
set_option maxHeartbeats 1000000 in
theorem SOpen_gen (D : Nat → Prop) (w : World) (g m : Nat) (Sa : List Sec) (s : SSt) (p : Nat) (h : SI m s) (hm2 : m ≤ 100000) (hep : s.ep < 4294967296) (h1 : 1 ≤ p) (h8 : p ≤ 8) (hp : s.c0.2.2.2.1.length = p) (hSa : Sa.length = m)
    (hb : ∀ D w, Own D w w [dsk g Sa []] → Calls Tryz.prog 45 #[.pointer (some ⟨g, 0, none⟩), .int .i64 (p : Int)] w fun e w' => ∃ q : Option Addr × Nat, e = .returned (.tuple #[.int .u32 (s.ep : Int), .slice q.1 (cfgB s.c0).length q.2, .int .i64 0]) ∧ Own D w w' [dsk g s.S [], row q.1 5 1 (cfgB s.c0).length q.2 ((cfgB s.c0).map u8v)])
    (H : Own D w w [dsk g Sa []]) : Calls Tryz.prog 17 #[.pointer (some ⟨g, 0, none⟩), .int .i64 (p : Int)] w fun e w' => ∃ sb : Nat, e = .returned (.tuple #[.pointer (some ⟨sb, 0, none⟩), .int .i64 0]) ∧ Own D w w' [sto sb g m s, dsk g s.S []] := by
  have hlen := h.len
  have hm := h.m40
  have hk := h.kle
  have hmany := h.many
  have hreg := h.reg
  have hE : entsF s.ep (m - 32) 0 (regS s.S) = (s.Ls.map edsB, s.k) := by
    have := h.ji.open hep (by omega)
    rwa [hreg] at this
  have hT : regS s.S = (s.S.drop 32).take (m - 32) := by
    show s.S.drop 32 = _
    rw [List.take_of_length_le (by rw [List.length_drop]; omega)]
  have hsml : ∀ x ∈ s.Ls.map edsB, x.length ≤ 1000000 := fun x hx => by
    obtain ⟨l, hl, rfl⟩ := List.mem_map.1 hx
    have := edsB_small (h.oks l hl).1.1
    omega
  have hml : (s.Ls.map edsB).length = s.Ls.length := List.length_map _
  refine hc_enter (vs := [.pointer (some ⟨g, 0, none⟩), .int .i64 (p : Int)]) Tryz.func17 rfl _ Tryz.ntmps17 rfl H ?_
  simp only [argSlots, Nat.zero_add]
  refine hc_seq <| hc_region <| hl_v (ov_assign rfl) rfl <| hl_v (ov_assign rfl) rfl <| hl_nil <| hx_then_normal <| ?_
  refine hc_seq <| hc_seq <| hc_region <| hl_v (ov_move rfl) rfl <| ?_
  refine hl_c Tryz.call44 rfl rfl (fun w1 H1 => Own.callp (dsk g Sa []) H1 fun D' hold hin H2 => Len_spec D' w1 g Sa [] H2) ?_
  refine hl_v (ov_lss rfl rfl) rfl <| hl_v (ov_move rfl) rfl <| ?_
  refine hl_partF (t := 14) rfl ((by omega)) ?_
  refine hl_on rfl rfl <| hl_v (ov_move rfl) rfl <| hl_on rfl rfl <| hl_v (ov_lss rfl rfl) rfl <| hl_v (ov_pickF rfl rfl) rfl <| hl_v (ov_move rfl) rfl <| ?_
  refine hl_partF (t := 18) rfl ((by omega)) ?_
  refine hl_on rfl rfl <| hl_v (ov_move rfl) rfl <| hl_on rfl rfl <| hl_v (ov_gtr rfl rfl) rfl <| hl_v (ov_pickF rfl rfl) rfl <| hl_nil <| hx_then_normal <| ?_
  refine hc_cond_F rfl ((by omega)) ?_
  refine hc_skip <| hx_then_normal <| hc_seq <| hc_region <| hl_v (ov_move rfl) rfl <| hl_v (ov_move rfl) rfl <| ?_
  refine hl_call (σ := Option Addr × Nat) Tryz.call45 rfl rfl (fun w1 H1 => Own.callpx (dsk g Sa []) H1 fun D' hold hin H2 => hb D' w1 H2) ?_
  intro qb
  refine hl_v (ov_move rfl) rfl <| hl_v (ov_extract rfl rfl) rfl <| hl_v (ov_extract rfl rfl) rfl <| hl_v (ov_extract rfl rfl) rfl <| hl_v (ov_assign rfl) rfl <| hl_v (ov_assign rfl) rfl <| ?_
  refine hl_v (ov_assign rfl) rfl <| hl_nil <| hx_then_normal <| hc_seq <| hc_seq <| hc_region <| ?_
  refine hl_v (ov_move rfl) rfl <| hl_v (ov_neq rfl rfl) rfl <| hl_nil <| hx_then_normal <| ?_
  refine hc_cond_F rfl ((fun h => h rfl)) ?_
  refine hc_skip <| hx_then_normal <| hc_seq <| hc_region <| hl_v (ov_move rfl) rfl <| ?_
  refine hl_call (σ := Three) Tryz.call46 rfl rfl (fun w1 H1 => Own.callx0 H1 fun D' hold hin H2 => Parse_g D' w1 _ s.c0 h.g0 (hin _ fun h hs ho => rep_row (A := qb.1) hs (cfgB s.c0) rfl (repL_bytes.2 rfl))) ?_
  intro qc
  try rw [List.nil_append]
  refine hl_v (ov_move rfl) rfl <| hl_v (ov_extract rfl rfl) rfl <| hl_v (ov_extract rfl rfl) rfl <| hl_new (on_alloc) rfl rfl rfl fun b9 =>  ?_
  refine hl_u0 (on_storeW (vs := cfgA s.c0 qc) rfl rfl rfl (by simp) (by simp [Value.oneCell'])) rfl rfl ?_
  refine hl_v (ov_assign rfl) rfl <| hl_nil <| hx_then_normal <| hc_seq <| hc_seq <| hc_region <| ?_
  refine hl_v (ov_move rfl) rfl <| hl_v (ov_neq rfl rfl) rfl <| hl_v (ov_move rfl) rfl <| ?_
  refine hl_partF (t := 39) rfl ((fun h => h rfl)) ?_
  refine hl_on rfl rfl <| hl_v (ov_fieldA rfl) rfl <| hl_on rfl rfl <| hl_v (ov_load rfl (CellIs.blk rfl)) rfl <| hl_on rfl rfl <| hl_v (by first | exact ov_len rfl | exact ov_lenS rfl) rfl <| ?_
  refine hl_on rfl rfl <| hl_v (ov_move rfl) rfl <| hl_on rfl rfl <| hl_v (ov_neq rfl rfl) rfl <| hl_v (ov_pickF rfl rfl) rfl <| hl_nil <| hx_then_normal <| ?_
  refine hc_cond_F rfl ((by omega)) ?_
  refine hc_skip <| hx_then_normal <| hc_seq <| hc_region <| hl_v (ov_move rfl) rfl <| hl_v (ov_move rfl) rfl <| ?_
  refine hl_c Tryz.call44 rfl rfl (fun w1 H1 => Own.callp (dsk g s.S []) H1 fun D' hold hin H2 => Len_spec D' w1 g s.S [] H2) ?_
  rw [hlen]
  refine hl_v (ov_move rfl) rfl <| ?_
  refine hl_call (σ := Nat) Tryz.call47 rfl rfl (fun w1 H1 => Own.callpx (dsk g s.S []) H1 fun D' hold hin H2 => JOpen_is D' w1 g s.S 32 m (m - 32) (regS s.S) s.ep (s.Ls.map edsB) s.k (32 + s.k) hE rfl (by omega) (by omega) (by omega) (by omega) hT H2) ?_
  intro jb
  refine hl_v (ov_move rfl) rfl <| hl_v (ov_extract rfl rfl) rfl <| hl_v (ov_extract rfl rfl) rfl <| hl_v (ov_assign rfl) rfl <| hl_v (ov_assign rfl) rfl <| hl_nil <| ?_
  refine hx_then_normal <| hc_seq <| hc_seq <| hc_region <| hl_v (ov_move rfl) rfl <| hl_v (ov_neq rfl rfl) rfl <| ?_
  refine hl_nil <| hx_then_normal <| ?_
  refine hc_cond_F rfl ((fun h => h rfl)) ?_
  refine hc_skip <| hx_then_normal <| hc_seq <| hc_seq <| ?_
  refine hc_any [] mixed 9 rfl ?_
  refine ha_v 1 rfl (ov_move rfl) rfl <| ?_
  refine ha_two 0 2 (by kernel_rfl) ?_ ?_
  · skip
    refine ho_v rfl (ov_loadW rfl rfl) rfl ?_
    refine ha_one 2 (by kernel_rfl) <| ?_
    refine ho_kx (σ := Option Addr × Nat × List Value) rfl Tryz.call49 rfl (fun w1 H1 => Own.callpx (jou jb g 32 m s.ep (32 + s.k) (s.Ls.map edsB)) H1 fun D' hold hin H2 => All_spec D' w1 jb g 32 m s.ep (32 + s.k) (s.Ls.map edsB) (by omega) hsml H2) ?_
    rintro ⟨A7, cap7, cs7⟩
    refine ha_one 3 (by kernel_rfl) <| ?_
    refine ho_kx (σ := Three) rfl Tryz.call48 rfl (fun w1 H1 => Own.callpx3 (row qc.1.1 83 3 s.c0.2.2.2.1.length qc.1.2 (s.c0.2.2.2.1.flatMap portV)) (row qc.2.1.1 147 3 s.c0.2.2.2.2.1.length qc.2.1.2 (s.c0.2.2.2.2.1.flatMap vlanV)) (row qc.2.2.1 149 3 s.c0.2.2.2.2.2.length qc.2.2.2 (s.c0.2.2.2.2.2.flatMap statV)) H1 fun D' hold hin H2 => replay_spec D' w1 s.c0 qc _ s.Ls s.c h.ok0 h.rep h.oks (hin _ fun h hs ho => rep_row (A := A7) hs (s.Ls.map edsB) rfl (stars_rowsB (t := 5) (xs := s.Ls.map edsB) (cs := cs7) hs)) H2) ?_
    intro qd
    refine ha_v 4 rfl (ov_move rfl) rfl <| ?_
    refine ha_v 5 rfl (ov_extract rfl rfl) rfl <| ?_
    refine ha_v 6 rfl (ov_extract rfl rfl) rfl <| ?_
    refine ha_one 7 (by kernel_rfl) <| ?_
    refine ho_w0 rfl (on_storeW (vs := cfgA s.c qd) rfl rfl rfl (by simp) (by simp [Value.oneCell'])) rfl ?_
    refine ha_v 8 rfl (ov_assign rfl) rfl <| ?_
    refine ha_done (by kernel_rfl) <| ?_
    refine hx_then_normal <| hc_seq <| hc_region <| hl_v (ov_move rfl) rfl <| hl_v (ov_neq rfl rfl) rfl <| hl_nil <| ?_
    refine hx_then_normal <| ?_
    refine hc_cond_F rfl ((fun h => h rfl)) ?_
    refine hc_skip <| hx_then_normal <| hc_seq <| hc_region <| hl_v (ov_move rfl) rfl <| hl_v (ov_move rfl) rfl <| ?_
    refine hl_v (ov_loadW rfl rfl) rfl ?_
    dsimp only [List.getElem_toArray, List.getElem_cons_zero, List.getElem_cons_succ]
    refine hl_v (ov_move rfl) rfl <| hl_v (ov_buildSN rfl rfl) rfl <| ?_
    refine hl_new (on_boxN rfl rfl) rfl rfl rfl fun b72 =>  ?_
    refine hl_v (ov_assign rfl) rfl <| hl_v (ov_assign rfl) rfl <| hl_nil <| hx_then_normal <| hc_ret <| ?_
    exact results_2 (.inr rfl) rfl rfl rfl fun w' H' => ⟨b72, rfl, H'.ent (Ent.trans (b := blk b72 120 (stoC jb g s qd) :: jou jb g 32 m s.ep (32 + s.k) (s.Ls.map edsB) :: (cfgR s.c qd ++ [dsk g s.S []])) (by first | assumption | exact Ent.refl _ | exact Ent.nil _ | exact Ent.row_any (Ent.refl _) | (repeat (first | exact Ent.refl _ | exact Ent.nil _ | refine Ent.pick ?_))) (sto_mk jb qd))⟩
  skip
  refine ho_kx (σ := Option Addr × Nat × List Value) rfl Tryz.call49 rfl (fun w1 H1 => Own.callpx (jou jb g 32 m s.ep (32 + s.k) (s.Ls.map edsB)) H1 fun D' hold hin H2 => All_spec D' w1 jb g 32 m s.ep (32 + s.k) (s.Ls.map edsB) (by omega) hsml H2) ?_
  rintro ⟨A7, cap7, cs7⟩
  refine ha_one 0 (by kernel_rfl) <| ?_
  refine ho_v rfl (ov_loadW rfl rfl) rfl ?_
  refine ha_one 3 (by kernel_rfl) <| ?_
  refine ho_kx (σ := Three) rfl Tryz.call48 rfl (fun w1 H1 => Own.callpx3 (row qc.1.1 83 3 s.c0.2.2.2.1.length qc.1.2 (s.c0.2.2.2.1.flatMap portV)) (row qc.2.1.1 147 3 s.c0.2.2.2.2.1.length qc.2.1.2 (s.c0.2.2.2.2.1.flatMap vlanV)) (row qc.2.2.1 149 3 s.c0.2.2.2.2.2.length qc.2.2.2 (s.c0.2.2.2.2.2.flatMap statV)) H1 fun D' hold hin H2 => replay_spec D' w1 s.c0 qc _ s.Ls s.c h.ok0 h.rep h.oks (hin _ fun h hs ho => rep_row (A := A7) hs (s.Ls.map edsB) rfl (stars_rowsB (t := 5) (xs := s.Ls.map edsB) (cs := cs7) hs)) H2) ?_
  intro qd
  refine ha_v 4 rfl (ov_move rfl) rfl <| ?_
  refine ha_v 5 rfl (ov_extract rfl rfl) rfl <| ?_
  refine ha_v 6 rfl (ov_extract rfl rfl) rfl <| ?_
  refine ha_one 7 (by kernel_rfl) <| ?_
  refine ho_w0 rfl (on_storeW (vs := cfgA s.c qd) rfl rfl rfl (by simp) (by simp [Value.oneCell'])) rfl ?_
  refine ha_v 8 rfl (ov_assign rfl) rfl <| ?_
  refine ha_done (by kernel_rfl) <| ?_
  refine hx_then_normal <| hc_seq <| hc_region <| hl_v (ov_move rfl) rfl <| hl_v (ov_neq rfl rfl) rfl <| hl_nil <| ?_
  refine hx_then_normal <| ?_
  refine hc_cond_F rfl ((fun h => h rfl)) ?_
  refine hc_skip <| hx_then_normal <| hc_seq <| hc_region <| hl_v (ov_move rfl) rfl <| hl_v (ov_move rfl) rfl <| ?_
  refine hl_v (ov_loadW rfl rfl) rfl ?_
  dsimp only [List.getElem_toArray, List.getElem_cons_zero, List.getElem_cons_succ]
  refine hl_v (ov_move rfl) rfl <| hl_v (ov_buildSN rfl rfl) rfl <| ?_
  refine hl_new (on_boxN rfl rfl) rfl rfl rfl fun b72 =>  ?_
  refine hl_v (ov_assign rfl) rfl <| hl_v (ov_assign rfl) rfl <| hl_nil <| hx_then_normal <| hc_ret <| ?_
  exact results_2 (.inr rfl) rfl rfl rfl fun w' H' => ⟨b72, rfl, H'.ent (Ent.trans (b := blk b72 120 (stoC jb g s qd) :: jou jb g 32 m s.ep (32 + s.k) (s.Ls.map edsB) :: (cfgR s.c qd ++ [dsk g s.S []])) (by first | assumption | exact Ent.refl _ | exact Ent.nil _ | exact Ent.row_any (Ent.refl _) | (repeat (first | exact Ent.refl _ | exact Ent.nil _ | refine Ent.pick ?_))) (sto_mk jb qd))⟩
theorem SOpen_old (D : Nat → Prop) (w : World) (g m : Nat) (s : SSt) (p : Nat) (h : SI m s) (hm2 : m ≤ 100000) (hep : s.ep < 4294967296) (h1 : 1 ≤ p) (h8 : p ≤ 8) (hp : s.c0.2.2.2.1.length = p) (H : Own D w w [dsk g s.S []]) :
    Calls Tryz.prog 17 #[.pointer (some ⟨g, 0, none⟩), .int .i64 (p : Int)] w fun e w' => ∃ sb : Nat, e = .returned (.tuple #[.pointer (some ⟨sb, 0, none⟩), .int .i64 0]) ∧ Own D w w' [sto sb g m s, dsk g s.S []] :=
  SOpen_gen D w g m s.S s p h hm2 hep h1 h8 hp h.len (fun D w H => begin_old D w g p s.S s.ep (cfgB s.c0) (by have := h.len; have := h.m40; omega) h.ld H) H
theorem SOpen_new (D : Nat → Prop) (w : World) (g m p : Nat) (hm : 40 ≤ m) (hm2 : m ≤ 100000) (h1 : 1 ≤ p) (h8 : p ≤ 8) (S : List Sec) (hS : S = List.replicate m zeroSec) (H : Own D w w [dsk g S []]) :
    Calls Tryz.prog 17 #[.pointer (some ⟨g, 0, none⟩), .int .i64 (p : Int)] w fun e w' => ∃ sb : Nat, e = .returned (.tuple #[.pointer (some ⟨sb, 0, none⟩), .int .i64 0]) ∧ Own D w w' [sto sb g m (firstSt m p), dsk g (firstSt m p).S []] := by
  have hl : S.length = m := by rw [hS]; exact List.length_replicate
  have hok := firstSt_ok hm h1 h8
  refine SOpen_gen D w g m S (firstSt m p) p hok hm2 (show 1 < 4294967296 by decide) h1 h8 List.length_replicate hl (fun D w H => ?_) H
  exact begin_new D w g p S (firstSt m p).S (by omega) h1 h8 (loadE_none (by rw [hS]; exact blank_new (by omega))) (by rw [hS]; rfl) hok.ld H
end Go.Proofs.YtjlolpmmpafjeaaGreat
set_option linter.unusedVariables false
set_option linter.unusedSimpArgs false
namespace Go.Proofs.YtjlolpmmpafjeaaGreat
open Slk
theorem Commit_nil (D : Nat → Prop) (w : World) (v : Value) : Calls Tryz.prog 19 #[.pointer none, v] w fun e w' => e = .returned (.int .i64 1) ∧ Own D w w' [] := by
  refine hc_enter (vs := [.pointer none, v]) Tryz.func19 rfl _ Tryz.ntmps19 rfl (Own.start D w) ?_
  simp only [argSlots, Nat.zero_add]
  refine hc_seq <| hc_region <| hl_v (ov_assign rfl) rfl <| hl_nil <| hx_then_normal <| hc_seq <| ?_
  refine hc_seq <| hc_region <| hl_v (ov_move rfl) rfl <| hl_v (ov_eqlP rfl rfl) rfl <| hl_nil <| hx_then_normal <| ?_
  refine hc_cond_true rfl ?_
  refine hc_seq <| hc_region <| hl_v (ov_assign rfl) rfl <| hl_nil <| hx_then_normal <| hc_ret <| ?_
  refine hx_then_ret <| ?_
  exact results_1 (.inr rfl) rfl rfl fun w' H' => ⟨rfl, H'⟩
set_option maxHeartbeats 2000000 in
theorem Commit_spec (D : Nat → Prop) (w : World) (sb g m : Nat) (s : SSt) (v : Value) (l : List EditC) (h : SI m s) (hm2 : m ≤ 100000) (hep : s.ep < 4294967290) (hll : l.length ≤ 1000000) (HA : Old D w (Rep.rep l [v])) (H : Own D w w [sto sb g m s, dsk g s.S []]) :
    Calls Tryz.prog 19 #[.pointer (some ⟨sb, 0, none⟩), v] w fun e w' => e = .returned (.int .i64 (commR m s l).1) ∧ Own D w w' [sto sb g m (commR m s l).2, dsk g (commR m s l).2.S []] := by
  obtain ⟨Al, cl, rfl, _, _, _, hfl⟩ := HA.openF
  have hlen := h.len
  have hm := h.m40
  have hk := h.kle
  have hmany := h.many
  have hml : (s.Ls.map edsB).length = s.Ls.length := List.length_map _
  obtain ⟨c2, er, hed⟩ : ∃ c2 er, edF s.c l = (c2, er) := ⟨_, _, rfl⟩
  refine hc_enter (vs := [.pointer (some ⟨sb, 0, none⟩), .slice Al l.length cl]) Tryz.func19 rfl _ Tryz.ntmps19 rfl H ?_
  simp only [argSlots, Nat.zero_add]
  refine HC.exs ?_
  rintro ⟨jb, q⟩
  refine HC.ent (l' := blk sb 120 (stoC jb g s q) :: jou jb g 32 m s.ep (32 + s.k) (s.Ls.map edsB) :: (cfgR s.c q ++ [dsk g s.S []])) (fun _ h => h) ?_
  refine hc_seq <| hc_region <| hl_v (ov_assign rfl) rfl <| hl_nil <| hx_then_normal <| hc_seq <| ?_
  refine hc_seq <| hc_region <| hl_v (ov_move rfl) rfl <| hl_v (ov_eqlP rfl rfl) rfl <| hl_nil <| hx_then_normal <| ?_
  refine hc_cond_false rfl ?_
  refine hc_skip <| hx_then_normal <| hc_seq <| hc_region <| hl_v (ov_move rfl) rfl <| hl_v (ov_nil rfl) rfl <| ?_
  refine hl_v (ov_fieldA rfl) rfl <| ?_
  refine hl_v (ov_loadGB (vs := cfgA s.c q) rfl rfl) rfl ?_
  refine hl_v (ov_move rfl) rfl <| ?_
  refine hl_call (σ := Three) Tryz.call56 rfl rfl (fun w1 H1 => Own.callx0 H1 fun D' hold hin H2 => Edit_is D' w1 s.c _ _ _ _ l c2 er hed hll (ConfOld.rows (q := q) h.okc hin) (hold _ HA)) ?_
  intro qd
  try rw [List.nil_append]
  refine hl_v (ov_move rfl) rfl <| hl_v (ov_extract rfl rfl) rfl <| hl_v (ov_extract rfl rfl) rfl <| hl_new (on_alloc) rfl rfl rfl fun b5 =>  ?_
  refine hl_u0 (on_storeW (vs := cfgA c2 qd) rfl rfl rfl (by simp) (by simp [Value.oneCell'])) rfl rfl ?_
  refine hl_v (ov_assign rfl) rfl <| hl_nil <| hx_then_normal <| hc_seq <| hc_seq <| hc_region <| ?_
  refine hl_v (ov_move rfl) rfl <| hl_v (ov_neq rfl rfl) rfl <| hl_nil <| hx_then_normal <| ?_
  refine hc_cond rfl (fun he => ?_) (fun he => ?_)
  · have hc : commR m s l = (er, s) := by unfold commR; rw [hed, if_pos he]
    refine hc_seq <| hc_region <| hl_v (ov_move rfl) rfl <| hl_v (ov_assign rfl) rfl <| hl_nil <| hx_then_normal <| ?_
    refine hc_ret <| hx_then_ret <| ?_
    exact results_1 (.inr rfl) rfl rfl fun w' H' => ⟨by rw [hc]; rfl, by rw [hc]; exact H'.ent (Ent.trans (b := blk sb 120 (stoC jb g s q) :: jou jb g 32 m s.ep (32 + s.k) (s.Ls.map edsB) :: (cfgR s.c q ++ [dsk g s.S []])) (by first | assumption | exact Ent.refl _ | exact Ent.nil _ | exact Ent.row_any (Ent.refl _) | (repeat (first | exact Ent.refl _ | exact Ent.nil _ | refine Ent.pick ?_))) (sto_mk jb q))⟩
  have he : er = 0 := Classical.not_not.1 he
  subst he
  have h0 : (edF s.c l).2 = 0 := by rw [hed]
  have hl32 : l.length ≤ 32 := (edF_ok h0).2.1
  have hsm := edsB_small hl32
  have hc2 : c2 = (edF s.c l).1 := by rw [hed]
  by_cases hok : okEds l
  · obtain ⟨n, hn⟩ : ∃ n, needM (edsB l).length = n := ⟨_, rfl⟩
    refine hc_skip <| hx_then_normal <| hc_seq <| hc_region <| hl_v (ov_move rfl) rfl <| ?_
    refine hl_call (σ := Option Addr × Nat) Tryz.call57 rfl rfl (fun w1 H1 => Own.callx0 H1 fun D' hold hin H2 => Edits_g D' w1 _ l hok (hold _ HA)) ?_
    intro qe
    try rw [List.nil_append]
    refine hl_v (ov_move rfl) rfl <| hl_v (ov_extract rfl rfl) rfl <| hl_v (ov_extract rfl rfl) rfl <| hl_v (ov_assign rfl) rfl <| hl_v (ov_assign rfl) rfl <| hl_nil <| ?_
    refine hx_then_normal <| hc_seq <| hc_seq <| hc_region <| hl_v (ov_move rfl) rfl <| hl_v (ov_neq rfl rfl) rfl <| ?_
    refine hl_nil <| hx_then_normal <| ?_
    refine hc_cond_F rfl ((fun h => h rfl)) ?_
    refine hc_skip <| hx_then_normal <| hc_seq <| hc_seq <| hc_region <| hl_v (ov_move rfl) rfl <| ?_
    refine hl_v (ov_nil rfl) rfl <| hl_v (ov_fieldA rfl) rfl <| hl_v (ov_load rfl (CellIs.blk rfl)) rfl <| hl_v (ov_move rfl) rfl <| hl_new (on_buildSliceN rfl rfl rfl) rfl rfl rfl fun b35 =>  ?_
    by_cases hfit : n ≤ m - 32 - s.k
    · obtain ⟨sN, hsN⟩ : ∃ sN, sN = appSt s l := ⟨_, rfl⟩
      have hc : commR m s l = (0, sN) := by unfold commR; rw [hed, if_neg (fun h => h rfl), if_neg (fun h => h hok), hn, if_pos hfit, hsN]
      have hS' : sN.S = putS s.S (32 + s.k) (encE (jouE s.ep (s.Ls.map edsB).length (edsB l))) := by rw [hsN, hml]; rfl
      have hL' : sN.Ls.map edsB = s.Ls.map edsB ++ [edsB l] := by rw [hsN]; show (s.Ls ++ [l]).map edsB = _; rw [List.map_append]; rfl
      have hk' : 32 + sN.k = 32 + s.k + n := by rw [hsN]; show 32 + (s.k + needM (edsB l).length) = _; omega
      have hcN : sN.c = c2 := by rw [hsN, hc2]; rfl
      have heN : sN.ep = s.ep := by rw [hsN]; rfl
      rw [hc]
      subst hcN
      refine hl_c Tryz.call58 rfl rfl (fun w1 H1 => Own.callp2 (jou jb g 32 m s.ep (32 + s.k) (s.Ls.map edsB)) (dsk g s.S []) H1 fun D' hold hin H2 => Append_is D' w1 jb g 32 m s.ep (32 + s.k) (s.Ls.map edsB) [edsB l] _ s.S (edsB l) n (32 + sN.k) (sN.Ls.map edsB) sN.S (by simp) hn hk' hL' hS' (by omega) (by omega) (by omega) (by omega) (by omega) (by omega) (by omega) (hin _ fun h hs ho => rep_lits (b := b35) hs [edsB l] ⟨[_], [], rfl, rep_row (A := qe.1) hs (edsB l) rfl (repL_bytes.2 rfl), rfl⟩ (by simp)) H2) ?_
      rw [← heN]
      obtain ⟨jb2, hjb2⟩ : ∃ x, x = jb := ⟨_, rfl⟩
      rw [← hjb2]
      refine hl_v (ov_assign rfl) rfl <| hl_nil <| hx_then_normal <| hc_seq <| hc_region <| hl_v (ov_move rfl) rfl <| ?_
      refine hl_v (ov_eql rfl rfl) rfl <| hl_nil <| hx_then_normal <| ?_
      refine hc_cond_F rfl ((by decide)) ?_
      refine hc_skip <| hx_then_normal <| hc_seq <| hc_seq <| hc_region <| hl_v (ov_move rfl) rfl <| ?_
      refine hl_v (ov_neq rfl rfl) rfl <| hl_nil <| hx_then_normal <| ?_
      refine hc_cond_F rfl ((fun h => h rfl)) ?_
      refine hc_skip <| hx_then_normal <| hc_seq <| hc_region <| hl_v (ov_move rfl) rfl <| ?_
      refine hl_v (ov_loadW rfl rfl) rfl ?_
      refine hl_v (ov_nil rfl) rfl <| hl_v (ov_fieldA rfl) rfl <| ?_
      refine hl_u0 (on_storeGE (stoC jb2 g sN qd) rfl rfl rfl (by simp) (by simp [Value.oneCell']) (by unfold stoC; rw [heN]; rfl)) rfl rfl ?_
      refine hl_nil <| hx_then_normal <| hc_seq <| hc_region <| hl_v (ov_assign rfl) rfl <| hl_nil <| ?_
      refine hx_then_normal <| hc_ret <| ?_
      exact results_1 (.inr rfl) rfl rfl fun w' H' => ⟨rfl, H'.ent (Ent.trans (b := blk sb 120 (stoC jb2 g sN qd) :: jou jb2 g 32 m sN.ep (32 + sN.k) (sN.Ls.map edsB) :: (cfgR sN.c qd ++ [dsk g sN.S []])) (by first | assumption | exact Ent.refl _ | exact Ent.nil _ | exact Ent.row_any (Ent.refl _) | (repeat (first | exact Ent.refl _ | exact Ent.nil _ | refine Ent.pick ?_))) (sto_mk (s := sN) jb2 qd))⟩
    refine hl_c Tryz.call58 rfl rfl (fun w1 H1 => Own.callp (jou jb g 32 m s.ep (32 + s.k) (s.Ls.map edsB)) H1 fun D' hold hin H2 => Append_full D' w1 jb g 32 m s.ep (32 + s.k) (s.Ls.map edsB) [edsB l] _ (by omega) (by omega) (by simp; omega) (by simp; omega) (hin _ fun h hs ho => rep_lits (b := b35) hs [edsB l] ⟨[_], [], rfl, rep_row (A := qe.1) hs (edsB l) rfl (repL_bytes.2 rfl), rfl⟩ (by simp)) H2) ?_
    refine HL.ent (Ent.trans (b := blk sb 120 (stoC jb g s q) :: jou jb g 32 m s.ep (32 + s.k) (s.Ls.map edsB) :: (cfgR s.c q ++ [dsk g s.S [], row qe.1 5 1 (edsB l).length qe.2 ((edsB l).map u8v), blk b5 49 (cfgA c2 qd), row qd.1.1 83 3 c2.2.2.2.1.length qd.1.2 (c2.2.2.2.1.flatMap portV), row qd.2.1.1 147 3 c2.2.2.2.2.1.length qd.2.1.2 (c2.2.2.2.2.1.flatMap vlanV), row qd.2.2.1 149 3 c2.2.2.2.2.2.length qd.2.2.2 (c2.2.2.2.2.2.flatMap statV)])) (by first | assumption | exact Ent.refl _ | exact Ent.nil _ | exact Ent.row_any (Ent.refl _) | (repeat (first | exact Ent.refl _ | exact Ent.nil _ | refine Ent.pick ?_))) (sto_mk jb q)) ?_
    have h1 := saveSt_ok h hep
    obtain ⟨s1, hs1⟩ : ∃ s1, s1 = saveSt s := ⟨_, rfl⟩
    have hs1k : s1.k = 0 := by rw [hs1]; rfl
    have hs1c : s1.c = s.c := by rw [hs1]; rfl
    have hs1L : s1.Ls = [] := by rw [hs1]; rfl
    have hs1e : s1.ep = s.ep + 1 := by rw [hs1]; rfl
    rw [← hs1] at h1
    have hl1 := h1.len
    refine hl_v (ov_assign rfl) rfl <| hl_nil <| hx_then_normal <| hc_seq <| hc_region <| hl_v (ov_move rfl) rfl <| ?_
    refine hl_v (ov_eql rfl rfl) rfl <| hl_nil <| hx_then_normal <| ?_
    refine hc_cond_T rfl (rfl) ?_
    refine hc_seq <| hc_region <| hl_v (ov_move rfl) rfl <| ?_
    refine hl_c Tryz.call31 rfl rfl (fun w1 H1 => Own.callp2 (sto sb g m s) (dsk g s.S []) H1 fun D' hold hin H2 => SSave_spec D' w1 sb g m s h hep H2) ?_
    rw [← hs1]
    refine hl_v (ov_assign rfl) rfl <| hl_nil <| hx_then_normal <| hc_seq <| hc_region <| hl_v (ov_move rfl) rfl <| ?_
    refine hl_v (ov_eql rfl rfl) rfl <| hl_nil <| hx_then_normal <| ?_
    refine hc_cond_T rfl (rfl) ?_
    refine HC.exs ?_
    rintro ⟨jb2, q2⟩
    refine HC.ent (l' := blk sb 120 (stoC jb2 g s1 q2) :: jou jb2 g 32 m s1.ep (32 + s1.k) (s1.Ls.map edsB) :: (cfgR s1.c q2 ++ [dsk g s1.S [], row qe.1 5 1 (edsB l).length qe.2 ((edsB l).map u8v), blk b5 49 (cfgA c2 qd), row qd.1.1 83 3 c2.2.2.2.1.length qd.1.2 (c2.2.2.2.1.flatMap portV), row qd.2.1.1 147 3 c2.2.2.2.2.1.length qd.2.1.2 (c2.2.2.2.2.1.flatMap vlanV), row qd.2.2.1 149 3 c2.2.2.2.2.2.length qd.2.2.2 (c2.2.2.2.2.2.flatMap statV)])) (fun _ h => h) ?_
    refine hc_region <| hl_v (ov_move rfl) rfl <| hl_v (ov_nil rfl) rfl <| hl_v (ov_fieldA rfl) rfl <| hl_v (ov_load rfl (CellIs.blk rfl)) rfl <| hl_v (ov_move rfl) rfl <| ?_
    refine hl_new (on_buildSliceN rfl rfl rfl) rfl rfl rfl fun b48 =>  ?_
    by_cases hfit2 : n ≤ m - 32
    · obtain ⟨sN, hsN⟩ : ∃ sN, sN = appSt s1 l := ⟨_, rfl⟩
      have hc : commR m s l = (0, sN) := by unfold commR; rw [hed, if_neg (fun h => h rfl), if_neg (fun h => h hok), hn, if_neg hfit, if_pos hfit2, hsN, hs1]
      have hS' : sN.S = putS s1.S (32 + s1.k) (encE (jouE s1.ep (s1.Ls.map edsB).length (edsB l))) := by rw [hsN, List.length_map]; rfl
      have hL' : sN.Ls.map edsB = s1.Ls.map edsB ++ [edsB l] := by rw [hsN]; show (s1.Ls ++ [l]).map edsB = _; rw [List.map_append]; rfl
      have hk' : 32 + sN.k = 32 + s1.k + n := by rw [hsN]; show 32 + (s1.k + needM (edsB l).length) = _; omega
      have hcN : sN.c = c2 := by rw [hsN, hc2]; show (edF s1.c l).1 = _; rw [hs1c]
      have heN : sN.ep = s1.ep := by rw [hsN]; rfl
      rw [hc]
      subst hcN
      refine hl_c Tryz.call58 rfl rfl (fun w1 H1 => Own.callp2 (jou jb2 g 32 m s1.ep (32 + s1.k) (s1.Ls.map edsB)) (dsk g s1.S []) H1 fun D' hold hin H2 => Append_is D' w1 jb2 g 32 m s1.ep (32 + s1.k) (s1.Ls.map edsB) [edsB l] _ s1.S (edsB l) n (32 + sN.k) (sN.Ls.map edsB) sN.S (by simp) hn hk' hL' hS' (by omega) (by omega) (by omega) (by omega) (by omega) (by omega) (by rw [hs1L]; decide) (hin _ fun h hs ho => rep_lits (b := b48) hs [edsB l] ⟨[_], [], rfl, rep_row (A := qe.1) hs (edsB l) rfl (repL_bytes.2 rfl), rfl⟩ (by simp)) H2) ?_
      rw [← heN]
      refine hl_v (ov_assign rfl) rfl <| hl_nil <| hx_then_normal <| hc_seq <| hc_seq <| hc_region <| ?_
      refine hl_v (ov_move rfl) rfl <| hl_v (ov_neq rfl rfl) rfl <| hl_nil <| hx_then_normal <| ?_
      refine hc_cond_F rfl ((fun h => h rfl)) ?_
      refine hc_skip <| hx_then_normal <| hc_seq <| hc_region <| hl_v (ov_move rfl) rfl <| ?_
      refine hl_v (ov_loadW rfl rfl) rfl ?_
      refine hl_v (ov_nil rfl) rfl <| hl_v (ov_fieldA rfl) rfl <| ?_
      refine hl_u0 (on_storeGE (stoC jb2 g sN qd) rfl rfl rfl (by simp) (by simp [Value.oneCell']) (by unfold stoC; rw [heN]; rfl)) rfl rfl ?_
      refine hl_nil <| hx_then_normal <| hc_seq <| hc_region <| hl_v (ov_assign rfl) rfl <| hl_nil <| ?_
      refine hx_then_normal <| hc_ret <| ?_
      exact results_1 (.inr rfl) rfl rfl fun w' H' => ⟨rfl, H'.ent (Ent.trans (b := blk sb 120 (stoC jb2 g sN qd) :: jou jb2 g 32 m sN.ep (32 + sN.k) (sN.Ls.map edsB) :: (cfgR sN.c qd ++ [dsk g sN.S []])) (by first | assumption | exact Ent.refl _ | exact Ent.nil _ | exact Ent.row_any (Ent.refl _) | (repeat (first | exact Ent.refl _ | exact Ent.nil _ | refine Ent.pick ?_))) (sto_mk (s := sN) jb2 qd))⟩
    have hc : commR m s l = (12, s1) := by unfold commR; rw [hed, if_neg (fun h => h rfl), if_neg (fun h => h hok), hn, if_neg hfit, if_neg hfit2, hs1]
    rw [hc]
    refine hl_c Tryz.call58 rfl rfl (fun w1 H1 => Own.callp (jou jb2 g 32 m s1.ep (32 + s1.k) (s1.Ls.map edsB)) H1 fun D' hold hin H2 => Append_full D' w1 jb2 g 32 m s1.ep (32 + s1.k) (s1.Ls.map edsB) [edsB l] _ (by omega) (by omega) (by simp; omega) (by simp; omega) (hin _ fun h hs ho => rep_lits (b := b48) hs [edsB l] ⟨[_], [], rfl, rep_row (A := qe.1) hs (edsB l) rfl (repL_bytes.2 rfl), rfl⟩ (by simp)) H2) ?_
    refine hl_v (ov_assign rfl) rfl <| hl_nil <| hx_then_normal <| hc_seq <| hc_seq <| hc_region <| ?_
    refine hl_v (ov_move rfl) rfl <| hl_v (ov_neq rfl rfl) rfl <| hl_nil <| hx_then_normal <| ?_
    refine hc_cond_T rfl ((by decide)) ?_
    refine hc_seq <| hc_region <| hl_v (ov_move rfl) rfl <| hl_v (ov_assign rfl) rfl <| hl_nil <| hx_then_normal <| ?_
    refine hc_ret <| hx_then_ret <| ?_
    exact results_1 (.inr rfl) rfl rfl fun w' H' => ⟨rfl, H'.ent (Ent.trans (b := blk sb 120 (stoC jb2 g s1 q2) :: jou jb2 g 32 m s1.ep (32 + s1.k) (s1.Ls.map edsB) :: (cfgR s1.c q2 ++ [dsk g s1.S []])) (by first | assumption | exact Ent.refl _ | exact Ent.nil _ | exact Ent.row_any (Ent.refl _) | (repeat (first | exact Ent.refl _ | exact Ent.nil _ | refine Ent.pick ?_))) (sto_mk jb2 q2))⟩
  have hc : commR m s l = (11, s) := by unfold commR; rw [hed, if_neg (fun h => h rfl), if_pos hok]
  rw [hc]
  refine hc_skip <| hx_then_normal <| hc_seq <| hc_region <| hl_v (ov_move rfl) rfl <| ?_
  refine hl_c Tryz.call57 rfl rfl (fun w1 H1 => Own.calln H1 fun D' hold hin H2 => Edits_b D' w1 _ l hl32 hok (hold _ HA)) ?_
  refine hl_v (ov_move rfl) rfl <| hl_v (ov_extract rfl rfl) rfl <| hl_v (ov_extract rfl rfl) rfl <| hl_v (ov_assign rfl) rfl <| hl_v (ov_assign rfl) rfl <| hl_nil <| ?_
  refine hx_then_normal <| hc_seq <| hc_seq <| hc_region <| hl_v (ov_move rfl) rfl <| hl_v (ov_neq rfl rfl) rfl <| ?_
  refine hl_nil <| hx_then_normal <| ?_
  refine hc_cond_T rfl ((by decide)) ?_
  refine hc_seq <| hc_region <| hl_v (ov_move rfl) rfl <| hl_v (ov_assign rfl) rfl <| hl_nil <| hx_then_normal <| ?_
  refine hc_ret <| hx_then_ret <| ?_
  exact results_1 (.inr rfl) rfl rfl fun w' H' => ⟨rfl, H'.ent (Ent.trans (b := blk sb 120 (stoC jb g s q) :: jou jb g 32 m s.ep (32 + s.k) (s.Ls.map edsB) :: (cfgR s.c q ++ [dsk g s.S []])) (by first | assumption | exact Ent.refl _ | exact Ent.nil _ | exact Ent.row_any (Ent.refl _) | (repeat (first | exact Ent.refl _ | exact Ent.nil _ | refine Ent.pick ?_))) (sto_mk jb q))⟩
end Go.Proofs.YtjlolpmmpafjeaaGreat
