import Derived.Test.YtijaldfiaeafgaaJou2
import Derived.Test.YtijaldfiaeafgaaSlkY
set_option linter.unusedVariables false
set_option linter.unusedSimpArgs false
namespace Go.Proofs.Ytijaldfiaeafgaa
open Slk
abbrev jouB (jb g from_ to_ ep end_ n : Nat) (q : Option Addr × Nat) : HProp := blk jb 122 [.pointer (some ⟨g, 0, none⟩), .int .i64 (from_ : Int), .int .i64 (to_ : Int), .int .u32 (ep : Int), .int .i64 (end_ : Int), .slice q.1 n q.2]
/-- A journal at jb on the disk at g. -/
def jouL (jb g from_ to_ ep end_ : Nat) (L : List (List UInt8)) (q : Option Addr × Nat × List Value) : List HProp :=
  [jouB jb g from_ to_ ep end_ L.length (q.1, q.2.1), row q.1 23 1 L.length q.2.1 q.2.2, rowsB 5 L q.2.2]
def jou (jb g from_ to_ ep end_ : Nat) (L : List (List UInt8)) : HProp := exS (jouL jb g from_ to_ ep end_ L)
section
variable {jb g from_ to_ ep end_ : Nat} {L : List (List UInt8)} {l : List HProp}
theorem jou_mk {A : Option Addr} {cap : Nat} {cs : List Value} : Ent (jouB jb g from_ to_ ep end_ L.length (A, cap) :: row A 23 1 L.length cap cs :: rowsB 5 L cs :: l) (jou jb g from_ to_ ep end_ L :: l) :=
  Ent.exS (L := jouL jb g from_ to_ ep end_ L) (l := l) (A, cap, cs)
theorem jou_mk0 : Ent (jouB jb g from_ to_ ep end_ 0 (none, 0) :: l) (jou jb g from_ to_ ep end_ [] :: l) :=
  Ent.trans (Ent.cons (rowsB_nil.trans (Ent.nil_row 23 1))) (jou_mk (L := []) (A := none) (cap := 0) (cs := []))
end
theorem Room_nil (D : Nat → Prop) (w : World) : Calls Try.prog 33 #[.pointer none] w fun e w' => e = .returned (.int .i64 0) ∧ Own D w w' [] := by
  refine hc_enter (vs := [.pointer none]) Try.func33 rfl _ Try.ntmps33 rfl (Own.start D w) ?_
  simp only [argSlots, Nat.zero_add]
  refine hc_seq <| hc_region <| hl_v (ov_assign rfl) rfl <| hl_nil <| hx_then_normal <| hc_seq <| ?_
  refine hc_seq <| hc_region <| hl_v (ov_move rfl) rfl <| hl_v (ov_eqlP rfl rfl) rfl <| hl_nil <| hx_then_normal <| ?_
  refine hc_cond_true rfl ?_
  refine hc_seq <| hc_region <| hl_v (ov_assign rfl) rfl <| hl_nil <| hx_then_normal <| hc_ret <| ?_
  refine hx_then_ret <| ?_
  exact results_1 (.inr rfl) rfl rfl fun w' H' => ⟨rfl, H'⟩
theorem Room_spec (D : Nat → Prop) (w : World) (jb g from_ to_ ep end_ : Nat) (L : List (List UInt8)) (hle : end_ ≤ to_) (hto : to_ ≤ 100000) (H : Own D w w [jou jb g from_ to_ ep end_ L]) :
    Calls Try.prog 33 #[.pointer (some ⟨jb, 0, none⟩)] w fun e w' => e = .returned (.int .i64 ((to_ - end_ : Nat) : Int)) ∧ Own D w w' [jou jb g from_ to_ ep end_ L] := by
  refine hc_enter (vs := [.pointer (some ⟨jb, 0, none⟩)]) Try.func33 rfl _ Try.ntmps33 rfl H ?_
  simp only [argSlots, Nat.zero_add]
  refine HC.exs ?_
  rintro ⟨A, cap, cs⟩
  refine HC.ent (l' := jouB jb g from_ to_ ep end_ L.length (A, cap) :: row A 23 1 L.length cap cs :: rowsB 5 L cs :: []) (fun _ h => h) ?_
  refine hc_seq <| hc_region <| hl_v (ov_assign rfl) rfl <| hl_nil <| hx_then_normal <| hc_seq <| ?_
  refine hc_seq <| hc_region <| hl_v (ov_move rfl) rfl <| hl_v (ov_eqlP rfl rfl) rfl <| hl_nil <| hx_then_normal <| ?_
  refine hc_cond_false rfl ?_
  refine hc_skip <| hx_then_normal <| hc_seq <| hc_quiet mixed (by kernel_rfl) <| hq_v (ov_move rfl) rfl <| hq_v (ov_nil rfl) rfl <| ?_
  refine hq_v (ov_fieldA rfl) rfl <| hq_v (ov_fieldA rfl) rfl <| hq_v (ov_load rfl (CellIs.blk rfl)) rfl <| hq_v (ov_move rfl) rfl <| hq_v (ov_nil rfl) rfl <| hq_v (ov_fieldA rfl) rfl <| ?_
  refine hq_v (ov_load rfl (CellIs.blk rfl)) rfl <| ?_
  refine hq_v (ov_sub (m := ((to_ - end_ : Nat) : Int)) rfl rfl ((wrap_i64 (by omega)).trans (by omega))) rfl ?_
  refine hq_v (ov_assign rfl) rfl <| hq_nil <| hx_then_normal <| hc_ret <| ?_
  exact results_1 (.inr rfl) rfl rfl fun w' H' => ⟨rfl, H'.ent jou_mk⟩
theorem Next_nil (D : Nat → Prop) (w : World) (ep : Nat) : Calls Try.prog 36 #[.pointer none, .int .u32 (ep : Int)] w fun e w' => e = .returned (.tuple #[]) ∧ Own D w w' [] := by
  refine hc_enter (vs := [.pointer none, .int .u32 (ep : Int)]) Try.func36 rfl _ Try.ntmps36 rfl (Own.start D w) ?_
  simp only [argSlots, Nat.zero_add]
  refine hc_seq <| hc_region <| hl_v (ov_move rfl) rfl <| hl_v (ov_neqP rfl rfl) rfl <| hl_nil <| hx_then_normal <| ?_
  refine hc_cond_false rfl ?_
  refine hc_skip <| ?_
  exact results_0 (.inl rfl) rfl fun w' H' => ⟨rfl, H'⟩
theorem Next_spec (D : Nat → Prop) (w : World) (jb g from_ to_ ep end_ : Nat) (L : List (List UInt8)) (ep' : Nat) (H : Own D w w [jou jb g from_ to_ ep end_ L]) :
    Calls Try.prog 36 #[.pointer (some ⟨jb, 0, none⟩), .int .u32 (ep' : Int)] w fun e w' => e = .returned (.tuple #[]) ∧ Own D w w' [jou jb g from_ to_ ep' from_ []] := by
  refine hc_enter (vs := [.pointer (some ⟨jb, 0, none⟩), .int .u32 (ep' : Int)]) Try.func36 rfl _ Try.ntmps36 rfl H ?_
  simp only [argSlots, Nat.zero_add]
  refine HC.exs ?_
  rintro ⟨A, cap, cs⟩
  refine HC.ent (l' := jouB jb g from_ to_ ep end_ L.length (A, cap) :: row A 23 1 L.length cap cs :: rowsB 5 L cs :: []) (fun _ h => h) ?_
  refine hc_seq <| hc_region <| hl_v (ov_move rfl) rfl <| hl_v (ov_neqP rfl rfl) rfl <| hl_nil <| hx_then_normal <| ?_
  refine hc_cond_true rfl ?_
  refine hc_region <| hl_v (ov_move rfl) rfl <| hl_v (ov_move rfl) rfl <| hl_v (ov_move rfl) rfl <| hl_v (ov_move rfl) rfl <| hl_v (ov_move rfl) rfl <| ?_
  refine hl_v (ov_nil rfl) rfl <| hl_v (ov_fieldA rfl) rfl <| hl_v (ov_fieldA rfl) rfl <| hl_v (ov_load rfl (CellIs.blk rfl)) rfl <| hl_v (ov_nil rfl) rfl <| hl_v (ov_fieldA rfl) rfl <| ?_
  refine hl_u0 (on_storeN rfl rfl rfl rfl rfl) rfl rfl <| hl_v (ov_nil rfl) rfl <| hl_v (ov_fieldA rfl) rfl <| hl_u0 (on_storeN rfl rfl rfl rfl rfl) rfl rfl <| hl_v (ov_nil rfl) rfl <| hl_v (ov_fieldA rfl) rfl <| ?_
  refine hl_u0 (on_storeN rfl rfl rfl rfl rfl) rfl rfl <| hl_nil <| ?_
  exact results_0 (.inl rfl) rfl fun w' H' => ⟨rfl, H'.ent (Ent.trans (b := [jouB jb g from_ to_ ep' from_ 0 (none, 0)]) (by first | assumption | exact Ent.refl _ | exact Ent.nil _ | exact Ent.row_any (Ent.refl _) | (repeat (first | exact Ent.refl _ | exact Ent.nil _ | refine Ent.pick ?_))) jou_mk0)⟩
theorem All_nil (D : Nat → Prop) (w : World) : Calls Try.prog 32 #[.pointer none] w fun e w' => e = .returned (.slice none 0 0) ∧ Own D w w' [] := by
  refine hc_enter (vs := [.pointer none]) Try.func32 rfl _ Try.ntmps32 rfl (Own.start D w) ?_
  simp only [argSlots, Nat.zero_add]
  refine hc_seq <| hc_region <| hl_v (ov_assign rfl) rfl <| hl_nil <| hx_then_normal <| hc_seq <| ?_
  refine hc_seq <| hc_region <| hl_v (ov_move rfl) rfl <| hl_v (ov_eqlP rfl rfl) rfl <| hl_nil <| hx_then_normal <| ?_
  refine hc_cond_true rfl ?_
  refine hc_seq <| hc_region <| hl_v (ov_assign rfl) rfl <| hl_nil <| hx_then_normal <| hc_ret <| ?_
  refine hx_then_ret <| ?_
  exact results_1 (.inr rfl) rfl rfl fun w' H' => ⟨rfl, H'⟩
set_option maxHeartbeats 1000000 in
theorem All_spec (D : Nat → Prop) (w : World) (jb g from_ to_ ep end_ : Nat) (L : List (List UInt8)) (hl : L.length ≤ 1000000) (hx : ∀ x ∈ L, x.length ≤ 1000000) (H : Own D w w [jou jb g from_ to_ ep end_ L]) :
    Calls Try.prog 32 #[.pointer (some ⟨jb, 0, none⟩)] w fun e w' => ∃ q : Option Addr × Nat × List Value, e = .returned (.slice q.1 L.length q.2.1) ∧ Own D w w' [row q.1 23 1 L.length q.2.1 q.2.2, rowsB 5 L q.2.2, jou jb g from_ to_ ep end_ L] := by
  refine hc_enter (vs := [.pointer (some ⟨jb, 0, none⟩)]) Try.func32 rfl _ Try.ntmps32 rfl H ?_
  simp only [argSlots, Nat.zero_add]
  refine HC.exs ?_
  rintro ⟨A, cap, cs⟩
  refine HC.ent (l' := jouB jb g from_ to_ ep end_ L.length (A, cap) :: row A 23 1 L.length cap cs :: rowsB 5 L cs :: []) (fun _ h => h) ?_
  refine HC.fact (fun w H => Own.factR A H) (fun hf => ?_)
  obtain ⟨hcl0, hcap, hcap2, hA⟩ := hf
  refine hc_seq <| hc_region <| hl_v (ov_assign rfl) rfl <| hl_nil <| hx_then_normal <| hc_seq <| ?_
  refine hc_seq <| hc_region <| hl_v (ov_move rfl) rfl <| hl_v (ov_eqlP rfl rfl) rfl <| hl_nil <| hx_then_normal <| ?_
  refine hc_cond_false rfl ?_
  refine hc_skip <| hx_then_normal <| hc_seq <| hc_region <| hl_v (ov_assign rfl) rfl <| hl_nil <| ?_
  refine hx_then_normal <| hc_seq <| hc_seq <| hc_region <| hl_v (ov_move rfl) rfl <| hl_v (ov_nil rfl) rfl <| ?_
  refine hl_v (ov_fieldA rfl) rfl <| hl_v (ov_load rfl (CellIs.blk rfl)) rfl <| hl_v (by first | exact ov_len rfl | exact ov_lenS rfl) rfl <| ?_
  refine hl_v (ov_move rfl) rfl <| hl_nil <| hx_then_normal <| hc_block <| ?_
  refine hc_loopK2 (σ := Nat × Option Addr × Nat × List Value) [11, 12] rfl 13 (fun s => .int .i64 (s.1 : Int)) 3 (fun s => .slice s.2.1 s.1 s.2.2.1) (fun s => [row s.2.1 23 1 s.1 s.2.2.1 s.2.2.2, rowsB 5 (L.take s.1) s.2.2.2, jouB jb g from_ to_ ep end_ L.length (A, cap), row A 23 1 L.length cap cs, rowsB 5 L cs]) (fun s => s.1 ≤ L.length) (fun s => L.length - s.1) ((0, none, 0, [])) (Nat.zero_le _) rfl rfl (fun h hh => Ent.nil_row _ _ h (rowsB_nil h hh)) ?_
  rintro ⟨j, B, capB, ds⟩ hj K1 hK1
  dsimp only at hj ⊢
  refine hc_seq <| hc_region <| hl_v (ov_lss rfl rfl) rfl <| hl_nil <| hx_then_normal <| hc_seq <| ?_
  refine hc_cond rfl (fun hlt => ?_) (fun hlt => ?_)
  · have hlt : j < L.length := by omega
    have hlt2 : j < cs.length := by omega
    have hA0 : isA A := hA (by intro h; rw [h] at hlt2; simp at hlt2)
    have hlx := hx _ (List.getElem_mem hlt)
    have hsn := List.take_succ_eq_append_getElem hlt
    refine hc_skip <| hx_then_normal <| hc_seq <| hc_block <| hc_seq <| hc_region <| ?_
    refine hl_v (ov_idxS rfl (by assumption) rfl _ rfl (by omega)) rfl <| ?_
    refine hl_v (ov_load rfl (CellIs.row (A := A) (i := j * 1) hA0 (by rw [Nat.mul_one]; exact List.getElem?_eq_getElem hlt2))) rfl ?_
    refine hl_v (ov_assign rfl) rfl <| hl_nil <| hx_then_normal <| hc_region <| hl_v (ov_move rfl) rfl <| hl_v (ov_move rfl) rfl <| ?_
    refine hl_call (σ := Option Addr × Nat) Try.call61 rfl rfl (fun w1 H1 => Own.callx0 H1 fun D' hold hin H2 => Clone_spec D' w1 cs[j] L[j] hlx (hin _ fun h hh ho => repL_get (stars_rowsB (t := 5) (xs := L) (cs := cs) hh) rfl j hlt hlt2)) ?_
    rintro ⟨C, capC⟩
    try rw [List.nil_append]
    dsimp only
    generalize L[j] = xs at *
    refine hl_new (on_buildSliceN rfl rfl rfl) rfl rfl rfl fun b20 =>  ?_
    refine hl_new (on_appendR (A := B) (news := [.slice C xs.length capC]) rfl rfl (SrcIs.blk (b := b20)) rfl (by simp [Value.oneCell']) (by decide) (by omega)) rfl rfl rfl ?_
    rintro ⟨B', capB'⟩
    dsimp only
    refine hl_v (ov_assign rfl) rfl <| hl_nil <| hx_block_normal <| hx_then_normal <| hc_region <| hl_v (ov_add rfl rfl (by first | exact wrap_i64 (by omega) | rfl)) rfl <| ?_
    refine hl_v (ov_move rfl) rfl <| hl_nil <| ?_
    exact hx_next hK1 ((j + 1, B', capB', ds ++ [.slice C xs.length capC])) (hlt) (by omega) (by repeat (first | exact Slots.sub_nil _ | refine Slots.sub_cons rfl ?_)) (Ent.trans (b := [rowsB 5 (L.take j) ds, row C 5 1 xs.length capC (xs.map u8v), row B' 23 1 (j + 1) capB' (ds ++ [.slice C xs.length capC]), jouB jb g from_ to_ ep end_ L.length (A, cap), row A 23 1 L.length cap cs, rowsB 5 L cs]) (by first | assumption | exact Ent.refl _ | exact Ent.nil _ | exact Ent.row_any (Ent.refl _) | (repeat (first | exact Ent.refl _ | exact Ent.nil _ | refine Ent.pick ?_))) (by dsimp only; rw [hsn]; exact rowsB_snoc.trans (Ent.perm (List.Perm.swap _ _ _))))
  have : j = L.length := by omega
  subst this
  rw [List.take_length]
  refine hc_exit <| hx_then_exit <| hx_then_exit <| hx_block_out <| hx_then_normal <| hc_seq <| ?_
  refine hc_region <| hl_v (ov_move rfl) rfl <| hl_v (ov_assign rfl) rfl <| hl_nil <| hx_then_normal <| hc_ret <| ?_
  exact results_1 (.inr rfl) rfl rfl fun w' H' => ⟨(B, capB, ds), rfl, H'.ent (Ent.cons (Ent.cons jou_mk))⟩
theorem Encode_at (D : Nat → Prop) (w : World) (x : EntT) (v : Value) (W : List Sec) (n : Nat) (hW : W = encE x) (hn : W.length = n) (h : okE x) (HA : Old D w (Rep.rep x.2.2.2 [v])) :
    Calls Try.prog 47 #[.agg #[.int .i64 x.1, .int .u32 x.2.1, .int .u32 x.2.2.1, v]] w fun e w' => ∃ q : Option Addr × Nat, e = .returned (.tuple #[.slice q.1 n q.2, .int .i64 0]) ∧ Own D w w' [row q.1 34 64 n q.2 (W.flatMap secC)] := by
  subst hn; subst hW
  exact Encode_ent D w x h v HA
theorem Append_nil (D : Nat → Prop) (w : World) (v : Value) : Calls Try.prog 31 #[.pointer none, v] w fun e w' => e = .returned (.int .i64 1) ∧ Own D w w' [] := by
  refine hc_enter (vs := [.pointer none, v]) Try.func31 rfl _ Try.ntmps31 rfl (Own.start D w) ?_
  simp only [argSlots, Nat.zero_add]
  refine hc_seq <| hc_region <| hl_v (ov_assign rfl) rfl <| hl_nil <| hx_then_normal <| hc_seq <| ?_
  refine hc_seq <| hc_region <| hl_v (ov_move rfl) rfl <| hl_v (ov_eqlP rfl rfl) rfl <| hl_nil <| hx_then_normal <| ?_
  refine hc_cond_true rfl ?_
  refine hc_seq <| hc_region <| hl_v (ov_assign rfl) rfl <| hl_nil <| hx_then_normal <| hc_ret <| ?_
  refine hx_then_ret <| ?_
  exact results_1 (.inr rfl) rfl rfl fun w' H' => ⟨rfl, H'⟩
theorem Append_long (D : Nat → Prop) (w : World) (jb g from_ to_ ep end_ : Nat) (L ps : List (List UInt8)) (v : Value) (hp : ps.flatten.length ≤ 1000000) (hlong : 4000 < ps.flatten.length) (HA : Old D w (Rep.rep ps [v])) (H : Own D w w [jou jb g from_ to_ ep end_ L]) :
    Calls Try.prog 31 #[.pointer (some ⟨jb, 0, none⟩), v] w fun e w' => e = .returned (.int .i64 2) ∧ Own D w w' [jou jb g from_ to_ ep end_ L] := by
  refine hc_enter (vs := [.pointer (some ⟨jb, 0, none⟩), v]) Try.func31 rfl _ Try.ntmps31 rfl H ?_
  simp only [argSlots, Nat.zero_add]
  refine hc_seq <| hc_region <| hl_v (ov_assign rfl) rfl <| hl_nil <| hx_then_normal <| hc_seq <| ?_
  refine hc_seq <| hc_region <| hl_v (ov_move rfl) rfl <| hl_v (ov_eqlP rfl rfl) rfl <| hl_nil <| hx_then_normal <| ?_
  refine hc_cond_false rfl ?_
  refine hc_skip <| hx_then_normal <| hc_seq <| hc_region <| hl_v (ov_move rfl) rfl <| ?_
  refine hl_call (σ := Option Addr × Nat) Try.call58 rfl rfl (fun w1 H1 => Own.callx0 H1 fun D' hold hin H2 => Concat_spec D' w1 v ps hp (hold _ HA)) ?_
  intro q
  try rw [List.nil_append]
  refine hl_v (ov_assign rfl) rfl <| hl_nil <| hx_then_normal <| hc_seq <| hc_block <| hc_seq <| ?_
  refine hc_region <| hl_v (ov_move rfl) rfl <| hl_v (by first | exact ov_len rfl | exact ov_lenS rfl) rfl <| ?_
  refine hl_v (ov_gtr rfl rfl) rfl <| hl_v (ov_assign rfl) rfl <| hl_nil <| hx_then_normal <| ?_
  refine hc_cond_T rfl ((by omega)) ?_
  refine hc_seq <| hc_region <| hl_v (ov_assign rfl) rfl <| hl_nil <| hx_then_normal <| hc_ret <| ?_
  refine hx_block_ret <| hx_then_ret <| ?_
  exact results_1 (.inr rfl) rfl rfl fun w' H' => ⟨rfl, H'.ent (by first | assumption | exact Ent.refl _ | exact Ent.nil _ | exact Ent.row_any (Ent.refl _) | (repeat (first | exact Ent.refl _ | exact Ent.nil _ | refine Ent.pick ?_)))⟩
theorem Append_full (D : Nat → Prop) (w : World) (jb g from_ to_ ep end_ : Nat) (L ps : List (List UInt8)) (v : Value) (hle : end_ ≤ to_) (hto : to_ ≤ 100000) (hp : ps.flatten.length ≤ 4000) (hfull : to_ - end_ < needM ps.flatten.length) (HA : Old D w (Rep.rep ps [v])) (H : Own D w w [jou jb g from_ to_ ep end_ L]) :
    Calls Try.prog 31 #[.pointer (some ⟨jb, 0, none⟩), v] w fun e w' => e = .returned (.int .i64 12) ∧ Own D w w' [jou jb g from_ to_ ep end_ L] := by
  obtain ⟨n, hn⟩ : ∃ n, needM ps.flatten.length = n := ⟨_, rfl⟩
  refine hc_enter (vs := [.pointer (some ⟨jb, 0, none⟩), v]) Try.func31 rfl _ Try.ntmps31 rfl H ?_
  simp only [argSlots, Nat.zero_add]
  refine hc_seq <| hc_region <| hl_v (ov_assign rfl) rfl <| hl_nil <| hx_then_normal <| hc_seq <| ?_
  refine hc_seq <| hc_region <| hl_v (ov_move rfl) rfl <| hl_v (ov_eqlP rfl rfl) rfl <| hl_nil <| hx_then_normal <| ?_
  refine hc_cond_false rfl ?_
  refine hc_skip <| hx_then_normal <| hc_seq <| hc_region <| hl_v (ov_move rfl) rfl <| ?_
  refine hl_call (σ := Option Addr × Nat) Try.call58 rfl rfl (fun w1 H1 => Own.callx0 H1 fun D' hold hin H2 => Concat_spec D' w1 v ps (by omega) (hold _ HA)) ?_
  intro q
  try rw [List.nil_append]
  refine hl_v (ov_assign rfl) rfl <| hl_nil <| hx_then_normal <| hc_seq <| hc_block <| hc_seq <| ?_
  refine hc_region <| hl_v (ov_move rfl) rfl <| hl_v (by first | exact ov_len rfl | exact ov_lenS rfl) rfl <| ?_
  refine hl_v (ov_gtr rfl rfl) rfl <| hl_v (ov_assign rfl) rfl <| hl_nil <| hx_then_normal <| ?_
  refine hc_cond_F rfl ((by omega)) ?_
  refine hc_seq <| hc_region <| hl_v (ov_move rfl) rfl <| hl_v (by first | exact ov_len rfl | exact ov_lenS rfl) rfl <| ?_
  refine hl_c Try.call59 rfl rfl (fun w1 H1 => Own.calln H1 fun D' hold hin H2 => Need_nat D' w1 _ n hn) ?_
  refine hl_v (ov_move rfl) rfl <| ?_
  refine hl_c Try.call33 rfl rfl (fun w1 H1 => Own.callp (jou jb g from_ to_ ep end_ L) H1 fun D' hold hin H2 => Room_spec D' w1 jb g from_ to_ ep end_ L hle hto H2) ?_
  refine hl_v (ov_gtr rfl rfl) rfl <| hl_v (ov_assign rfl) rfl <| hl_nil <| hx_then_normal <| ?_
  refine hc_cond_T rfl ((by omega)) ?_
  refine hc_seq <| hc_region <| hl_v (ov_assign rfl) rfl <| hl_nil <| hx_then_normal <| hc_ret <| ?_
  refine hx_block_ret <| hx_then_ret <| ?_
  exact results_1 (.inr rfl) rfl rfl fun w' H' => ⟨rfl, H'.ent (by first | assumption | exact Ent.refl _ | exact Ent.nil _ | exact Ent.row_any (Ent.refl _) | (repeat (first | exact Ent.refl _ | exact Ent.nil _ | refine Ent.pick ?_)))⟩
set_option maxHeartbeats 1000000 in
theorem Append_ok (D : Nat → Prop) (w : World) (jb g from_ to_ ep end_ : Nat) (L ps : List (List UInt8)) (v : Value) (S : List Sec) (x : List UInt8) (hx : x = ps.flatten) (E : List Sec) (hE : E = encE (jouE ep L.length x)) (n : Nat) (hn : needM x.length = n) (hle : end_ ≤ to_) (hto : to_ ≤ S.length) (hS : S.length ≤ 100000) (hp : x.length ≤ 4000) (hfit : n ≤ to_ - end_) (hep : ep < 4294967296) (hL : L.length ≤ 1000000) (HA : Old D w (Rep.rep ps [v])) (H : Own D w w [jou jb g from_ to_ ep end_ L, dsk g S []]) :
    Calls Try.prog 31 #[.pointer (some ⟨jb, 0, none⟩), v] w fun e w' => e = .returned (.int .i64 0) ∧ Own D w w' [jou jb g from_ to_ ep (end_ + n) (L ++ [x]), dsk g (putS S end_ E) []] := by
  have hEl : E.length = n := by rw [hE, encE_len _ hp, hn]
  have hpos := enc_pos (jouE ep L.length x)
  rw [← hE] at hpos
  refine hc_enter (vs := [.pointer (some ⟨jb, 0, none⟩), v]) Try.func31 rfl _ Try.ntmps31 rfl H ?_
  simp only [argSlots, Nat.zero_add]
  refine hc_seq <| hc_region <| hl_v (ov_assign rfl) rfl <| hl_nil <| hx_then_normal <| hc_seq <| ?_
  refine hc_seq <| hc_region <| hl_v (ov_move rfl) rfl <| hl_v (ov_eqlP rfl rfl) rfl <| hl_nil <| hx_then_normal <| ?_
  refine hc_cond_false rfl ?_
  refine hc_skip <| hx_then_normal <| hc_seq <| hc_region <| hl_v (ov_move rfl) rfl <| ?_
  refine hl_call (σ := Option Addr × Nat) Try.call58 rfl rfl (fun w1 H1 => Own.callx0 H1 fun D' hold hin H2 => (hx ▸ Concat_spec D' w1 v ps (by rw [← hx]; omega) (hold _ HA))) ?_
  intro qb
  try rw [List.nil_append]
  refine hl_v (ov_assign rfl) rfl <| hl_nil <| hx_then_normal <| hc_seq <| hc_block <| hc_seq <| ?_
  refine hc_region <| hl_v (ov_move rfl) rfl <| hl_v (by first | exact ov_len rfl | exact ov_lenS rfl) rfl <| ?_
  refine hl_v (ov_gtr rfl rfl) rfl <| hl_v (ov_assign rfl) rfl <| hl_nil <| hx_then_normal <| ?_
  refine hc_cond_F rfl ((by omega)) ?_
  refine hc_seq <| hc_region <| hl_v (ov_move rfl) rfl <| hl_v (by first | exact ov_len rfl | exact ov_lenS rfl) rfl <| ?_
  refine hl_c Try.call59 rfl rfl (fun w1 H1 => Own.calln H1 fun D' hold hin H2 => Need_nat D' w1 _ n hn) ?_
  refine hl_v (ov_move rfl) rfl <| ?_
  refine hl_c Try.call33 rfl rfl (fun w1 H1 => Own.callp (jou jb g from_ to_ ep end_ L) H1 fun D' hold hin H2 => Room_spec D' w1 jb g from_ to_ ep end_ L hle (by omega) H2) ?_
  refine hl_v (ov_gtr rfl rfl) rfl <| hl_v (ov_assign rfl) rfl <| hl_nil <| hx_then_normal <| ?_
  refine hc_cond_F rfl ((by omega)) ?_
  refine hc_skip <| hx_block_normal <| hx_then_normal <| hc_seq <| ?_
  refine HC.ent (Ent.trans (b := jou jb g from_ to_ ep end_ L :: [dsk g S [], row qb.1 5 1 x.length qb.2 (x.map u8v)]) (by first | assumption | exact Ent.refl _ | exact Ent.nil _ | exact Ent.row_any (Ent.refl _) | (repeat (first | exact Ent.refl _ | exact Ent.nil _ | refine Ent.pick ?_))) (Ent.refl _)) ?_
  refine HC.exs ?_
  rintro ⟨A, cap, cs⟩
  refine HC.ent (l' := jouB jb g from_ to_ ep end_ L.length (A, cap) :: row A 23 1 L.length cap cs :: rowsB 5 L cs :: [dsk g S [], row qb.1 5 1 x.length qb.2 (x.map u8v)]) (fun _ h => h) ?_
  refine hc_any [jouB jb g from_ to_ ep end_ L.length (A, cap)] mixed 18 rfl ?_
  refine ha_v 0 rfl (ov_move rfl) rfl <| ?_
  refine ha_v 1 rfl (ov_nil rfl) rfl <| ?_
  refine ha_v 2 rfl (ov_fieldA rfl) rfl <| ?_
  refine ha_v 3 rfl (ov_load rfl (CellIs.blk rfl)) rfl <| ?_
  refine ha_v 4 rfl (ov_move rfl) rfl <| ?_
  refine ha_v 5 rfl (ov_nil rfl) rfl <| ?_
  refine ha_v 6 rfl (ov_fieldA rfl) rfl <| ?_
  refine ha_v 7 rfl (ov_load rfl (CellIs.blk rfl)) rfl <| ?_
  refine ha_v 8 rfl (by first | exact ov_len rfl | exact ov_lenS rfl) rfl <| ?_
  refine ha_v 10 rfl (ov_move rfl) rfl <| ?_
  refine ha_one 9 (by kernel_rfl) <| ?_
  refine ho_v rfl (ov_conv (m := ((L.length : Nat) : Int)) rfl (wrap_u32 (by omega))) rfl ?_
  refine ha_v 11 rfl (ov_buildSN rfl rfl) rfl <| ?_
  refine ha_one 12 (by kernel_rfl) <| ?_
  refine ho_kx (σ := Option Addr × Nat) rfl Try.call47 rfl (fun w1 H1 => Own.callx0 H1 fun D' hold hin H2 => Encode_at D' w1 (jouE ep L.length x) (.slice qb.1 x.length qb.2) E n hE hEl ⟨show 1 < 256 by decide, hep, show L.length < 4294967296 by omega, hp⟩ (hin _ fun h hs ho => rep_row (A := qb.1) hs x rfl (repL_bytes.2 rfl))) ?_
  intro qe
  try rw [List.nil_append]
  refine ha_v 13 rfl (ov_move rfl) rfl <| ?_
  refine ha_v 14 rfl (ov_extract rfl rfl) rfl <| ?_
  refine ha_v 15 rfl (ov_extract rfl rfl) rfl <| ?_
  refine ha_v 16 rfl (ov_assign rfl) rfl <| ?_
  refine ha_v 17 rfl (ov_assign rfl) rfl <| ?_
  refine ha_done (by kernel_rfl) <| hx_then_normal <| hc_seq <| hc_seq <| hc_region <| hl_v (ov_move rfl) rfl <| ?_
  refine hl_v (ov_neq rfl rfl) rfl <| hl_nil <| hx_then_normal <| ?_
  refine hc_cond_F rfl ((fun h => h rfl)) ?_
  refine hc_skip <| hx_then_normal <| hc_seq <| hc_seq <| ?_
  refine hc_tail 9 mixed (by kernel_rfl) ?_
  refine ht_v (ov_move rfl) rfl <| ht_v (ov_nil rfl) rfl <| ht_v (ov_fieldA rfl) rfl <| ?_
  refine ht_v (ov_loadGB rfl rfl) rfl ?_
  refine ht_v (ov_move rfl) rfl <| ht_v (ov_nil rfl) rfl <| ht_v (ov_fieldA rfl) rfl <| ht_v (ov_load rfl (CellIs.blk rfl)) rfl <| ht_v (ov_move rfl) rfl <| ht_nil <| ?_
  refine hl_c Try.call60 rfl rfl (fun w1 H1 => Own.callp (dsk g S []) H1 fun D' hold hin H2 => put_spec D' w1 g from_ to_ end_ n S E _ hS (by omega) hEl.symm (by omega) (hin _ fun h hs ho => rep_row (A := qe.1) hs E hEl.symm (repL_secs.2 rfl)) H2) ?_
  refine hl_v (ov_assign rfl) rfl <| hl_nil <| hx_then_normal <| hc_seq <| hc_region <| hl_v (ov_move rfl) rfl <| ?_
  refine hl_v (ov_neq rfl rfl) rfl <| hl_nil <| hx_then_normal <| ?_
  refine hc_cond_F rfl ((fun h => h rfl)) ?_
  refine hc_skip <| hx_then_normal <| hc_seq <| hc_region <| hl_v (ov_move rfl) rfl <| hl_v (ov_move rfl) rfl <| ?_
  refine hl_v (ov_nil rfl) rfl <| hl_v (ov_fieldA rfl) rfl <| hl_v (ov_load rfl (CellIs.blk rfl)) rfl <| hl_v (ov_move rfl) rfl <| hl_new (on_buildSliceN rfl rfl rfl) rfl rfl rfl fun b62 =>  ?_
  refine hl_new (on_appendR (A := A) (news := [.slice qb.1 x.length qb.2]) rfl rfl (SrcIs.blk (b := b62)) rfl (by simp [Value.oneCell']) (by decide) (by omega)) rfl rfl rfl ?_
  rintro ⟨A', cap'⟩
  dsimp only
  refine hl_v (ov_nil rfl) rfl <| hl_v (ov_fieldA rfl) rfl <| hl_u0 (on_storeN rfl rfl rfl rfl rfl) rfl rfl <| hl_nil <| hx_then_normal <| hc_seq <| ?_
  refine hc_region <| hl_v (ov_move rfl) rfl <| hl_v (ov_nil rfl) rfl <| hl_v (ov_fieldA rfl) rfl <| hl_v (ov_load rfl (CellIs.blk rfl)) rfl <| hl_v (ov_move rfl) rfl <| ?_
  refine hl_v (by first | exact ov_len rfl | exact ov_lenS rfl) rfl <| ?_
  refine hl_v (ov_add (m := ((end_ + n : Nat) : Int)) rfl rfl ((wrap_i64 (by omega)).trans (by omega))) rfl ?_
  refine hl_v (ov_nil rfl) rfl <| hl_v (ov_fieldA rfl) rfl <| hl_u0 (on_storeN rfl rfl rfl rfl rfl) rfl rfl <| hl_nil <| hx_then_normal <| hc_seq <| ?_
  refine hc_region <| hl_v (ov_assign rfl) rfl <| hl_nil <| hx_then_normal <| hc_ret <| ?_
  exact results_1 (.inr rfl) rfl rfl fun w' H' => ⟨rfl, H'.ent (Ent.trans (b := rowsB 5 L cs :: row qb.1 5 1 x.length qb.2 (x.map u8v) :: [jouB jb g from_ to_ ep (end_ + n) (L.length + 1) (A', cap'), row A' 23 1 (L.length + 1) cap' (cs ++ [.slice qb.1 x.length qb.2]), dsk g (putS S end_ E) []]) (by first | assumption | exact Ent.refl _ | exact Ent.nil _ | exact Ent.row_any (Ent.refl _) | (repeat (first | exact Ent.refl _ | exact Ent.nil _ | refine Ent.pick ?_))) (Ent.trans rowsB_snoc (by have hj := jou_mk (jb := jb) (g := g) (from_ := from_) (to_ := to_) (ep := ep) (end_ := end_ + n) (L := L ++ [x]) (A := A') (cap := cap') (cs := cs ++ [.slice qb.1 x.length qb.2]) (l := [dsk g (putS S end_ E) []]); rw [List.length_append] at hj; exact Ent.trans (by first | assumption | exact Ent.refl _ | exact Ent.nil _ | exact Ent.row_any (Ent.refl _) | (repeat (first | exact Ent.refl _ | exact Ent.nil _ | refine Ent.pick ?_))) hj)))⟩
end Go.Proofs.Ytijaldfiaeafgaa
