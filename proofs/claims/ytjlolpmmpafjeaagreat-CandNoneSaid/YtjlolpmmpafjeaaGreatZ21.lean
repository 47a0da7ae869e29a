import Derived.Test.YtjlolpmmpafjeaaGreatZ19
import Derived.Test.YtjlolpmmpafjeaaGreatZ18
import Derived.Test.YtjlolpmmpafjeaaGreatZ02
set_option linter.unusedVariables false
set_option linter.unusedSimpArgs false
namespace Go.Proofs.YtjlolpmmpafjeaaGreat
open Slk
abbrev plcC (g from_ to_ : Nat) : List Value := [.pointer (some ⟨g, 0, none⟩), .int .i64 (from_ : Int), .int .i64 (to_ : Int)]
theorem sectors_spec (D : Nat → Prop) (w : World) (g from_ to_ at_ N : Nat) (S T : List Sec) (hto : to_ ≤ S.length) (hS : S.length ≤ 100000) (hN : at_ + N = to_) (hT : T = (S.drop at_).take N) (H : Own D w w [dsk g S []]) :
    Calls Tryz.prog 78 #[.agg (plcC g from_ to_).toArray, .int .i64 (at_ : Int)] w fun e w' => ∃ q : Option Addr × Nat, e = .returned (.slice q.1 N q.2) ∧ Own D w w' [row q.1 61 64 N q.2 (T.flatMap secC), dsk g S []] := by
  refine hc_enter (vs := [.agg (plcC g from_ to_).toArray, .int .i64 (at_ : Int)]) Tryz.func78 rfl _ Tryz.ntmps78 rfl H ?_
  simp only [argSlots, Nat.zero_add]
  refine hc_seq <| hc_region <| ?_
  refine hl_new (on_boxG (cs := plcC g from_ to_) rfl) rfl rfl rfl (fun b2 => ?_)
  refine hl_v (ov_assign rfl) rfl <| hl_nil <| hx_then_normal <| hc_seq <| hc_region <| hl_v (ov_assign rfl) rfl <| ?_
  refine hl_nil <| hx_then_normal <| hc_seq <| hc_block <| ?_
  refine hc_loopK2 (σ := Nat × Option Addr × Nat) [2] rfl 1 (fun s => .int .i64 ((at_ + s.1 : Nat) : Int)) 5 (fun s => .slice s.2.1 s.1 s.2.2) (fun s => [row s.2.1 61 64 s.1 s.2.2 (((S.drop at_).take s.1).flatMap secC), dsk g S [], blk b2 167 (plcC g from_ to_)]) (fun s => s.1 ≤ N) (fun s => N - s.1) ((0, none, 0)) (Nat.zero_le _) rfl rfl (Ent.trans (Ent.nil_row 61 64) (by simp only [List.take_zero, List.flatMap_nil]; exact (by first | assumption | exact Ent.refl _ | exact Ent.nil _ | exact Ent.row_any (Ent.refl _) | (repeat (first | exact Ent.refl _ | exact Ent.nil _ | refine Ent.pick ?_))))) ?_
  rintro ⟨k, ql⟩ hkN K1 hK1
  dsimp only at hkN ⊢
  refine hc_seq <| hc_seq <| hc_region <| hl_v (ov_move rfl) rfl <| hl_v (ov_fieldA rfl) rfl <| hl_v (ov_load rfl (CellIs.blk rfl)) rfl <| ?_
  refine hl_v (ov_lss rfl rfl) rfl <| hl_nil <| hx_then_normal <| ?_
  refine hc_cond rfl (fun h2 => ?_) (fun h2 => ?_)
  · have hk : k < N := by omega
    have hi : at_ + k < S.length := by omega
    have hst : (S.drop at_).take (k + 1) = (S.drop at_).take k ++ [S[at_ + k]] := by
      rw [List.take_succ_eq_append_getElem (by rw [List.length_drop]; omega), List.getElem_drop]
    obtain ⟨s, hs⟩ : ∃ s, s = S[at_ + k] := ⟨_, rfl⟩
    rw [← hs] at hst
    refine hc_skip <| hx_then_normal <| hc_seq <| hc_block <| hc_seq <| hc_region <| ?_
    refine hl_v (ov_fieldA rfl) rfl <| hl_v (ov_load rfl (CellIs.blk rfl)) rfl <| hl_v (ov_move rfl) rfl <| ?_
    refine hl_c Tryz.call35 rfl rfl (fun w1 H1 => Own.callp (dsk g S []) H1 fun D' hold hin H2 => (Read_ok D' w1 g (at_ + k) S [] hi H2).mono fun e w' ⟨he, H'⟩ => ⟨show e = Ending.returned (.tuple #[.agg (secC s).toArray, .int .i64 0]) by rw [he, hs]; rfl, H'⟩) ?_
    refine hl_v (ov_move rfl) rfl <| hl_v (ov_extract rfl rfl) rfl <| hl_v (ov_extract rfl rfl) rfl <| hl_new (on_alloc) rfl rfl rfl fun b6 =>  ?_
    refine hl_u0 (on_storeW (vs := secC s) rfl rfl (by simp [secC_len]) (by simp [secC_len]) (secC_one s)) rfl rfl ?_
    refine hl_v (ov_assign rfl) rfl <| hl_nil <| hx_then_normal <| hc_seq <| hc_seq <| hc_region <| ?_
    refine hl_v (ov_move rfl) rfl <| hl_v (ov_neq rfl rfl) rfl <| hl_nil <| hx_then_normal <| ?_
    refine hc_cond_F rfl ((fun h => h rfl)) ?_
    refine hc_skip <| hx_then_normal <| hc_region <| hl_v (ov_move rfl) rfl <| ?_
    refine hl_v (ov_loadW rfl (secC_len s)) rfl ?_
    refine hl_new (on_buildSlice (res := secC s) rfl rfl (fill_sec1 _)) rfl rfl rfl (fun b37 => ?_)
    refine hl_new (on_appendR (A := ql.1) (news := secC s) rfl rfl (SrcIs.blk (b := b37)) (by rw [secC_len]) (secC_one _) (by decide) (by omega)) rfl rfl rfl (fun qm => ?_)
    rw [show ((S.drop at_).take k).flatMap secC ++ secC s = ((S.drop at_).take (k + 1)).flatMap secC by rw [hst, List.flatMap_append, List.flatMap_singleton]]
    refine hl_v (ov_assign rfl) rfl <| hl_nil <| hx_block_normal <| hx_then_normal <| hc_region <| hl_v (ov_move rfl) rfl <| ?_
    refine hl_v (ov_add (m := ((at_ + (k + 1) : Nat) : Int)) rfl rfl ((wrap_i64 (by omega)).trans (by omega))) rfl ?_
    refine hl_v (ov_assign rfl) rfl <| hl_nil <| ?_
    refine hx_next hK1 ((k + 1, qm)) (hk) (by omega) (by repeat (first | exact Slots.sub_nil _ | refine Slots.sub_cons rfl ?_)) (by first | assumption | exact Ent.refl _ | exact Ent.nil _ | (repeat (first | exact Ent.refl _ | exact Ent.nil _ | refine Ent.pick ?_)))
  obtain rfl : k = N := by omega
  rw [← hT]
  refine hc_exit <| hx_then_exit <| hx_then_exit <| hx_block_out <| hx_then_normal <| hc_seq <| ?_
  refine hc_region <| hl_v (ov_move rfl) rfl <| hl_v (ov_assign rfl) rfl <| hl_nil <| hx_then_normal <| hc_ret <| ?_
  exact results_1 (.inr rfl) rfl rfl fun w' H' => ⟨ql, rfl, H'.ent (by first | assumption | exact Ent.refl _ | exact Ent.nil _ | exact Ent.row_any (Ent.refl _) | (repeat (first | exact Ent.refl _ | exact Ent.nil _ | refine Ent.pick ?_)))⟩
set_option maxHeartbeats 1000000 in
theorem jput_spec (D : Nat → Prop) (w : World) (g from_ to_ at_ n : Nat) (S L : List Sec) (v : Value) (hS : S.length ≤ 100000) (hl0 : 0 < L.length) (hn : n = L.length) (hfit : at_ + L.length ≤ S.length) (HA : Old D w (Rep.rep L [v])) (H : Own D w w [dsk g S []]) :
    Calls Tryz.prog 100 #[.agg (plcC g from_ to_).toArray, .int .i64 (at_ : Int), v] w fun e w' => e = .returned (.int .i64 0) ∧ Own D w w' [dsk g (putS S at_ L) []] := by
  obtain ⟨A, cap, rfl, hA1, hA2, HS, HR⟩ := HA.openS
  obtain ⟨x0, r, hLr⟩ : ∃ x r, L = x :: r := by
    cases L with
    | nil => simp at hl0
    | cons x r => exact ⟨x, r, rfl⟩
  have hrl : r.length = L.length - 1 := by rw [hLr, List.length_cons]; omega
  have hA := flat_isA HS (k := 0) hl0
  have hL0 : L[0] = x0 := by simp only [hLr, List.getElem_cons_zero]
  obtain ⟨ba, off, rfl⟩ : ∃ b off, A = some ⟨b, off, none⟩ := ⟨_, _, hA⟩
  obtain ⟨A1, hAe⟩ : ∃ A1 : Option Addr, A1 = if cap = 1 then some ⟨ba, off, none⟩ else (some ⟨ba, off, none⟩ : Option Addr).map (·.add (1 * 64)) := ⟨_, rfl⟩
  refine hc_enter (vs := [.agg (plcC g from_ to_).toArray, .int .i64 (at_ : Int), .slice (some ⟨ba, off, none⟩) L.length cap]) Tryz.func100 rfl _ Tryz.ntmps100 rfl H ?_
  simp only [argSlots, Nat.zero_add]
  refine hc_seq <| hc_region <| ?_
  refine hl_new (on_boxG (cs := plcC g from_ to_) rfl) rfl rfl rfl (fun b3 => ?_)
  refine hl_v (ov_assign rfl) rfl <| hl_nil <| hx_then_normal <| hc_seq <| hc_seq <| hc_region <| ?_
  refine hl_v (ov_move rfl) rfl <| ?_
  refine hl_v (ov_sl (.slice A1 (L.length - 1) (cap - 1)) rfl 1 L.length (.inr ⟨_, _, rfl, rfl⟩) (.inl ⟨rfl, rfl⟩) (by omega) (by omega) (by rw [hAe])) rfl ?_
  refine hl_v (by first | exact ov_len rfl | exact ov_lenS rfl) rfl <| ?_
  refine hl_v (ov_move rfl) rfl <| hl_nil <| hx_then_normal <| hc_block <| ?_
  refine hc_loopK1 (σ := Nat) [1, 2, 3, 13, 14] rfl 15 (fun i => .int .i64 (i : Int)) (fun i => [dsk g S (PW (at_ + 1) r i), blk b3 167 (plcC g from_ to_)]) (fun i => i ≤ r.length) (fun i => r.length - i) (0) (Nat.zero_le _) rfl (show Ent _ [dsk g S [], blk b3 167 (plcC g from_ to_)] from (by first | assumption | exact Ent.refl _ | exact Ent.nil _ | exact Ent.row_any (Ent.refl _) | (repeat (first | exact Ent.refl _ | exact Ent.nil _ | refine Ent.pick ?_)))) ?_
  rintro i hi K1 hK1
  refine hc_seq <| hc_region <| hl_v (ov_lss rfl rfl) rfl <| hl_nil <| hx_then_normal <| hc_seq <| ?_
  refine hc_cond rfl (fun h => ?_) (fun h => ?_)
  · have hir : i < r.length := by omega
    have hli : i + 1 < L.length := by omega
    have hLi : L[i + 1] = r[i] := by simp only [hLr, List.getElem_cons_succ]
    have hAv : A1 = some ⟨ba, off + 1 * 64, none⟩ := by rw [hAe, if_neg (by omega)]; rfl
    have hA1i : isA A1 := by rw [hAv]; rfl
    have hcx : ∀ l', CellsAre D w l' (ab A1) (ao A1 + i * 64) (secC r[i]) := fun l' => by
      have := cells_sec HS hli l'
      rw [hLi] at this
      rw [hAv]
      show CellsAre D w l' ba (off + 1 * 64 + i * 64) _
      rw [show off + 1 * 64 + i * 64 = off + (i + 1) * 64 by omega]
      exact this
    refine hc_skip <| hx_then_normal <| hc_seq <| hc_block <| hc_seq <| hc_region <| ?_
    refine hl_v (ov_move rfl) rfl <| ?_
    refine hl_v (ov_idxS (A := A1) rfl hA1i rfl i rfl (by omega)) rfl ?_
    refine hl_v (ov_loadG (cs := secC r[i]) rfl (secC_len _) (hcx _)) rfl ?_
    refine hl_new (on_alloc) rfl rfl rfl fun b8 => 
      hl_v (ov_assign rfl) rfl <| ?_
    refine hl_u0 (on_storeW (vs := secC r[i]) rfl rfl (by simp [secC_len]) (by simp [secC_len]) (secC_one _)) rfl rfl ?_
    refine hl_nil <| hx_then_normal <| hc_seq <| hc_region <| hl_v (ov_fieldA rfl) rfl <| hl_v (ov_load rfl (CellIs.blk rfl)) rfl <| ?_
    refine hl_v (ov_move rfl) rfl <| hl_v (ov_add rfl rfl (by first | exact wrap_i64 (by omega) | rfl)) rfl <| ?_
    refine hl_v (ov_move rfl) rfl <| ?_
    refine hl_v (ov_add (m := ((at_ + 1 + i : Nat) : Int)) rfl rfl ((wrap_i64 (by omega)).trans (by omega))) rfl ?_
    refine hl_v (ov_loadW rfl (secC_len _)) rfl ?_
    refine hl_c Tryz.call23 rfl rfl (fun w1 H1 => Own.callp (dsk g S (PW (at_ + 1) r i)) H1 fun D' hold hin H2 => Write_ok D' w1 g (at_ + 1 + i) r[i] S (PW (at_ + 1) r i) (by omega) (by have := PW_len (at_ := at_ + 1) (l := r) (i := i); omega) H2) ?_
    rw [← PW_succ hir]
    refine hl_v (ov_assign rfl) rfl <| hl_nil <| hx_then_normal <| hc_seq <| hc_region <| hl_v (ov_move rfl) rfl <| ?_
    refine hl_v (ov_neq rfl rfl) rfl <| hl_nil <| hx_then_normal <| ?_
    refine hc_cond_F rfl ((fun h => h rfl)) ?_
    refine hc_skip <| hx_block_normal <| hx_then_normal <| hc_region <| hl_v (ov_add rfl rfl (by first | exact wrap_i64 (by omega) | rfl)) rfl <| ?_
    refine hl_v (ov_move rfl) rfl <| hl_nil <| ?_
    refine hx_next hK1 (i + 1) (hir) (by omega) (by repeat (first | exact Slots.sub_nil _ | refine Slots.sub_cons rfl ?_)) (by first | assumption | exact Ent.refl _ | exact Ent.nil _ | (repeat (first | exact Ent.refl _ | exact Ent.nil _ | refine Ent.pick ?_)))
  obtain rfl : i = r.length := by omega
  refine hc_exit <| hx_then_exit <| hx_then_exit <| hx_block_out <| hx_then_normal <| hc_seq <| ?_
  refine hc_seq <| hc_region <| hl_v (ov_fieldA rfl) rfl <| hl_v (ov_load rfl (CellIs.blk rfl)) rfl <| ?_
  refine hl_c Tryz.call24 rfl rfl (fun w1 H1 => Own.callp (dsk g S (PW (at_ + 1) r r.length)) H1 fun D' hold hin H2 => (Flush_spec D' w1 g S (PW (at_ + 1) r r.length) (PW_lt (by omega)) H2)) ?_
  rw [PW_done (by omega)]
  have hpl2 : (putS S (at_ + 1) r).length = S.length := putS_len (by omega)
  refine hl_v (ov_assign rfl) rfl <| hl_nil <| hx_then_normal <| hc_seq <| hc_region <| hl_v (ov_move rfl) rfl <| ?_
  refine hl_v (ov_neq rfl rfl) rfl <| hl_nil <| hx_then_normal <| ?_
  refine hc_cond_F rfl ((fun h => h rfl)) ?_
  refine hc_skip <| hx_then_normal <| hc_seq <| hc_seq <| ?_
  refine hc_tail 6 mixed (by kernel_rfl) ?_
  refine ht_v (ov_fieldA rfl) rfl <| ht_v (ov_load rfl (CellIs.blk rfl)) rfl <| ht_v (ov_move rfl) rfl <| ht_v (ov_move rfl) rfl <| ?_
  refine ht_v (ov_idxSc rfl hA rfl rfl (by omega)) rfl ?_
  refine ht_v (ov_loadG (cs := secC x0) rfl (secC_len _) (by rw [← hL0]; exact cells_sec HS hl0 _)) rfl ?_
  refine ht_nil <| ?_
  refine hl_c Tryz.call23 rfl rfl (fun w1 H1 => Own.callp (dsk g (putS S (at_ + 1) r) []) H1 fun D' hold hin H2 => Write_ok D' w1 g at_ x0 (putS S (at_ + 1) r) [] (by omega) (by decide) H2) ?_
  refine hl_v (ov_assign rfl) rfl <| hl_nil <| hx_then_normal <| hc_seq <| hc_region <| hl_v (ov_move rfl) rfl <| ?_
  refine hl_v (ov_neq rfl rfl) rfl <| hl_nil <| hx_then_normal <| ?_
  refine hc_cond_F rfl ((fun h => h rfl)) ?_
  refine hc_skip <| hx_then_normal <| hc_seq <| hc_region <| hl_v (ov_fieldA rfl) rfl <| hl_v (ov_load rfl (CellIs.blk rfl)) rfl <| ?_
  have hfin : settleL (fun _ => true) 0 (putS S (at_ + 1) r) [(at_, x0)] = putS S at_ L := by
    rw [hLr, ← put_first (by rw [← hLr]; exact hfit)]; rfl
  rw [List.nil_append]
  refine hl_c Tryz.call24 rfl rfl (fun w1 H1 => Own.callp (dsk g (putS S (at_ + 1) r) [(at_, x0)]) H1 fun D' hold hin H2 => Flush_spec D' w1 g (putS S (at_ + 1) r) [(at_, x0)] (fun p hp => by obtain rfl := List.mem_singleton.1 hp; show at_ < _; omega) H2) ?_
  rw [hfin]
  refine hl_v (ov_assign rfl) rfl <| hl_nil <| hx_then_normal <| hc_ret <| ?_
  exact results_1 (.inr rfl) rfl rfl fun w' H' => ⟨rfl, H'.ent (by first | assumption | exact Ent.refl _ | exact Ent.nil _ | exact Ent.row_any (Ent.refl _) | (repeat (first | exact Ent.refl _ | exact Ent.nil _ | refine Ent.pick ?_)))⟩
end Go.Proofs.YtjlolpmmpafjeaaGreat
set_option linter.unusedVariables false
namespace Slk
open Go
theorem Own.callp2 (A B : HProp) {P : Program} {f : Nat} {args : Array Value} {D : Nat → Prop} {w0 w : World} {l r r2 post : List HProp} {v : Value} [hp : Pick l A r] [hq : Pick r B r2] (H : Own D w0 w l)
    (hc : ∀ D', (∀ A, Old D w0 A → Old D' w A) → (∀ B : HProp, (∀ h, stars r2 h → (∀ A, Old D w0 A → ∃ h1, A h1 ∧ Hsub h1 h) → B h) → Old D' w B) → Own D' w w [A, B] → Calls P f args w fun e w' => e = .returned v ∧ Own D' w w' post) :
    Calls P f args w fun e w' => e = .returned v ∧ Own D w0 w' (post ++ r2) := Own.call (pre := [A, B]) (H.ent (Ent.perm (hp.out.trans (List.Perm.cons _ hq.out)))) hc
theorem Own.callpx3 (A B C : HProp) {P : Program} {f : Nat} {args : Array Value} {D : Nat → Prop} {w0 w : World} {l r r2 r3 : List HProp} {σ : Type} {post : σ → List HProp} {v : σ → Value} [hp : Pick l A r] [hq : Pick r B r2] [hs : Pick r2 C r3] (H : Own D w0 w l)
    (hc : ∀ D', (∀ A, Old D w0 A → Old D' w A) → (∀ B : HProp, (∀ h, stars r3 h → (∀ A, Old D w0 A → ∃ h1, A h1 ∧ Hsub h1 h) → B h) → Old D' w B) → Own D' w w [A, B, C] → Calls P f args w fun e w' => ∃ s, e = .returned (v s) ∧ Own D' w w' (post s)) :
    Calls P f args w fun e w' => ∃ s, e = .returned (v s) ∧ Own D w0 w' (post s ++ r3) := Own.callX (pre := [A, B, C]) (H.ent (Ent.perm (hp.out.trans (List.Perm.cons _ (hq.out.trans (List.Perm.cons _ hs.out)))))) hc
end Slk
set_option linter.unusedVariables false
set_option linter.unusedSimpArgs false
namespace Go.Proofs.YtjlolpmmpafjeaaGreat
open Slk
abbrev jouB (jb g from_ to_ ep end_ n : Nat) (q : Option Addr × Nat) : HProp := blk jb 169 [.pointer (some ⟨g, 0, none⟩), .int .i64 (from_ : Int), .int .i64 (to_ : Int), .int .u32 (ep : Int), .int .i64 (end_ : Int), .slice q.1 n q.2]
def jouL (jb g from_ to_ ep end_ : Nat) (L : List (List UInt8)) (q : Option Addr × Nat × List Value) : List HProp :=
  [jouB jb g from_ to_ ep end_ L.length (q.1, q.2.1), row q.1 108 1 L.length q.2.1 q.2.2, rowsB 5 L q.2.2]
def jou (jb g from_ to_ ep end_ : Nat) (L : List (List UInt8)) : HProp := exS (jouL jb g from_ to_ ep end_ L)
section
variable {jb g from_ to_ ep end_ : Nat} {L : List (List UInt8)} {l : List HProp}
theorem jou_mk {A : Option Addr} {cap : Nat} {cs : List Value} : Ent (jouB jb g from_ to_ ep end_ L.length (A, cap) :: row A 108 1 L.length cap cs :: rowsB 5 L cs :: l) (jou jb g from_ to_ ep end_ L :: l) :=
  Ent.exS (L := jouL jb g from_ to_ ep end_ L) (l := l) (A, cap, cs)
theorem jou_mk0 : Ent (jouB jb g from_ to_ ep end_ 0 (none, 0) :: l) (jou jb g from_ to_ ep end_ [] :: l) :=
  Ent.trans (Ent.cons (rowsB_nil.trans (Ent.nil_row 108 1))) (jou_mk (L := []) (A := none) (cap := 0) (cs := []))
end
theorem Room_spec (D : Nat → Prop) (w : World) (jb g from_ to_ ep end_ : Nat) (L : List (List UInt8)) (hle : end_ ≤ to_) (hto : to_ ≤ 100000) (H : Own D w w [jou jb g from_ to_ ep end_ L]) :
    Calls Tryz.prog 98 #[.pointer (some ⟨jb, 0, none⟩)] w fun e w' => e = .returned (.int .i64 ((to_ - end_ : Nat) : Int)) ∧ Own D w w' [jou jb g from_ to_ ep end_ L] := by
  refine hc_enter (vs := [.pointer (some ⟨jb, 0, none⟩)]) Tryz.func98 rfl _ Tryz.ntmps98 rfl H ?_
  simp only [argSlots, Nat.zero_add]
  refine HC.exs ?_
  rintro ⟨A, cap, cs⟩
  refine HC.ent (l' := jouB jb g from_ to_ ep end_ L.length (A, cap) :: row A 108 1 L.length cap cs :: rowsB 5 L cs :: []) (fun _ h => h) ?_
  refine hc_seq <| hc_region <| hl_v (ov_assign rfl) rfl <| hl_nil <| hx_then_normal <| hc_seq <| ?_
  refine hc_seq <| hc_region <| hl_v (ov_move rfl) rfl <| hl_v (ov_eqlP rfl rfl) rfl <| hl_nil <| hx_then_normal <| ?_
  refine hc_cond_false rfl ?_
  refine hc_skip <| hx_then_normal <| hc_seq <| hc_quiet mixed (by kernel_rfl) <| hq_v (ov_move rfl) rfl <| hq_v (ov_nil rfl) rfl <| ?_
  refine hq_v (ov_fieldA rfl) rfl <| hq_v (ov_fieldA rfl) rfl <| hq_v (ov_load rfl (CellIs.blk rfl)) rfl <| hq_v (ov_move rfl) rfl <| hq_v (ov_nil rfl) rfl <| hq_v (ov_fieldA rfl) rfl <| ?_
  refine hq_v (ov_load rfl (CellIs.blk rfl)) rfl <| ?_
  refine hq_v (ov_sub (m := ((to_ - end_ : Nat) : Int)) rfl rfl ((wrap_i64 (by omega)).trans (by omega))) rfl ?_
  refine hq_v (ov_assign rfl) rfl <| hq_nil <| hx_then_normal <| hc_ret <| ?_
  exact results_1 (.inr rfl) rfl rfl fun w' H' => ⟨rfl, H'.ent jou_mk⟩
theorem Next_spec (D : Nat → Prop) (w : World) (jb g from_ to_ ep end_ : Nat) (L : List (List UInt8)) (ep' : Nat) (H : Own D w w [jou jb g from_ to_ ep end_ L]) :
    Calls Tryz.prog 70 #[.pointer (some ⟨jb, 0, none⟩), .int .u32 (ep' : Int)] w fun e w' => e = .returned (.tuple #[]) ∧ Own D w w' [jou jb g from_ to_ ep' from_ []] := by
  refine hc_enter (vs := [.pointer (some ⟨jb, 0, none⟩), .int .u32 (ep' : Int)]) Tryz.func70 rfl _ Tryz.ntmps70 rfl H ?_
  simp only [argSlots, Nat.zero_add]
  refine HC.exs ?_
  rintro ⟨A, cap, cs⟩
  refine HC.ent (l' := jouB jb g from_ to_ ep end_ L.length (A, cap) :: row A 108 1 L.length cap cs :: rowsB 5 L cs :: []) (fun _ h => h) ?_
  refine hc_seq <| hc_region <| hl_v (ov_move rfl) rfl <| hl_v (ov_neqP rfl rfl) rfl <| hl_nil <| hx_then_normal <| ?_
  refine hc_cond_true rfl ?_
  refine hc_region <| hl_v (ov_move rfl) rfl <| hl_v (ov_move rfl) rfl <| hl_v (ov_move rfl) rfl <| hl_v (ov_move rfl) rfl <| hl_v (ov_move rfl) rfl <| ?_
  refine hl_v (ov_nil rfl) rfl <| hl_v (ov_fieldA rfl) rfl <| hl_v (ov_fieldA rfl) rfl <| hl_v (ov_load rfl (CellIs.blk rfl)) rfl <| hl_v (ov_nil rfl) rfl <| hl_v (ov_fieldA rfl) rfl <| ?_
  refine hl_u0 (on_storeN rfl rfl rfl rfl rfl) rfl rfl <| hl_v (ov_nil rfl) rfl <| hl_v (ov_fieldA rfl) rfl <| hl_u0 (on_storeN rfl rfl rfl rfl rfl) rfl rfl <| hl_v (ov_nil rfl) rfl <| hl_v (ov_fieldA rfl) rfl <| ?_
  refine hl_u0 (on_storeN rfl rfl rfl rfl rfl) rfl rfl <| hl_nil <| ?_
  exact results_0 (.inl rfl) rfl fun w' H' => ⟨rfl, H'.ent (Ent.trans (b := [jouB jb g from_ to_ ep' from_ 0 (none, 0)]) (by first | assumption | exact Ent.refl _ | exact Ent.nil _ | exact Ent.row_any (Ent.refl _) | (repeat (first | exact Ent.refl _ | exact Ent.nil _ | refine Ent.pick ?_))) jou_mk0)⟩
set_option maxHeartbeats 1000000 in
theorem All_spec (D : Nat → Prop) (w : World) (jb g from_ to_ ep end_ : Nat) (L : List (List UInt8)) (hl : L.length ≤ 1000000) (hx : ∀ x ∈ L, x.length ≤ 1000000) (H : Own D w w [jou jb g from_ to_ ep end_ L]) :
    Calls Tryz.prog 49 #[.pointer (some ⟨jb, 0, none⟩)] w fun e w' => ∃ q : Option Addr × Nat × List Value, e = .returned (.slice q.1 L.length q.2.1) ∧ Own D w w' [row q.1 108 1 L.length q.2.1 q.2.2, rowsB 5 L q.2.2, jou jb g from_ to_ ep end_ L] := by
  refine hc_enter (vs := [.pointer (some ⟨jb, 0, none⟩)]) Tryz.func49 rfl _ Tryz.ntmps49 rfl H ?_
  simp only [argSlots, Nat.zero_add]
  refine HC.exs ?_
  rintro ⟨A, cap, cs⟩
  refine HC.ent (l' := jouB jb g from_ to_ ep end_ L.length (A, cap) :: row A 108 1 L.length cap cs :: rowsB 5 L cs :: []) (fun _ h => h) ?_
  refine HC.fact (fun w H => Own.factR A H) (fun hf => ?_)
  obtain ⟨hcl0, hcap, hcap2, hA⟩ := hf
  refine hc_seq <| hc_region <| hl_v (ov_assign rfl) rfl <| hl_nil <| hx_then_normal <| hc_seq <| ?_
  refine hc_seq <| hc_region <| hl_v (ov_move rfl) rfl <| hl_v (ov_eqlP rfl rfl) rfl <| hl_nil <| hx_then_normal <| ?_
  refine hc_cond_false rfl ?_
  refine hc_skip <| hx_then_normal <| hc_seq <| hc_region <| hl_v (ov_assign rfl) rfl <| hl_nil <| ?_
  refine hx_then_normal <| hc_seq <| hc_seq <| hc_region <| hl_v (ov_move rfl) rfl <| hl_v (ov_nil rfl) rfl <| ?_
  refine hl_v (ov_fieldA rfl) rfl <| hl_v (ov_load rfl (CellIs.blk rfl)) rfl <| hl_v (by first | exact ov_len rfl | exact ov_lenS rfl) rfl <| ?_
  refine hl_v (ov_move rfl) rfl <| hl_nil <| hx_then_normal <| hc_block <| ?_
  refine hc_loopK2 (σ := Nat × Option Addr × Nat × List Value) [11, 12] rfl 13 (fun s => .int .i64 (s.1 : Int)) 3 (fun s => .slice s.2.1 s.1 s.2.2.1) (fun s => [row s.2.1 108 1 s.1 s.2.2.1 s.2.2.2, rowsB 5 (L.take s.1) s.2.2.2, jouB jb g from_ to_ ep end_ L.length (A, cap), row A 108 1 L.length cap cs, rowsB 5 L cs]) (fun s => s.1 ≤ L.length) (fun s => L.length - s.1) ((0, none, 0, [])) (Nat.zero_le _) rfl rfl (fun h hh => Ent.nil_row _ _ h (rowsB_nil h hh)) ?_
  rintro ⟨j, B, capB, ds⟩ hj K1 hK1
  dsimp only at hj ⊢
  refine hc_seq <| hc_region <| hl_v (ov_lss rfl rfl) rfl <| hl_nil <| hx_then_normal <| hc_seq <| ?_
  refine hc_cond rfl (fun hlt => ?_) (fun hlt => ?_)
  · have hlt : j < L.length := by omega
    have hlt2 : j < cs.length := by omega
    have hA0 : isA A := hA (by intro h; rw [h] at hlt2; simp at hlt2)
    have hlx := hx _ (List.getElem_mem hlt)
    have hsn := List.take_succ_eq_append_getElem hlt
    refine hc_skip <| hx_then_normal <| hc_seq <| hc_block <| hc_seq <| hc_region <| ?_
    refine hl_v (ov_idxS rfl (by assumption) rfl _ rfl (by omega)) rfl <| ?_
    refine hl_v (ov_load rfl (CellIs.row (A := A) (i := j * 1) hA0 (by rw [Nat.mul_one]; exact List.getElem?_eq_getElem hlt2))) rfl ?_
    refine hl_v (ov_assign rfl) rfl <| hl_nil <| hx_then_normal <| hc_region <| hl_v (ov_move rfl) rfl <| hl_v (ov_move rfl) rfl <| ?_
    refine hl_call (σ := Option Addr × Nat) Tryz.call81 rfl rfl (fun w1 H1 => Own.callx0 H1 fun D' hold hin H2 => Clone_spec D' w1 cs[j] L[j] hlx (hin _ fun h hh ho => repL_get (stars_rowsB (t := 5) (xs := L) (cs := cs) hh) rfl j hlt hlt2)) ?_
    rintro ⟨C, capC⟩
    try rw [List.nil_append]
    dsimp only
    generalize L[j] = xs at *
    refine hl_new (on_buildSliceN rfl rfl rfl) rfl rfl rfl fun b20 =>  ?_
    refine hl_new (on_appendR (A := B) (news := [.slice C xs.length capC]) rfl rfl (SrcIs.blk (b := b20)) rfl (by simp [Value.oneCell']) (by decide) (by omega)) rfl rfl rfl ?_
    rintro ⟨B', capB'⟩
    dsimp only
    refine hl_v (ov_assign rfl) rfl <| hl_nil <| hx_block_normal <| hx_then_normal <| hc_region <| hl_v (ov_add rfl rfl (by first | exact wrap_i64 (by omega) | rfl)) rfl <| ?_
    refine hl_v (ov_move rfl) rfl <| hl_nil <| ?_
    exact hx_next hK1 ((j + 1, B', capB', ds ++ [.slice C xs.length capC])) (hlt) (by omega) (by repeat (first | exact Slots.sub_nil _ | refine Slots.sub_cons rfl ?_)) (Ent.trans (b := [rowsB 5 (L.take j) ds, row C 5 1 xs.length capC (xs.map u8v), row B' 108 1 (j + 1) capB' (ds ++ [.slice C xs.length capC]), jouB jb g from_ to_ ep end_ L.length (A, cap), row A 108 1 L.length cap cs, rowsB 5 L cs]) (by first | assumption | exact Ent.refl _ | exact Ent.nil _ | exact Ent.row_any (Ent.refl _) | (repeat (first | exact Ent.refl _ | exact Ent.nil _ | refine Ent.pick ?_))) (by dsimp only; rw [hsn]; exact rowsB_snoc.trans (Ent.perm (List.Perm.swap _ _ _))))
  have : j = L.length := by omega
  subst this
  rw [List.take_length]
  refine hc_exit <| hx_then_exit <| hx_then_exit <| hx_block_out <| hx_then_normal <| hc_seq <| ?_
  refine hc_region <| hl_v (ov_move rfl) rfl <| hl_v (ov_assign rfl) rfl <| hl_nil <| hx_then_normal <| hc_ret <| ?_
  exact results_1 (.inr rfl) rfl rfl fun w' H' => ⟨(B, capB, ds), rfl, H'.ent (Ent.cons (Ent.cons jou_mk))⟩
theorem Encode_at (D : Nat → Prop) (w : World) (x : EntT) (v : Value) (W : List Sec) (n : Nat) (hW : W = encE x) (hn : W.length = n) (h : okE x) (HA : Old D w (Rep.rep x.2.2.2 [v])) :
    Calls Tryz.prog 99 #[.agg #[.int .i64 x.1, .int .u32 x.2.1, .int .u32 x.2.2.1, v]] w fun e w' => ∃ q : Option Addr × Nat, e = .returned (.tuple #[.slice q.1 n q.2, .int .i64 0]) ∧ Own D w w' [row q.1 61 64 n q.2 (W.flatMap secC)] := by
  subst hn; subst hW
  exact Encode_ent D w x h v HA
theorem Append_full (D : Nat → Prop) (w : World) (jb g from_ to_ ep end_ : Nat) (L ps : List (List UInt8)) (v : Value) (hle : end_ ≤ to_) (hto : to_ ≤ 100000) (hp : ps.flatten.length ≤ 4000) (hfull : to_ - end_ < needM ps.flatten.length) (HA : Old D w (Rep.rep ps [v])) (H : Own D w w [jou jb g from_ to_ ep end_ L]) :
    Calls Tryz.prog 58 #[.pointer (some ⟨jb, 0, none⟩), v] w fun e w' => e = .returned (.int .i64 12) ∧ Own D w w' [jou jb g from_ to_ ep end_ L] := by
  obtain ⟨n, hn⟩ : ∃ n, needM ps.flatten.length = n := ⟨_, rfl⟩
  refine hc_enter (vs := [.pointer (some ⟨jb, 0, none⟩), v]) Tryz.func58 rfl _ Tryz.ntmps58 rfl H ?_
  simp only [argSlots, Nat.zero_add]
  refine hc_seq <| hc_region <| hl_v (ov_assign rfl) rfl <| hl_nil <| hx_then_normal <| hc_seq <| ?_
  refine hc_seq <| hc_region <| hl_v (ov_move rfl) rfl <| hl_v (ov_eqlP rfl rfl) rfl <| hl_nil <| hx_then_normal <| ?_
  refine hc_cond_false rfl ?_
  refine hc_skip <| hx_then_normal <| hc_seq <| hc_region <| hl_v (ov_move rfl) rfl <| ?_
  refine hl_call (σ := Option Addr × Nat) Tryz.call96 rfl rfl (fun w1 H1 => Own.callx0 H1 fun D' hold hin H2 => Concat_spec D' w1 v ps (by omega) (hold _ HA)) ?_
  intro q
  try rw [List.nil_append]
  refine hl_v (ov_assign rfl) rfl <| hl_nil <| hx_then_normal <| hc_seq <| hc_block <| hc_seq <| ?_
  refine hc_region <| hl_v (ov_move rfl) rfl <| hl_v (by first | exact ov_len rfl | exact ov_lenS rfl) rfl <| ?_
  refine hl_v (ov_gtr rfl rfl) rfl <| hl_v (ov_assign rfl) rfl <| hl_nil <| hx_then_normal <| ?_
  refine hc_cond_F rfl ((by omega)) ?_
  refine hc_seq <| hc_region <| hl_v (ov_move rfl) rfl <| hl_v (by first | exact ov_len rfl | exact ov_lenS rfl) rfl <| ?_
  refine hl_c Tryz.call97 rfl rfl (fun w1 H1 => Own.calln H1 fun D' hold hin H2 => Need_nat D' w1 _ n hn) ?_
  refine hl_v (ov_move rfl) rfl <| ?_
  refine hl_c Tryz.call98 rfl rfl (fun w1 H1 => Own.callp (jou jb g from_ to_ ep end_ L) H1 fun D' hold hin H2 => Room_spec D' w1 jb g from_ to_ ep end_ L hle hto H2) ?_
  refine hl_v (ov_gtr rfl rfl) rfl <| hl_v (ov_assign rfl) rfl <| hl_nil <| hx_then_normal <| ?_
  refine hc_cond_T rfl ((by omega)) ?_
  refine hc_seq <| hc_region <| hl_v (ov_assign rfl) rfl <| hl_nil <| hx_then_normal <| hc_ret <| ?_
  refine hx_block_ret <| hx_then_ret <| ?_
  exact results_1 (.inr rfl) rfl rfl fun w' H' => ⟨rfl, H'.ent (by first | assumption | exact Ent.refl _ | exact Ent.nil _ | exact Ent.row_any (Ent.refl _) | (repeat (first | exact Ent.refl _ | exact Ent.nil _ | refine Ent.pick ?_)))⟩
set_option maxHeartbeats 1000000 in
theorem Append_ok (D : Nat → Prop) (w : World) (jb g from_ to_ ep end_ : Nat) (L ps : List (List UInt8)) (v : Value) (S : List Sec) (x : List UInt8) (hx : x = ps.flatten) (E : List Sec) (hE : E = encE (jouE ep L.length x)) (n : Nat) (hn : needM x.length = n) (hle : end_ ≤ to_) (hto : to_ ≤ S.length) (hS : S.length ≤ 100000) (hp : x.length ≤ 4000) (hfit : n ≤ to_ - end_) (hep : ep < 4294967296) (hL : L.length ≤ 1000000) (HA : Old D w (Rep.rep ps [v])) (H : Own D w w [jou jb g from_ to_ ep end_ L, dsk g S []]) :
    Calls Tryz.prog 58 #[.pointer (some ⟨jb, 0, none⟩), v] w fun e w' => e = .returned (.int .i64 0) ∧ Own D w w' [jou jb g from_ to_ ep (end_ + n) (L ++ [x]), dsk g (putS S end_ E) []] := by
  have hEl : E.length = n := by rw [hE, encE_len _ hp, hn]
  have hpos := enc_pos (jouE ep L.length x)
  rw [← hE] at hpos
  refine hc_enter (vs := [.pointer (some ⟨jb, 0, none⟩), v]) Tryz.func58 rfl _ Tryz.ntmps58 rfl H ?_
  simp only [argSlots, Nat.zero_add]
  refine hc_seq <| hc_region <| hl_v (ov_assign rfl) rfl <| hl_nil <| hx_then_normal <| hc_seq <| ?_
  refine hc_seq <| hc_region <| hl_v (ov_move rfl) rfl <| hl_v (ov_eqlP rfl rfl) rfl <| hl_nil <| hx_then_normal <| ?_
  refine hc_cond_false rfl ?_
  refine hc_skip <| hx_then_normal <| hc_seq <| hc_region <| hl_v (ov_move rfl) rfl <| ?_
  refine hl_call (σ := Option Addr × Nat) Tryz.call96 rfl rfl (fun w1 H1 => Own.callx0 H1 fun D' hold hin H2 => (hx ▸ Concat_spec D' w1 v ps (by rw [← hx]; omega) (hold _ HA))) ?_
  intro qb
  try rw [List.nil_append]
  refine hl_v (ov_assign rfl) rfl <| hl_nil <| hx_then_normal <| hc_seq <| hc_block <| hc_seq <| ?_
  refine hc_region <| hl_v (ov_move rfl) rfl <| hl_v (by first | exact ov_len rfl | exact ov_lenS rfl) rfl <| ?_
  refine hl_v (ov_gtr rfl rfl) rfl <| hl_v (ov_assign rfl) rfl <| hl_nil <| hx_then_normal <| ?_
  refine hc_cond_F rfl ((by omega)) ?_
  refine hc_seq <| hc_region <| hl_v (ov_move rfl) rfl <| hl_v (by first | exact ov_len rfl | exact ov_lenS rfl) rfl <| ?_
  refine hl_c Tryz.call97 rfl rfl (fun w1 H1 => Own.calln H1 fun D' hold hin H2 => Need_nat D' w1 _ n hn) ?_
  refine hl_v (ov_move rfl) rfl <| ?_
  refine hl_c Tryz.call98 rfl rfl (fun w1 H1 => Own.callp (jou jb g from_ to_ ep end_ L) H1 fun D' hold hin H2 => Room_spec D' w1 jb g from_ to_ ep end_ L hle (by omega) H2) ?_
  refine hl_v (ov_gtr rfl rfl) rfl <| hl_v (ov_assign rfl) rfl <| hl_nil <| hx_then_normal <| ?_
  refine hc_cond_F rfl ((by omega)) ?_
  refine hc_skip <| hx_block_normal <| hx_then_normal <| hc_seq <| ?_
  refine HC.ent (Ent.trans (b := jou jb g from_ to_ ep end_ L :: [dsk g S [], row qb.1 5 1 x.length qb.2 (x.map u8v)]) (by first | assumption | exact Ent.refl _ | exact Ent.nil _ | exact Ent.row_any (Ent.refl _) | (repeat (first | exact Ent.refl _ | exact Ent.nil _ | refine Ent.pick ?_))) (Ent.refl _)) ?_
  refine HC.exs ?_
  rintro ⟨A, cap, cs⟩
  refine HC.ent (l' := jouB jb g from_ to_ ep end_ L.length (A, cap) :: row A 108 1 L.length cap cs :: rowsB 5 L cs :: [dsk g S [], row qb.1 5 1 x.length qb.2 (x.map u8v)]) (fun _ h => h) ?_
  refine hc_any [jouB jb g from_ to_ ep end_ L.length (A, cap)] mixed 18 rfl ?_
  refine ha_v 0 rfl (ov_move rfl) rfl <| ?_
  refine ha_v 1 rfl (ov_nil rfl) rfl <| ?_
  refine ha_v 2 rfl (ov_fieldA rfl) rfl <| ?_
  refine ha_v 3 rfl (ov_load rfl (CellIs.blk rfl)) rfl <| ?_
  refine ha_v 4 rfl (ov_move rfl) rfl <| ?_
  refine ha_v 5 rfl (ov_nil rfl) rfl <| ?_
  refine ha_v 6 rfl (ov_fieldA rfl) rfl <| ?_
  refine ha_v 7 rfl (ov_load rfl (CellIs.blk rfl)) rfl <| ?_
  refine ha_v 8 rfl (by first | exact ov_len rfl | exact ov_lenS rfl) rfl <| ?_
  refine ha_v 10 rfl (ov_move rfl) rfl <| ?_
  refine ha_one 9 (by kernel_rfl) <| ?_
  refine ho_v rfl (ov_conv (m := ((L.length : Nat) : Int)) rfl (wrap_u32 (by omega))) rfl ?_
  refine ha_v 11 rfl (ov_buildSN rfl rfl) rfl <| ?_
  refine ha_one 12 (by kernel_rfl) <| ?_
  refine ho_kx (σ := Option Addr × Nat) rfl Tryz.call99 rfl (fun w1 H1 => Own.callx0 H1 fun D' hold hin H2 => Encode_at D' w1 (jouE ep L.length x) (.slice qb.1 x.length qb.2) E n hE hEl ⟨show 1 < 256 by decide, hep, show L.length < 4294967296 by omega, hp⟩ (hin _ fun h hs ho => rep_row (A := qb.1) hs x rfl (repL_bytes.2 rfl))) ?_
  intro qe
  try rw [List.nil_append]
  refine ha_v 13 rfl (ov_move rfl) rfl <| ?_
  refine ha_v 14 rfl (ov_extract rfl rfl) rfl <| ?_
  refine ha_v 15 rfl (ov_extract rfl rfl) rfl <| ?_
  refine ha_v 16 rfl (ov_assign rfl) rfl <| ?_
  refine ha_v 17 rfl (ov_assign rfl) rfl <| ?_
  refine ha_done (by kernel_rfl) <| hx_then_normal <| hc_seq <| hc_seq <| hc_region <| hl_v (ov_move rfl) rfl <| ?_
  refine hl_v (ov_neq rfl rfl) rfl <| hl_nil <| hx_then_normal <| ?_
  refine hc_cond_F rfl ((fun h => h rfl)) ?_
  refine hc_skip <| hx_then_normal <| hc_seq <| hc_seq <| ?_
  refine hc_tail 9 mixed (by kernel_rfl) ?_
  refine ht_v (ov_move rfl) rfl <| ht_v (ov_nil rfl) rfl <| ht_v (ov_fieldA rfl) rfl <| ?_
  refine ht_v (ov_loadGB rfl rfl) rfl ?_
  refine ht_v (ov_move rfl) rfl <| ht_v (ov_nil rfl) rfl <| ht_v (ov_fieldA rfl) rfl <| ht_v (ov_load rfl (CellIs.blk rfl)) rfl <| ht_v (ov_move rfl) rfl <| ht_nil <| ?_
  refine hl_c Tryz.call100 rfl rfl (fun w1 H1 => Own.callp (dsk g S []) H1 fun D' hold hin H2 => jput_spec D' w1 g from_ to_ end_ n S E _ hS (by omega) hEl.symm (by omega) (hin _ fun h hs ho => rep_row (A := qe.1) hs E hEl.symm (repL_secs.2 rfl)) H2) ?_
  refine hl_v (ov_assign rfl) rfl <| hl_nil <| hx_then_normal <| hc_seq <| hc_region <| hl_v (ov_move rfl) rfl <| ?_
  refine hl_v (ov_neq rfl rfl) rfl <| hl_nil <| hx_then_normal <| ?_
  refine hc_cond_F rfl ((fun h => h rfl)) ?_
  refine hc_skip <| hx_then_normal <| hc_seq <| hc_region <| hl_v (ov_move rfl) rfl <| hl_v (ov_move rfl) rfl <| ?_
  refine hl_v (ov_nil rfl) rfl <| hl_v (ov_fieldA rfl) rfl <| hl_v (ov_load rfl (CellIs.blk rfl)) rfl <| hl_v (ov_move rfl) rfl <| hl_new (on_buildSliceN rfl rfl rfl) rfl rfl rfl fun b62 =>  ?_
  refine hl_new (on_appendR (A := A) (news := [.slice qb.1 x.length qb.2]) rfl rfl (SrcIs.blk (b := b62)) rfl (by simp [Value.oneCell']) (by decide) (by omega)) rfl rfl rfl ?_
  rintro ⟨A', cap'⟩
  dsimp only
  refine hl_v (ov_nil rfl) rfl <| hl_v (ov_fieldA rfl) rfl <| hl_u0 (on_storeN rfl rfl rfl rfl rfl) rfl rfl <| hl_nil <| hx_then_normal <| hc_seq <| ?_
  refine hc_region <| hl_v (ov_move rfl) rfl <| hl_v (ov_nil rfl) rfl <| hl_v (ov_fieldA rfl) rfl <| hl_v (ov_load rfl (CellIs.blk rfl)) rfl <| hl_v (ov_move rfl) rfl <| ?_
  refine hl_v (by first | exact ov_len rfl | exact ov_lenS rfl) rfl <| ?_
  refine hl_v (ov_add (m := ((end_ + n : Nat) : Int)) rfl rfl ((wrap_i64 (by omega)).trans (by omega))) rfl ?_
  refine hl_v (ov_nil rfl) rfl <| hl_v (ov_fieldA rfl) rfl <| hl_u0 (on_storeN rfl rfl rfl rfl rfl) rfl rfl <| hl_nil <| hx_then_normal <| hc_seq <| ?_
  refine hc_region <| hl_v (ov_assign rfl) rfl <| hl_nil <| hx_then_normal <| hc_ret <| ?_
  exact results_1 (.inr rfl) rfl rfl fun w' H' => ⟨rfl, H'.ent (Ent.trans (b := rowsB 5 L cs :: row qb.1 5 1 x.length qb.2 (x.map u8v) :: [jouB jb g from_ to_ ep (end_ + n) (L.length + 1) (A', cap'), row A' 108 1 (L.length + 1) cap' (cs ++ [.slice qb.1 x.length qb.2]), dsk g (putS S end_ E) []]) (by first | assumption | exact Ent.refl _ | exact Ent.nil _ | exact Ent.row_any (Ent.refl _) | (repeat (first | exact Ent.refl _ | exact Ent.nil _ | refine Ent.pick ?_))) (Ent.trans rowsB_snoc (by have hj := jou_mk (jb := jb) (g := g) (from_ := from_) (to_ := to_) (ep := ep) (end_ := end_ + n) (L := L ++ [x]) (A := A') (cap := cap') (cs := cs ++ [.slice qb.1 x.length qb.2]) (l := [dsk g (putS S end_ E) []]); rw [List.length_append] at hj; exact Ent.trans (by first | assumption | exact Ent.refl _ | exact Ent.nil _ | exact Ent.row_any (Ent.refl _) | (repeat (first | exact Ent.refl _ | exact Ent.nil _ | refine Ent.pick ?_))) hj)))⟩
end Go.Proofs.YtjlolpmmpafjeaaGreat
