import Derived.Test.YtjlolpmmpafjeaaGreatW05
set_option linter.unusedVariables false
set_option linter.unusedSimpArgs false
namespace Go.Proofs.YtjlolpmmpafjeaaGreat
open Slk

theorem RepV_set (D : Nat → Prop) (w : World) (A : Option Addr) (n cap i bx : Nat) (cs xs : List Value) (hi : i < n) (hn : n ≤ 100000) (hx3 : xs.length = 3) (h1c : ∀ v ∈ cs, v.oneCell' = true) (h1x : ∀ v ∈ xs, v.oneCell' = true) (H : Own D w w [row A 147 3 n cap cs, blk0 bx 147 xs]) :
    Calls Tryz.prog 153 #[.slice A n cap, .int .i64 i, .int .i64 ((i + 1 : Nat) : Int), .slice (some ⟨bx, 0, none⟩) 1 1] w fun e w' => ∃ q : Option Addr × Nat, e = .returned (.slice q.1 n q.2) ∧ Own D w w' [row q.1 147 3 n q.2 (cs.take (i * 3) ++ xs ++ cs.drop (i * 3 + 3))] := by
  refine hc_enter (vs := [.slice A n cap, .int .i64 i, .int .i64 ((i + 1 : Nat) : Int), .slice (some ⟨bx, 0, none⟩) 1 1]) Tryz.func153 rfl _ Tryz.ntmps153 rfl H ?_
  simp only [argSlots, Nat.zero_add]
  refine HC.fact (fun w H => Own.factR A H) ?_
  rintro ⟨hl, hnc, hc63, hA⟩
  have hal : (cs.take (i * 3)).length = i * 3 := by rw [List.length_take, hl, Nat.min_eq_left (by omega)]
  have hdl : (cs.drop (i * 3 + 3)).length = (n - (i + 1)) * 3 := by rw [List.length_drop, hl]; omega
  refine zg <| hl_v (ov_assign rfl) rfl <| zn <| hc_seq <| ?_
  refine hc_region <| hl_v (ov_move rfl) rfl <| hl_v (ov_move rfl) rfl <| hl_v (ov_move rfl) rfl <| hl_v (ov_slice rfl _ _ (.inr ⟨_, _, rfl, rfl⟩) (.inr ⟨_, _, rfl, rfl⟩) (by omega) (by omega)) rfl <| hl_nil <| ?_
  refine hx_then_normal <| hc_seq <| zg <| hl_v (ov_move rfl) rfl <| hl_v (ov_move rfl) rfl <| ?_
  refine hl_v (ov_eql rfl rfl) rfl <| zn <| ?_
  refine hc_cond_F rfl (by omega) ?_
  refine zk <| hc_seq <| zg <| hl_v (ov_move rfl) rfl <| ?_
  refine hl_v (ov_move rfl) rfl <| hl_v za15 rfl <| ?_
  refine hl_v (ov_eql rfl rfl) rfl <| zn <| ?_
  refine hc_cond rfl (fun h => ?_) (fun h => ?_)
  · have hin : i + 1 = n := by omega
    subst hin
    have hd0 : cs.drop (i * 3 + 3) = [] := List.eq_nil_of_length_eq_zero (by rw [hdl]; simp)
    rw [hd0, List.append_nil]
    refine zg <| hl_v (ov_move rfl) rfl <| hl_v (ov_move rfl) rfl <| ?_
    refine hl_v (ov_slTo rfl i rfl (by omega)) rfl ?_
    refine hl_v (ov_move rfl) rfl <| ?_
    refine HL.ent (Ent.row_take i (by omega)) ?_
    refine hl_new (on_appendR (A := A) (news := xs) rfl rfl SrcIs.blk0 (by omega) h1x (by decide) (by omega)) rfl rfl rfl (fun q1 => ?_)
    refine hl_v (ov_assign rfl) rfl <| zn <| hc_seq <| zg <| ?_
    refine hl_v (ov_move rfl) rfl <| hl_v za15 rfl <| ?_
    refine hl_v (ov_move rfl) rfl <| hl_v za15 rfl <| ?_
    refine hl_v (ov_lss rfl rfl) rfl <| zn <| ?_
    refine hc_cond_F rfl (by omega) ?_
    refine zk <| zg <| hl_v (ov_move rfl) rfl <| hl_v (ov_assign rfl) rfl <| ?_
    refine zn <| hc_ret <| hx_then_ret <| ?_
    exact results_1 (.inr rfl) rfl rfl fun w' H' => ⟨q1, rfl, H'.ent za4⟩
  have h1d : ∀ v ∈ cs.drop (i * 3 + 3), v.oneCell' = true := fun v hv => h1c v (List.mem_of_mem_drop hv)
  refine HC.rowOpen (cs := cs) A (by omega) ?_
  rintro b pre rest rfl _ _ _ hrest
  refine zk <| hc_seq <| hc_quiet mixed (by kernel_rfl) <| hq_v (ov_move rfl) rfl <| hq_v (ov_move rfl) rfl <| ?_
  refine hq_v (ov_slice rfl _ _ (.inl ⟨rfl, rfl⟩) (.inr ⟨_, _, rfl, rfl⟩) (by omega) (by omega)) rfl <| hq_v za15 rfl <| ?_
  refine hq_v (ov_move rfl) rfl <| hq_v za15 rfl <| ?_
  refine hq_v (ov_add rfl rfl za18) rfl <| ?_
  refine hq_v (ov_move rfl) rfl <| hq_v (ov_move rfl) rfl <| hq_v (ov_slice rfl _ _ (.inr ⟨_, _, rfl, rfl⟩) (.inl ⟨rfl, rfl⟩) (by omega) (by omega)) rfl <| hq_v za15 rfl <| ?_
  refine hq_v (ov_add (m := (n : Int)) rfl rfl za25) rfl ?_
  refine hq_v (ov_assign rfl) rfl <| hq_nil <| hx_then_normal <| hc_seq <| zg <| ?_
  refine hl_v (ov_move rfl) rfl <| hl_v (ov_move rfl) rfl <| hl_v (ov_cap rfl) rfl <| hl_v (ov_gtr rfl rfl) rfl <| zn <| ?_
  refine hc_cond_F rfl (by omega) ?_
  refine zk <| zg <| hl_v (ov_move rfl) rfl <| hl_v (ov_move rfl) rfl <| ?_
  refine hl_v (ov_slTo rfl n rfl (by omega)) rfl ?_
  refine hl_v (ov_assign rfl) rfl <| zn <| hc_seq <| zg <| ?_
  refine hl_v (ov_move rfl) rfl <| hl_v (ov_move rfl) rfl <| hl_v za15 rfl <| ?_
  refine hl_v (ov_add rfl rfl za18) rfl <| ?_
  refine hl_v (ov_move rfl) rfl <| hl_v (ov_leq rfl rfl) rfl <| zn <| ?_
  refine hc_cond_T rfl (by omega) ?_
  refine zg <| hl_v (ov_move rfl) rfl <| hl_v (ov_move rfl) rfl <| ?_
  refine hl_v (ov_slFrom rfl i rfl (by omega) hnc (by omega)) rfl ?_
  refine hl_v (ov_move rfl) rfl <| ?_
  refine hl_u (on_copy (news := xs) rfl rfl SrcIs.blk0 (by omega) (by omega) (by rw [List.length_append, List.length_append, hl, hx3]; omega) h1x) rfl rfl rfl ?_
  rw [set_place pre cs rest xs (i * 3) (by omega) hx3]
  refine zn <| hc_seq <| ?_
  refine hc_tail 9 mixed (by kernel_rfl) ?_
  refine ht_v (ov_move rfl) rfl <| ht_v (ov_move rfl) rfl <| ht_v (ov_move rfl) rfl <| ht_v za15 rfl <| ?_
  refine ht_v (ov_add (m := ((i + 1 : Nat) : Int)) rfl rfl za25) rfl ?_
  refine ht_v (ov_slFrom rfl (i + 1) rfl (by omega) hnc (by omega)) rfl ?_
  refine ht_v (ov_move rfl) rfl <| ht_v (ov_move rfl) rfl <| ?_
  refine ht_v (ov_slFrom rfl (i + 1) rfl (by omega) hnc (by omega)) rfl ?_
  refine ht_nil <| ?_
  refine hl_u (on_copy (m := n - (i + 1)) (news := cs.drop (i * 3 + 3)) rfl rfl (SrcIs.blkAt' (b := b) _ (fun j v hv => by have := mid_get (a := pre ++ (cs.take (i * 3) ++ xs)) (news := cs.drop (i * 3 + 3)) (c := rest) j v hv; rw [List.length_append, List.length_append, hal, hx3] at this; rw [show pre.length + (i + 1) * 3 + j = pre.length + (i * 3 + 3) + j by omega, show pre ++ (cs.take (i * 3) ++ xs ++ cs.drop (i * 3 + 3)) ++ rest = pre ++ (cs.take (i * 3) ++ xs) ++ cs.drop (i * 3 + 3) ++ rest by simp only [List.append_assoc]]; exact this)) hdl (by omega) (by rw [List.length_append, List.length_append, List.length_append, List.length_append, hal, hx3, hdl]; omega) h1d) rfl rfl rfl ?_
  rw [show pre.length + (i + 1) * 3 = pre.length + (i * 3 + 3) by omega, same_place pre (cs.take (i * 3)) xs (cs.drop (i * 3 + 3)) rest (i * 3 + 3) (by rw [List.length_append, hal, hx3])]
  refine zn <| zg <| hl_v (ov_move rfl) rfl <| hl_v (ov_move rfl) rfl <| ?_
  refine hl_v (ov_sl (.slice (if cap = n then some ⟨b, pre.length, none⟩ else (some (⟨b, pre.length, none⟩ : Addr)).map (·.add (n * 3))) 0 (cap - n)) rfl n n (.inr ⟨_, _, rfl, rfl⟩) (.inl ⟨rfl, rfl⟩) (Nat.le_refl _) hnc (by rw [Nat.sub_self])) rfl ?_
  refine hl_u0 (ov_clear0 rfl) rfl rfl ?_
  refine zn <| zg <| hl_v (ov_move rfl) rfl <| hl_v (ov_assign rfl) rfl <| ?_
  refine zn <| hc_ret <| hx_then_ret <| ?_
  exact results_1 (.inr rfl) rfl rfl fun w' H' => ⟨(some ⟨b, pre.length, none⟩, cap), rfl, H'.ent (Ent.trans (Ent.row_blk za11 hnc hc63 hrest) (Ent.cons (Ent.nil _)))⟩
theorem RepV_del (D : Nat → Prop) (w : World) (A : Option Addr) (n cap i : Nat) (cs : List Value) (hi : i < n) (hn : n ≤ 100000) (h1c : ∀ v ∈ cs, v.oneCell' = true) (H : Own D w w [row A 147 3 n cap cs]) :
    Calls Tryz.prog 153 #[.slice A n cap, .int .i64 i, .int .i64 ((i + 1 : Nat) : Int), .slice none 0 0] w fun e w' => ∃ q : Option Addr × Nat, e = .returned (.slice q.1 (n - 1) q.2) ∧ Own D w w' [row q.1 147 3 (n - 1) q.2 (cs.take (i * 3) ++ cs.drop (i * 3 + 3))] := by
  refine hc_enter (vs := [.slice A n cap, .int .i64 i, .int .i64 ((i + 1 : Nat) : Int), .slice none 0 0]) Tryz.func153 rfl _ Tryz.ntmps153 rfl H ?_
  simp only [argSlots, Nat.zero_add]
  refine HC.fact (fun w H => Own.factR A H) ?_
  rintro ⟨hl, hnc, hc63, hA⟩
  have hal : (cs.take (i * 3)).length = i * 3 := by rw [List.length_take, hl, Nat.min_eq_left (by omega)]
  have hdl : (cs.drop (i * 3 + 3)).length = (n - (i + 1)) * 3 := by rw [List.length_drop, hl]; omega
  refine zg <| hl_v (ov_assign rfl) rfl <| zn <| hc_seq <| ?_
  refine hc_region <| hl_v (ov_move rfl) rfl <| hl_v (ov_move rfl) rfl <| hl_v (ov_move rfl) rfl <| hl_v (ov_slice rfl _ _ (.inr ⟨_, _, rfl, rfl⟩) (.inr ⟨_, _, rfl, rfl⟩) (by omega) (by omega)) rfl <| hl_nil <| ?_
  refine hx_then_normal <| hc_seq <| zg <| hl_v (ov_move rfl) rfl <| hl_v (ov_move rfl) rfl <| ?_
  refine hl_v (ov_eql rfl rfl) rfl <| zn <| ?_
  refine hc_cond_F rfl (by omega) ?_
  refine HC.rowOpen (cs := cs) A (by omega) ?_
  rintro b pre rest rfl _ _ _ hrest
  have hcr : (cap - (n - 1)) * 3 ≤ (([.int .i64 0, .int .u8 0, .int .u8 0] : List Value) ++ rest).length := by rw [List.length_append]; show _ ≤ 3 + _; omega
  refine zk <| hc_seq <| zg <| hl_v (ov_move rfl) rfl <| ?_
  refine hl_v (ov_move rfl) rfl <| hl_v za15 rfl <| ?_
  refine hl_v (ov_eql rfl rfl) rfl <| zn <| ?_
  refine hc_cond rfl (fun h => ?_) (fun h => ?_)
  · have hin : i + 1 = n := by omega
    subst hin
    have hd0 : cs.drop (i * 3 + 3) = [] := List.eq_nil_of_length_eq_zero (by rw [hdl]; simp)
    refine zg <| hl_v (ov_move rfl) rfl <| hl_v (ov_move rfl) rfl <| ?_
    refine hl_v (ov_slTo rfl i rfl (by omega)) rfl ?_
    refine hl_v (ov_move rfl) rfl <| ?_
    refine hl_v (ov_append0 rfl rfl (by omega)) rfl ?_
    refine hl_v (ov_assign rfl) rfl <| zn <| hc_seq <| zg <| ?_
    refine hl_v (ov_move rfl) rfl <| hl_v za15 rfl <| ?_
    refine hl_v (ov_move rfl) rfl <| hl_v za15 rfl <| ?_
    refine hl_v (ov_lss rfl rfl) rfl <| zn <| ?_
    refine hc_cond_T rfl (by omega) ?_
    refine hc_region <| hl_v (ov_move rfl) rfl <| hl_v (ov_move rfl) rfl <| hl_v za15 rfl <| ?_
    refine hl_v (ov_slFrom rfl i rfl (by omega) hnc (by omega)) rfl ?_
    refine hl_u0 (on_clear (s := 3) (b := b) (z := [.int .i64 0, .int .u8 0, .int .u8 0]) rfl (by omega) (by rw [List.length_append, List.length_append, hl]; omega) za33) rfl rfl ?_
    rw [show i + 1 - i = 1 by omega, zerosL_one, set_place pre cs rest [.int .i64 0, .int .u8 0, .int .u8 0] (i * 3) (by omega) rfl, hd0, List.append_nil, List.append_nil]
    refine zn <| zg <| hl_v (ov_move rfl) rfl <| hl_v (ov_assign rfl) rfl <| ?_
    refine zn <| hc_ret <| hx_then_ret <| ?_
    exact results_1 (.inr rfl) rfl rfl fun w' H' => ⟨(some ⟨b, pre.length, none⟩, cap), rfl, H'.ent (Ent.trans (b := [blk b 147 (pre ++ cs.take (i * 3) ++ ([.int .i64 0, .int .u8 0, .int .u8 0] ++ rest))]) (by rw [show pre ++ (cs.take (i * 3) ++ [.int .i64 0, .int .u8 0, .int .u8 0]) ++ rest = pre ++ cs.take (i * 3) ++ ([.int .i64 0, .int .u8 0, .int .u8 0] ++ rest) by simp only [List.append_assoc]]; exact Ent.refl _) (Ent.row_blk (by rw [hal]; rfl) (by omega) hc63 hcr))⟩
  have h1d : ∀ v ∈ cs.drop (i * 3 + 3), v.oneCell' = true := fun v hv => h1c v (List.mem_of_mem_drop hv)
  refine zk <| hc_seq <| hc_quiet mixed (by kernel_rfl) <| hq_v (ov_move rfl) rfl <| hq_v (ov_move rfl) rfl <| ?_
  refine hq_v (ov_slice rfl _ _ (.inl ⟨rfl, rfl⟩) (.inr ⟨_, _, rfl, rfl⟩) (by omega) (by omega)) rfl <| hq_v za15 rfl <| ?_
  refine hq_v (ov_move rfl) rfl <| hq_v za15 rfl <| ?_
  refine hq_v (ov_add rfl rfl za18) rfl <| ?_
  refine hq_v (ov_move rfl) rfl <| hq_v (ov_move rfl) rfl <| hq_v (ov_slice rfl _ _ (.inr ⟨_, _, rfl, rfl⟩) (.inl ⟨rfl, rfl⟩) (by omega) (by omega)) rfl <| hq_v za15 rfl <| ?_
  refine hq_v (ov_add (m := ((n - 1 : Nat) : Int)) rfl rfl za25) rfl ?_
  refine hq_v (ov_assign rfl) rfl <| hq_nil <| hx_then_normal <| hc_seq <| zg <| ?_
  refine hl_v (ov_move rfl) rfl <| hl_v (ov_move rfl) rfl <| hl_v (ov_cap rfl) rfl <| hl_v (ov_gtr rfl rfl) rfl <| zn <| ?_
  refine hc_cond_F rfl (by omega) ?_
  refine zk <| zg <| hl_v (ov_move rfl) rfl <| hl_v (ov_move rfl) rfl <| ?_
  refine hl_v (ov_slTo rfl (n - 1) rfl (by omega)) rfl ?_
  refine hl_v (ov_assign rfl) rfl <| zn <| hc_seq <| zg <| ?_
  refine hl_v (ov_move rfl) rfl <| hl_v (ov_move rfl) rfl <| hl_v za15 rfl <| ?_
  refine hl_v (ov_add rfl rfl za18) rfl <| ?_
  refine hl_v (ov_move rfl) rfl <| hl_v (ov_leq rfl rfl) rfl <| zn <| ?_
  refine hc_cond_T rfl (by omega) ?_
  refine zg <| hl_v (ov_move rfl) rfl <| hl_v (ov_move rfl) rfl <| ?_
  refine hl_v (ov_slFrom rfl i rfl (by omega) (by omega) (by omega)) rfl ?_
  refine hl_v (ov_move rfl) rfl <| ?_
  refine hl_u (on_copy (m := 0) (B := none) (news := []) rfl rfl SrcIs.nil rfl (by omega) (by rw [List.length_append, List.length_append, hl]; show _ + 0 ≤ _; omega) (fun v hv => by cases hv)) rfl rfl rfl ?_
  rw [setSeg_nil]
  refine zn <| hc_seq <| ?_
  refine hc_tail 9 mixed (by kernel_rfl) ?_
  refine ht_v (ov_move rfl) rfl <| ht_v (ov_move rfl) rfl <| ht_v (ov_move rfl) rfl <| ht_v za15 rfl <| ?_
  refine ht_v (ov_add (m := (i : Int)) rfl rfl za25) rfl ?_
  refine ht_v (ov_slFrom rfl i rfl (by omega) (by omega) (by omega)) rfl ?_
  refine ht_v (ov_move rfl) rfl <| ht_v (ov_move rfl) rfl <| ?_
  refine ht_v (ov_slFrom rfl (i + 1) rfl (by omega) hnc (by omega)) rfl ?_
  refine ht_nil <| ?_
  refine hl_u (on_copy (m := n - (i + 1)) (news := cs.drop (i * 3 + 3)) rfl rfl (SrcIs.blkAt' (b := b) _ (drop_get (by omega) (by omega))) hdl (by omega) za13 h1d) rfl rfl rfl ?_
  refine zn <| zg <| hl_v (ov_move rfl) rfl <| hl_v (ov_move rfl) rfl <| ?_
  refine hl_v (ov_slFrom rfl (n - 1) rfl (by omega) hnc (by omega)) rfl ?_
  refine hl_u0 (on_clear (s := 3) (b := b) (z := [.int .i64 0, .int .u8 0, .int .u8 0]) rfl (by omega) (by rw [setSeg_length, List.length_append, List.length_append, hl]; omega) za33) rfl rfl ?_
  rw [show n - (n - 1) = 1 by omega, zerosL_one, show pre.length + (n - 1) * 3 = pre.length + (cs.length - 3) by omega, del_place pre cs rest [.int .i64 0, .int .u8 0, .int .u8 0] (i * 3) (by omega) rfl]
  refine zn <| zg <| hl_v (ov_move rfl) rfl <| hl_v (ov_assign rfl) rfl <| ?_
  refine zn <| hc_ret <| hx_then_ret <| ?_
  exact results_1 (.inr rfl) rfl rfl fun w' H' => ⟨(some ⟨b, pre.length, none⟩, cap), rfl, H'.ent (Ent.row_blk (by rw [List.length_append, hal, hdl]; omega) (by omega) hc63 hcr)⟩
theorem plcV_ins (D : Nat → Prop) (w : World) (A : Option Addr) (n cap i bx : Nat) (cs xs : List Value) (hi : i ≤ n) (hn : n ≤ 100000) (hx3 : xs.length = 3) (h1c : ∀ v ∈ cs, v.oneCell' = true) (h1x : ∀ v ∈ xs, v.oneCell' = true) (H : Own D w w [row A 147 3 n cap cs, blk0 bx 147 xs]) :
    Calls Tryz.prog 133 #[.slice A n cap, .int .i64 i, .bool false, .slice (some ⟨bx, 0, none⟩) 1 1] w fun e w' => ∃ q : Option Addr × Nat, e = .returned (.slice q.1 (n + 1) q.2) ∧ Own D w w' [row q.1 147 3 (n + 1) q.2 (cs.take (i * 3) ++ xs ++ cs.drop (i * 3))] := by
  refine hc_enter (vs := [.slice A n cap, .int .i64 i, .bool false, .slice (some ⟨bx, 0, none⟩) 1 1]) Tryz.func133 rfl _ Tryz.ntmps133 rfl H ?_
  simp only [argSlots, Nat.zero_add]
  refine zg <| hl_v (ov_assign rfl) rfl <| zn <| hc_seq <| ?_
  refine zg <| hl_v (ov_move rfl) rfl <| zn <| ?_
  refine hc_cond_false rfl ?_
  refine zk <| zg <| hl_v (ov_move rfl) rfl <| hl_v (ov_move rfl) rfl <| ?_
  refine hl_v (ov_move rfl) rfl <| ?_
  refine HL.ent (Ent.fold (L := [row A 147 3 n cap cs, blk0 bx 147 xs]) (l := [])) ?_
  refine hl_call (σ := Option Addr × Nat) Tryz.call154 rfl rfl (fun w1 H1 => Own.callpx (stars [row A 147 3 n cap cs, blk0 bx 147 xs]) H1 fun D' hold hin H2 => InsV_spec D' w1 A n cap i bx cs xs hi hn hx3 h1c h1x (H2.ent Ent.flat)) ?_
  intro q
  refine hl_v (ov_assign rfl) rfl <| zn <| hc_ret <| ?_
  exact results_1 (.inr rfl) rfl rfl fun w' H' => ⟨q, rfl, H'.ent za4⟩
theorem plcV_set (D : Nat → Prop) (w : World) (A : Option Addr) (n cap i bx : Nat) (cs xs : List Value) (hi : i < n) (hn : n ≤ 100000) (hx3 : xs.length = 3) (h1c : ∀ v ∈ cs, v.oneCell' = true) (h1x : ∀ v ∈ xs, v.oneCell' = true) (H : Own D w w [row A 147 3 n cap cs, blk0 bx 147 xs]) :
    Calls Tryz.prog 133 #[.slice A n cap, .int .i64 i, .bool true, .slice (some ⟨bx, 0, none⟩) 1 1] w fun e w' => ∃ q : Option Addr × Nat, e = .returned (.slice q.1 n q.2) ∧ Own D w w' [row q.1 147 3 n q.2 (cs.take (i * 3) ++ xs ++ cs.drop (i * 3 + 3))] := by
  refine hc_enter (vs := [.slice A n cap, .int .i64 i, .bool true, .slice (some ⟨bx, 0, none⟩) 1 1]) Tryz.func133 rfl _ Tryz.ntmps133 rfl H ?_
  simp only [argSlots, Nat.zero_add]
  refine zg <| hl_v (ov_assign rfl) rfl <| zn <| hc_seq <| ?_
  refine zg <| hl_v (ov_move rfl) rfl <| zn <| ?_
  refine hc_cond_true rfl ?_
  refine zg <| hl_v (ov_move rfl) rfl <| hl_v (ov_move rfl) rfl <| hl_v (ov_move rfl) rfl <| ?_
  refine hl_v (ov_add (m := ((i + 1 : Nat) : Int)) rfl rfl za25) rfl ?_
  refine hl_v (ov_move rfl) rfl <| ?_
  refine HL.ent (Ent.fold (L := [row A 147 3 n cap cs, blk0 bx 147 xs]) (l := [])) ?_
  refine hl_call (σ := Option Addr × Nat) Tryz.call153 rfl rfl (fun w1 H1 => Own.callpx (stars [row A 147 3 n cap cs, blk0 bx 147 xs]) H1 fun D' hold hin H2 => RepV_set D' w1 A n cap i bx cs xs hi hn hx3 h1c h1x (H2.ent Ent.flat)) ?_
  intro q
  refine hl_v (ov_assign rfl) rfl <| zn <| hc_ret <| hx_then_ret <| ?_
  exact results_1 (.inr rfl) rfl rfl fun w' H' => ⟨q, rfl, H'.ent za4⟩
theorem plcV_del (D : Nat → Prop) (w : World) (A : Option Addr) (n cap i : Nat) (cs : List Value) (hi : i < n) (hn : n ≤ 100000) (h1c : ∀ v ∈ cs, v.oneCell' = true) (H : Own D w w [row A 147 3 n cap cs]) :
    Calls Tryz.prog 133 #[.slice A n cap, .int .i64 i, .bool true, .slice none 0 0] w fun e w' => ∃ q : Option Addr × Nat, e = .returned (.slice q.1 (n - 1) q.2) ∧ Own D w w' [row q.1 147 3 (n - 1) q.2 (cs.take (i * 3) ++ cs.drop (i * 3 + 3))] := by
  refine hc_enter (vs := [.slice A n cap, .int .i64 i, .bool true, .slice none 0 0]) Tryz.func133 rfl _ Tryz.ntmps133 rfl H ?_
  simp only [argSlots, Nat.zero_add]
  refine zg <| hl_v (ov_assign rfl) rfl <| zn <| hc_seq <| ?_
  refine zg <| hl_v (ov_move rfl) rfl <| zn <| ?_
  refine hc_cond_true rfl ?_
  refine zg <| hl_v (ov_move rfl) rfl <| hl_v (ov_move rfl) rfl <| hl_v (ov_move rfl) rfl <| ?_
  refine hl_v (ov_add (m := ((i + 1 : Nat) : Int)) rfl rfl za25) rfl ?_
  refine hl_v (ov_move rfl) rfl <| ?_
  refine hl_call (σ := Option Addr × Nat) Tryz.call153 rfl rfl (fun w1 H1 => Own.callpx (row A 147 3 n cap cs) H1 fun D' hold hin H2 => RepV_del D' w1 A n cap i cs hi hn h1c H2) ?_
  intro q
  refine hl_v (ov_assign rfl) rfl <| zn <| hc_ret <| hx_then_ret <| ?_
  exact results_1 (.inr rfl) rfl rfl fun w' H' => ⟨q, rfl, H'.ent za4⟩


theorem RepS_set (D : Nat → Prop) (w : World) (A : Option Addr) (n cap i bx : Nat) (cs xs : List Value) (hi : i < n) (hn : n ≤ 100000) (hx3 : xs.length = 3) (h1c : ∀ v ∈ cs, v.oneCell' = true) (h1x : ∀ v ∈ xs, v.oneCell' = true) (H : Own D w w [row A 149 3 n cap cs, blk0 bx 149 xs]) :
    Calls Tryz.prog 155 #[.slice A n cap, .int .i64 i, .int .i64 ((i + 1 : Nat) : Int), .slice (some ⟨bx, 0, none⟩) 1 1] w fun e w' => ∃ q : Option Addr × Nat, e = .returned (.slice q.1 n q.2) ∧ Own D w w' [row q.1 149 3 n q.2 (cs.take (i * 3) ++ xs ++ cs.drop (i * 3 + 3))] := by
  refine hc_enter (vs := [.slice A n cap, .int .i64 i, .int .i64 ((i + 1 : Nat) : Int), .slice (some ⟨bx, 0, none⟩) 1 1]) Tryz.func155 rfl _ Tryz.ntmps155 rfl H ?_
  simp only [argSlots, Nat.zero_add]
  refine HC.fact (fun w H => Own.factR A H) ?_
  rintro ⟨hl, hnc, hc63, hA⟩
  have hal : (cs.take (i * 3)).length = i * 3 := by rw [List.length_take, hl, Nat.min_eq_left (by omega)]
  have hdl : (cs.drop (i * 3 + 3)).length = (n - (i + 1)) * 3 := by rw [List.length_drop, hl]; omega
  refine zg <| hl_v (ov_assign rfl) rfl <| zn <| hc_seq <| ?_
  refine hc_region <| hl_v (ov_move rfl) rfl <| hl_v (ov_move rfl) rfl <| hl_v (ov_move rfl) rfl <| hl_v (ov_slice rfl _ _ (.inr ⟨_, _, rfl, rfl⟩) (.inr ⟨_, _, rfl, rfl⟩) (by omega) (by omega)) rfl <| hl_nil <| ?_
  refine hx_then_normal <| hc_seq <| zg <| hl_v (ov_move rfl) rfl <| hl_v (ov_move rfl) rfl <| ?_
  refine hl_v (ov_eql rfl rfl) rfl <| zn <| ?_
  refine hc_cond_F rfl (by omega) ?_
  refine zk <| hc_seq <| zg <| hl_v (ov_move rfl) rfl <| ?_
  refine hl_v (ov_move rfl) rfl <| hl_v za15 rfl <| ?_
  refine hl_v (ov_eql rfl rfl) rfl <| zn <| ?_
  refine hc_cond rfl (fun h => ?_) (fun h => ?_)
  · have hin : i + 1 = n := by omega
    subst hin
    have hd0 : cs.drop (i * 3 + 3) = [] := List.eq_nil_of_length_eq_zero (by rw [hdl]; simp)
    rw [hd0, List.append_nil]
    refine zg <| hl_v (ov_move rfl) rfl <| hl_v (ov_move rfl) rfl <| ?_
    refine hl_v (ov_slTo rfl i rfl (by omega)) rfl ?_
    refine hl_v (ov_move rfl) rfl <| ?_
    refine HL.ent (Ent.row_take i (by omega)) ?_
    refine hl_new (on_appendR (A := A) (news := xs) rfl rfl SrcIs.blk0 (by omega) h1x (by decide) (by omega)) rfl rfl rfl (fun q1 => ?_)
    refine hl_v (ov_assign rfl) rfl <| zn <| hc_seq <| zg <| ?_
    refine hl_v (ov_move rfl) rfl <| hl_v za15 rfl <| ?_
    refine hl_v (ov_move rfl) rfl <| hl_v za15 rfl <| ?_
    refine hl_v (ov_lss rfl rfl) rfl <| zn <| ?_
    refine hc_cond_F rfl (by omega) ?_
    refine zk <| zg <| hl_v (ov_move rfl) rfl <| hl_v (ov_assign rfl) rfl <| ?_
    refine zn <| hc_ret <| hx_then_ret <| ?_
    exact results_1 (.inr rfl) rfl rfl fun w' H' => ⟨q1, rfl, H'.ent za4⟩
  have h1d : ∀ v ∈ cs.drop (i * 3 + 3), v.oneCell' = true := fun v hv => h1c v (List.mem_of_mem_drop hv)
  refine HC.rowOpen (cs := cs) A (by omega) ?_
  rintro b pre rest rfl _ _ _ hrest
  refine zk <| hc_seq <| hc_quiet mixed (by kernel_rfl) <| hq_v (ov_move rfl) rfl <| hq_v (ov_move rfl) rfl <| ?_
  refine hq_v (ov_slice rfl _ _ (.inl ⟨rfl, rfl⟩) (.inr ⟨_, _, rfl, rfl⟩) (by omega) (by omega)) rfl <| hq_v za15 rfl <| ?_
  refine hq_v (ov_move rfl) rfl <| hq_v za15 rfl <| ?_
  refine hq_v (ov_add rfl rfl za18) rfl <| ?_
  refine hq_v (ov_move rfl) rfl <| hq_v (ov_move rfl) rfl <| hq_v (ov_slice rfl _ _ (.inr ⟨_, _, rfl, rfl⟩) (.inl ⟨rfl, rfl⟩) (by omega) (by omega)) rfl <| hq_v za15 rfl <| ?_
  refine hq_v (ov_add (m := (n : Int)) rfl rfl za25) rfl ?_
  refine hq_v (ov_assign rfl) rfl <| hq_nil <| hx_then_normal <| hc_seq <| zg <| ?_
  refine hl_v (ov_move rfl) rfl <| hl_v (ov_move rfl) rfl <| hl_v (ov_cap rfl) rfl <| hl_v (ov_gtr rfl rfl) rfl <| zn <| ?_
  refine hc_cond_F rfl (by omega) ?_
  refine zk <| zg <| hl_v (ov_move rfl) rfl <| hl_v (ov_move rfl) rfl <| ?_
  refine hl_v (ov_slTo rfl n rfl (by omega)) rfl ?_
  refine hl_v (ov_assign rfl) rfl <| zn <| hc_seq <| zg <| ?_
  refine hl_v (ov_move rfl) rfl <| hl_v (ov_move rfl) rfl <| hl_v za15 rfl <| ?_
  refine hl_v (ov_add rfl rfl za18) rfl <| ?_
  refine hl_v (ov_move rfl) rfl <| hl_v (ov_leq rfl rfl) rfl <| zn <| ?_
  refine hc_cond_T rfl (by omega) ?_
  refine zg <| hl_v (ov_move rfl) rfl <| hl_v (ov_move rfl) rfl <| ?_
  refine hl_v (ov_slFrom rfl i rfl (by omega) hnc (by omega)) rfl ?_
  refine hl_v (ov_move rfl) rfl <| ?_
  refine hl_u (on_copy (news := xs) rfl rfl SrcIs.blk0 (by omega) (by omega) (by rw [List.length_append, List.length_append, hl, hx3]; omega) h1x) rfl rfl rfl ?_
  rw [set_place pre cs rest xs (i * 3) (by omega) hx3]
  refine zn <| hc_seq <| ?_
  refine hc_tail 9 mixed (by kernel_rfl) ?_
  refine ht_v (ov_move rfl) rfl <| ht_v (ov_move rfl) rfl <| ht_v (ov_move rfl) rfl <| ht_v za15 rfl <| ?_
  refine ht_v (ov_add (m := ((i + 1 : Nat) : Int)) rfl rfl za25) rfl ?_
  refine ht_v (ov_slFrom rfl (i + 1) rfl (by omega) hnc (by omega)) rfl ?_
  refine ht_v (ov_move rfl) rfl <| ht_v (ov_move rfl) rfl <| ?_
  refine ht_v (ov_slFrom rfl (i + 1) rfl (by omega) hnc (by omega)) rfl ?_
  refine ht_nil <| ?_
  refine hl_u (on_copy (m := n - (i + 1)) (news := cs.drop (i * 3 + 3)) rfl rfl (SrcIs.blkAt' (b := b) _ (fun j v hv => by have := mid_get (a := pre ++ (cs.take (i * 3) ++ xs)) (news := cs.drop (i * 3 + 3)) (c := rest) j v hv; rw [List.length_append, List.length_append, hal, hx3] at this; rw [show pre.length + (i + 1) * 3 + j = pre.length + (i * 3 + 3) + j by omega, show pre ++ (cs.take (i * 3) ++ xs ++ cs.drop (i * 3 + 3)) ++ rest = pre ++ (cs.take (i * 3) ++ xs) ++ cs.drop (i * 3 + 3) ++ rest by simp only [List.append_assoc]]; exact this)) hdl (by omega) (by rw [List.length_append, List.length_append, List.length_append, List.length_append, hal, hx3, hdl]; omega) h1d) rfl rfl rfl ?_
  rw [show pre.length + (i + 1) * 3 = pre.length + (i * 3 + 3) by omega, same_place pre (cs.take (i * 3)) xs (cs.drop (i * 3 + 3)) rest (i * 3 + 3) (by rw [List.length_append, hal, hx3])]
  refine zn <| zg <| hl_v (ov_move rfl) rfl <| hl_v (ov_move rfl) rfl <| ?_
  refine hl_v (ov_sl (.slice (if cap = n then some ⟨b, pre.length, none⟩ else (some (⟨b, pre.length, none⟩ : Addr)).map (·.add (n * 3))) 0 (cap - n)) rfl n n (.inr ⟨_, _, rfl, rfl⟩) (.inl ⟨rfl, rfl⟩) (Nat.le_refl _) hnc (by rw [Nat.sub_self])) rfl ?_
  refine hl_u0 (ov_clear0 rfl) rfl rfl ?_
  refine zn <| zg <| hl_v (ov_move rfl) rfl <| hl_v (ov_assign rfl) rfl <| ?_
  refine zn <| hc_ret <| hx_then_ret <| ?_
  exact results_1 (.inr rfl) rfl rfl fun w' H' => ⟨(some ⟨b, pre.length, none⟩, cap), rfl, H'.ent (Ent.trans (Ent.row_blk za11 hnc hc63 hrest) (Ent.cons (Ent.nil _)))⟩
theorem RepS_del (D : Nat → Prop) (w : World) (A : Option Addr) (n cap i : Nat) (cs : List Value) (hi : i < n) (hn : n ≤ 100000) (h1c : ∀ v ∈ cs, v.oneCell' = true) (H : Own D w w [row A 149 3 n cap cs]) :
    Calls Tryz.prog 155 #[.slice A n cap, .int .i64 i, .int .i64 ((i + 1 : Nat) : Int), .slice none 0 0] w fun e w' => ∃ q : Option Addr × Nat, e = .returned (.slice q.1 (n - 1) q.2) ∧ Own D w w' [row q.1 149 3 (n - 1) q.2 (cs.take (i * 3) ++ cs.drop (i * 3 + 3))] := by
  refine hc_enter (vs := [.slice A n cap, .int .i64 i, .int .i64 ((i + 1 : Nat) : Int), .slice none 0 0]) Tryz.func155 rfl _ Tryz.ntmps155 rfl H ?_
  simp only [argSlots, Nat.zero_add]
  refine HC.fact (fun w H => Own.factR A H) ?_
  rintro ⟨hl, hnc, hc63, hA⟩
  have hal : (cs.take (i * 3)).length = i * 3 := by rw [List.length_take, hl, Nat.min_eq_left (by omega)]
  have hdl : (cs.drop (i * 3 + 3)).length = (n - (i + 1)) * 3 := by rw [List.length_drop, hl]; omega
  refine zg <| hl_v (ov_assign rfl) rfl <| zn <| hc_seq <| ?_
  refine hc_region <| hl_v (ov_move rfl) rfl <| hl_v (ov_move rfl) rfl <| hl_v (ov_move rfl) rfl <| hl_v (ov_slice rfl _ _ (.inr ⟨_, _, rfl, rfl⟩) (.inr ⟨_, _, rfl, rfl⟩) (by omega) (by omega)) rfl <| hl_nil <| ?_
  refine hx_then_normal <| hc_seq <| zg <| hl_v (ov_move rfl) rfl <| hl_v (ov_move rfl) rfl <| ?_
  refine hl_v (ov_eql rfl rfl) rfl <| zn <| ?_
  refine hc_cond_F rfl (by omega) ?_
  refine HC.rowOpen (cs := cs) A (by omega) ?_
  rintro b pre rest rfl _ _ _ hrest
  have hcr : (cap - (n - 1)) * 3 ≤ (([.int .u64 0, .int .i64 0, .int .i64 0] : List Value) ++ rest).length := by rw [List.length_append]; show _ ≤ 3 + _; omega
  refine zk <| hc_seq <| zg <| hl_v (ov_move rfl) rfl <| ?_
  refine hl_v (ov_move rfl) rfl <| hl_v za15 rfl <| ?_
  refine hl_v (ov_eql rfl rfl) rfl <| zn <| ?_
  refine hc_cond rfl (fun h => ?_) (fun h => ?_)
  · have hin : i + 1 = n := by omega
    subst hin
    have hd0 : cs.drop (i * 3 + 3) = [] := List.eq_nil_of_length_eq_zero (by rw [hdl]; simp)
    refine zg <| hl_v (ov_move rfl) rfl <| hl_v (ov_move rfl) rfl <| ?_
    refine hl_v (ov_slTo rfl i rfl (by omega)) rfl ?_
    refine hl_v (ov_move rfl) rfl <| ?_
    refine hl_v (ov_append0 rfl rfl (by omega)) rfl ?_
    refine hl_v (ov_assign rfl) rfl <| zn <| hc_seq <| zg <| ?_
    refine hl_v (ov_move rfl) rfl <| hl_v za15 rfl <| ?_
    refine hl_v (ov_move rfl) rfl <| hl_v za15 rfl <| ?_
    refine hl_v (ov_lss rfl rfl) rfl <| zn <| ?_
    refine hc_cond_T rfl (by omega) ?_
    refine hc_region <| hl_v (ov_move rfl) rfl <| hl_v (ov_move rfl) rfl <| hl_v za15 rfl <| ?_
    refine hl_v (ov_slFrom rfl i rfl (by omega) hnc (by omega)) rfl ?_
    refine hl_u0 (on_clear (s := 3) (b := b) (z := [.int .u64 0, .int .i64 0, .int .i64 0]) rfl (by omega) (by rw [List.length_append, List.length_append, hl]; omega) za33) rfl rfl ?_
    rw [show i + 1 - i = 1 by omega, zerosL_one, set_place pre cs rest [.int .u64 0, .int .i64 0, .int .i64 0] (i * 3) (by omega) rfl, hd0, List.append_nil, List.append_nil]
    refine zn <| zg <| hl_v (ov_move rfl) rfl <| hl_v (ov_assign rfl) rfl <| ?_
    refine zn <| hc_ret <| hx_then_ret <| ?_
    exact results_1 (.inr rfl) rfl rfl fun w' H' => ⟨(some ⟨b, pre.length, none⟩, cap), rfl, H'.ent (Ent.trans (b := [blk b 149 (pre ++ cs.take (i * 3) ++ ([.int .u64 0, .int .i64 0, .int .i64 0] ++ rest))]) (by rw [show pre ++ (cs.take (i * 3) ++ [.int .u64 0, .int .i64 0, .int .i64 0]) ++ rest = pre ++ cs.take (i * 3) ++ ([.int .u64 0, .int .i64 0, .int .i64 0] ++ rest) by simp only [List.append_assoc]]; exact Ent.refl _) (Ent.row_blk (by rw [hal]; rfl) (by omega) hc63 hcr))⟩
  have h1d : ∀ v ∈ cs.drop (i * 3 + 3), v.oneCell' = true := fun v hv => h1c v (List.mem_of_mem_drop hv)
  refine zk <| hc_seq <| hc_quiet mixed (by kernel_rfl) <| hq_v (ov_move rfl) rfl <| hq_v (ov_move rfl) rfl <| ?_
  refine hq_v (ov_slice rfl _ _ (.inl ⟨rfl, rfl⟩) (.inr ⟨_, _, rfl, rfl⟩) (by omega) (by omega)) rfl <| hq_v za15 rfl <| ?_
  refine hq_v (ov_move rfl) rfl <| hq_v za15 rfl <| ?_
  refine hq_v (ov_add rfl rfl za18) rfl <| ?_
  refine hq_v (ov_move rfl) rfl <| hq_v (ov_move rfl) rfl <| hq_v (ov_slice rfl _ _ (.inr ⟨_, _, rfl, rfl⟩) (.inl ⟨rfl, rfl⟩) (by omega) (by omega)) rfl <| hq_v za15 rfl <| ?_
  refine hq_v (ov_add (m := ((n - 1 : Nat) : Int)) rfl rfl za25) rfl ?_
  refine hq_v (ov_assign rfl) rfl <| hq_nil <| hx_then_normal <| hc_seq <| zg <| ?_
  refine hl_v (ov_move rfl) rfl <| hl_v (ov_move rfl) rfl <| hl_v (ov_cap rfl) rfl <| hl_v (ov_gtr rfl rfl) rfl <| zn <| ?_
  refine hc_cond_F rfl (by omega) ?_
  refine zk <| zg <| hl_v (ov_move rfl) rfl <| hl_v (ov_move rfl) rfl <| ?_
  refine hl_v (ov_slTo rfl (n - 1) rfl (by omega)) rfl ?_
  refine hl_v (ov_assign rfl) rfl <| zn <| hc_seq <| zg <| ?_
  refine hl_v (ov_move rfl) rfl <| hl_v (ov_move rfl) rfl <| hl_v za15 rfl <| ?_
  refine hl_v (ov_add rfl rfl za18) rfl <| ?_
  refine hl_v (ov_move rfl) rfl <| hl_v (ov_leq rfl rfl) rfl <| zn <| ?_
  refine hc_cond_T rfl (by omega) ?_
  refine zg <| hl_v (ov_move rfl) rfl <| hl_v (ov_move rfl) rfl <| ?_
  refine hl_v (ov_slFrom rfl i rfl (by omega) (by omega) (by omega)) rfl ?_
  refine hl_v (ov_move rfl) rfl <| ?_
  refine hl_u (on_copy (m := 0) (B := none) (news := []) rfl rfl SrcIs.nil rfl (by omega) (by rw [List.length_append, List.length_append, hl]; show _ + 0 ≤ _; omega) (fun v hv => by cases hv)) rfl rfl rfl ?_
  rw [setSeg_nil]
  refine zn <| hc_seq <| ?_
  refine hc_tail 9 mixed (by kernel_rfl) ?_
  refine ht_v (ov_move rfl) rfl <| ht_v (ov_move rfl) rfl <| ht_v (ov_move rfl) rfl <| ht_v za15 rfl <| ?_
  refine ht_v (ov_add (m := (i : Int)) rfl rfl za25) rfl ?_
  refine ht_v (ov_slFrom rfl i rfl (by omega) (by omega) (by omega)) rfl ?_
  refine ht_v (ov_move rfl) rfl <| ht_v (ov_move rfl) rfl <| ?_
  refine ht_v (ov_slFrom rfl (i + 1) rfl (by omega) hnc (by omega)) rfl ?_
  refine ht_nil <| ?_
  refine hl_u (on_copy (m := n - (i + 1)) (news := cs.drop (i * 3 + 3)) rfl rfl (SrcIs.blkAt' (b := b) _ (drop_get (by omega) (by omega))) hdl (by omega) za13 h1d) rfl rfl rfl ?_
  refine zn <| zg <| hl_v (ov_move rfl) rfl <| hl_v (ov_move rfl) rfl <| ?_
  refine hl_v (ov_slFrom rfl (n - 1) rfl (by omega) hnc (by omega)) rfl ?_
  refine hl_u0 (on_clear (s := 3) (b := b) (z := [.int .u64 0, .int .i64 0, .int .i64 0]) rfl (by omega) (by rw [setSeg_length, List.length_append, List.length_append, hl]; omega) za33) rfl rfl ?_
  rw [show n - (n - 1) = 1 by omega, zerosL_one, show pre.length + (n - 1) * 3 = pre.length + (cs.length - 3) by omega, del_place pre cs rest [.int .u64 0, .int .i64 0, .int .i64 0] (i * 3) (by omega) rfl]
  refine zn <| zg <| hl_v (ov_move rfl) rfl <| hl_v (ov_assign rfl) rfl <| ?_
  refine zn <| hc_ret <| hx_then_ret <| ?_
  exact results_1 (.inr rfl) rfl rfl fun w' H' => ⟨(some ⟨b, pre.length, none⟩, cap), rfl, H'.ent (Ent.row_blk (by rw [List.length_append, hal, hdl]; omega) (by omega) hc63 hcr)⟩
theorem plcS_ins (D : Nat → Prop) (w : World) (A : Option Addr) (n cap i bx : Nat) (cs xs : List Value) (hi : i ≤ n) (hn : n ≤ 100000) (hx3 : xs.length = 3) (h1c : ∀ v ∈ cs, v.oneCell' = true) (h1x : ∀ v ∈ xs, v.oneCell' = true) (H : Own D w w [row A 149 3 n cap cs, blk0 bx 149 xs]) :
    Calls Tryz.prog 134 #[.slice A n cap, .int .i64 i, .bool false, .slice (some ⟨bx, 0, none⟩) 1 1] w fun e w' => ∃ q : Option Addr × Nat, e = .returned (.slice q.1 (n + 1) q.2) ∧ Own D w w' [row q.1 149 3 (n + 1) q.2 (cs.take (i * 3) ++ xs ++ cs.drop (i * 3))] := by
  refine hc_enter (vs := [.slice A n cap, .int .i64 i, .bool false, .slice (some ⟨bx, 0, none⟩) 1 1]) Tryz.func134 rfl _ Tryz.ntmps134 rfl H ?_
  simp only [argSlots, Nat.zero_add]
  refine zg <| hl_v (ov_assign rfl) rfl <| zn <| hc_seq <| ?_
  refine zg <| hl_v (ov_move rfl) rfl <| zn <| ?_
  refine hc_cond_false rfl ?_
  refine zk <| zg <| hl_v (ov_move rfl) rfl <| hl_v (ov_move rfl) rfl <| ?_
  refine hl_v (ov_move rfl) rfl <| ?_
  refine HL.ent (Ent.fold (L := [row A 149 3 n cap cs, blk0 bx 149 xs]) (l := [])) ?_
  refine hl_call (σ := Option Addr × Nat) Tryz.call156 rfl rfl (fun w1 H1 => Own.callpx (stars [row A 149 3 n cap cs, blk0 bx 149 xs]) H1 fun D' hold hin H2 => InsS_spec D' w1 A n cap i bx cs xs hi hn hx3 h1c h1x (H2.ent Ent.flat)) ?_
  intro q
  refine hl_v (ov_assign rfl) rfl <| zn <| hc_ret <| ?_
  exact results_1 (.inr rfl) rfl rfl fun w' H' => ⟨q, rfl, H'.ent za4⟩
theorem plcS_set (D : Nat → Prop) (w : World) (A : Option Addr) (n cap i bx : Nat) (cs xs : List Value) (hi : i < n) (hn : n ≤ 100000) (hx3 : xs.length = 3) (h1c : ∀ v ∈ cs, v.oneCell' = true) (h1x : ∀ v ∈ xs, v.oneCell' = true) (H : Own D w w [row A 149 3 n cap cs, blk0 bx 149 xs]) :
    Calls Tryz.prog 134 #[.slice A n cap, .int .i64 i, .bool true, .slice (some ⟨bx, 0, none⟩) 1 1] w fun e w' => ∃ q : Option Addr × Nat, e = .returned (.slice q.1 n q.2) ∧ Own D w w' [row q.1 149 3 n q.2 (cs.take (i * 3) ++ xs ++ cs.drop (i * 3 + 3))] := by
  refine hc_enter (vs := [.slice A n cap, .int .i64 i, .bool true, .slice (some ⟨bx, 0, none⟩) 1 1]) Tryz.func134 rfl _ Tryz.ntmps134 rfl H ?_
  simp only [argSlots, Nat.zero_add]
  refine zg <| hl_v (ov_assign rfl) rfl <| zn <| hc_seq <| ?_
  refine zg <| hl_v (ov_move rfl) rfl <| zn <| ?_
  refine hc_cond_true rfl ?_
  refine zg <| hl_v (ov_move rfl) rfl <| hl_v (ov_move rfl) rfl <| hl_v (ov_move rfl) rfl <| ?_
  refine hl_v (ov_add (m := ((i + 1 : Nat) : Int)) rfl rfl za25) rfl ?_
  refine hl_v (ov_move rfl) rfl <| ?_
  refine HL.ent (Ent.fold (L := [row A 149 3 n cap cs, blk0 bx 149 xs]) (l := [])) ?_
  refine hl_call (σ := Option Addr × Nat) Tryz.call155 rfl rfl (fun w1 H1 => Own.callpx (stars [row A 149 3 n cap cs, blk0 bx 149 xs]) H1 fun D' hold hin H2 => RepS_set D' w1 A n cap i bx cs xs hi hn hx3 h1c h1x (H2.ent Ent.flat)) ?_
  intro q
  refine hl_v (ov_assign rfl) rfl <| zn <| hc_ret <| hx_then_ret <| ?_
  exact results_1 (.inr rfl) rfl rfl fun w' H' => ⟨q, rfl, H'.ent za4⟩
theorem plcS_del (D : Nat → Prop) (w : World) (A : Option Addr) (n cap i : Nat) (cs : List Value) (hi : i < n) (hn : n ≤ 100000) (h1c : ∀ v ∈ cs, v.oneCell' = true) (H : Own D w w [row A 149 3 n cap cs]) :
    Calls Tryz.prog 134 #[.slice A n cap, .int .i64 i, .bool true, .slice none 0 0] w fun e w' => ∃ q : Option Addr × Nat, e = .returned (.slice q.1 (n - 1) q.2) ∧ Own D w w' [row q.1 149 3 (n - 1) q.2 (cs.take (i * 3) ++ cs.drop (i * 3 + 3))] := by
  refine hc_enter (vs := [.slice A n cap, .int .i64 i, .bool true, .slice none 0 0]) Tryz.func134 rfl _ Tryz.ntmps134 rfl H ?_
  simp only [argSlots, Nat.zero_add]
  refine zg <| hl_v (ov_assign rfl) rfl <| zn <| hc_seq <| ?_
  refine zg <| hl_v (ov_move rfl) rfl <| zn <| ?_
  refine hc_cond_true rfl ?_
  refine zg <| hl_v (ov_move rfl) rfl <| hl_v (ov_move rfl) rfl <| hl_v (ov_move rfl) rfl <| ?_
  refine hl_v (ov_add (m := ((i + 1 : Nat) : Int)) rfl rfl za25) rfl ?_
  refine hl_v (ov_move rfl) rfl <| ?_
  refine hl_call (σ := Option Addr × Nat) Tryz.call155 rfl rfl (fun w1 H1 => Own.callpx (row A 149 3 n cap cs) H1 fun D' hold hin H2 => RepS_del D' w1 A n cap i cs hi hn h1c H2) ?_
  intro q
  refine hl_v (ov_assign rfl) rfl <| zn <| hc_ret <| hx_then_ret <| ?_
  exact results_1 (.inr rfl) rfl rfl fun w' H' => ⟨q, rfl, H'.ent za4⟩

end Go.Proofs.YtjlolpmmpafjeaaGreat
