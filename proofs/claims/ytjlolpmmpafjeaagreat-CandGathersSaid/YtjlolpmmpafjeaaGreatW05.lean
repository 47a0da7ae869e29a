import Derived.Test.YtjlolpmmpafjeaaGreatW02
set_option linter.unusedVariables false
set_option linter.unusedSimpArgs false
namespace Go.Proofs.YtjlolpmmpafjeaaGreat
open Slk
/-! ### Lists of cells: insertion in place -/
theorem ins_place (pre cs rest xs : List Value) (k : Nat) (hk : k ≤ cs.length) (hx : xs.length = 3) (hr : 3 ≤ rest.length) :
    setSeg (setSeg (pre ++ cs ++ rest) (pre.length + (k + 3)) (cs.drop k)) (pre.length + k) xs = pre ++ (cs.take k ++ xs ++ cs.drop k) ++ rest.drop 3 := by
  have hdl : (cs.drop k).length = cs.length - k := List.length_drop
  have hal : (cs.take k).length = k := by rw [List.length_take]; omega
  obtain ⟨a, ha⟩ : ∃ a, a = cs.take k := ⟨_, rfl⟩
  obtain ⟨d, hd⟩ : ∃ d, d = cs.drop k := ⟨_, rfl⟩
  have hcs : cs = a ++ d := by rw [ha, hd, List.take_append_drop]
  rw [← ha] at hal ⊢
  rw [← hd] at hdl ⊢
  obtain ⟨h, hh⟩ : ∃ h, h = (d ++ rest).take 3 := ⟨_, rfl⟩
  obtain ⟨t, ht⟩ : ∃ t, t = ((d ++ rest).drop 3).take d.length := ⟨_, rfl⟩
  have hhl : h.length = 3 := by rw [hh, List.length_take, List.length_append]; omega
  have htl : t.length = d.length := by rw [ht, List.length_take, List.length_drop, List.length_append]; omega
  have hr' : ((d ++ rest).drop 3).drop d.length = rest.drop 3 := by
    rw [List.drop_drop, Nat.add_comm, ← List.drop_drop, List.drop_left]
  have hsplit : d ++ rest = h ++ t ++ rest.drop 3 := by
    rw [hh, ht, List.append_assoc, ← hr', List.take_append_drop, List.take_append_drop]
  have e1 : pre ++ cs ++ rest = (pre ++ a ++ h) ++ t ++ rest.drop 3 := by
    rw [hcs]; simp only [List.append_assoc] at hsplit ⊢; rw [hsplit]
  have e2 := setSeg_mid (pre ++ a ++ h) t (rest.drop 3) d (pre.length + (k + 3)) (by simp only [List.length_append, hal, hhl]; omega) htl.symm
  rw [e1, e2]
  have e3 := setSeg_mid (pre ++ a) h (d ++ rest.drop 3) xs (pre.length + k) za23 (by rw [hx, hhl])
  rw [show pre ++ a ++ h ++ d ++ rest.drop 3 = pre ++ a ++ h ++ (d ++ rest.drop 3) by simp only [List.append_assoc], e3]
  simp only [List.append_assoc]
theorem ins_new (pre a z3 zr rest xs d : List Value) (k : Nat) (hal : a.length = k) (hx : xs.length = 3) (hz : z3.length = 3) (hzr : zr.length = d.length) :
    setSeg (setSeg (pre ++ (a ++ (z3 ++ zr)) ++ rest) (pre.length + k) xs) (pre.length + (k + 3)) d = pre ++ (a ++ xs ++ d) ++ rest := by
  have e1 := setSeg_mid (pre ++ a) z3 (zr ++ rest) xs (pre.length + k) za23 (by omega)
  rw [show pre ++ (a ++ (z3 ++ zr)) ++ rest = pre ++ a ++ z3 ++ (zr ++ rest) by simp only [List.append_assoc], e1]
  have e2 := setSeg_mid (pre ++ a ++ xs) zr rest d (pre.length + (k + 3)) (by simp only [List.length_append, hal, hx]; omega) hzr.symm
  rw [show pre ++ a ++ xs ++ (zr ++ rest) = pre ++ a ++ xs ++ zr ++ rest by simp only [List.append_assoc], e2]
  simp only [List.append_assoc]
theorem set_place (pre cs rest xs : List Value) (k : Nat) (hk : k + 3 ≤ cs.length) (hx : xs.length = 3) :
    setSeg (pre ++ cs ++ rest) (pre.length + k) xs = pre ++ (cs.take k ++ xs ++ cs.drop (k + 3)) ++ rest := by
  have hal : (cs.take k).length = k := by rw [List.length_take]; omega
  have hcs : cs = cs.take k ++ (cs.drop k).take 3 ++ cs.drop (k + 3) := by
    rw [List.append_assoc, ← List.drop_drop, List.take_append_drop, List.take_append_drop]
  have e1 := setSeg_mid (pre ++ cs.take k) ((cs.drop k).take 3) (cs.drop (k + 3) ++ rest) xs (pre.length + k) za23 (by rw [hx, List.length_take, List.length_drop]; omega)
  have e0 : pre ++ cs ++ rest = pre ++ cs.take k ++ (cs.drop k).take 3 ++ (cs.drop (k + 3) ++ rest) := by
    have : pre ++ cs ++ rest = pre ++ (cs.take k ++ (cs.drop k).take 3 ++ cs.drop (k + 3)) ++ rest := by rw [← hcs]
    rw [this]; simp only [List.append_assoc]
  rw [e0, e1]
  simp only [List.append_assoc]
theorem same_place (pre a xs d rest : List Value) (k : Nat) (hk : (a ++ xs).length = k) : setSeg (pre ++ (a ++ xs ++ d) ++ rest) (pre.length + k) d = pre ++ (a ++ xs ++ d) ++ rest := by
  have e1 := setSeg_mid (pre ++ (a ++ xs)) d rest d (pre.length + k) (by rw [List.length_append, hk]) rfl
  rw [show pre ++ (a ++ xs ++ d) ++ rest = pre ++ (a ++ xs) ++ d ++ rest by simp only [List.append_assoc], e1]
theorem del_place (pre cs rest : List Value) (z : List Value) (k : Nat) (hk : k + 3 ≤ cs.length) (hz : z.length = 3) :
    setSeg (setSeg (pre ++ cs ++ rest) (pre.length + k) (cs.drop (k + 3))) (pre.length + (cs.length - 3)) z = pre ++ (cs.take k ++ cs.drop (k + 3)) ++ (z ++ rest) := by
  have hal : (cs.take k).length = k := by rw [List.length_take]; omega
  obtain ⟨d, hd⟩ : ∃ d, d = cs.drop (k + 3) := ⟨_, rfl⟩
  have hdl : d.length = cs.length - (k + 3) := by rw [hd, List.length_drop]
  obtain ⟨a, ha⟩ : ∃ a, a = cs.take k := ⟨_, rfl⟩
  rw [← ha] at hal
  obtain ⟨m, hm⟩ : ∃ m, m = (cs.drop k).take d.length := ⟨_, rfl⟩
  obtain ⟨u, hu⟩ : ∃ u, u = (cs.drop k).drop d.length := ⟨_, rfl⟩
  have hml : m.length = d.length := by rw [hm, List.length_take, List.length_drop]; omega
  have hul : u.length = 3 := by rw [hu, List.length_drop, List.length_drop]; omega
  have hcs : cs = a ++ m ++ u := by rw [ha, hm, hu, List.append_assoc, List.take_append_drop, List.take_append_drop]
  rw [← hd, ← ha]
  have hlen : cs.length - 3 = k + d.length := by omega
  rw [hlen]
  have e1 := setSeg_mid (pre ++ a) m (u ++ rest) d (pre.length + k) za23 hml.symm
  rw [show pre ++ cs ++ rest = pre ++ a ++ m ++ (u ++ rest) by rw [hcs]; simp only [List.append_assoc], e1]
  have e2 := setSeg_mid (pre ++ a ++ d) u rest z (pre.length + (k + d.length)) (by simp only [List.length_append, hal]; omega) (by omega)
  rw [show pre ++ a ++ d ++ (u ++ rest) = pre ++ a ++ d ++ u ++ rest by simp only [List.append_assoc], e2]
  simp only [List.append_assoc]
theorem setSeg_nil (cs : List Value) (o : Nat) : setSeg cs o [] = cs := rfl
theorem drop_get {pre cs rest : List Value} {k o : Nat} (ho : o = pre.length + k) (hk : k ≤ cs.length) : ∀ i v, (cs.drop k)[i]? = some v → (pre ++ cs ++ rest)[o + i]? = some v := fun i v hv => by
  rw [List.getElem?_drop] at hv
  have := mid_get (a := pre) (news := cs) (c := rest) (k + i) v hv
  rw [ho, Nat.add_assoc]; exact this
theorem take_get {pre cs rest : List Value} {k : Nat} : ∀ i v, (cs.take k)[i]? = some v → (pre ++ cs ++ rest)[pre.length + i]? = some v := fun i v hv => by
  rw [List.getElem?_take] at hv
  split at hv
  · exact mid_get i v hv
  · cases hv
theorem zerosL_succ (z : List Value) (n : Nat) : zerosL z (n + 1) = z ++ zerosL z n := by simp [zerosL, List.replicate_succ]
theorem zerosL_one (z : List Value) : zerosL z 1 = z := by simp [zerosL, List.replicate_succ]

theorem InsV_spec (D : Nat → Prop) (w : World) (A : Option Addr) (n cap i bx : Nat) (cs xs : List Value) (hi : i ≤ n) (hn : n ≤ 100000) (hx3 : xs.length = 3) (h1c : ∀ v ∈ cs, v.oneCell' = true) (h1x : ∀ v ∈ xs, v.oneCell' = true) (H : Own D w w [row A 147 3 n cap cs, blk0 bx 147 xs]) :
    Calls Tryz.prog 154 #[.slice A n cap, .int .i64 i, .slice (some ⟨bx, 0, none⟩) 1 1] w fun e w' => ∃ q : Option Addr × Nat, e = .returned (.slice q.1 (n + 1) q.2) ∧ Own D w w' [row q.1 147 3 (n + 1) q.2 (cs.take (i * 3) ++ xs ++ cs.drop (i * 3))] := by
  refine hc_enter (vs := [.slice A n cap, .int .i64 i, .slice (some ⟨bx, 0, none⟩) 1 1]) Tryz.func154 rfl _ Tryz.ntmps154 rfl H ?_
  simp only [argSlots, Nat.zero_add]
  refine HC.fact (fun w H => Own.factR A H) ?_
  rintro ⟨hl, hnc, hc63, hA⟩
  refine zg <| hl_v (ov_assign rfl) rfl <| zn <| hc_seq <| ?_
  refine hc_region <| hl_v (ov_move rfl) rfl <| hl_v (ov_move rfl) rfl <| hl_v (ov_slice rfl _ _ (.inr ⟨_, _, rfl, rfl⟩) (.inl ⟨rfl, rfl⟩) (by omega) (by omega)) rfl <| zn <| ?_
  refine zg <| hl_v (ov_move rfl) rfl <| hl_v za15 rfl <| ?_
  refine hl_v (ov_assign rfl) rfl <| zn <| hc_seq <| zg <| ?_
  refine hl_v (ov_move rfl) rfl <| hl_v (ov_eql rfl rfl) rfl <| zn <| ?_
  refine hc_cond_F rfl (by omega) ?_
  refine zk <| zg <| hl_v (ov_move rfl) rfl <| hl_v za15 rfl <| ?_
  refine hl_v (ov_assign rfl) rfl <| zn <| hc_seq <| zg <| ?_
  refine hl_v (ov_move rfl) rfl <| hl_v (ov_move rfl) rfl <| hl_v (ov_eql rfl rfl) rfl <| zn <| ?_
  refine hc_cond rfl (fun h => ?_) (fun h => ?_)
  · have hin : i = n := by omega
    subst hin
    rw [show cs.take (i * 3) ++ xs ++ cs.drop (i * 3) = cs ++ xs by rw [← hl, List.take_length, List.drop_length, List.append_nil]]
    refine zg <| hl_v (ov_move rfl) rfl <| hl_v (ov_move rfl) rfl <| ?_
    refine hl_new (on_appendR (A := A) (news := xs) rfl rfl SrcIs.blk0 (by omega) h1x (by decide) (by omega)) rfl rfl rfl (fun q1 => ?_)
    refine hl_v (ov_assign rfl) rfl <| zn <| hc_ret <| hx_then_ret <| ?_
    exact results_1 (.inr rfl) rfl rfl fun w' H' => ⟨q1, rfl, H'.ent za4⟩
  have hin : i < n := by omega
  have h1a : ∀ v ∈ cs.drop (i * 3), v.oneCell' = true := fun v hv => h1c v (List.mem_of_mem_drop hv)
  have hdl : (cs.drop (i * 3)).length = (n - i) * 3 := by rw [List.length_drop, hl, Nat.sub_mul]
  have hal : (cs.take (i * 3)).length = i * 3 := by rw [List.length_take, hl, Nat.min_eq_left (by omega)]
  refine HC.rowOpen (cs := cs) A (by omega) ?_
  rintro b pre rest rfl _ _ _ hrest
  refine zk <| hc_seq <| zg <| hl_v (ov_move rfl) rfl <| ?_
  refine hl_v (ov_move rfl) rfl <| hl_v (ov_add rfl rfl za18) rfl <| ?_
  refine hl_v (ov_move rfl) rfl <| hl_v (ov_cap rfl) rfl <| hl_v (ov_gtr rfl rfl) rfl <| zn <| ?_
  refine hc_cond rfl (fun h2 => ?_) (fun h2 => ?_)
  · refine zg <| hl_v (ov_move rfl) rfl <| hl_v (ov_move rfl) rfl <| ?_
    refine hl_v (ov_slTo rfl i rfl (by omega)) rfl ?_
    refine hl_v (ov_move rfl) rfl <| hl_v (ov_move rfl) rfl <| ?_
    refine hl_v (ov_add (m := ((n + 1 : Nat) : Int)) rfl rfl za25) rfl ?_
    refine hl_v (ov_move rfl) rfl <| ?_
    refine hl_v (ov_sub (m := ((n + 1 - i : Nat) : Int)) rfl rfl za25) rfl ?_
    refine hl_new (on_appendZr (m := n + 1 - i) (cs := cs.take (i * 3)) rfl rfl rfl (SrcIs.blkAt' (b := b) pre.length take_get) hal (by omega) (by omega) (by decide) (by decide) (by omega)) rfl rfl rfl ?_
    rintro ⟨pA, pc⟩
    dsimp only
    rw [show i + (n + 1 - i) = n + 1 by omega, show n + 1 - i = (n - i) + 1 by omega, zerosL_succ]
    refine HL.rowOpen pA (by rw [List.length_append, List.length_append]; show 0 < _ + (3 + _); omega) ?_
    rintro b2 pre2 rest2 rfl hl2 hc2 hc63' hrest2
    refine hl_v (ov_assign rfl) rfl <| zn <| zg <| hl_v (ov_move rfl) rfl <| ?_
    refine hl_v (ov_move rfl) rfl <| ?_
    refine hl_v (ov_slFrom rfl i rfl (by omega) hc2 (by omega)) rfl ?_
    refine hl_v (ov_move rfl) rfl <| ?_
    refine hl_u (on_copy (news := xs) rfl rfl SrcIs.blk0 (by omega) (by omega) (by rw [List.length_append, List.length_append, hl2, hx3]; omega) h1x) rfl rfl rfl ?_
    refine zn <| hc_seq <| ?_
    refine hc_tail 8 mixed (by kernel_rfl) ?_
    refine ht_v (ov_move rfl) rfl <| ht_v (ov_move rfl) rfl <| ht_v (ov_move rfl) rfl <| ?_
    refine ht_v (ov_add (m := ((i + 1 : Nat) : Int)) rfl rfl za25) rfl ?_
    refine ht_v (ov_slFrom rfl (i + 1) rfl (by omega) hc2 (by omega)) rfl ?_
    refine ht_v (ov_move rfl) rfl <| ht_v (ov_move rfl) rfl <| ?_
    refine ht_v (ov_slFrom rfl i rfl (by omega) hnc (by omega)) rfl ?_
    refine ht_nil <| ?_
    refine hl_u (on_copy (news := cs.drop (i * 3)) rfl rfl (SrcIs.blkAt' (b := b) _ (drop_get rfl (by omega))) hdl (by omega) (by rw [setSeg_length, List.length_append, List.length_append, hl2, hdl]; omega) h1a) rfl rfl rfl ?_
    refine zn <| zg <| hl_v (ov_move rfl) rfl <| hl_v (ov_assign rfl) rfl <| ?_
    refine zn <| hc_ret <| hx_then_ret <| ?_
    have hz := zerosL_length [.int .i64 0, .int .u8 0, .int .u8 0] (n - i)
    rw [show pre2.length + (i + 1) * 3 = pre2.length + (i * 3 + 3) by omega, ins_new pre2 (cs.take (i * 3)) [.int .i64 0, .int .u8 0, .int .u8 0] (zerosL [.int .i64 0, .int .u8 0, .int .u8 0] (n - i)) rest2 xs (cs.drop (i * 3)) (i * 3) hal hx3 rfl (by rw [hz, hdl]; rfl)]
    exact results_1 (.inr rfl) rfl rfl fun w' H' => ⟨(some ⟨b2, pre2.length, none⟩, pc), rfl, H'.ent (Ent.trans (Ent.row_blk za11 hc2 hc63' hrest2) (Ent.cons (Ent.nil _)))⟩
  have hnc1 : n + 1 ≤ cap := by omega
  have hrl : 3 ≤ rest.length := by have : 1 * 3 ≤ (cap - n) * 3 := Nat.mul_le_mul_right _ (by omega)
                                   omega
  refine zk <| zg <| hl_v (ov_move rfl) rfl <| hl_v (ov_move rfl) rfl <| ?_
  refine hl_v (ov_move rfl) rfl <| ?_
  refine hl_v (ov_add (m := ((n + 1 : Nat) : Int)) rfl rfl za25) rfl ?_
  refine hl_v (ov_slTo rfl (n + 1) rfl hnc1) rfl ?_
  refine hl_v (ov_assign rfl) rfl <| zn <| hc_seq <| zg <| ?_
  refine hl_v (ov_move rfl) rfl <| hl_v (ov_move rfl) rfl <| hl_v (ov_move rfl) rfl <| hl_v (ov_move rfl) rfl <| ?_
  refine hl_v (ov_add (m := ((i + 1 : Nat) : Int)) rfl rfl za25) rfl ?_
  refine hl_v (ov_slFrom rfl (i + 1) rfl (by omega) hnc1 (by omega)) rfl ?_
  refine hl_v (ov_callv rfl (fun w H => run_ovl (tS := 46) (tR := 4) (bx := bx) (b := b) Tryz.func164 (by kernel_rfl) (by kernel_rfl) (by kernel_rfl) (by kernel_rfl) H (by omega) (by rw [List.length_append, List.length_append]; omega))) rfl ?_
  refine hl_v (ov_not rfl) rfl <| zn <| hc_cond_true rfl <| hc_seq <| ?_
  refine hc_tail 8 mixed (by kernel_rfl) ?_
  refine ht_v (ov_move rfl) rfl <| ht_v (ov_move rfl) rfl <| ht_v (ov_move rfl) rfl <| ?_
  refine ht_v (ov_add (m := ((i + 1 : Nat) : Int)) rfl rfl za25) rfl ?_
  refine ht_v (ov_slFrom rfl (i + 1) rfl (by omega) hnc1 (by omega)) rfl ?_
  refine ht_v (ov_move rfl) rfl <| ht_v (ov_move rfl) rfl <| ?_
  refine ht_v (ov_slFrom rfl i rfl (by omega) hnc1 (by omega)) rfl ?_
  refine ht_nil <| ?_
  refine hl_u (on_copyD (news := cs.drop (i * 3)) rfl rfl (SrcIs.blkAt' (b := b) _ (drop_get rfl (by omega))) (by rw [hdl]; congr 1; omega) (by omega) za13 h1a) rfl rfl rfl ?_
  refine zn <| zg <| hl_v (ov_move rfl) rfl <| hl_v (ov_move rfl) rfl <| ?_
  refine hl_v (ov_slFrom rfl i rfl (by omega) hnc1 (by omega)) rfl ?_
  refine hl_v (ov_move rfl) rfl <| ?_
  refine hl_u (on_copy (news := xs) rfl rfl SrcIs.blk0 (by omega) (by omega) (by rw [setSeg_length, List.length_append, List.length_append, hl, hx3]; omega) h1x) rfl rfl rfl ?_
  refine zn <| zg <| hl_v (ov_move rfl) rfl <| hl_v (ov_assign rfl) rfl <| ?_
  refine zn <| hc_ret <| hx_then_ret <| ?_
  rw [show pre.length + (i + 1) * 3 = pre.length + (i * 3 + 3) by omega, ins_place pre cs rest xs (i * 3) (by omega) hx3 hrl]
  exact results_1 (.inr rfl) rfl rfl fun w' H' => ⟨(some ⟨b, pre.length, none⟩, cap), rfl, H'.ent (Ent.trans (Ent.row_blk za11 hnc1 hc63 (by rw [List.length_drop, Nat.sub_mul] at *; omega)) (Ent.cons (Ent.nil _)))⟩


theorem InsS_spec (D : Nat → Prop) (w : World) (A : Option Addr) (n cap i bx : Nat) (cs xs : List Value) (hi : i ≤ n) (hn : n ≤ 100000) (hx3 : xs.length = 3) (h1c : ∀ v ∈ cs, v.oneCell' = true) (h1x : ∀ v ∈ xs, v.oneCell' = true) (H : Own D w w [row A 149 3 n cap cs, blk0 bx 149 xs]) :
    Calls Tryz.prog 156 #[.slice A n cap, .int .i64 i, .slice (some ⟨bx, 0, none⟩) 1 1] w fun e w' => ∃ q : Option Addr × Nat, e = .returned (.slice q.1 (n + 1) q.2) ∧ Own D w w' [row q.1 149 3 (n + 1) q.2 (cs.take (i * 3) ++ xs ++ cs.drop (i * 3))] := by
  refine hc_enter (vs := [.slice A n cap, .int .i64 i, .slice (some ⟨bx, 0, none⟩) 1 1]) Tryz.func156 rfl _ Tryz.ntmps156 rfl H ?_
  simp only [argSlots, Nat.zero_add]
  refine HC.fact (fun w H => Own.factR A H) ?_
  rintro ⟨hl, hnc, hc63, hA⟩
  refine zg <| hl_v (ov_assign rfl) rfl <| zn <| hc_seq <| ?_
  refine hc_region <| hl_v (ov_move rfl) rfl <| hl_v (ov_move rfl) rfl <| hl_v (ov_slice rfl _ _ (.inr ⟨_, _, rfl, rfl⟩) (.inl ⟨rfl, rfl⟩) (by omega) (by omega)) rfl <| zn <| ?_
  refine zg <| hl_v (ov_move rfl) rfl <| hl_v za15 rfl <| ?_
  refine hl_v (ov_assign rfl) rfl <| zn <| hc_seq <| zg <| ?_
  refine hl_v (ov_move rfl) rfl <| hl_v (ov_eql rfl rfl) rfl <| zn <| ?_
  refine hc_cond_F rfl (by omega) ?_
  refine zk <| zg <| hl_v (ov_move rfl) rfl <| hl_v za15 rfl <| ?_
  refine hl_v (ov_assign rfl) rfl <| zn <| hc_seq <| zg <| ?_
  refine hl_v (ov_move rfl) rfl <| hl_v (ov_move rfl) rfl <| hl_v (ov_eql rfl rfl) rfl <| zn <| ?_
  refine hc_cond rfl (fun h => ?_) (fun h => ?_)
  · have hin : i = n := by omega
    subst hin
    rw [show cs.take (i * 3) ++ xs ++ cs.drop (i * 3) = cs ++ xs by rw [← hl, List.take_length, List.drop_length, List.append_nil]]
    refine zg <| hl_v (ov_move rfl) rfl <| hl_v (ov_move rfl) rfl <| ?_
    refine hl_new (on_appendR (A := A) (news := xs) rfl rfl SrcIs.blk0 (by omega) h1x (by decide) (by omega)) rfl rfl rfl (fun q1 => ?_)
    refine hl_v (ov_assign rfl) rfl <| zn <| hc_ret <| hx_then_ret <| ?_
    exact results_1 (.inr rfl) rfl rfl fun w' H' => ⟨q1, rfl, H'.ent za4⟩
  have hin : i < n := by omega
  have h1a : ∀ v ∈ cs.drop (i * 3), v.oneCell' = true := fun v hv => h1c v (List.mem_of_mem_drop hv)
  have hdl : (cs.drop (i * 3)).length = (n - i) * 3 := by rw [List.length_drop, hl, Nat.sub_mul]
  have hal : (cs.take (i * 3)).length = i * 3 := by rw [List.length_take, hl, Nat.min_eq_left (by omega)]
  refine HC.rowOpen (cs := cs) A (by omega) ?_
  rintro b pre rest rfl _ _ _ hrest
  refine zk <| hc_seq <| zg <| hl_v (ov_move rfl) rfl <| ?_
  refine hl_v (ov_move rfl) rfl <| hl_v (ov_add rfl rfl za18) rfl <| ?_
  refine hl_v (ov_move rfl) rfl <| hl_v (ov_cap rfl) rfl <| hl_v (ov_gtr rfl rfl) rfl <| zn <| ?_
  refine hc_cond rfl (fun h2 => ?_) (fun h2 => ?_)
  · refine zg <| hl_v (ov_move rfl) rfl <| hl_v (ov_move rfl) rfl <| ?_
    refine hl_v (ov_slTo rfl i rfl (by omega)) rfl ?_
    refine hl_v (ov_move rfl) rfl <| hl_v (ov_move rfl) rfl <| ?_
    refine hl_v (ov_add (m := ((n + 1 : Nat) : Int)) rfl rfl za25) rfl ?_
    refine hl_v (ov_move rfl) rfl <| ?_
    refine hl_v (ov_sub (m := ((n + 1 - i : Nat) : Int)) rfl rfl za25) rfl ?_
    refine hl_new (on_appendZr (m := n + 1 - i) (cs := cs.take (i * 3)) rfl rfl rfl (SrcIs.blkAt' (b := b) pre.length take_get) hal (by omega) (by omega) (by decide) (by decide) (by omega)) rfl rfl rfl ?_
    rintro ⟨pA, pc⟩
    dsimp only
    rw [show i + (n + 1 - i) = n + 1 by omega, show n + 1 - i = (n - i) + 1 by omega, zerosL_succ]
    refine HL.rowOpen pA (by rw [List.length_append, List.length_append]; show 0 < _ + (3 + _); omega) ?_
    rintro b2 pre2 rest2 rfl hl2 hc2 hc63' hrest2
    refine hl_v (ov_assign rfl) rfl <| zn <| zg <| hl_v (ov_move rfl) rfl <| ?_
    refine hl_v (ov_move rfl) rfl <| ?_
    refine hl_v (ov_slFrom rfl i rfl (by omega) hc2 (by omega)) rfl ?_
    refine hl_v (ov_move rfl) rfl <| ?_
    refine hl_u (on_copy (news := xs) rfl rfl SrcIs.blk0 (by omega) (by omega) (by rw [List.length_append, List.length_append, hl2, hx3]; omega) h1x) rfl rfl rfl ?_
    refine zn <| hc_seq <| ?_
    refine hc_tail 8 mixed (by kernel_rfl) ?_
    refine ht_v (ov_move rfl) rfl <| ht_v (ov_move rfl) rfl <| ht_v (ov_move rfl) rfl <| ?_
    refine ht_v (ov_add (m := ((i + 1 : Nat) : Int)) rfl rfl za25) rfl ?_
    refine ht_v (ov_slFrom rfl (i + 1) rfl (by omega) hc2 (by omega)) rfl ?_
    refine ht_v (ov_move rfl) rfl <| ht_v (ov_move rfl) rfl <| ?_
    refine ht_v (ov_slFrom rfl i rfl (by omega) hnc (by omega)) rfl ?_
    refine ht_nil <| ?_
    refine hl_u (on_copy (news := cs.drop (i * 3)) rfl rfl (SrcIs.blkAt' (b := b) _ (drop_get rfl (by omega))) hdl (by omega) (by rw [setSeg_length, List.length_append, List.length_append, hl2, hdl]; omega) h1a) rfl rfl rfl ?_
    refine zn <| zg <| hl_v (ov_move rfl) rfl <| hl_v (ov_assign rfl) rfl <| ?_
    refine zn <| hc_ret <| hx_then_ret <| ?_
    have hz := zerosL_length [.int .u64 0, .int .i64 0, .int .i64 0] (n - i)
    rw [show pre2.length + (i + 1) * 3 = pre2.length + (i * 3 + 3) by omega, ins_new pre2 (cs.take (i * 3)) [.int .u64 0, .int .i64 0, .int .i64 0] (zerosL [.int .u64 0, .int .i64 0, .int .i64 0] (n - i)) rest2 xs (cs.drop (i * 3)) (i * 3) hal hx3 rfl (by rw [hz, hdl]; rfl)]
    exact results_1 (.inr rfl) rfl rfl fun w' H' => ⟨(some ⟨b2, pre2.length, none⟩, pc), rfl, H'.ent (Ent.trans (Ent.row_blk za11 hc2 hc63' hrest2) (Ent.cons (Ent.nil _)))⟩
  have hnc1 : n + 1 ≤ cap := by omega
  have hrl : 3 ≤ rest.length := by have : 1 * 3 ≤ (cap - n) * 3 := Nat.mul_le_mul_right _ (by omega)
                                   omega
  refine zk <| zg <| hl_v (ov_move rfl) rfl <| hl_v (ov_move rfl) rfl <| ?_
  refine hl_v (ov_move rfl) rfl <| ?_
  refine hl_v (ov_add (m := ((n + 1 : Nat) : Int)) rfl rfl za25) rfl ?_
  refine hl_v (ov_slTo rfl (n + 1) rfl hnc1) rfl ?_
  refine hl_v (ov_assign rfl) rfl <| zn <| hc_seq <| zg <| ?_
  refine hl_v (ov_move rfl) rfl <| hl_v (ov_move rfl) rfl <| hl_v (ov_move rfl) rfl <| hl_v (ov_move rfl) rfl <| ?_
  refine hl_v (ov_add (m := ((i + 1 : Nat) : Int)) rfl rfl za25) rfl ?_
  refine hl_v (ov_slFrom rfl (i + 1) rfl (by omega) hnc1 (by omega)) rfl ?_
  refine hl_v (ov_callv rfl (fun w H => run_ovl (tS := 47) (tR := 4) (bx := bx) (b := b) Tryz.func167 (by kernel_rfl) (by kernel_rfl) (by kernel_rfl) (by kernel_rfl) H (by omega) (by rw [List.length_append, List.length_append]; omega))) rfl ?_
  refine hl_v (ov_not rfl) rfl <| zn <| hc_cond_true rfl <| hc_seq <| ?_
  refine hc_tail 8 mixed (by kernel_rfl) ?_
  refine ht_v (ov_move rfl) rfl <| ht_v (ov_move rfl) rfl <| ht_v (ov_move rfl) rfl <| ?_
  refine ht_v (ov_add (m := ((i + 1 : Nat) : Int)) rfl rfl za25) rfl ?_
  refine ht_v (ov_slFrom rfl (i + 1) rfl (by omega) hnc1 (by omega)) rfl ?_
  refine ht_v (ov_move rfl) rfl <| ht_v (ov_move rfl) rfl <| ?_
  refine ht_v (ov_slFrom rfl i rfl (by omega) hnc1 (by omega)) rfl ?_
  refine ht_nil <| ?_
  refine hl_u (on_copyD (news := cs.drop (i * 3)) rfl rfl (SrcIs.blkAt' (b := b) _ (drop_get rfl (by omega))) (by rw [hdl]; congr 1; omega) (by omega) za13 h1a) rfl rfl rfl ?_
  refine zn <| zg <| hl_v (ov_move rfl) rfl <| hl_v (ov_move rfl) rfl <| ?_
  refine hl_v (ov_slFrom rfl i rfl (by omega) hnc1 (by omega)) rfl ?_
  refine hl_v (ov_move rfl) rfl <| ?_
  refine hl_u (on_copy (news := xs) rfl rfl SrcIs.blk0 (by omega) (by omega) (by rw [setSeg_length, List.length_append, List.length_append, hl, hx3]; omega) h1x) rfl rfl rfl ?_
  refine zn <| zg <| hl_v (ov_move rfl) rfl <| hl_v (ov_assign rfl) rfl <| ?_
  refine zn <| hc_ret <| hx_then_ret <| ?_
  rw [show pre.length + (i + 1) * 3 = pre.length + (i * 3 + 3) by omega, ins_place pre cs rest xs (i * 3) (by omega) hx3 hrl]
  exact results_1 (.inr rfl) rfl rfl fun w' H' => ⟨(some ⟨b, pre.length, none⟩, cap), rfl, H'.ent (Ent.trans (Ent.row_blk za11 hnc1 hc63 (by rw [List.length_drop, Nat.sub_mul] at *; omega)) (Ent.cons (Ent.nil _)))⟩

end Go.Proofs.YtjlolpmmpafjeaaGreat
