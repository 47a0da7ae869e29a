import Derived.Test.YtjlolpmmpafjeaaGreatV04
set_option linter.unusedVariables false
set_option linter.unusedSimpArgs false
namespace Go.Proofs.YtjlolpmmpafjeaaGreat
open Slk
variable (D : Nat → Prop) (w : World)
theorem ins_place (pre cs rest xs : List Value) (k : Nat) (hk : k ≤ cs.length) (hx : xs.length = 3) (hr : 3 ≤ rest.length) :
  setSeg (setSeg (pre ++ cs ++ rest) (pre.length + (k + 3)) (cs.drop k)) (pre.length + k) xs = pre ++ (cs.take k ++ xs ++ cs.drop k) ++ rest.drop 3 := by
 have hdl : (cs.drop k).length = cs.length - k := List.length_drop
 have hal : (cs.take k).length = k := by rw [List.length_take]; omega
 obtain ⟨a, ha⟩ : ∃ a, a = cs.take k := ⟨_, rfl⟩
 obtain ⟨d, hd⟩ : ∃ d, d = cs.drop k := ⟨_, rfl⟩
 have hcs : cs = a ++ d := by rw [ha, hd, List.take_append_drop]
 rw [← ha] at hal ⊢
 rw [← hd] at hdl ⊢
 obtain ⟨h, hh⟩ : ∃ h, h = (d ++ rest).take 3 := ⟨_, rfl⟩
 obtain ⟨t, ht⟩ : ∃ t, t = ((d ++ rest).drop 3).take d.length := ⟨_, rfl⟩
 have hhl : h.length = 3 := by rw [hh, List.length_take, List.length_append]; omega
 have htl : t.length = d.length := by rw [ht, List.length_take, List.length_drop, List.length_append]; omega
 have hr' : ((d ++ rest).drop 3).drop d.length = rest.drop 3 := by
  rw [List.drop_drop, Nat.add_comm, ← List.drop_drop, List.drop_left]
 have hsplit : d ++ rest = h ++ t ++ rest.drop 3 := by
  rw [hh, ht, List.append_assoc, ← hr', List.take_append_drop, List.take_append_drop]
 have e1 : pre ++ cs ++ rest = (pre ++ a ++ h) ++ t ++ rest.drop 3 := by
  rw [hcs]; simp only [List.append_assoc] at hsplit ⊢; rw [hsplit]
 have e2 := setSeg_mid (pre ++ a ++ h) t (rest.drop 3) d (pre.length + (k + 3)) (by simp only [List.length_append, hal, hhl]; omega) htl.symm
 rw [e1, e2]
 have e3 := setSeg_mid (pre ++ a) h (d ++ rest.drop 3) xs (pre.length + k) Z33 (by rw [hx, hhl])
 rw [show pre ++ a ++ h ++ d ++ rest.drop 3 = pre ++ a ++ h ++ (d ++ rest.drop 3) by simp only [List.append_assoc], e3]
 simp only [List.append_assoc]
theorem ins_new (pre a z3 zr rest xs d : List Value) (k : Nat) (hal : a.length = k) (hx : xs.length = 3) (hz : z3.length = 3) (hzr : zr.length = d.length) :
  setSeg (setSeg (pre ++ (a ++ (z3 ++ zr)) ++ rest) (pre.length + k) xs) (pre.length + (k + 3)) d = pre ++ (a ++ xs ++ d) ++ rest := by
 have e1 := setSeg_mid (pre ++ a) z3 (zr ++ rest) xs (pre.length + k) Z33 Z64
 rw [show pre ++ (a ++ (z3 ++ zr)) ++ rest = pre ++ a ++ z3 ++ (zr ++ rest) by simp only [List.append_assoc], e1]
 have e2 := setSeg_mid (pre ++ a ++ xs) zr rest d (pre.length + (k + 3)) (by simp only [List.length_append, hal, hx]; omega) hzr.symm
 rw [show pre ++ a ++ xs ++ (zr ++ rest) = pre ++ a ++ xs ++ zr ++ rest by simp only [List.append_assoc], e2]
 simp only [List.append_assoc]
theorem set_place (pre cs rest xs : List Value) (k : Nat) (hk : k + 3 ≤ cs.length) (hx : xs.length = 3) :
  setSeg (pre ++ cs ++ rest) (pre.length + k) xs = pre ++ (cs.take k ++ xs ++ cs.drop (k + 3)) ++ rest := by
 have hal : (cs.take k).length = k := by rw [List.length_take]; omega
 have hcs : cs = cs.take k ++ (cs.drop k).take 3 ++ cs.drop (k + 3) := by
  rw [List.append_assoc, ← List.drop_drop, List.take_append_drop, List.take_append_drop]
 have e1 := setSeg_mid (pre ++ cs.take k) ((cs.drop k).take 3) (cs.drop (k + 3) ++ rest) xs (pre.length + k) Z33 (by rw [hx, List.length_take, List.length_drop]; omega)
 have e0 : pre ++ cs ++ rest = pre ++ cs.take k ++ (cs.drop k).take 3 ++ (cs.drop (k + 3) ++ rest) := by
  have : pre ++ cs ++ rest = pre ++ (cs.take k ++ (cs.drop k).take 3 ++ cs.drop (k + 3)) ++ rest := by rw [← hcs]
  rw [this]; simp only [List.append_assoc]
 rw [e0, e1]
 simp only [List.append_assoc]
theorem same_place (pre a xs d rest : List Value) (k : Nat) (hk : (a ++ xs).length = k) : setSeg (pre ++ (a ++ xs ++ d) ++ rest) (pre.length + k) d = pre ++ (a ++ xs ++ d) ++ rest := by
 have e1 := setSeg_mid (pre ++ (a ++ xs)) d rest d (pre.length + k) (by rw [List.length_append, hk]) rfl
 rw [show pre ++ (a ++ xs ++ d) ++ rest = pre ++ (a ++ xs) ++ d ++ rest by simp only [List.append_assoc], e1]
theorem del_place (pre cs rest : List Value) (z : List Value) (k : Nat) (hk : k + 3 ≤ cs.length) (hz : z.length = 3) :
  setSeg (setSeg (pre ++ cs ++ rest) (pre.length + k) (cs.drop (k + 3))) (pre.length + (cs.length - 3)) z = pre ++ (cs.take k ++ cs.drop (k + 3)) ++ (z ++ rest) := by
 have hal : (cs.take k).length = k := by rw [List.length_take]; omega
 obtain ⟨d, hd⟩ : ∃ d, d = cs.drop (k + 3) := ⟨_, rfl⟩
 have hdl : d.length = cs.length - (k + 3) := by rw [hd, List.length_drop]
 obtain ⟨a, ha⟩ : ∃ a, a = cs.take k := ⟨_, rfl⟩
 rw [← ha] at hal
 obtain ⟨m, hm⟩ : ∃ m, m = (cs.drop k).take d.length := ⟨_, rfl⟩
 obtain ⟨u, hu⟩ : ∃ u, u = (cs.drop k).drop d.length := ⟨_, rfl⟩
 have hml : m.length = d.length := by rw [hm, List.length_take, List.length_drop]; omega
 have hul : u.length = 3 := by rw [hu, List.length_drop, List.length_drop]; omega
 have hcs : cs = a ++ m ++ u := by rw [ha, hm, hu, List.append_assoc, List.take_append_drop, List.take_append_drop]
 rw [← hd, ← ha]
 have hlen : cs.length - 3 = k + d.length := by omega
 rw [hlen]
 have e1 := setSeg_mid (pre ++ a) m (u ++ rest) d (pre.length + k) Z33 hml.symm
 rw [show pre ++ cs ++ rest = pre ++ a ++ m ++ (u ++ rest) by rw [hcs]; simp only [List.append_assoc], e1]
 have e2 := setSeg_mid (pre ++ a ++ d) u rest z (pre.length + (k + d.length)) (by simp only [List.length_append, hal]; omega) Z64
 rw [show pre ++ a ++ d ++ (u ++ rest) = pre ++ a ++ d ++ u ++ rest by simp only [List.append_assoc], e2]
 simp only [List.append_assoc]
theorem setSeg_nil (cs : List Value) (o : Nat) : setSeg cs o [] = cs := rfl
theorem drop_get {pre cs rest : List Value} {k o : Nat} (ho : o = pre.length + k) (hk : k ≤ cs.length) : ∀ i v, (cs.drop k)[i]? = some v → (pre ++ cs ++ rest)[o + i]? = some v := fun i v hv => by
 rw [List.getElem?_drop] at hv
 have := mid_get (a := pre) (news := cs) (c := rest) (k + i) v hv
 rw [ho, Nat.add_assoc]; exact this
theorem take_get {pre cs rest : List Value} {k : Nat} : ∀ i v, (cs.take k)[i]? = some v → (pre ++ cs ++ rest)[pre.length + i]? = some v := fun i v hv => by
 rw [List.getElem?_take] at hv
 split at hv
 ·exact mid_get i v hv
 ·cases hv
theorem zerosL_succ (z : List Value) (n : Nat) : zerosL z (n + 1) = z ++ zerosL z n := by simp [zerosL, List.replicate_succ]
theorem zerosL_one (z : List Value) : zerosL z 1 = z := by simp [zerosL, List.replicate_succ]

theorem InsV_spec (A : Option Addr) (n cap i bx : Nat) (cs xs : List Value) (hi : i ≤ n) (hn : n ≤ 100000) (hx3 : xs.length = 3) (h1c : ∀ v ∈ cs, v.oneCell' = true) (h1x : ∀ v ∈ xs, v.oneCell' = true) (H : Own D w w [row A 147 3 n cap cs, blk0 bx 147 xs]) :
  Calls Tryz.prog 154 #[.slice A n cap, .int .i64 i, .slice (some ⟨bx, 0, none⟩) 1 1] w fun e w' => ∃ q : Option Addr × Nat, e = .returned (.slice q.1 (n + 1) q.2) ∧ Own D w w' [row q.1 147 3 (n + 1) q.2 (cs.take (i * 3) ++ xs ++ cs.drop (i * 3))] := by
 refine hc_enter (vs := [.slice A n cap, .int .i64 i, .slice (some ⟨bx, 0, none⟩) 1 1]) Tryz.func154 rfl _ Tryz.ntmps154 rfl H ?_
 simp only [argSlots, Nat.zero_add]
 refine HC.fact (fun w H => Own.factR A H) ?_
 rintro ⟨hl, hnc, hc63, hA⟩
 refine zg <| zs rfl <| zn <| hc_seq <| hc_region <| zm rfl <| zm rfl <| zv (ov_slice rfl _ _ (.inr ⟨_, _, rfl, rfl⟩) (.inl ⟨rfl, rfl⟩) Z64 Z64) <| zn <| ?_
 refine zg <| zm rfl <| zv Z25 <| ?_
 refine zs rfl <| zn <| hc_seq <| zg <| zm rfl <| zv (ov_eql rfl rfl) <| zn <| hc_cond_F rfl Z64 ?_
 refine zk <| zg <| zm rfl <| zv Z25 <| ?_
 refine zs rfl <| zn <| hc_seq <| zg <| zm rfl <| zm rfl <| zv (ov_eql rfl rfl) <| zn <| hc_cond rfl (fun h => ?_) (fun h => ?_)
 ·have hin : i = n := by omega
  subst hin
  rw [show cs.take (i * 3) ++ xs ++ cs.drop (i * 3) = cs ++ xs by rw [← hl, List.take_length, List.drop_length, List.append_nil]]
  refine zg <| zm rfl <| zm rfl <| hl_new (on_appendR (A := A) (news := xs) rfl rfl SrcIs.blk0 Z64 h1x Z63 Z64) rfl rfl rfl (fun q1 => ?_)
  refine zs rfl <| zn <| zq <| zr <| ?_
  exact zz rfl rfl fun w' H' => ⟨q1, rfl, H'.ent Z8⟩
 have hin : i < n := by omega
 have h1a : ∀ v ∈ cs.drop (i * 3), v.oneCell' = true := fun v hv => h1c v (List.mem_of_mem_drop hv)
 have hdl : (cs.drop (i * 3)).length = (n - i) * 3 := by rw [List.length_drop, hl, Nat.sub_mul]
 have hal : (cs.take (i * 3)).length = i * 3 := by rw [List.length_take, hl, Nat.min_eq_left Z64]
 refine HC.rowOpen (cs := cs) A Z64 ?_
 rintro b pre rest rfl _ _ _ hrest
 refine zk <| hc_seq <| zg <| zm rfl <| zm rfl <| zv (ov_add rfl rfl Z28) <| ?_
 refine zm rfl <| zv (ov_cap rfl) <| zv (ov_gtr rfl rfl) <| zn <| hc_cond rfl (fun h2 => ?_) (fun h2 => ?_)
 ·refine zg <| zm rfl <| zm rfl <| hl_v (ov_slTo rfl i rfl Z64) rfl ?_
  refine zm rfl <| zm rfl <| hl_v (ov_add (m := ((n + 1 : Nat) : Int)) rfl rfl Z36) rfl ?_
  refine zm rfl <| hl_v (ov_sub (m := ((n + 1 - i : Nat) : Int)) rfl rfl Z36) rfl ?_
  refine hl_new (on_appendZr (m := n + 1 - i) (cs := cs.take (i * 3)) rfl rfl rfl (SrcIs.blkAt' (b := b) pre.length take_get) hal Z64 Z64 Z63 Z63 Z64) rfl rfl rfl ?_
  rintro ⟨pA, pc⟩
  dsimp only
  rw [show i + (n + 1 - i) = n + 1 by omega, show n + 1 - i = (n - i) + 1 by omega, zerosL_succ]
  refine HL.rowOpen pA (by rw [List.length_append, List.length_append]; show 0 < _ + (3 + _); omega) ?_
  rintro b2 pre2 rest2 rfl hl2 hc2 hc63' hrest2
  refine zs rfl <| zn <| zg <| zm rfl <| zm rfl <| hl_v (ov_slFrom rfl i rfl Z64 hc2 Z64) rfl ?_
  refine zm rfl <| hl_u (on_copy (news := xs) rfl rfl SrcIs.blk0 Z64 Z64 (by rw [List.length_append, List.length_append, hl2, hx3]; omega) h1x) rfl rfl rfl ?_
  refine zn <| hc_seq <| hc_tail 8 mixed Z61 ?_
  refine ht_v (ov_move rfl) rfl <| ht_v (ov_move rfl) rfl <| ht_v (ov_move rfl) rfl <| ?_
  refine ht_v (ov_add (m := ((i + 1 : Nat) : Int)) rfl rfl Z36) rfl ?_
  refine ht_v (ov_slFrom rfl (i + 1) rfl Z64 hc2 Z64) rfl ?_
  refine ht_v (ov_move rfl) rfl <| ht_v (ov_move rfl) rfl <| ?_
  refine ht_v (ov_slFrom rfl i rfl Z64 hnc Z64) rfl ?_
  refine ht_nil <| ?_
  refine hl_u (on_copy (news := cs.drop (i * 3)) rfl rfl (SrcIs.blkAt' (b := b) _ (drop_get rfl Z64)) hdl Z64 (by rw [setSeg_length, List.length_append, List.length_append, hl2, hdl]; omega) h1a) rfl rfl rfl ?_
  refine zn <| zg <| zm rfl <| zs rfl <| zn <| zq <| zr <| ?_
  have hz := zerosL_length [.int .i64 0, .int .u8 0, .int .u8 0] (n - i)
  rw [show pre2.length + (i + 1) * 3 = pre2.length + (i * 3 + 3) by omega, ins_new pre2 (cs.take (i * 3)) [.int .i64 0, .int .u8 0, .int .u8 0] (zerosL [.int .i64 0, .int .u8 0, .int .u8 0] (n - i)) rest2 xs (cs.drop (i * 3)) (i * 3) hal hx3 rfl (by rw [hz, hdl]; rfl)]
  exact zz rfl rfl fun w' H' => ⟨(some ⟨b2, pre2.length, none⟩, pc), rfl, H'.ent (Ent.trans (Ent.row_blk Z18 hc2 hc63' hrest2) (Ent.cons (Ent.nil _)))⟩
 have hnc1 : n + 1 ≤ cap := by omega
 have hrl : 3 ≤ rest.length := by have : 1 * 3 ≤ (cap - n) * 3 := Nat.mul_le_mul_right _ Z64
                                  omega
 refine zk <| zg <| zm rfl <| zm rfl <| zm rfl <| hl_v (ov_add (m := ((n + 1 : Nat) : Int)) rfl rfl Z36) rfl ?_
 refine hl_v (ov_slTo rfl (n + 1) rfl hnc1) rfl <| zs rfl <| zn <| hc_seq <| zg <| zm rfl <| zm rfl <| zm rfl <| zm rfl <| hl_v (ov_add (m := ((i + 1 : Nat) : Int)) rfl rfl Z36) rfl ?_
 refine hl_v (ov_slFrom rfl (i + 1) rfl Z64 hnc1 Z64) rfl ?_
 refine hl_v (ov_callv rfl (fun w H => run_ovl (tS := 46) (tR := 4) (bx := bx) (b := b) Tryz.func164 Z61 Z61 Z61 Z61 H Z64 (by rw [List.length_append, List.length_append]; omega))) rfl ?_
 refine zv (ov_not rfl) <| zn <| hc_cond_true rfl <| hc_seq <| hc_tail 8 mixed Z61 ?_
 refine ht_v (ov_move rfl) rfl <| ht_v (ov_move rfl) rfl <| ht_v (ov_move rfl) rfl <| ?_
 refine ht_v (ov_add (m := ((i + 1 : Nat) : Int)) rfl rfl Z36) rfl ?_
 refine ht_v (ov_slFrom rfl (i + 1) rfl Z64 hnc1 Z64) rfl ?_
 refine ht_v (ov_move rfl) rfl <| ht_v (ov_move rfl) rfl <| ?_
 refine ht_v (ov_slFrom rfl i rfl Z64 hnc1 Z64) rfl ?_
 refine ht_nil <| ?_
 refine hl_u (on_copyD (news := cs.drop (i * 3)) rfl rfl (SrcIs.blkAt' (b := b) _ (drop_get rfl Z64)) (by rw [hdl]; congr 1; omega) Z64 Z20 h1a) rfl rfl rfl ?_
 refine zn <| zg <| zm rfl <| zm rfl <| hl_v (ov_slFrom rfl i rfl Z64 hnc1 Z64) rfl ?_
 refine zm rfl <| hl_u (on_copy (news := xs) rfl rfl SrcIs.blk0 Z64 Z64 (by rw [setSeg_length, List.length_append, List.length_append, hl, hx3]; omega) h1x) rfl rfl rfl ?_
 refine zn <| zg <| zm rfl <| zs rfl <| zn <| zq <| zr <| ?_
 rw [show pre.length + (i + 1) * 3 = pre.length + (i * 3 + 3) by omega, ins_place pre cs rest xs (i * 3) Z64 hx3 hrl]
 exact zz rfl rfl fun w' H' => ⟨(some ⟨b, pre.length, none⟩, cap), rfl, H'.ent (Ent.trans (Ent.row_blk Z18 hnc1 hc63 (by rw [List.length_drop, Nat.sub_mul] at *; omega)) (Ent.cons (Ent.nil _)))⟩


theorem InsS_spec (A : Option Addr) (n cap i bx : Nat) (cs xs : List Value) (hi : i ≤ n) (hn : n ≤ 100000) (hx3 : xs.length = 3) (h1c : ∀ v ∈ cs, v.oneCell' = true) (h1x : ∀ v ∈ xs, v.oneCell' = true) (H : Own D w w [row A 149 3 n cap cs, blk0 bx 149 xs]) :
  Calls Tryz.prog 156 #[.slice A n cap, .int .i64 i, .slice (some ⟨bx, 0, none⟩) 1 1] w fun e w' => ∃ q : Option Addr × Nat, e = .returned (.slice q.1 (n + 1) q.2) ∧ Own D w w' [row q.1 149 3 (n + 1) q.2 (cs.take (i * 3) ++ xs ++ cs.drop (i * 3))] := by
 refine hc_enter (vs := [.slice A n cap, .int .i64 i, .slice (some ⟨bx, 0, none⟩) 1 1]) Tryz.func156 rfl _ Tryz.ntmps156 rfl H ?_
 simp only [argSlots, Nat.zero_add]
 refine HC.fact (fun w H => Own.factR A H) ?_
 rintro ⟨hl, hnc, hc63, hA⟩
 refine zg <| zs rfl <| zn <| hc_seq <| hc_region <| zm rfl <| zm rfl <| zv (ov_slice rfl _ _ (.inr ⟨_, _, rfl, rfl⟩) (.inl ⟨rfl, rfl⟩) Z64 Z64) <| zn <| ?_
 refine zg <| zm rfl <| zv Z25 <| ?_
 refine zs rfl <| zn <| hc_seq <| zg <| zm rfl <| zv (ov_eql rfl rfl) <| zn <| hc_cond_F rfl Z64 ?_
 refine zk <| zg <| zm rfl <| zv Z25 <| ?_
 refine zs rfl <| zn <| hc_seq <| zg <| zm rfl <| zm rfl <| zv (ov_eql rfl rfl) <| zn <| hc_cond rfl (fun h => ?_) (fun h => ?_)
 ·have hin : i = n := by omega
  subst hin
  rw [show cs.take (i * 3) ++ xs ++ cs.drop (i * 3) = cs ++ xs by rw [← hl, List.take_length, List.drop_length, List.append_nil]]
  refine zg <| zm rfl <| zm rfl <| hl_new (on_appendR (A := A) (news := xs) rfl rfl SrcIs.blk0 Z64 h1x Z63 Z64) rfl rfl rfl (fun q1 => ?_)
  refine zs rfl <| zn <| zq <| zr <| ?_
  exact zz rfl rfl fun w' H' => ⟨q1, rfl, H'.ent Z8⟩
 have hin : i < n := by omega
 have h1a : ∀ v ∈ cs.drop (i * 3), v.oneCell' = true := fun v hv => h1c v (List.mem_of_mem_drop hv)
 have hdl : (cs.drop (i * 3)).length = (n - i) * 3 := by rw [List.length_drop, hl, Nat.sub_mul]
 have hal : (cs.take (i * 3)).length = i * 3 := by rw [List.length_take, hl, Nat.min_eq_left Z64]
 refine HC.rowOpen (cs := cs) A Z64 ?_
 rintro b pre rest rfl _ _ _ hrest
 refine zk <| hc_seq <| zg <| zm rfl <| zm rfl <| zv (ov_add rfl rfl Z28) <| ?_
 refine zm rfl <| zv (ov_cap rfl) <| zv (ov_gtr rfl rfl) <| zn <| hc_cond rfl (fun h2 => ?_) (fun h2 => ?_)
 ·refine zg <| zm rfl <| zm rfl <| hl_v (ov_slTo rfl i rfl Z64) rfl ?_
  refine zm rfl <| zm rfl <| hl_v (ov_add (m := ((n + 1 : Nat) : Int)) rfl rfl Z36) rfl ?_
  refine zm rfl <| hl_v (ov_sub (m := ((n + 1 - i : Nat) : Int)) rfl rfl Z36) rfl ?_
  refine hl_new (on_appendZr (m := n + 1 - i) (cs := cs.take (i * 3)) rfl rfl rfl (SrcIs.blkAt' (b := b) pre.length take_get) hal Z64 Z64 Z63 Z63 Z64) rfl rfl rfl ?_
  rintro ⟨pA, pc⟩
  dsimp only
  rw [show i + (n + 1 - i) = n + 1 by omega, show n + 1 - i = (n - i) + 1 by omega, zerosL_succ]
  refine HL.rowOpen pA (by rw [List.length_append, List.length_append]; show 0 < _ + (3 + _); omega) ?_
  rintro b2 pre2 rest2 rfl hl2 hc2 hc63' hrest2
  refine zs rfl <| zn <| zg <| zm rfl <| zm rfl <| hl_v (ov_slFrom rfl i rfl Z64 hc2 Z64) rfl ?_
  refine zm rfl <| hl_u (on_copy (news := xs) rfl rfl SrcIs.blk0 Z64 Z64 (by rw [List.length_append, List.length_append, hl2, hx3]; omega) h1x) rfl rfl rfl ?_
  refine zn <| hc_seq <| hc_tail 8 mixed Z61 ?_
  refine ht_v (ov_move rfl) rfl <| ht_v (ov_move rfl) rfl <| ht_v (ov_move rfl) rfl <| ?_
  refine ht_v (ov_add (m := ((i + 1 : Nat) : Int)) rfl rfl Z36) rfl ?_
  refine ht_v (ov_slFrom rfl (i + 1) rfl Z64 hc2 Z64) rfl ?_
  refine ht_v (ov_move rfl) rfl <| ht_v (ov_move rfl) rfl <| ?_
  refine ht_v (ov_slFrom rfl i rfl Z64 hnc Z64) rfl ?_
  refine ht_nil <| ?_
  refine hl_u (on_copy (news := cs.drop (i * 3)) rfl rfl (SrcIs.blkAt' (b := b) _ (drop_get rfl Z64)) hdl Z64 (by rw [setSeg_length, List.length_append, List.length_append, hl2, hdl]; omega) h1a) rfl rfl rfl ?_
  refine zn <| zg <| zm rfl <| zs rfl <| zn <| zq <| zr <| ?_
  have hz := zerosL_length [.int .u64 0, .int .i64 0, .int .i64 0] (n - i)
  rw [show pre2.length + (i + 1) * 3 = pre2.length + (i * 3 + 3) by omega, ins_new pre2 (cs.take (i * 3)) [.int .u64 0, .int .i64 0, .int .i64 0] (zerosL [.int .u64 0, .int .i64 0, .int .i64 0] (n - i)) rest2 xs (cs.drop (i * 3)) (i * 3) hal hx3 rfl (by rw [hz, hdl]; rfl)]
  exact zz rfl rfl fun w' H' => ⟨(some ⟨b2, pre2.length, none⟩, pc), rfl, H'.ent (Ent.trans (Ent.row_blk Z18 hc2 hc63' hrest2) (Ent.cons (Ent.nil _)))⟩
 have hnc1 : n + 1 ≤ cap := by omega
 have hrl : 3 ≤ rest.length := by have : 1 * 3 ≤ (cap - n) * 3 := Nat.mul_le_mul_right _ Z64
                                  omega
 refine zk <| zg <| zm rfl <| zm rfl <| zm rfl <| hl_v (ov_add (m := ((n + 1 : Nat) : Int)) rfl rfl Z36) rfl ?_
 refine hl_v (ov_slTo rfl (n + 1) rfl hnc1) rfl <| zs rfl <| zn <| hc_seq <| zg <| zm rfl <| zm rfl <| zm rfl <| zm rfl <| hl_v (ov_add (m := ((i + 1 : Nat) : Int)) rfl rfl Z36) rfl ?_
 refine hl_v (ov_slFrom rfl (i + 1) rfl Z64 hnc1 Z64) rfl ?_
 refine hl_v (ov_callv rfl (fun w H => run_ovl (tS := 47) (tR := 4) (bx := bx) (b := b) Tryz.func167 Z61 Z61 Z61 Z61 H Z64 (by rw [List.length_append, List.length_append]; omega))) rfl ?_
 refine zv (ov_not rfl) <| zn <| hc_cond_true rfl <| hc_seq <| hc_tail 8 mixed Z61 ?_
 refine ht_v (ov_move rfl) rfl <| ht_v (ov_move rfl) rfl <| ht_v (ov_move rfl) rfl <| ?_
 refine ht_v (ov_add (m := ((i + 1 : Nat) : Int)) rfl rfl Z36) rfl ?_
 refine ht_v (ov_slFrom rfl (i + 1) rfl Z64 hnc1 Z64) rfl ?_
 refine ht_v (ov_move rfl) rfl <| ht_v (ov_move rfl) rfl <| ?_
 refine ht_v (ov_slFrom rfl i rfl Z64 hnc1 Z64) rfl ?_
 refine ht_nil <| ?_
 refine hl_u (on_copyD (news := cs.drop (i * 3)) rfl rfl (SrcIs.blkAt' (b := b) _ (drop_get rfl Z64)) (by rw [hdl]; congr 1; omega) Z64 Z20 h1a) rfl rfl rfl ?_
 refine zn <| zg <| zm rfl <| zm rfl <| hl_v (ov_slFrom rfl i rfl Z64 hnc1 Z64) rfl ?_
 refine zm rfl <| hl_u (on_copy (news := xs) rfl rfl SrcIs.blk0 Z64 Z64 (by rw [setSeg_length, List.length_append, List.length_append, hl, hx3]; omega) h1x) rfl rfl rfl ?_
 refine zn <| zg <| zm rfl <| zs rfl <| zn <| zq <| zr <| ?_
 rw [show pre.length + (i + 1) * 3 = pre.length + (i * 3 + 3) by omega, ins_place pre cs rest xs (i * 3) Z64 hx3 hrl]
 exact zz rfl rfl fun w' H' => ⟨(some ⟨b, pre.length, none⟩, cap), rfl, H'.ent (Ent.trans (Ent.row_blk Z18 hnc1 hc63 (by rw [List.length_drop, Nat.sub_mul] at *; omega)) (Ent.cons (Ent.nil _)))⟩


theorem RepV_set (A : Option Addr) (n cap i bx : Nat) (cs xs : List Value) (hi : i < n) (hn : n ≤ 100000) (hx3 : xs.length = 3) (h1c : ∀ v ∈ cs, v.oneCell' = true) (h1x : ∀ v ∈ xs, v.oneCell' = true) (H : Own D w w [row A 147 3 n cap cs, blk0 bx 147 xs]) :
  Calls Tryz.prog 153 #[.slice A n cap, .int .i64 i, .int .i64 ((i + 1 : Nat) : Int), .slice (some ⟨bx, 0, none⟩) 1 1] w fun e w' => ∃ q : Option Addr × Nat, e = .returned (.slice q.1 n q.2) ∧ Own D w w' [row q.1 147 3 n q.2 (cs.take (i * 3) ++ xs ++ cs.drop (i * 3 + 3))] := by
 refine hc_enter (vs := [.slice A n cap, .int .i64 i, .int .i64 ((i + 1 : Nat) : Int), .slice (some ⟨bx, 0, none⟩) 1 1]) Tryz.func153 rfl _ Tryz.ntmps153 rfl H ?_
 simp only [argSlots, Nat.zero_add]
 refine HC.fact (fun w H => Own.factR A H) ?_
 rintro ⟨hl, hnc, hc63, hA⟩
 have hal : (cs.take (i * 3)).length = i * 3 := by rw [List.length_take, hl, Nat.min_eq_left Z64]
 have hdl : (cs.drop (i * 3 + 3)).length = (n - (i + 1)) * 3 := by rw [List.length_drop, hl]; omega
 refine zg <| zs rfl <| zn <| hc_seq <| hc_region <| zm rfl <| zm rfl <| zm rfl <| zv (ov_slice rfl _ _ (.inr ⟨_, _, rfl, rfl⟩) (.inr ⟨_, _, rfl, rfl⟩) Z64 Z64) <| hl_nil <| ?_
 refine zt <| hc_seq <| zg <| zm rfl <| zm rfl <| zv (ov_eql rfl rfl) <| zn <| hc_cond_F rfl Z64 ?_
 refine zk <| hc_seq <| zg <| zm rfl <| zm rfl <| zv Z25 <| ?_
 refine zv (ov_eql rfl rfl) <| zn <| hc_cond rfl (fun h => ?_) (fun h => ?_)
 ·have hin : i + 1 = n := by omega
  subst hin
  have hd0 : cs.drop (i * 3 + 3) = [] := List.eq_nil_of_length_eq_zero (by rw [hdl]; simp)
  rw [hd0, List.append_nil]
  refine zg <| zm rfl <| zm rfl <| hl_v (ov_slTo rfl i rfl Z64) rfl ?_
  refine zm rfl <| HL.ent (Ent.row_take i Z64) ?_
  refine hl_new (on_appendR (A := A) (news := xs) rfl rfl SrcIs.blk0 Z64 h1x Z63 Z64) rfl rfl rfl (fun q1 => ?_)
  refine zs rfl <| zn <| hc_seq <| zg <| zm rfl <| zv Z25 <| ?_
  refine zm rfl <| zv Z25 <| ?_
  refine zv (ov_lss rfl rfl) <| zn <| hc_cond_F rfl Z64 ?_
  refine zk <| zg <| zm rfl <| zs rfl <| zn <| zq <| zr <| ?_
  exact zz rfl rfl fun w' H' => ⟨q1, rfl, H'.ent Z8⟩
 have h1d : ∀ v ∈ cs.drop (i * 3 + 3), v.oneCell' = true := fun v hv => h1c v (List.mem_of_mem_drop hv)
 refine HC.rowOpen (cs := cs) A Z64 ?_
 rintro b pre rest rfl _ _ _ hrest
 refine zk <| hc_seq <| hc_quiet mixed Z61 <| hq_v (ov_move rfl) rfl <| hq_v (ov_move rfl) rfl <| ?_
 refine hq_v (ov_slice rfl _ _ (.inl ⟨rfl, rfl⟩) (.inr ⟨_, _, rfl, rfl⟩) Z64 Z64) rfl <| hq_v Z25 rfl <| ?_
 refine hq_v (ov_move rfl) rfl <| hq_v Z25 rfl <| ?_
 refine hq_v (ov_add rfl rfl Z28) rfl <| ?_
 refine hq_v (ov_move rfl) rfl <| hq_v (ov_move rfl) rfl <| hq_v (ov_slice rfl _ _ (.inr ⟨_, _, rfl, rfl⟩) (.inl ⟨rfl, rfl⟩) Z64 Z64) rfl <| hq_v Z25 rfl <| ?_
 refine hq_v (ov_add (m := (n : Int)) rfl rfl Z36) rfl ?_
 refine hq_v (ov_assign rfl) rfl <| hq_nil <| zt <| hc_seq <| zg <| ?_
 refine zm rfl <| zm rfl <| zv (ov_cap rfl) <| zv (ov_gtr rfl rfl) <| zn <| hc_cond_F rfl Z64 ?_
 refine zk <| zg <| zm rfl <| zm rfl <| hl_v (ov_slTo rfl n rfl Z64) rfl ?_
 refine zs rfl <| zn <| hc_seq <| zg <| zm rfl <| zm rfl <| zv Z25 <| ?_
 refine zv (ov_add rfl rfl Z28) <| ?_
 refine zm rfl <| zv (ov_leq rfl rfl) <| zn <| hc_cond_T rfl Z64 ?_
 refine zg <| zm rfl <| zm rfl <| hl_v (ov_slFrom rfl i rfl Z64 hnc Z64) rfl ?_
 refine zm rfl <| hl_u (on_copy (news := xs) rfl rfl SrcIs.blk0 Z64 Z64 (by rw [List.length_append, List.length_append, hl, hx3]; omega) h1x) rfl rfl rfl ?_
 rw [set_place pre cs rest xs (i * 3) Z64 hx3]
 refine zn <| hc_seq <| hc_tail 9 mixed Z61 ?_
 refine ht_v (ov_move rfl) rfl <| ht_v (ov_move rfl) rfl <| ht_v (ov_move rfl) rfl <| ht_v Z25 rfl <| ?_
 refine ht_v (ov_add (m := ((i + 1 : Nat) : Int)) rfl rfl Z36) rfl ?_
 refine ht_v (ov_slFrom rfl (i + 1) rfl Z64 hnc Z64) rfl ?_
 refine ht_v (ov_move rfl) rfl <| ht_v (ov_move rfl) rfl <| ?_
 refine ht_v (ov_slFrom rfl (i + 1) rfl Z64 hnc Z64) rfl ?_
 refine ht_nil <| ?_
 refine hl_u (on_copy (m := n - (i + 1)) (news := cs.drop (i * 3 + 3)) rfl rfl (SrcIs.blkAt' (b := b) _ (fun j v hv => by have := mid_get (a := pre ++ (cs.take (i * 3) ++ xs)) (news := cs.drop (i * 3 + 3)) (c := rest) j v hv; rw [List.length_append, List.length_append, hal, hx3] at this; rw [show pre.length + (i + 1) * 3 + j = pre.length + (i * 3 + 3) + j by omega, show pre ++ (cs.take (i * 3) ++ xs ++ cs.drop (i * 3 + 3)) ++ rest = pre ++ (cs.take (i * 3) ++ xs) ++ cs.drop (i * 3 + 3) ++ rest by simp only [List.append_assoc]]; exact this)) hdl Z64 (by rw [List.length_append, List.length_append, List.length_append, List.length_append, hal, hx3, hdl]; omega) h1d) rfl rfl rfl ?_
 rw [show pre.length + (i + 1) * 3 = pre.length + (i * 3 + 3) by omega, same_place pre (cs.take (i * 3)) xs (cs.drop (i * 3 + 3)) rest (i * 3 + 3) (by rw [List.length_append, hal, hx3])]
 refine zn <| zg <| zm rfl <| zm rfl <| hl_v (ov_sl (.slice (if cap = n then some ⟨b, pre.length, none⟩ else (some (⟨b, pre.length, none⟩ : Addr)).map (·.add (n * 3))) 0 (cap - n)) rfl n n (.inr ⟨_, _, rfl, rfl⟩) (.inl ⟨rfl, rfl⟩) (Nat.le_refl _) hnc (by rw [Nat.sub_self])) rfl ?_
 refine hl_u0 (ov_clear0 rfl) rfl rfl ?_
 refine zn <| zg <| zm rfl <| zs rfl <| zn <| zq <| zr <| ?_
 exact zz rfl rfl fun w' H' => ⟨(some ⟨b, pre.length, none⟩, cap), rfl, H'.ent (Ent.trans (Ent.row_blk Z18 hnc hc63 hrest) (Ent.cons (Ent.nil _)))⟩
theorem RepV_del (A : Option Addr) (n cap i : Nat) (cs : List Value) (hi : i < n) (hn : n ≤ 100000) (h1c : ∀ v ∈ cs, v.oneCell' = true) (H : Own D w w [row A 147 3 n cap cs]) :
  Calls Tryz.prog 153 #[.slice A n cap, .int .i64 i, .int .i64 ((i + 1 : Nat) : Int), .slice none 0 0] w fun e w' => ∃ q : Option Addr × Nat, e = .returned (.slice q.1 (n - 1) q.2) ∧ Own D w w' [row q.1 147 3 (n - 1) q.2 (cs.take (i * 3) ++ cs.drop (i * 3 + 3))] := by
 refine hc_enter (vs := [.slice A n cap, .int .i64 i, .int .i64 ((i + 1 : Nat) : Int), .slice none 0 0]) Tryz.func153 rfl _ Tryz.ntmps153 rfl H ?_
 simp only [argSlots, Nat.zero_add]
 refine HC.fact (fun w H => Own.factR A H) ?_
 rintro ⟨hl, hnc, hc63, hA⟩
 have hal : (cs.take (i * 3)).length = i * 3 := by rw [List.length_take, hl, Nat.min_eq_left Z64]
 have hdl : (cs.drop (i * 3 + 3)).length = (n - (i + 1)) * 3 := by rw [List.length_drop, hl]; omega
 refine zg <| zs rfl <| zn <| hc_seq <| hc_region <| zm rfl <| zm rfl <| zm rfl <| zv (ov_slice rfl _ _ (.inr ⟨_, _, rfl, rfl⟩) (.inr ⟨_, _, rfl, rfl⟩) Z64 Z64) <| hl_nil <| ?_
 refine zt <| hc_seq <| zg <| zm rfl <| zm rfl <| zv (ov_eql rfl rfl) <| zn <| hc_cond_F rfl Z64 ?_
 refine HC.rowOpen (cs := cs) A Z64 ?_
 rintro b pre rest rfl _ _ _ hrest
 have hcr : (cap - (n - 1)) * 3 ≤ (([.int .i64 0, .int .u8 0, .int .u8 0] : List Value) ++ rest).length := by rw [List.length_append]; show _ ≤ 3 + _; omega
 refine zk <| hc_seq <| zg <| zm rfl <| zm rfl <| zv Z25 <| ?_
 refine zv (ov_eql rfl rfl) <| zn <| hc_cond rfl (fun h => ?_) (fun h => ?_)
 ·have hin : i + 1 = n := by omega
  subst hin
  have hd0 : cs.drop (i * 3 + 3) = [] := List.eq_nil_of_length_eq_zero (by rw [hdl]; simp)
  refine zg <| zm rfl <| zm rfl <| hl_v (ov_slTo rfl i rfl Z64) rfl ?_
  refine zm rfl <| hl_v (ov_append0 rfl rfl Z64) rfl ?_
  refine zs rfl <| zn <| hc_seq <| zg <| zm rfl <| zv Z25 <| ?_
  refine zm rfl <| zv Z25 <| ?_
  refine zv (ov_lss rfl rfl) <| zn <| hc_cond_T rfl Z64 ?_
  refine hc_region <| zm rfl <| zm rfl <| zv Z25 <| ?_
  refine hl_v (ov_slFrom rfl i rfl Z64 hnc Z64) rfl ?_
  refine hl_u0 (on_clear (s := 3) (b := b) (z := [.int .i64 0, .int .u8 0, .int .u8 0]) rfl Z64 (by rw [List.length_append, List.length_append, hl]; omega) Z49) rfl rfl ?_
  rw [show i + 1 - i = 1 by omega, zerosL_one, set_place pre cs rest [.int .i64 0, .int .u8 0, .int .u8 0] (i * 3) Z64 rfl, hd0, List.append_nil, List.append_nil]
  refine zn <| zg <| zm rfl <| zs rfl <| zn <| zq <| zr <| ?_
  exact zz rfl rfl fun w' H' => ⟨(some ⟨b, pre.length, none⟩, cap), rfl, H'.ent (Ent.trans (b := [blk b 147 (pre ++ cs.take (i * 3) ++ ([.int .i64 0, .int .u8 0, .int .u8 0] ++ rest))]) (by rw [show pre ++ (cs.take (i * 3) ++ [.int .i64 0, .int .u8 0, .int .u8 0]) ++ rest = pre ++ cs.take (i * 3) ++ ([.int .i64 0, .int .u8 0, .int .u8 0] ++ rest) by simp only [List.append_assoc]]; exact Ent.refl _) (Ent.row_blk (by rw [hal]; rfl) Z64 hc63 hcr))⟩
 have h1d : ∀ v ∈ cs.drop (i * 3 + 3), v.oneCell' = true := fun v hv => h1c v (List.mem_of_mem_drop hv)
 refine zk <| hc_seq <| hc_quiet mixed Z61 <| hq_v (ov_move rfl) rfl <| hq_v (ov_move rfl) rfl <| ?_
 refine hq_v (ov_slice rfl _ _ (.inl ⟨rfl, rfl⟩) (.inr ⟨_, _, rfl, rfl⟩) Z64 Z64) rfl <| hq_v Z25 rfl <| ?_
 refine hq_v (ov_move rfl) rfl <| hq_v Z25 rfl <| ?_
 refine hq_v (ov_add rfl rfl Z28) rfl <| ?_
 refine hq_v (ov_move rfl) rfl <| hq_v (ov_move rfl) rfl <| hq_v (ov_slice rfl _ _ (.inr ⟨_, _, rfl, rfl⟩) (.inl ⟨rfl, rfl⟩) Z64 Z64) rfl <| hq_v Z25 rfl <| ?_
 refine hq_v (ov_add (m := ((n - 1 : Nat) : Int)) rfl rfl Z36) rfl ?_
 refine hq_v (ov_assign rfl) rfl <| hq_nil <| zt <| hc_seq <| zg <| ?_
 refine zm rfl <| zm rfl <| zv (ov_cap rfl) <| zv (ov_gtr rfl rfl) <| zn <| hc_cond_F rfl Z64 ?_
 refine zk <| zg <| zm rfl <| zm rfl <| hl_v (ov_slTo rfl (n - 1) rfl Z64) rfl ?_
 refine zs rfl <| zn <| hc_seq <| zg <| zm rfl <| zm rfl <| zv Z25 <| ?_
 refine zv (ov_add rfl rfl Z28) <| ?_
 refine zm rfl <| zv (ov_leq rfl rfl) <| zn <| hc_cond_T rfl Z64 ?_
 refine zg <| zm rfl <| zm rfl <| hl_v (ov_slFrom rfl i rfl Z64 Z64 Z64) rfl ?_
 refine zm rfl <| hl_u (on_copy (m := 0) (B := none) (news := []) rfl rfl SrcIs.nil rfl Z64 (by rw [List.length_append, List.length_append, hl]; show _ + 0 ≤ _; omega) (fun v hv => by cases hv)) rfl rfl rfl ?_
 rw [setSeg_nil]
 refine zn <| hc_seq <| hc_tail 9 mixed Z61 ?_
 refine ht_v (ov_move rfl) rfl <| ht_v (ov_move rfl) rfl <| ht_v (ov_move rfl) rfl <| ht_v Z25 rfl <| ?_
 refine ht_v (ov_add (m := (i : Int)) rfl rfl Z36) rfl ?_
 refine ht_v (ov_slFrom rfl i rfl Z64 Z64 Z64) rfl ?_
 refine ht_v (ov_move rfl) rfl <| ht_v (ov_move rfl) rfl <| ?_
 refine ht_v (ov_slFrom rfl (i + 1) rfl Z64 hnc Z64) rfl ?_
 refine ht_nil <| ?_
 refine hl_u (on_copy (m := n - (i + 1)) (news := cs.drop (i * 3 + 3)) rfl rfl (SrcIs.blkAt' (b := b) _ (drop_get Z64 Z64)) hdl Z64 Z20 h1d) rfl rfl rfl ?_
 refine zn <| zg <| zm rfl <| zm rfl <| hl_v (ov_slFrom rfl (n - 1) rfl Z64 hnc Z64) rfl ?_
 refine hl_u0 (on_clear (s := 3) (b := b) (z := [.int .i64 0, .int .u8 0, .int .u8 0]) rfl Z64 (by rw [setSeg_length, List.length_append, List.length_append, hl]; omega) Z49) rfl rfl ?_
 rw [show n - (n - 1) = 1 by omega, zerosL_one, show pre.length + (n - 1) * 3 = pre.length + (cs.length - 3) by omega, del_place pre cs rest [.int .i64 0, .int .u8 0, .int .u8 0] (i * 3) Z64 rfl]
 refine zn <| zg <| zm rfl <| zs rfl <| zn <| zq <| zr <| ?_
 exact zz rfl rfl fun w' H' => ⟨(some ⟨b, pre.length, none⟩, cap), rfl, H'.ent (Ent.row_blk (by rw [List.length_append, hal, hdl]; omega) Z64 hc63 hcr)⟩
theorem plcV_ins (A : Option Addr) (n cap i bx : Nat) (cs xs : List Value) (hi : i ≤ n) (hn : n ≤ 100000) (hx3 : xs.length = 3) (h1c : ∀ v ∈ cs, v.oneCell' = true) (h1x : ∀ v ∈ xs, v.oneCell' = true) (H : Own D w w [row A 147 3 n cap cs, blk0 bx 147 xs]) :
  Calls Tryz.prog 133 #[.slice A n cap, .int .i64 i, .bool false, .slice (some ⟨bx, 0, none⟩) 1 1] w fun e w' => ∃ q : Option Addr × Nat, e = .returned (.slice q.1 (n + 1) q.2) ∧ Own D w w' [row q.1 147 3 (n + 1) q.2 (cs.take (i * 3) ++ xs ++ cs.drop (i * 3))] := by
 refine hc_enter (vs := [.slice A n cap, .int .i64 i, .bool false, .slice (some ⟨bx, 0, none⟩) 1 1]) Tryz.func133 rfl _ Tryz.ntmps133 rfl H ?_
 simp only [argSlots, Nat.zero_add]
 refine zg <| zs rfl <| zn <| hc_seq <| zg <| zm rfl <| zn <| hc_cond_false rfl <| zk <| zg <| zm rfl <| zm rfl <| zm rfl <| HL.ent (Ent.fold (L := [row A 147 3 n cap cs, blk0 bx 147 xs]) (l := [])) ?_
 refine hl_call (σ := Option Addr × Nat) Tryz.call154 rfl rfl (fun w1 => zpx (stars [row A 147 3 n cap cs, blk0 bx 147 xs]) fun D' _ _ H2 => InsV_spec D' w1 A n cap i bx cs xs hi hn hx3 h1c h1x (H2.ent Ent.flat)) ?_
 intro q
 refine zs rfl <| zn <| zq <| ?_
 exact zz rfl rfl fun w' H' => ⟨q, rfl, H'.ent Z8⟩
theorem plcV_set (A : Option Addr) (n cap i bx : Nat) (cs xs : List Value) (hi : i < n) (hn : n ≤ 100000) (hx3 : xs.length = 3) (h1c : ∀ v ∈ cs, v.oneCell' = true) (h1x : ∀ v ∈ xs, v.oneCell' = true) (H : Own D w w [row A 147 3 n cap cs, blk0 bx 147 xs]) :
  Calls Tryz.prog 133 #[.slice A n cap, .int .i64 i, .bool true, .slice (some ⟨bx, 0, none⟩) 1 1] w fun e w' => ∃ q : Option Addr × Nat, e = .returned (.slice q.1 n q.2) ∧ Own D w w' [row q.1 147 3 n q.2 (cs.take (i * 3) ++ xs ++ cs.drop (i * 3 + 3))] := by
 refine hc_enter (vs := [.slice A n cap, .int .i64 i, .bool true, .slice (some ⟨bx, 0, none⟩) 1 1]) Tryz.func133 rfl _ Tryz.ntmps133 rfl H ?_
 simp only [argSlots, Nat.zero_add]
 refine zg <| zs rfl <| zn <| hc_seq <| zg <| zm rfl <| zn <| hc_cond_true rfl <| zg <| zm rfl <| zm rfl <| zm rfl <| hl_v (ov_add (m := ((i + 1 : Nat) : Int)) rfl rfl Z36) rfl ?_
 refine zm rfl <| HL.ent (Ent.fold (L := [row A 147 3 n cap cs, blk0 bx 147 xs]) (l := [])) ?_
 refine hl_call (σ := Option Addr × Nat) Tryz.call153 rfl rfl (fun w1 => zpx (stars [row A 147 3 n cap cs, blk0 bx 147 xs]) fun D' _ _ H2 => RepV_set D' w1 A n cap i bx cs xs hi hn hx3 h1c h1x (H2.ent Ent.flat)) ?_
 intro q
 refine zs rfl <| zn <| zq <| zr <| ?_
 exact zz rfl rfl fun w' H' => ⟨q, rfl, H'.ent Z8⟩
theorem plcV_del (A : Option Addr) (n cap i : Nat) (cs : List Value) (hi : i < n) (hn : n ≤ 100000) (h1c : ∀ v ∈ cs, v.oneCell' = true) (H : Own D w w [row A 147 3 n cap cs]) :
  Calls Tryz.prog 133 #[.slice A n cap, .int .i64 i, .bool true, .slice none 0 0] w fun e w' => ∃ q : Option Addr × Nat, e = .returned (.slice q.1 (n - 1) q.2) ∧ Own D w w' [row q.1 147 3 (n - 1) q.2 (cs.take (i * 3) ++ cs.drop (i * 3 + 3))] := by
 refine hc_enter (vs := [.slice A n cap, .int .i64 i, .bool true, .slice none 0 0]) Tryz.func133 rfl _ Tryz.ntmps133 rfl H ?_
 simp only [argSlots, Nat.zero_add]
 refine zg <| zs rfl <| zn <| hc_seq <| zg <| zm rfl <| zn <| hc_cond_true rfl <| zg <| zm rfl <| zm rfl <| zm rfl <| hl_v (ov_add (m := ((i + 1 : Nat) : Int)) rfl rfl Z36) rfl ?_
 refine zm rfl <| hl_call (σ := Option Addr × Nat) Tryz.call153 rfl rfl (fun w1 => zpx (row A 147 3 n cap cs) fun D' _ _ H2 => RepV_del D' w1 A n cap i cs hi hn h1c H2) ?_
 intro q
 refine zs rfl <| zn <| zq <| zr <| ?_
 exact zz rfl rfl fun w' H' => ⟨q, rfl, H'.ent Z8⟩


theorem RepS_set (A : Option Addr) (n cap i bx : Nat) (cs xs : List Value) (hi : i < n) (hn : n ≤ 100000) (hx3 : xs.length = 3) (h1c : ∀ v ∈ cs, v.oneCell' = true) (h1x : ∀ v ∈ xs, v.oneCell' = true) (H : Own D w w [row A 149 3 n cap cs, blk0 bx 149 xs]) :
  Calls Tryz.prog 155 #[.slice A n cap, .int .i64 i, .int .i64 ((i + 1 : Nat) : Int), .slice (some ⟨bx, 0, none⟩) 1 1] w fun e w' => ∃ q : Option Addr × Nat, e = .returned (.slice q.1 n q.2) ∧ Own D w w' [row q.1 149 3 n q.2 (cs.take (i * 3) ++ xs ++ cs.drop (i * 3 + 3))] := by
 refine hc_enter (vs := [.slice A n cap, .int .i64 i, .int .i64 ((i + 1 : Nat) : Int), .slice (some ⟨bx, 0, none⟩) 1 1]) Tryz.func155 rfl _ Tryz.ntmps155 rfl H ?_
 simp only [argSlots, Nat.zero_add]
 refine HC.fact (fun w H => Own.factR A H) ?_
 rintro ⟨hl, hnc, hc63, hA⟩
 have hal : (cs.take (i * 3)).length = i * 3 := by rw [List.length_take, hl, Nat.min_eq_left Z64]
 have hdl : (cs.drop (i * 3 + 3)).length = (n - (i + 1)) * 3 := by rw [List.length_drop, hl]; omega
 refine zg <| zs rfl <| zn <| hc_seq <| hc_region <| zm rfl <| zm rfl <| zm rfl <| zv (ov_slice rfl _ _ (.inr ⟨_, _, rfl, rfl⟩) (.inr ⟨_, _, rfl, rfl⟩) Z64 Z64) <| hl_nil <| ?_
 refine zt <| hc_seq <| zg <| zm rfl <| zm rfl <| zv (ov_eql rfl rfl) <| zn <| hc_cond_F rfl Z64 ?_
 refine zk <| hc_seq <| zg <| zm rfl <| zm rfl <| zv Z25 <| ?_
 refine zv (ov_eql rfl rfl) <| zn <| hc_cond rfl (fun h => ?_) (fun h => ?_)
 ·have hin : i + 1 = n := by omega
  subst hin
  have hd0 : cs.drop (i * 3 + 3) = [] := List.eq_nil_of_length_eq_zero (by rw [hdl]; simp)
  rw [hd0, List.append_nil]
  refine zg <| zm rfl <| zm rfl <| hl_v (ov_slTo rfl i rfl Z64) rfl ?_
  refine zm rfl <| HL.ent (Ent.row_take i Z64) ?_
  refine hl_new (on_appendR (A := A) (news := xs) rfl rfl SrcIs.blk0 Z64 h1x Z63 Z64) rfl rfl rfl (fun q1 => ?_)
  refine zs rfl <| zn <| hc_seq <| zg <| zm rfl <| zv Z25 <| ?_
  refine zm rfl <| zv Z25 <| ?_
  refine zv (ov_lss rfl rfl) <| zn <| hc_cond_F rfl Z64 ?_
  refine zk <| zg <| zm rfl <| zs rfl <| zn <| zq <| zr <| ?_
  exact zz rfl rfl fun w' H' => ⟨q1, rfl, H'.ent Z8⟩
 have h1d : ∀ v ∈ cs.drop (i * 3 + 3), v.oneCell' = true := fun v hv => h1c v (List.mem_of_mem_drop hv)
 refine HC.rowOpen (cs := cs) A Z64 ?_
 rintro b pre rest rfl _ _ _ hrest
 refine zk <| hc_seq <| hc_quiet mixed Z61 <| hq_v (ov_move rfl) rfl <| hq_v (ov_move rfl) rfl <| ?_
 refine hq_v (ov_slice rfl _ _ (.inl ⟨rfl, rfl⟩) (.inr ⟨_, _, rfl, rfl⟩) Z64 Z64) rfl <| hq_v Z25 rfl <| ?_
 refine hq_v (ov_move rfl) rfl <| hq_v Z25 rfl <| ?_
 refine hq_v (ov_add rfl rfl Z28) rfl <| ?_
 refine hq_v (ov_move rfl) rfl <| hq_v (ov_move rfl) rfl <| hq_v (ov_slice rfl _ _ (.inr ⟨_, _, rfl, rfl⟩) (.inl ⟨rfl, rfl⟩) Z64 Z64) rfl <| hq_v Z25 rfl <| ?_
 refine hq_v (ov_add (m := (n : Int)) rfl rfl Z36) rfl ?_
 refine hq_v (ov_assign rfl) rfl <| hq_nil <| zt <| hc_seq <| zg <| ?_
 refine zm rfl <| zm rfl <| zv (ov_cap rfl) <| zv (ov_gtr rfl rfl) <| zn <| hc_cond_F rfl Z64 ?_
 refine zk <| zg <| zm rfl <| zm rfl <| hl_v (ov_slTo rfl n rfl Z64) rfl ?_
 refine zs rfl <| zn <| hc_seq <| zg <| zm rfl <| zm rfl <| zv Z25 <| ?_
 refine zv (ov_add rfl rfl Z28) <| ?_
 refine zm rfl <| zv (ov_leq rfl rfl) <| zn <| hc_cond_T rfl Z64 ?_
 refine zg <| zm rfl <| zm rfl <| hl_v (ov_slFrom rfl i rfl Z64 hnc Z64) rfl ?_
 refine zm rfl <| hl_u (on_copy (news := xs) rfl rfl SrcIs.blk0 Z64 Z64 (by rw [List.length_append, List.length_append, hl, hx3]; omega) h1x) rfl rfl rfl ?_
 rw [set_place pre cs rest xs (i * 3) Z64 hx3]
 refine zn <| hc_seq <| hc_tail 9 mixed Z61 ?_
 refine ht_v (ov_move rfl) rfl <| ht_v (ov_move rfl) rfl <| ht_v (ov_move rfl) rfl <| ht_v Z25 rfl <| ?_
 refine ht_v (ov_add (m := ((i + 1 : Nat) : Int)) rfl rfl Z36) rfl ?_
 refine ht_v (ov_slFrom rfl (i + 1) rfl Z64 hnc Z64) rfl ?_
 refine ht_v (ov_move rfl) rfl <| ht_v (ov_move rfl) rfl <| ?_
 refine ht_v (ov_slFrom rfl (i + 1) rfl Z64 hnc Z64) rfl ?_
 refine ht_nil <| ?_
 refine hl_u (on_copy (m := n - (i + 1)) (news := cs.drop (i * 3 + 3)) rfl rfl (SrcIs.blkAt' (b := b) _ (fun j v hv => by have := mid_get (a := pre ++ (cs.take (i * 3) ++ xs)) (news := cs.drop (i * 3 + 3)) (c := rest) j v hv; rw [List.length_append, List.length_append, hal, hx3] at this; rw [show pre.length + (i + 1) * 3 + j = pre.length + (i * 3 + 3) + j by omega, show pre ++ (cs.take (i * 3) ++ xs ++ cs.drop (i * 3 + 3)) ++ rest = pre ++ (cs.take (i * 3) ++ xs) ++ cs.drop (i * 3 + 3) ++ rest by simp only [List.append_assoc]]; exact this)) hdl Z64 (by rw [List.length_append, List.length_append, List.length_append, List.length_append, hal, hx3, hdl]; omega) h1d) rfl rfl rfl ?_
 rw [show pre.length + (i + 1) * 3 = pre.length + (i * 3 + 3) by omega, same_place pre (cs.take (i * 3)) xs (cs.drop (i * 3 + 3)) rest (i * 3 + 3) (by rw [List.length_append, hal, hx3])]
 refine zn <| zg <| zm rfl <| zm rfl <| hl_v (ov_sl (.slice (if cap = n then some ⟨b, pre.length, none⟩ else (some (⟨b, pre.length, none⟩ : Addr)).map (·.add (n * 3))) 0 (cap - n)) rfl n n (.inr ⟨_, _, rfl, rfl⟩) (.inl ⟨rfl, rfl⟩) (Nat.le_refl _) hnc (by rw [Nat.sub_self])) rfl ?_
 refine hl_u0 (ov_clear0 rfl) rfl rfl ?_
 refine zn <| zg <| zm rfl <| zs rfl <| zn <| zq <| zr <| ?_
 exact zz rfl rfl fun w' H' => ⟨(some ⟨b, pre.length, none⟩, cap), rfl, H'.ent (Ent.trans (Ent.row_blk Z18 hnc hc63 hrest) (Ent.cons (Ent.nil _)))⟩
theorem RepS_del (A : Option Addr) (n cap i : Nat) (cs : List Value) (hi : i < n) (hn : n ≤ 100000) (h1c : ∀ v ∈ cs, v.oneCell' = true) (H : Own D w w [row A 149 3 n cap cs]) :
  Calls Tryz.prog 155 #[.slice A n cap, .int .i64 i, .int .i64 ((i + 1 : Nat) : Int), .slice none 0 0] w fun e w' => ∃ q : Option Addr × Nat, e = .returned (.slice q.1 (n - 1) q.2) ∧ Own D w w' [row q.1 149 3 (n - 1) q.2 (cs.take (i * 3) ++ cs.drop (i * 3 + 3))] := by
 refine hc_enter (vs := [.slice A n cap, .int .i64 i, .int .i64 ((i + 1 : Nat) : Int), .slice none 0 0]) Tryz.func155 rfl _ Tryz.ntmps155 rfl H ?_
 simp only [argSlots, Nat.zero_add]
 refine HC.fact (fun w H => Own.factR A H) ?_
 rintro ⟨hl, hnc, hc63, hA⟩
 have hal : (cs.take (i * 3)).length = i * 3 := by rw [List.length_take, hl, Nat.min_eq_left Z64]
 have hdl : (cs.drop (i * 3 + 3)).length = (n - (i + 1)) * 3 := by rw [List.length_drop, hl]; omega
 refine zg <| zs rfl <| zn <| hc_seq <| hc_region <| zm rfl <| zm rfl <| zm rfl <| zv (ov_slice rfl _ _ (.inr ⟨_, _, rfl, rfl⟩) (.inr ⟨_, _, rfl, rfl⟩) Z64 Z64) <| hl_nil <| ?_
 refine zt <| hc_seq <| zg <| zm rfl <| zm rfl <| zv (ov_eql rfl rfl) <| zn <| hc_cond_F rfl Z64 ?_
 refine HC.rowOpen (cs := cs) A Z64 ?_
 rintro b pre rest rfl _ _ _ hrest
 have hcr : (cap - (n - 1)) * 3 ≤ (([.int .u64 0, .int .i64 0, .int .i64 0] : List Value) ++ rest).length := by rw [List.length_append]; show _ ≤ 3 + _; omega
 refine zk <| hc_seq <| zg <| zm rfl <| zm rfl <| zv Z25 <| ?_
 refine zv (ov_eql rfl rfl) <| zn <| hc_cond rfl (fun h => ?_) (fun h => ?_)
 ·have hin : i + 1 = n := by omega
  subst hin
  have hd0 : cs.drop (i * 3 + 3) = [] := List.eq_nil_of_length_eq_zero (by rw [hdl]; simp)
  refine zg <| zm rfl <| zm rfl <| hl_v (ov_slTo rfl i rfl Z64) rfl ?_
  refine zm rfl <| hl_v (ov_append0 rfl rfl Z64) rfl ?_
  refine zs rfl <| zn <| hc_seq <| zg <| zm rfl <| zv Z25 <| ?_
  refine zm rfl <| zv Z25 <| ?_
  refine zv (ov_lss rfl rfl) <| zn <| hc_cond_T rfl Z64 ?_
  refine hc_region <| zm rfl <| zm rfl <| zv Z25 <| ?_
  refine hl_v (ov_slFrom rfl i rfl Z64 hnc Z64) rfl ?_
  refine hl_u0 (on_clear (s := 3) (b := b) (z := [.int .u64 0, .int .i64 0, .int .i64 0]) rfl Z64 (by rw [List.length_append, List.length_append, hl]; omega) Z49) rfl rfl ?_
  rw [show i + 1 - i = 1 by omega, zerosL_one, set_place pre cs rest [.int .u64 0, .int .i64 0, .int .i64 0] (i * 3) Z64 rfl, hd0, List.append_nil, List.append_nil]
  refine zn <| zg <| zm rfl <| zs rfl <| zn <| zq <| zr <| ?_
  exact zz rfl rfl fun w' H' => ⟨(some ⟨b, pre.length, none⟩, cap), rfl, H'.ent (Ent.trans (b := [blk b 149 (pre ++ cs.take (i * 3) ++ ([.int .u64 0, .int .i64 0, .int .i64 0] ++ rest))]) (by rw [show pre ++ (cs.take (i * 3) ++ [.int .u64 0, .int .i64 0, .int .i64 0]) ++ rest = pre ++ cs.take (i * 3) ++ ([.int .u64 0, .int .i64 0, .int .i64 0] ++ rest) by simp only [List.append_assoc]]; exact Ent.refl _) (Ent.row_blk (by rw [hal]; rfl) Z64 hc63 hcr))⟩
 have h1d : ∀ v ∈ cs.drop (i * 3 + 3), v.oneCell' = true := fun v hv => h1c v (List.mem_of_mem_drop hv)
 refine zk <| hc_seq <| hc_quiet mixed Z61 <| hq_v (ov_move rfl) rfl <| hq_v (ov_move rfl) rfl <| ?_
 refine hq_v (ov_slice rfl _ _ (.inl ⟨rfl, rfl⟩) (.inr ⟨_, _, rfl, rfl⟩) Z64 Z64) rfl <| hq_v Z25 rfl <| ?_
 refine hq_v (ov_move rfl) rfl <| hq_v Z25 rfl <| ?_
 refine hq_v (ov_add rfl rfl Z28) rfl <| ?_
 refine hq_v (ov_move rfl) rfl <| hq_v (ov_move rfl) rfl <| hq_v (ov_slice rfl _ _ (.inr ⟨_, _, rfl, rfl⟩) (.inl ⟨rfl, rfl⟩) Z64 Z64) rfl <| hq_v Z25 rfl <| ?_
 refine hq_v (ov_add (m := ((n - 1 : Nat) : Int)) rfl rfl Z36) rfl ?_
 refine hq_v (ov_assign rfl) rfl <| hq_nil <| zt <| hc_seq <| zg <| ?_
 refine zm rfl <| zm rfl <| zv (ov_cap rfl) <| zv (ov_gtr rfl rfl) <| zn <| hc_cond_F rfl Z64 ?_
 refine zk <| zg <| zm rfl <| zm rfl <| hl_v (ov_slTo rfl (n - 1) rfl Z64) rfl ?_
 refine zs rfl <| zn <| hc_seq <| zg <| zm rfl <| zm rfl <| zv Z25 <| ?_
 refine zv (ov_add rfl rfl Z28) <| ?_
 refine zm rfl <| zv (ov_leq rfl rfl) <| zn <| hc_cond_T rfl Z64 ?_
 refine zg <| zm rfl <| zm rfl <| hl_v (ov_slFrom rfl i rfl Z64 Z64 Z64) rfl ?_
 refine zm rfl <| hl_u (on_copy (m := 0) (B := none) (news := []) rfl rfl SrcIs.nil rfl Z64 (by rw [List.length_append, List.length_append, hl]; show _ + 0 ≤ _; omega) (fun v hv => by cases hv)) rfl rfl rfl ?_
 rw [setSeg_nil]
 refine zn <| hc_seq <| hc_tail 9 mixed Z61 ?_
 refine ht_v (ov_move rfl) rfl <| ht_v (ov_move rfl) rfl <| ht_v (ov_move rfl) rfl <| ht_v Z25 rfl <| ?_
 refine ht_v (ov_add (m := (i : Int)) rfl rfl Z36) rfl ?_
 refine ht_v (ov_slFrom rfl i rfl Z64 Z64 Z64) rfl ?_
 refine ht_v (ov_move rfl) rfl <| ht_v (ov_move rfl) rfl <| ?_
 refine ht_v (ov_slFrom rfl (i + 1) rfl Z64 hnc Z64) rfl ?_
 refine ht_nil <| ?_
 refine hl_u (on_copy (m := n - (i + 1)) (news := cs.drop (i * 3 + 3)) rfl rfl (SrcIs.blkAt' (b := b) _ (drop_get Z64 Z64)) hdl Z64 Z20 h1d) rfl rfl rfl ?_
 refine zn <| zg <| zm rfl <| zm rfl <| hl_v (ov_slFrom rfl (n - 1) rfl Z64 hnc Z64) rfl ?_
 refine hl_u0 (on_clear (s := 3) (b := b) (z := [.int .u64 0, .int .i64 0, .int .i64 0]) rfl Z64 (by rw [setSeg_length, List.length_append, List.length_append, hl]; omega) Z49) rfl rfl ?_
 rw [show n - (n - 1) = 1 by omega, zerosL_one, show pre.length + (n - 1) * 3 = pre.length + (cs.length - 3) by omega, del_place pre cs rest [.int .u64 0, .int .i64 0, .int .i64 0] (i * 3) Z64 rfl]
 refine zn <| zg <| zm rfl <| zs rfl <| zn <| zq <| zr <| ?_
 exact zz rfl rfl fun w' H' => ⟨(some ⟨b, pre.length, none⟩, cap), rfl, H'.ent (Ent.row_blk (by rw [List.length_append, hal, hdl]; omega) Z64 hc63 hcr)⟩
theorem plcS_ins (A : Option Addr) (n cap i bx : Nat) (cs xs : List Value) (hi : i ≤ n) (hn : n ≤ 100000) (hx3 : xs.length = 3) (h1c : ∀ v ∈ cs, v.oneCell' = true) (h1x : ∀ v ∈ xs, v.oneCell' = true) (H : Own D w w [row A 149 3 n cap cs, blk0 bx 149 xs]) :
  Calls Tryz.prog 134 #[.slice A n cap, .int .i64 i, .bool false, .slice (some ⟨bx, 0, none⟩) 1 1] w fun e w' => ∃ q : Option Addr × Nat, e = .returned (.slice q.1 (n + 1) q.2) ∧ Own D w w' [row q.1 149 3 (n + 1) q.2 (cs.take (i * 3) ++ xs ++ cs.drop (i * 3))] := by
 refine hc_enter (vs := [.slice A n cap, .int .i64 i, .bool false, .slice (some ⟨bx, 0, none⟩) 1 1]) Tryz.func134 rfl _ Tryz.ntmps134 rfl H ?_
 simp only [argSlots, Nat.zero_add]
 refine zg <| zs rfl <| zn <| hc_seq <| zg <| zm rfl <| zn <| hc_cond_false rfl <| zk <| zg <| zm rfl <| zm rfl <| zm rfl <| HL.ent (Ent.fold (L := [row A 149 3 n cap cs, blk0 bx 149 xs]) (l := [])) ?_
 refine hl_call (σ := Option Addr × Nat) Tryz.call156 rfl rfl (fun w1 => zpx (stars [row A 149 3 n cap cs, blk0 bx 149 xs]) fun D' _ _ H2 => InsS_spec D' w1 A n cap i bx cs xs hi hn hx3 h1c h1x (H2.ent Ent.flat)) ?_
 intro q
 refine zs rfl <| zn <| zq <| ?_
 exact zz rfl rfl fun w' H' => ⟨q, rfl, H'.ent Z8⟩
theorem plcS_set (A : Option Addr) (n cap i bx : Nat) (cs xs : List Value) (hi : i < n) (hn : n ≤ 100000) (hx3 : xs.length = 3) (h1c : ∀ v ∈ cs, v.oneCell' = true) (h1x : ∀ v ∈ xs, v.oneCell' = true) (H : Own D w w [row A 149 3 n cap cs, blk0 bx 149 xs]) :
  Calls Tryz.prog 134 #[.slice A n cap, .int .i64 i, .bool true, .slice (some ⟨bx, 0, none⟩) 1 1] w fun e w' => ∃ q : Option Addr × Nat, e = .returned (.slice q.1 n q.2) ∧ Own D w w' [row q.1 149 3 n q.2 (cs.take (i * 3) ++ xs ++ cs.drop (i * 3 + 3))] := by
 refine hc_enter (vs := [.slice A n cap, .int .i64 i, .bool true, .slice (some ⟨bx, 0, none⟩) 1 1]) Tryz.func134 rfl _ Tryz.ntmps134 rfl H ?_
 simp only [argSlots, Nat.zero_add]
 refine zg <| zs rfl <| zn <| hc_seq <| zg <| zm rfl <| zn <| hc_cond_true rfl <| zg <| zm rfl <| zm rfl <| zm rfl <| hl_v (ov_add (m := ((i + 1 : Nat) : Int)) rfl rfl Z36) rfl ?_
 refine zm rfl <| HL.ent (Ent.fold (L := [row A 149 3 n cap cs, blk0 bx 149 xs]) (l := [])) ?_
 refine hl_call (σ := Option Addr × Nat) Tryz.call155 rfl rfl (fun w1 => zpx (stars [row A 149 3 n cap cs, blk0 bx 149 xs]) fun D' _ _ H2 => RepS_set D' w1 A n cap i bx cs xs hi hn hx3 h1c h1x (H2.ent Ent.flat)) ?_
 intro q
 refine zs rfl <| zn <| zq <| zr <| ?_
 exact zz rfl rfl fun w' H' => ⟨q, rfl, H'.ent Z8⟩
theorem plcS_del (A : Option Addr) (n cap i : Nat) (cs : List Value) (hi : i < n) (hn : n ≤ 100000) (h1c : ∀ v ∈ cs, v.oneCell' = true) (H : Own D w w [row A 149 3 n cap cs]) :
  Calls Tryz.prog 134 #[.slice A n cap, .int .i64 i, .bool true, .slice none 0 0] w fun e w' => ∃ q : Option Addr × Nat, e = .returned (.slice q.1 (n - 1) q.2) ∧ Own D w w' [row q.1 149 3 (n - 1) q.2 (cs.take (i * 3) ++ cs.drop (i * 3 + 3))] := by
 refine hc_enter (vs := [.slice A n cap, .int .i64 i, .bool true, .slice none 0 0]) Tryz.func134 rfl _ Tryz.ntmps134 rfl H ?_
 simp only [argSlots, Nat.zero_add]
 refine zg <| zs rfl <| zn <| hc_seq <| zg <| zm rfl <| zn <| hc_cond_true rfl <| zg <| zm rfl <| zm rfl <| zm rfl <| hl_v (ov_add (m := ((i + 1 : Nat) : Int)) rfl rfl Z36) rfl ?_
 refine zm rfl <| hl_call (σ := Option Addr × Nat) Tryz.call155 rfl rfl (fun w1 => zpx (row A 149 3 n cap cs) fun D' _ _ H2 => RepS_del D' w1 A n cap i cs hi hn h1c H2) ?_
 intro q
 refine zs rfl <| zn <| zq <| zr <| ?_
 exact zz rfl rfl fun w' H' => ⟨q, rfl, H'.ent Z8⟩

end Go.Proofs.YtjlolpmmpafjeaaGreat
