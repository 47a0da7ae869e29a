import Derived.Test.YtjlolpmmpafjeaaGreatU04
set_option linter.unusedVariables false
set_option linter.unusedSimpArgs false
namespace Go.Proofs.YtjlolpmmpafjeaaGreat
open CN
variable (D : Nat → Prop) (w : World)
theorem aG (pre cs rest xs : List Value) (k : Nat) (hk : k ≤ cs.length) (hx : xs.length = 3) (hr : 3 ≤ rest.length) :
  FH (FH (pre ++ cs ++ rest) (pre.length + (k + 3)) (cs.drop k)) (pre.length + k) xs = pre ++ (cs.take k ++ xs ++ cs.drop k) ++ rest.drop 3 := by
 have hdl : (cs.drop k).length = cs.length - k := List.length_drop
 have hal : (cs.take k).length = k := by rw [List.length_take]; omega
 obtain ⟨a, ha⟩ : ∃ a, a = cs.take k := ⟨_, rfl⟩
 obtain ⟨d, hd⟩ : ∃ d, d = cs.drop k := ⟨_, rfl⟩
 have hcs : cs = a ++ d := by rw [ha, hd, List.take_append_drop]
 rw [← ha] at hal ⊢
 rw [← hd] at hdl ⊢
 obtain ⟨h, hh⟩ : ∃ h, h = (d ++ rest).take 3 := ⟨_, rfl⟩
 obtain ⟨t, ht⟩ : ∃ t, t = ((d ++ rest).drop 3).take d.length := ⟨_, rfl⟩
 have hhl : h.length = 3 := by rw [hh, List.length_take, List.length_append]; omega
 have htl : t.length = d.length := by rw [ht, List.length_take, List.length_drop, List.length_append]; omega
 have hr' : ((d ++ rest).drop 3).drop d.length = rest.drop 3 := by
  rw [List.drop_drop, Nat.add_comm, ← List.drop_drop, List.drop_left]
 have hsplit : d ++ rest = h ++ t ++ rest.drop 3 := by
  rw [hh, ht, List.append_assoc, ← hr', List.take_append_drop, List.take_append_drop]
 have e1 : pre ++ cs ++ rest = (pre ++ a ++ h) ++ t ++ rest.drop 3 := by
  rw [hcs]; simp only [List.append_assoc] at hsplit ⊢; rw [hsplit]
 have e2 := L2 (pre ++ a ++ h) t (rest.drop 3) d (pre.length + (k + 3)) (by simp only [List.length_append, hal, hhl]; omega) htl.symm
 rw [e1, e2]
 have e3 := L2 (pre ++ a) h (d ++ rest.drop 3) xs (pre.length + k) VA (by rw [hx, hhl])
 rw [show pre ++ a ++ h ++ d ++ rest.drop 3 = pre ++ a ++ h ++ (d ++ rest.drop 3) by simp only [List.append_assoc], e3]
 simp only [List.append_assoc]
theorem fT (pre a z3 zr rest xs d : List Value) (k : Nat) (hal : a.length = k) (hx : xs.length = 3) (hz : z3.length = 3) (hzr : zr.length = d.length) :
  FH (FH (pre ++ (a ++ (z3 ++ zr)) ++ rest) (pre.length + k) xs) (pre.length + (k + 3)) d = pre ++ (a ++ xs ++ d) ++ rest := by
 have e1 := L2 (pre ++ a) z3 (zr ++ rest) xs (pre.length + k) VA AA
 rw [show pre ++ (a ++ (z3 ++ zr)) ++ rest = pre ++ a ++ z3 ++ (zr ++ rest) by simp only [List.append_assoc], e1]
 have e2 := L2 (pre ++ a ++ xs) zr rest d (pre.length + (k + 3)) (by simp only [List.length_append, hal, hx]; omega) hzr.symm
 rw [show pre ++ a ++ xs ++ (zr ++ rest) = pre ++ a ++ xs ++ zr ++ rest by simp only [List.append_assoc], e2]
 simp only [List.append_assoc]
theorem T6 (pre cs rest xs : List Value) (k : Nat) (hk : k + 3 ≤ cs.length) (hx : xs.length = 3) :
  FH (pre ++ cs ++ rest) (pre.length + k) xs = pre ++ (cs.take k ++ xs ++ cs.drop (k + 3)) ++ rest := by
 have hal : (cs.take k).length = k := by rw [List.length_take]; omega
 have hcs : cs = cs.take k ++ (cs.drop k).take 3 ++ cs.drop (k + 3) := by
  rw [List.append_assoc, ← List.drop_drop, List.take_append_drop, List.take_append_drop]
 have e1 := L2 (pre ++ cs.take k) ((cs.drop k).take 3) (cs.drop (k + 3) ++ rest) xs (pre.length + k) VA (by rw [hx, List.length_take, List.length_drop]; omega)
 have e0 : pre ++ cs ++ rest = pre ++ cs.take k ++ (cs.drop k).take 3 ++ (cs.drop (k + 3) ++ rest) := by
  have : pre ++ cs ++ rest = pre ++ (cs.take k ++ (cs.drop k).take 3 ++ cs.drop (k + 3)) ++ rest := by rw [← hcs]
  rw [this]; simp only [List.append_assoc]
 rw [e0, e1]
 simp only [List.append_assoc]
theorem ZY (pre a xs d rest : List Value) (k : Nat) (hk : (a ++ xs).length = k) : FH (pre ++ (a ++ xs ++ d) ++ rest) (pre.length + k) d = pre ++ (a ++ xs ++ d) ++ rest := by
 have e1 := L2 (pre ++ (a ++ xs)) d rest d (pre.length + k) (by rw [List.length_append, hk]) rfl
 rw [show pre ++ (a ++ xs ++ d) ++ rest = pre ++ (a ++ xs) ++ d ++ rest by simp only [List.append_assoc], e1]
theorem bB (pre cs rest : List Value) (z : List Value) (k : Nat) (hk : k + 3 ≤ cs.length) (hz : z.length = 3) :
  FH (FH (pre ++ cs ++ rest) (pre.length + k) (cs.drop (k + 3))) (pre.length + (cs.length - 3)) z = pre ++ (cs.take k ++ cs.drop (k + 3)) ++ (z ++ rest) := by
 have hal : (cs.take k).length = k := by rw [List.length_take]; omega
 obtain ⟨d, hd⟩ : ∃ d, d = cs.drop (k + 3) := ⟨_, rfl⟩
 have hdl : d.length = cs.length - (k + 3) := by rw [hd, List.length_drop]
 obtain ⟨a, ha⟩ : ∃ a, a = cs.take k := ⟨_, rfl⟩
 rw [← ha] at hal
 obtain ⟨m, hm⟩ : ∃ m, m = (cs.drop k).take d.length := ⟨_, rfl⟩
 obtain ⟨u, hu⟩ : ∃ u, u = (cs.drop k).drop d.length := ⟨_, rfl⟩
 have hml : m.length = d.length := by rw [hm, List.length_take, List.length_drop]; omega
 have hul : u.length = 3 := by rw [hu, List.length_drop, List.length_drop]; omega
 have hcs : cs = a ++ m ++ u := by rw [ha, hm, hu, List.append_assoc, List.take_append_drop, List.take_append_drop]
 rw [← hd, ← ha]
 have hlen : cs.length - 3 = k + d.length := by omega
 rw [hlen]
 have e1 := L2 (pre ++ a) m (u ++ rest) d (pre.length + k) VA hml.symm
 rw [show pre ++ cs ++ rest = pre ++ a ++ m ++ (u ++ rest) by rw [hcs]; simp only [List.append_assoc], e1]
 have e2 := L2 (pre ++ a ++ d) u rest z (pre.length + (k + d.length)) (by simp only [List.length_append, hal]; omega) AA
 rw [show pre ++ a ++ d ++ (u ++ rest) = pre ++ a ++ d ++ u ++ rest by simp only [List.append_assoc], e2]
 simp only [List.append_assoc]
theorem ZB (cs : List Value) (o : Nat) : FH cs o [] = cs := rfl
theorem QY {pre cs rest : List Value} {k o : Nat} (ho : o = pre.length + k) (hk : k ≤ cs.length) : ∀ i v, (cs.drop k)[i]? = some v → (pre ++ cs ++ rest)[o + i]? = some v := fun i v hv => by
 rw [List.getElem?_drop] at hv
 have := UM (a := pre) (news := cs) (c := rest) (k + i) v hv
 rw [ho, Nat.add_assoc]; exact this
theorem dJ {pre cs rest : List Value} {k : Nat} : ∀ i v, (cs.take k)[i]? = some v → (pre ++ cs ++ rest)[pre.length + i]? = some v := fun i v hv => by
 rw [List.getElem?_take] at hv
 split at hv
 ·exact UM i v hv
 ·cases hv
theorem YU (z : List Value) (n : Nat) : DW z (n + 1) = z ++ DW z n := by simp [DW, List.replicate_succ]
theorem TL (z : List Value) : DW z 1 = z := by simp [DW, List.replicate_succ]

theorem nK (A : Option Addr) (n cap i bx : Nat) (cs xs : List Value) (hi : i ≤ n) (hn : n ≤ 100000) (hx3 : xs.length = 3) (h1c : ∀ v ∈ cs, v.oneCell' = true) (h1x : ∀ v ∈ xs, v.oneCell' = true) (H : AH D w w [row A 147 3 n cap cs, EJ bx 147 xs]) :
  Calls Tryz.prog 154 #[.slice A n cap, .int .i64 i, .slice (some ⟨bx, 0, none⟩) 1 1] w fun e w' => ∃ q : Option Addr × Nat, e = .returned (.slice q.1 (n + 1) q.2) ∧ AH D w w' [row q.1 147 3 (n + 1) q.2 (cs.take (i * 3) ++ xs ++ cs.drop (i * 3))] := by
 refine BZ (vs := [.slice A n cap, .int .i64 i, .slice (some ⟨bx, 0, none⟩) 1 1]) Tryz.func154 rfl _ Tryz.ntmps154 rfl H ?_
 simp only [BX, Nat.zero_add]
 refine HC.fact (fun w H => AH.GS A H) ?_
 rintro ⟨hl, hnc, hc63, hA⟩
 refine zg <| zs rfl <| zn <| AG <| AR <| zm rfl <| zm rfl <| zv (FE rfl _ _ (.inr ⟨_, _, rfl, rfl⟩) (.inl ⟨rfl, rfl⟩) AA AA) <| zn <| ?_
 refine zg <| zm rfl <| zv BN <| ?_
 refine zs rfl <| zn <| AG <| zg <| zm rfl <| zv (CO rfl rfl) <| zn <| CP rfl AA ?_
 refine zk <| zg <| zm rfl <| zv BN <| ?_
 refine zs rfl <| zn <| AG <| zg <| zm rfl <| zm rfl <| zv (CO rfl rfl) <| zn <| BP rfl (fun h => ?_) (fun h => ?_)
 ·have hin : i = n := by omega
  subst hin
  rw [show cs.take (i * 3) ++ xs ++ cs.drop (i * 3) = cs ++ xs by rw [← hl, List.take_length, List.drop_length, List.append_nil]]
  refine zg <| zm rfl <| zm rfl <| AV (BT (A := A) (news := xs) rfl rfl BB.EJ AA h1x AF AA) rfl rfl rfl (fun q1 => ?_)
  refine zs rfl <| zn <| zq <| zr <| ?_
  exact zz rfl rfl fun w' H' => ⟨q1, rfl, H'.AK Z8⟩
 have hin : i < n := by omega
 have h1a : ∀ v ∈ cs.drop (i * 3), v.oneCell' = true := fun v hv => h1c v (List.mem_of_mem_drop hv)
 have hdl : (cs.drop (i * 3)).length = (n - i) * 3 := by rw [List.length_drop, hl, Nat.sub_mul]
 have hal : (cs.take (i * 3)).length = i * 3 := by rw [List.length_take, hl, Nat.min_eq_left AA]
 refine HC.N1 (cs := cs) A AA ?_
 rintro b pre rest rfl _ _ _ hrest
 refine zk <| AG <| zg <| zm rfl <| zm rfl <| zv (BM rfl rfl BO) <| ?_
 refine zm rfl <| zv (N4 rfl) <| zv (DV rfl rfl) <| zn <| BP rfl (fun h2 => ?_) (fun h2 => ?_)
 ·refine zg <| zm rfl <| zm rfl <| AZ (J9 rfl i rfl AA) rfl ?_
  refine zm rfl <| zm rfl <| AZ (BM (m := ((n + 1 : Nat) : Int)) rfl rfl E3) rfl ?_
  refine zm rfl <| AZ (FY (m := ((n + 1 - i : Nat) : Int)) rfl rfl E3) rfl ?_
  refine AV (YX (m := n + 1 - i) (cs := cs.take (i * 3)) rfl rfl rfl (BB.NH (b := b) pre.length dJ) hal AA AA AF AF AA) rfl rfl rfl ?_
  rintro ⟨pA, pc⟩
  dsimp only
  rw [show i + (n + 1 - i) = n + 1 by omega, show n + 1 - i = (n - i) + 1 by omega, YU]
  refine HL.N1 pA (by rw [List.length_append, List.length_append]; show 0 < _ + (3 + _); omega) ?_
  rintro b2 pre2 rest2 rfl hl2 hc2 hc63' hrest2
  refine zs rfl <| zn <| zg <| zm rfl <| zm rfl <| AZ (GZ rfl i rfl AA hc2 AA) rfl ?_
  refine zm rfl <| EN (JR (news := xs) rfl rfl BB.EJ AA AA (by rw [List.length_append, List.length_append, hl2, hx3]; omega) h1x) rfl rfl rfl ?_
  refine zn <| AG <| E2 8 mixed AB ?_
  refine AT (AO rfl) rfl <| AT (AO rfl) rfl <| AT (AO rfl) rfl <| ?_
  refine AT (BM (m := ((i + 1 : Nat) : Int)) rfl rfl E3) rfl ?_
  refine AT (GZ rfl (i + 1) rfl AA hc2 AA) rfl ?_
  refine AT (AO rfl) rfl <| AT (AO rfl) rfl <| ?_
  refine AT (GZ rfl i rfl AA hnc AA) rfl ?_
  refine EV <| ?_
  refine EN (JR (news := cs.drop (i * 3)) rfl rfl (BB.NH (b := b) _ (QY rfl AA)) hdl AA (by rw [NQ, List.length_append, List.length_append, hl2, hdl]; omega) h1a) rfl rfl rfl ?_
  refine zn <| zg <| zm rfl <| zs rfl <| zn <| zq <| zr <| ?_
  have hz := MH [.int .i64 0, .int .u8 0, .int .u8 0] (n - i)
  rw [show pre2.length + (i + 1) * 3 = pre2.length + (i * 3 + 3) by omega, fT pre2 (cs.take (i * 3)) [.int .i64 0, .int .u8 0, .int .u8 0] (DW [.int .i64 0, .int .u8 0, .int .u8 0] (n - i)) rest2 xs (cs.drop (i * 3)) (i * 3) hal hx3 rfl (by rw [hz, hdl]; rfl)]
  exact zz rfl rfl fun w' H' => ⟨(some ⟨b2, pre2.length, none⟩, pc), rfl, H'.AK (AD.trans (AD.NF RU hc2 hc63' hrest2) (AD.cons (AD.nil _)))⟩
 have hnc1 : n + 1 ≤ cap := by omega
 have hrl : 3 ≤ rest.length := by have : 1 * 3 ≤ (cap - n) * 3 := Nat.mul_le_mul_right _ AA
                                  omega
 refine zk <| zg <| zm rfl <| zm rfl <| zm rfl <| AZ (BM (m := ((n + 1 : Nat) : Int)) rfl rfl E3) rfl ?_
 refine AZ (J9 rfl (n + 1) rfl hnc1) rfl <| zs rfl <| zn <| AG <| zg <| zm rfl <| zm rfl <| zm rfl <| zm rfl <| AZ (BM (m := ((i + 1 : Nat) : Int)) rfl rfl E3) rfl ?_
 refine AZ (GZ rfl (i + 1) rfl AA hnc1 AA) rfl ?_
 refine AZ (dN rfl (fun w H => fG (tS := 46) (tR := 4) (bx := bx) (b := b) Tryz.func164 AB AB AB AB H AA (by rw [List.length_append, List.length_append]; omega))) rfl ?_
 refine zv (P0 rfl) <| zn <| DD rfl <| AG <| E2 8 mixed AB ?_
 refine AT (AO rfl) rfl <| AT (AO rfl) rfl <| AT (AO rfl) rfl <| ?_
 refine AT (BM (m := ((i + 1 : Nat) : Int)) rfl rfl E3) rfl ?_
 refine AT (GZ rfl (i + 1) rfl AA hnc1 AA) rfl ?_
 refine AT (AO rfl) rfl <| AT (AO rfl) rfl <| ?_
 refine AT (GZ rfl i rfl AA hnc1 AA) rfl ?_
 refine EV <| ?_
 refine EN (dS (news := cs.drop (i * 3)) rfl rfl (BB.NH (b := b) _ (QY rfl AA)) (by rw [hdl]; congr 1; omega) AA VG h1a) rfl rfl rfl ?_
 refine zn <| zg <| zm rfl <| zm rfl <| AZ (GZ rfl i rfl AA hnc1 AA) rfl ?_
 refine zm rfl <| EN (JR (news := xs) rfl rfl BB.EJ AA AA (by rw [NQ, List.length_append, List.length_append, hl, hx3]; omega) h1x) rfl rfl rfl ?_
 refine zn <| zg <| zm rfl <| zs rfl <| zn <| zq <| zr <| ?_
 rw [show pre.length + (i + 1) * 3 = pre.length + (i * 3 + 3) by omega, aG pre cs rest xs (i * 3) AA hx3 hrl]
 exact zz rfl rfl fun w' H' => ⟨(some ⟨b, pre.length, none⟩, cap), rfl, H'.AK (AD.trans (AD.NF RU hnc1 hc63 (by rw [List.length_drop, Nat.sub_mul] at *; omega)) (AD.cons (AD.nil _)))⟩


theorem mD (A : Option Addr) (n cap i bx : Nat) (cs xs : List Value) (hi : i ≤ n) (hn : n ≤ 100000) (hx3 : xs.length = 3) (h1c : ∀ v ∈ cs, v.oneCell' = true) (h1x : ∀ v ∈ xs, v.oneCell' = true) (H : AH D w w [row A 149 3 n cap cs, EJ bx 149 xs]) :
  Calls Tryz.prog 156 #[.slice A n cap, .int .i64 i, .slice (some ⟨bx, 0, none⟩) 1 1] w fun e w' => ∃ q : Option Addr × Nat, e = .returned (.slice q.1 (n + 1) q.2) ∧ AH D w w' [row q.1 149 3 (n + 1) q.2 (cs.take (i * 3) ++ xs ++ cs.drop (i * 3))] := by
 refine BZ (vs := [.slice A n cap, .int .i64 i, .slice (some ⟨bx, 0, none⟩) 1 1]) Tryz.func156 rfl _ Tryz.ntmps156 rfl H ?_
 simp only [BX, Nat.zero_add]
 refine HC.fact (fun w H => AH.GS A H) ?_
 rintro ⟨hl, hnc, hc63, hA⟩
 refine zg <| zs rfl <| zn <| AG <| AR <| zm rfl <| zm rfl <| zv (FE rfl _ _ (.inr ⟨_, _, rfl, rfl⟩) (.inl ⟨rfl, rfl⟩) AA AA) <| zn <| ?_
 refine zg <| zm rfl <| zv BN <| ?_
 refine zs rfl <| zn <| AG <| zg <| zm rfl <| zv (CO rfl rfl) <| zn <| CP rfl AA ?_
 refine zk <| zg <| zm rfl <| zv BN <| ?_
 refine zs rfl <| zn <| AG <| zg <| zm rfl <| zm rfl <| zv (CO rfl rfl) <| zn <| BP rfl (fun h => ?_) (fun h => ?_)
 ·have hin : i = n := by omega
  subst hin
  rw [show cs.take (i * 3) ++ xs ++ cs.drop (i * 3) = cs ++ xs by rw [← hl, List.take_length, List.drop_length, List.append_nil]]
  refine zg <| zm rfl <| zm rfl <| AV (BT (A := A) (news := xs) rfl rfl BB.EJ AA h1x AF AA) rfl rfl rfl (fun q1 => ?_)
  refine zs rfl <| zn <| zq <| zr <| ?_
  exact zz rfl rfl fun w' H' => ⟨q1, rfl, H'.AK Z8⟩
 have hin : i < n := by omega
 have h1a : ∀ v ∈ cs.drop (i * 3), v.oneCell' = true := fun v hv => h1c v (List.mem_of_mem_drop hv)
 have hdl : (cs.drop (i * 3)).length = (n - i) * 3 := by rw [List.length_drop, hl, Nat.sub_mul]
 have hal : (cs.take (i * 3)).length = i * 3 := by rw [List.length_take, hl, Nat.min_eq_left AA]
 refine HC.N1 (cs := cs) A AA ?_
 rintro b pre rest rfl _ _ _ hrest
 refine zk <| AG <| zg <| zm rfl <| zm rfl <| zv (BM rfl rfl BO) <| ?_
 refine zm rfl <| zv (N4 rfl) <| zv (DV rfl rfl) <| zn <| BP rfl (fun h2 => ?_) (fun h2 => ?_)
 ·refine zg <| zm rfl <| zm rfl <| AZ (J9 rfl i rfl AA) rfl ?_
  refine zm rfl <| zm rfl <| AZ (BM (m := ((n + 1 : Nat) : Int)) rfl rfl E3) rfl ?_
  refine zm rfl <| AZ (FY (m := ((n + 1 - i : Nat) : Int)) rfl rfl E3) rfl ?_
  refine AV (YX (m := n + 1 - i) (cs := cs.take (i * 3)) rfl rfl rfl (BB.NH (b := b) pre.length dJ) hal AA AA AF AF AA) rfl rfl rfl ?_
  rintro ⟨pA, pc⟩
  dsimp only
  rw [show i + (n + 1 - i) = n + 1 by omega, show n + 1 - i = (n - i) + 1 by omega, YU]
  refine HL.N1 pA (by rw [List.length_append, List.length_append]; show 0 < _ + (3 + _); omega) ?_
  rintro b2 pre2 rest2 rfl hl2 hc2 hc63' hrest2
  refine zs rfl <| zn <| zg <| zm rfl <| zm rfl <| AZ (GZ rfl i rfl AA hc2 AA) rfl ?_
  refine zm rfl <| EN (JR (news := xs) rfl rfl BB.EJ AA AA (by rw [List.length_append, List.length_append, hl2, hx3]; omega) h1x) rfl rfl rfl ?_
  refine zn <| AG <| E2 8 mixed AB ?_
  refine AT (AO rfl) rfl <| AT (AO rfl) rfl <| AT (AO rfl) rfl <| ?_
  refine AT (BM (m := ((i + 1 : Nat) : Int)) rfl rfl E3) rfl ?_
  refine AT (GZ rfl (i + 1) rfl AA hc2 AA) rfl ?_
  refine AT (AO rfl) rfl <| AT (AO rfl) rfl <| ?_
  refine AT (GZ rfl i rfl AA hnc AA) rfl ?_
  refine EV <| ?_
  refine EN (JR (news := cs.drop (i * 3)) rfl rfl (BB.NH (b := b) _ (QY rfl AA)) hdl AA (by rw [NQ, List.length_append, List.length_append, hl2, hdl]; omega) h1a) rfl rfl rfl ?_
  refine zn <| zg <| zm rfl <| zs rfl <| zn <| zq <| zr <| ?_
  have hz := MH [.int .u64 0, .int .i64 0, .int .i64 0] (n - i)
  rw [show pre2.length + (i + 1) * 3 = pre2.length + (i * 3 + 3) by omega, fT pre2 (cs.take (i * 3)) [.int .u64 0, .int .i64 0, .int .i64 0] (DW [.int .u64 0, .int .i64 0, .int .i64 0] (n - i)) rest2 xs (cs.drop (i * 3)) (i * 3) hal hx3 rfl (by rw [hz, hdl]; rfl)]
  exact zz rfl rfl fun w' H' => ⟨(some ⟨b2, pre2.length, none⟩, pc), rfl, H'.AK (AD.trans (AD.NF RU hc2 hc63' hrest2) (AD.cons (AD.nil _)))⟩
 have hnc1 : n + 1 ≤ cap := by omega
 have hrl : 3 ≤ rest.length := by have : 1 * 3 ≤ (cap - n) * 3 := Nat.mul_le_mul_right _ AA
                                  omega
 refine zk <| zg <| zm rfl <| zm rfl <| zm rfl <| AZ (BM (m := ((n + 1 : Nat) : Int)) rfl rfl E3) rfl ?_
 refine AZ (J9 rfl (n + 1) rfl hnc1) rfl <| zs rfl <| zn <| AG <| zg <| zm rfl <| zm rfl <| zm rfl <| zm rfl <| AZ (BM (m := ((i + 1 : Nat) : Int)) rfl rfl E3) rfl ?_
 refine AZ (GZ rfl (i + 1) rfl AA hnc1 AA) rfl ?_
 refine AZ (dN rfl (fun w H => fG (tS := 47) (tR := 4) (bx := bx) (b := b) Tryz.func167 AB AB AB AB H AA (by rw [List.length_append, List.length_append]; omega))) rfl ?_
 refine zv (P0 rfl) <| zn <| DD rfl <| AG <| E2 8 mixed AB ?_
 refine AT (AO rfl) rfl <| AT (AO rfl) rfl <| AT (AO rfl) rfl <| ?_
 refine AT (BM (m := ((i + 1 : Nat) : Int)) rfl rfl E3) rfl ?_
 refine AT (GZ rfl (i + 1) rfl AA hnc1 AA) rfl ?_
 refine AT (AO rfl) rfl <| AT (AO rfl) rfl <| ?_
 refine AT (GZ rfl i rfl AA hnc1 AA) rfl ?_
 refine EV <| ?_
 refine EN (dS (news := cs.drop (i * 3)) rfl rfl (BB.NH (b := b) _ (QY rfl AA)) (by rw [hdl]; congr 1; omega) AA VG h1a) rfl rfl rfl ?_
 refine zn <| zg <| zm rfl <| zm rfl <| AZ (GZ rfl i rfl AA hnc1 AA) rfl ?_
 refine zm rfl <| EN (JR (news := xs) rfl rfl BB.EJ AA AA (by rw [NQ, List.length_append, List.length_append, hl, hx3]; omega) h1x) rfl rfl rfl ?_
 refine zn <| zg <| zm rfl <| zs rfl <| zn <| zq <| zr <| ?_
 rw [show pre.length + (i + 1) * 3 = pre.length + (i * 3 + 3) by omega, aG pre cs rest xs (i * 3) AA hx3 hrl]
 exact zz rfl rfl fun w' H' => ⟨(some ⟨b, pre.length, none⟩, cap), rfl, H'.AK (AD.trans (AD.NF RU hnc1 hc63 (by rw [List.length_drop, Nat.sub_mul] at *; omega)) (AD.cons (AD.nil _)))⟩


theorem oK (A : Option Addr) (n cap i bx : Nat) (cs xs : List Value) (hi : i < n) (hn : n ≤ 100000) (hx3 : xs.length = 3) (h1c : ∀ v ∈ cs, v.oneCell' = true) (h1x : ∀ v ∈ xs, v.oneCell' = true) (H : AH D w w [row A 147 3 n cap cs, EJ bx 147 xs]) :
  Calls Tryz.prog 153 #[.slice A n cap, .int .i64 i, .int .i64 ((i + 1 : Nat) : Int), .slice (some ⟨bx, 0, none⟩) 1 1] w fun e w' => ∃ q : Option Addr × Nat, e = .returned (.slice q.1 n q.2) ∧ AH D w w' [row q.1 147 3 n q.2 (cs.take (i * 3) ++ xs ++ cs.drop (i * 3 + 3))] := by
 refine BZ (vs := [.slice A n cap, .int .i64 i, .int .i64 ((i + 1 : Nat) : Int), .slice (some ⟨bx, 0, none⟩) 1 1]) Tryz.func153 rfl _ Tryz.ntmps153 rfl H ?_
 simp only [BX, Nat.zero_add]
 refine HC.fact (fun w H => AH.GS A H) ?_
 rintro ⟨hl, hnc, hc63, hA⟩
 have hal : (cs.take (i * 3)).length = i * 3 := by rw [List.length_take, hl, Nat.min_eq_left AA]
 have hdl : (cs.drop (i * 3 + 3)).length = (n - (i + 1)) * 3 := by rw [List.length_drop, hl]; omega
 refine zg <| zs rfl <| zn <| AG <| AR <| zm rfl <| zm rfl <| zm rfl <| zv (FE rfl _ _ (.inr ⟨_, _, rfl, rfl⟩) (.inr ⟨_, _, rfl, rfl⟩) AA AA) <| AS <| ?_
 refine zt <| AG <| zg <| zm rfl <| zm rfl <| zv (CO rfl rfl) <| zn <| CP rfl AA ?_
 refine zk <| AG <| zg <| zm rfl <| zm rfl <| zv BN <| ?_
 refine zv (CO rfl rfl) <| zn <| BP rfl (fun h => ?_) (fun h => ?_)
 ·have hin : i + 1 = n := by omega
  subst hin
  have hd0 : cs.drop (i * 3 + 3) = [] := List.eq_nil_of_length_eq_zero (by rw [hdl]; simp)
  rw [hd0, List.append_nil]
  refine zg <| zm rfl <| zm rfl <| AZ (J9 rfl i rfl AA) rfl ?_
  refine zm rfl <| HL.AK (AD.dO i AA) ?_
  refine AV (BT (A := A) (news := xs) rfl rfl BB.EJ AA h1x AF AA) rfl rfl rfl (fun q1 => ?_)
  refine zs rfl <| zn <| AG <| zg <| zm rfl <| zv BN <| ?_
  refine zm rfl <| zv BN <| ?_
  refine zv (B7 rfl rfl) <| zn <| CP rfl AA ?_
  refine zk <| zg <| zm rfl <| zs rfl <| zn <| zq <| zr <| ?_
  exact zz rfl rfl fun w' H' => ⟨q1, rfl, H'.AK Z8⟩
 have h1d : ∀ v ∈ cs.drop (i * 3 + 3), v.oneCell' = true := fun v hv => h1c v (List.mem_of_mem_drop hv)
 refine HC.N1 (cs := cs) A AA ?_
 rintro b pre rest rfl _ _ _ hrest
 refine zk <| AG <| GM mixed AB <| AM (AO rfl) rfl <| AM (AO rfl) rfl <| ?_
 refine AM (FE rfl _ _ (.inl ⟨rfl, rfl⟩) (.inr ⟨_, _, rfl, rfl⟩) AA AA) rfl <| AM BN rfl <| ?_
 refine AM (AO rfl) rfl <| AM BN rfl <| ?_
 refine AM (BM rfl rfl BO) rfl <| ?_
 refine AM (AO rfl) rfl <| AM (AO rfl) rfl <| AM (FE rfl _ _ (.inr ⟨_, _, rfl, rfl⟩) (.inl ⟨rfl, rfl⟩) AA AA) rfl <| AM BN rfl <| ?_
 refine AM (BM (m := (n : Int)) rfl rfl E3) rfl ?_
 refine AM (DH rfl) rfl <| EM <| zt <| AG <| zg <| ?_
 refine zm rfl <| zm rfl <| zv (N4 rfl) <| zv (DV rfl rfl) <| zn <| CP rfl AA ?_
 refine zk <| zg <| zm rfl <| zm rfl <| AZ (J9 rfl n rfl AA) rfl ?_
 refine zs rfl <| zn <| AG <| zg <| zm rfl <| zm rfl <| zv BN <| ?_
 refine zv (BM rfl rfl BO) <| ?_
 refine zm rfl <| zv (LB rfl rfl) <| zn <| GR rfl AA ?_
 refine zg <| zm rfl <| zm rfl <| AZ (GZ rfl i rfl AA hnc AA) rfl ?_
 refine zm rfl <| EN (JR (news := xs) rfl rfl BB.EJ AA AA (by rw [List.length_append, List.length_append, hl, hx3]; omega) h1x) rfl rfl rfl ?_
 rw [T6 pre cs rest xs (i * 3) AA hx3]
 refine zn <| AG <| E2 9 mixed AB ?_
 refine AT (AO rfl) rfl <| AT (AO rfl) rfl <| AT (AO rfl) rfl <| AT BN rfl <| ?_
 refine AT (BM (m := ((i + 1 : Nat) : Int)) rfl rfl E3) rfl ?_
 refine AT (GZ rfl (i + 1) rfl AA hnc AA) rfl ?_
 refine AT (AO rfl) rfl <| AT (AO rfl) rfl <| ?_
 refine AT (GZ rfl (i + 1) rfl AA hnc AA) rfl ?_
 refine EV <| ?_
 refine EN (JR (m := n - (i + 1)) (news := cs.drop (i * 3 + 3)) rfl rfl (BB.NH (b := b) _ (fun j v hv => by have := UM (a := pre ++ (cs.take (i * 3) ++ xs)) (news := cs.drop (i * 3 + 3)) (c := rest) j v hv; rw [List.length_append, List.length_append, hal, hx3] at this; rw [show pre.length + (i + 1) * 3 + j = pre.length + (i * 3 + 3) + j by omega, show pre ++ (cs.take (i * 3) ++ xs ++ cs.drop (i * 3 + 3)) ++ rest = pre ++ (cs.take (i * 3) ++ xs) ++ cs.drop (i * 3 + 3) ++ rest by simp only [List.append_assoc]]; exact this)) hdl AA (by rw [List.length_append, List.length_append, List.length_append, List.length_append, hal, hx3, hdl]; omega) h1d) rfl rfl rfl ?_
 rw [show pre.length + (i + 1) * 3 = pre.length + (i * 3 + 3) by omega, ZY pre (cs.take (i * 3)) xs (cs.drop (i * 3 + 3)) rest (i * 3 + 3) (by rw [List.length_append, hal, hx3])]
 refine zn <| zg <| zm rfl <| zm rfl <| AZ (QD (.slice (if cap = n then some ⟨b, pre.length, none⟩ else (some (⟨b, pre.length, none⟩ : Addr)).map (·.add (n * 3))) 0 (cap - n)) rfl n n (.inr ⟨_, _, rfl, rfl⟩) (.inl ⟨rfl, rfl⟩) (Nat.le_refl _) hnc (by rw [Nat.sub_self])) rfl ?_
 refine A6 (bK rfl) rfl rfl ?_
 refine zn <| zg <| zm rfl <| zs rfl <| zn <| zq <| zr <| ?_
 exact zz rfl rfl fun w' H' => ⟨(some ⟨b, pre.length, none⟩, cap), rfl, H'.AK (AD.trans (AD.NF RU hnc hc63 hrest) (AD.cons (AD.nil _)))⟩
theorem oO (A : Option Addr) (n cap i : Nat) (cs : List Value) (hi : i < n) (hn : n ≤ 100000) (h1c : ∀ v ∈ cs, v.oneCell' = true) (H : AH D w w [row A 147 3 n cap cs]) :
  Calls Tryz.prog 153 #[.slice A n cap, .int .i64 i, .int .i64 ((i + 1 : Nat) : Int), .slice none 0 0] w fun e w' => ∃ q : Option Addr × Nat, e = .returned (.slice q.1 (n - 1) q.2) ∧ AH D w w' [row q.1 147 3 (n - 1) q.2 (cs.take (i * 3) ++ cs.drop (i * 3 + 3))] := by
 refine BZ (vs := [.slice A n cap, .int .i64 i, .int .i64 ((i + 1 : Nat) : Int), .slice none 0 0]) Tryz.func153 rfl _ Tryz.ntmps153 rfl H ?_
 simp only [BX, Nat.zero_add]
 refine HC.fact (fun w H => AH.GS A H) ?_
 rintro ⟨hl, hnc, hc63, hA⟩
 have hal : (cs.take (i * 3)).length = i * 3 := by rw [List.length_take, hl, Nat.min_eq_left AA]
 have hdl : (cs.drop (i * 3 + 3)).length = (n - (i + 1)) * 3 := by rw [List.length_drop, hl]; omega
 refine zg <| zs rfl <| zn <| AG <| AR <| zm rfl <| zm rfl <| zm rfl <| zv (FE rfl _ _ (.inr ⟨_, _, rfl, rfl⟩) (.inr ⟨_, _, rfl, rfl⟩) AA AA) <| AS <| ?_
 refine zt <| AG <| zg <| zm rfl <| zm rfl <| zv (CO rfl rfl) <| zn <| CP rfl AA ?_
 refine HC.N1 (cs := cs) A AA ?_
 rintro b pre rest rfl _ _ _ hrest
 have hcr : (cap - (n - 1)) * 3 ≤ (([.int .i64 0, .int .u8 0, .int .u8 0] : List Value) ++ rest).length := by rw [List.length_append]; show _ ≤ 3 + _; omega
 refine zk <| AG <| zg <| zm rfl <| zm rfl <| zv BN <| ?_
 refine zv (CO rfl rfl) <| zn <| BP rfl (fun h => ?_) (fun h => ?_)
 ·have hin : i + 1 = n := by omega
  subst hin
  have hd0 : cs.drop (i * 3 + 3) = [] := List.eq_nil_of_length_eq_zero (by rw [hdl]; simp)
  refine zg <| zm rfl <| zm rfl <| AZ (J9 rfl i rfl AA) rfl ?_
  refine zm rfl <| AZ (ZF rfl rfl AA) rfl ?_
  refine zs rfl <| zn <| AG <| zg <| zm rfl <| zv BN <| ?_
  refine zm rfl <| zv BN <| ?_
  refine zv (B7 rfl rfl) <| zn <| GR rfl AA ?_
  refine AR <| zm rfl <| zm rfl <| zv BN <| ?_
  refine AZ (GZ rfl i rfl AA hnc AA) rfl ?_
  refine A6 (UG (s := 3) (b := b) (z := [.int .i64 0, .int .u8 0, .int .u8 0]) rfl AA (by rw [List.length_append, List.length_append, hl]; omega) CL) rfl rfl ?_
  rw [show i + 1 - i = 1 by omega, TL, T6 pre cs rest [.int .i64 0, .int .u8 0, .int .u8 0] (i * 3) AA rfl, hd0, List.append_nil, List.append_nil]
  refine zn <| zg <| zm rfl <| zs rfl <| zn <| zq <| zr <| ?_
  exact zz rfl rfl fun w' H' => ⟨(some ⟨b, pre.length, none⟩, cap), rfl, H'.AK (AD.trans (b := [AI b 147 (pre ++ cs.take (i * 3) ++ ([.int .i64 0, .int .u8 0, .int .u8 0] ++ rest))]) (by rw [show pre ++ (cs.take (i * 3) ++ [.int .i64 0, .int .u8 0, .int .u8 0]) ++ rest = pre ++ cs.take (i * 3) ++ ([.int .i64 0, .int .u8 0, .int .u8 0] ++ rest) by simp only [List.append_assoc]]; exact AD.refl _) (AD.NF (by rw [hal]; rfl) AA hc63 hcr))⟩
 have h1d : ∀ v ∈ cs.drop (i * 3 + 3), v.oneCell' = true := fun v hv => h1c v (List.mem_of_mem_drop hv)
 refine zk <| AG <| GM mixed AB <| AM (AO rfl) rfl <| AM (AO rfl) rfl <| ?_
 refine AM (FE rfl _ _ (.inl ⟨rfl, rfl⟩) (.inr ⟨_, _, rfl, rfl⟩) AA AA) rfl <| AM BN rfl <| ?_
 refine AM (AO rfl) rfl <| AM BN rfl <| ?_
 refine AM (BM rfl rfl BO) rfl <| ?_
 refine AM (AO rfl) rfl <| AM (AO rfl) rfl <| AM (FE rfl _ _ (.inr ⟨_, _, rfl, rfl⟩) (.inl ⟨rfl, rfl⟩) AA AA) rfl <| AM BN rfl <| ?_
 refine AM (BM (m := ((n - 1 : Nat) : Int)) rfl rfl E3) rfl ?_
 refine AM (DH rfl) rfl <| EM <| zt <| AG <| zg <| ?_
 refine zm rfl <| zm rfl <| zv (N4 rfl) <| zv (DV rfl rfl) <| zn <| CP rfl AA ?_
 refine zk <| zg <| zm rfl <| zm rfl <| AZ (J9 rfl (n - 1) rfl AA) rfl ?_
 refine zs rfl <| zn <| AG <| zg <| zm rfl <| zm rfl <| zv BN <| ?_
 refine zv (BM rfl rfl BO) <| ?_
 refine zm rfl <| zv (LB rfl rfl) <| zn <| GR rfl AA ?_
 refine zg <| zm rfl <| zm rfl <| AZ (GZ rfl i rfl AA AA AA) rfl ?_
 refine zm rfl <| EN (JR (m := 0) (B := none) (news := []) rfl rfl BB.nil rfl AA (by rw [List.length_append, List.length_append, hl]; show _ + 0 ≤ _; omega) (fun v hv => by cases hv)) rfl rfl rfl ?_
 rw [ZB]
 refine zn <| AG <| E2 9 mixed AB ?_
 refine AT (AO rfl) rfl <| AT (AO rfl) rfl <| AT (AO rfl) rfl <| AT BN rfl <| ?_
 refine AT (BM (m := (i : Int)) rfl rfl E3) rfl ?_
 refine AT (GZ rfl i rfl AA AA AA) rfl ?_
 refine AT (AO rfl) rfl <| AT (AO rfl) rfl <| ?_
 refine AT (GZ rfl (i + 1) rfl AA hnc AA) rfl ?_
 refine EV <| ?_
 refine EN (JR (m := n - (i + 1)) (news := cs.drop (i * 3 + 3)) rfl rfl (BB.NH (b := b) _ (QY AA AA)) hdl AA VG h1d) rfl rfl rfl ?_
 refine zn <| zg <| zm rfl <| zm rfl <| AZ (GZ rfl (n - 1) rfl AA hnc AA) rfl ?_
 refine A6 (UG (s := 3) (b := b) (z := [.int .i64 0, .int .u8 0, .int .u8 0]) rfl AA (by rw [NQ, List.length_append, List.length_append, hl]; omega) CL) rfl rfl ?_
 rw [show n - (n - 1) = 1 by omega, TL, show pre.length + (n - 1) * 3 = pre.length + (cs.length - 3) by omega, bB pre cs rest [.int .i64 0, .int .u8 0, .int .u8 0] (i * 3) AA rfl]
 refine zn <| zg <| zm rfl <| zs rfl <| zn <| zq <| zr <| ?_
 exact zz rfl rfl fun w' H' => ⟨(some ⟨b, pre.length, none⟩, cap), rfl, H'.AK (AD.NF (by rw [List.length_append, hal, hdl]; omega) AA hc63 hcr)⟩
theorem dW (A : Option Addr) (n cap i bx : Nat) (cs xs : List Value) (hi : i ≤ n) (hn : n ≤ 100000) (hx3 : xs.length = 3) (h1c : ∀ v ∈ cs, v.oneCell' = true) (h1x : ∀ v ∈ xs, v.oneCell' = true) (H : AH D w w [row A 147 3 n cap cs, EJ bx 147 xs]) :
  Calls Tryz.prog 133 #[.slice A n cap, .int .i64 i, .bool false, .slice (some ⟨bx, 0, none⟩) 1 1] w fun e w' => ∃ q : Option Addr × Nat, e = .returned (.slice q.1 (n + 1) q.2) ∧ AH D w w' [row q.1 147 3 (n + 1) q.2 (cs.take (i * 3) ++ xs ++ cs.drop (i * 3))] := by
 refine BZ (vs := [.slice A n cap, .int .i64 i, .bool false, .slice (some ⟨bx, 0, none⟩) 1 1]) Tryz.func133 rfl _ Tryz.ntmps133 rfl H ?_
 simp only [BX, Nat.zero_add]
 refine zg <| zs rfl <| zn <| AG <| zg <| zm rfl <| zn <| EU rfl <| zk <| zg <| zm rfl <| zm rfl <| zm rfl <| HL.AK (AD.fold (L := [row A 147 3 n cap cs, EJ bx 147 xs]) (l := [])) ?_
 refine CQ (σ := Option Addr × Nat) Tryz.call154 rfl rfl (fun w1 => EZ (DS [row A 147 3 n cap cs, EJ bx 147 xs]) fun D' _ _ H2 => nK D' w1 A n cap i bx cs xs hi hn hx3 h1c h1x (H2.AK AD.flat)) ?_
 intro q
 refine zs rfl <| zn <| zq <| ?_
 exact zz rfl rfl fun w' H' => ⟨q, rfl, H'.AK Z8⟩
theorem dU (A : Option Addr) (n cap i bx : Nat) (cs xs : List Value) (hi : i < n) (hn : n ≤ 100000) (hx3 : xs.length = 3) (h1c : ∀ v ∈ cs, v.oneCell' = true) (h1x : ∀ v ∈ xs, v.oneCell' = true) (H : AH D w w [row A 147 3 n cap cs, EJ bx 147 xs]) :
  Calls Tryz.prog 133 #[.slice A n cap, .int .i64 i, .bool true, .slice (some ⟨bx, 0, none⟩) 1 1] w fun e w' => ∃ q : Option Addr × Nat, e = .returned (.slice q.1 n q.2) ∧ AH D w w' [row q.1 147 3 n q.2 (cs.take (i * 3) ++ xs ++ cs.drop (i * 3 + 3))] := by
 refine BZ (vs := [.slice A n cap, .int .i64 i, .bool true, .slice (some ⟨bx, 0, none⟩) 1 1]) Tryz.func133 rfl _ Tryz.ntmps133 rfl H ?_
 simp only [BX, Nat.zero_add]
 refine zg <| zs rfl <| zn <| AG <| zg <| zm rfl <| zn <| DD rfl <| zg <| zm rfl <| zm rfl <| zm rfl <| AZ (BM (m := ((i + 1 : Nat) : Int)) rfl rfl E3) rfl ?_
 refine zm rfl <| HL.AK (AD.fold (L := [row A 147 3 n cap cs, EJ bx 147 xs]) (l := [])) ?_
 refine CQ (σ := Option Addr × Nat) Tryz.call153 rfl rfl (fun w1 => EZ (DS [row A 147 3 n cap cs, EJ bx 147 xs]) fun D' _ _ H2 => oK D' w1 A n cap i bx cs xs hi hn hx3 h1c h1x (H2.AK AD.flat)) ?_
 intro q
 refine zs rfl <| zn <| zq <| zr <| ?_
 exact zz rfl rfl fun w' H' => ⟨q, rfl, H'.AK Z8⟩
theorem pP (A : Option Addr) (n cap i : Nat) (cs : List Value) (hi : i < n) (hn : n ≤ 100000) (h1c : ∀ v ∈ cs, v.oneCell' = true) (H : AH D w w [row A 147 3 n cap cs]) :
  Calls Tryz.prog 133 #[.slice A n cap, .int .i64 i, .bool true, .slice none 0 0] w fun e w' => ∃ q : Option Addr × Nat, e = .returned (.slice q.1 (n - 1) q.2) ∧ AH D w w' [row q.1 147 3 (n - 1) q.2 (cs.take (i * 3) ++ cs.drop (i * 3 + 3))] := by
 refine BZ (vs := [.slice A n cap, .int .i64 i, .bool true, .slice none 0 0]) Tryz.func133 rfl _ Tryz.ntmps133 rfl H ?_
 simp only [BX, Nat.zero_add]
 refine zg <| zs rfl <| zn <| AG <| zg <| zm rfl <| zn <| DD rfl <| zg <| zm rfl <| zm rfl <| zm rfl <| AZ (BM (m := ((i + 1 : Nat) : Int)) rfl rfl E3) rfl ?_
 refine zm rfl <| CQ (σ := Option Addr × Nat) Tryz.call153 rfl rfl (fun w1 => EZ (row A 147 3 n cap cs) fun D' _ _ H2 => oO D' w1 A n cap i cs hi hn h1c H2) ?_
 intro q
 refine zs rfl <| zn <| zq <| zr <| ?_
 exact zz rfl rfl fun w' H' => ⟨q, rfl, H'.AK Z8⟩


theorem o5 (A : Option Addr) (n cap i bx : Nat) (cs xs : List Value) (hi : i < n) (hn : n ≤ 100000) (hx3 : xs.length = 3) (h1c : ∀ v ∈ cs, v.oneCell' = true) (h1x : ∀ v ∈ xs, v.oneCell' = true) (H : AH D w w [row A 149 3 n cap cs, EJ bx 149 xs]) :
  Calls Tryz.prog 155 #[.slice A n cap, .int .i64 i, .int .i64 ((i + 1 : Nat) : Int), .slice (some ⟨bx, 0, none⟩) 1 1] w fun e w' => ∃ q : Option Addr × Nat, e = .returned (.slice q.1 n q.2) ∧ AH D w w' [row q.1 149 3 n q.2 (cs.take (i * 3) ++ xs ++ cs.drop (i * 3 + 3))] := by
 refine BZ (vs := [.slice A n cap, .int .i64 i, .int .i64 ((i + 1 : Nat) : Int), .slice (some ⟨bx, 0, none⟩) 1 1]) Tryz.func155 rfl _ Tryz.ntmps155 rfl H ?_
 simp only [BX, Nat.zero_add]
 refine HC.fact (fun w H => AH.GS A H) ?_
 rintro ⟨hl, hnc, hc63, hA⟩
 have hal : (cs.take (i * 3)).length = i * 3 := by rw [List.length_take, hl, Nat.min_eq_left AA]
 have hdl : (cs.drop (i * 3 + 3)).length = (n - (i + 1)) * 3 := by rw [List.length_drop, hl]; omega
 refine zg <| zs rfl <| zn <| AG <| AR <| zm rfl <| zm rfl <| zm rfl <| zv (FE rfl _ _ (.inr ⟨_, _, rfl, rfl⟩) (.inr ⟨_, _, rfl, rfl⟩) AA AA) <| AS <| ?_
 refine zt <| AG <| zg <| zm rfl <| zm rfl <| zv (CO rfl rfl) <| zn <| CP rfl AA ?_
 refine zk <| AG <| zg <| zm rfl <| zm rfl <| zv BN <| ?_
 refine zv (CO rfl rfl) <| zn <| BP rfl (fun h => ?_) (fun h => ?_)
 ·have hin : i + 1 = n := by omega
  subst hin
  have hd0 : cs.drop (i * 3 + 3) = [] := List.eq_nil_of_length_eq_zero (by rw [hdl]; simp)
  rw [hd0, List.append_nil]
  refine zg <| zm rfl <| zm rfl <| AZ (J9 rfl i rfl AA) rfl ?_
  refine zm rfl <| HL.AK (AD.dO i AA) ?_
  refine AV (BT (A := A) (news := xs) rfl rfl BB.EJ AA h1x AF AA) rfl rfl rfl (fun q1 => ?_)
  refine zs rfl <| zn <| AG <| zg <| zm rfl <| zv BN <| ?_
  refine zm rfl <| zv BN <| ?_
  refine zv (B7 rfl rfl) <| zn <| CP rfl AA ?_
  refine zk <| zg <| zm rfl <| zs rfl <| zn <| zq <| zr <| ?_
  exact zz rfl rfl fun w' H' => ⟨q1, rfl, H'.AK Z8⟩
 have h1d : ∀ v ∈ cs.drop (i * 3 + 3), v.oneCell' = true := fun v hv => h1c v (List.mem_of_mem_drop hv)
 refine HC.N1 (cs := cs) A AA ?_
 rintro b pre rest rfl _ _ _ hrest
 refine zk <| AG <| GM mixed AB <| AM (AO rfl) rfl <| AM (AO rfl) rfl <| ?_
 refine AM (FE rfl _ _ (.inl ⟨rfl, rfl⟩) (.inr ⟨_, _, rfl, rfl⟩) AA AA) rfl <| AM BN rfl <| ?_
 refine AM (AO rfl) rfl <| AM BN rfl <| ?_
 refine AM (BM rfl rfl BO) rfl <| ?_
 refine AM (AO rfl) rfl <| AM (AO rfl) rfl <| AM (FE rfl _ _ (.inr ⟨_, _, rfl, rfl⟩) (.inl ⟨rfl, rfl⟩) AA AA) rfl <| AM BN rfl <| ?_
 refine AM (BM (m := (n : Int)) rfl rfl E3) rfl ?_
 refine AM (DH rfl) rfl <| EM <| zt <| AG <| zg <| ?_
 refine zm rfl <| zm rfl <| zv (N4 rfl) <| zv (DV rfl rfl) <| zn <| CP rfl AA ?_
 refine zk <| zg <| zm rfl <| zm rfl <| AZ (J9 rfl n rfl AA) rfl ?_
 refine zs rfl <| zn <| AG <| zg <| zm rfl <| zm rfl <| zv BN <| ?_
 refine zv (BM rfl rfl BO) <| ?_
 refine zm rfl <| zv (LB rfl rfl) <| zn <| GR rfl AA ?_
 refine zg <| zm rfl <| zm rfl <| AZ (GZ rfl i rfl AA hnc AA) rfl ?_
 refine zm rfl <| EN (JR (news := xs) rfl rfl BB.EJ AA AA (by rw [List.length_append, List.length_append, hl, hx3]; omega) h1x) rfl rfl rfl ?_
 rw [T6 pre cs rest xs (i * 3) AA hx3]
 refine zn <| AG <| E2 9 mixed AB ?_
 refine AT (AO rfl) rfl <| AT (AO rfl) rfl <| AT (AO rfl) rfl <| AT BN rfl <| ?_
 refine AT (BM (m := ((i + 1 : Nat) : Int)) rfl rfl E3) rfl ?_
 refine AT (GZ rfl (i + 1) rfl AA hnc AA) rfl ?_
 refine AT (AO rfl) rfl <| AT (AO rfl) rfl <| ?_
 refine AT (GZ rfl (i + 1) rfl AA hnc AA) rfl ?_
 refine EV <| ?_
 refine EN (JR (m := n - (i + 1)) (news := cs.drop (i * 3 + 3)) rfl rfl (BB.NH (b := b) _ (fun j v hv => by have := UM (a := pre ++ (cs.take (i * 3) ++ xs)) (news := cs.drop (i * 3 + 3)) (c := rest) j v hv; rw [List.length_append, List.length_append, hal, hx3] at this; rw [show pre.length + (i + 1) * 3 + j = pre.length + (i * 3 + 3) + j by omega, show pre ++ (cs.take (i * 3) ++ xs ++ cs.drop (i * 3 + 3)) ++ rest = pre ++ (cs.take (i * 3) ++ xs) ++ cs.drop (i * 3 + 3) ++ rest by simp only [List.append_assoc]]; exact this)) hdl AA (by rw [List.length_append, List.length_append, List.length_append, List.length_append, hal, hx3, hdl]; omega) h1d) rfl rfl rfl ?_
 rw [show pre.length + (i + 1) * 3 = pre.length + (i * 3 + 3) by omega, ZY pre (cs.take (i * 3)) xs (cs.drop (i * 3 + 3)) rest (i * 3 + 3) (by rw [List.length_append, hal, hx3])]
 refine zn <| zg <| zm rfl <| zm rfl <| AZ (QD (.slice (if cap = n then some ⟨b, pre.length, none⟩ else (some (⟨b, pre.length, none⟩ : Addr)).map (·.add (n * 3))) 0 (cap - n)) rfl n n (.inr ⟨_, _, rfl, rfl⟩) (.inl ⟨rfl, rfl⟩) (Nat.le_refl _) hnc (by rw [Nat.sub_self])) rfl ?_
 refine A6 (bK rfl) rfl rfl ?_
 refine zn <| zg <| zm rfl <| zs rfl <| zn <| zq <| zr <| ?_
 exact zz rfl rfl fun w' H' => ⟨(some ⟨b, pre.length, none⟩, cap), rfl, H'.AK (AD.trans (AD.NF RU hnc hc63 hrest) (AD.cons (AD.nil _)))⟩
theorem oZ (A : Option Addr) (n cap i : Nat) (cs : List Value) (hi : i < n) (hn : n ≤ 100000) (h1c : ∀ v ∈ cs, v.oneCell' = true) (H : AH D w w [row A 149 3 n cap cs]) :
  Calls Tryz.prog 155 #[.slice A n cap, .int .i64 i, .int .i64 ((i + 1 : Nat) : Int), .slice none 0 0] w fun e w' => ∃ q : Option Addr × Nat, e = .returned (.slice q.1 (n - 1) q.2) ∧ AH D w w' [row q.1 149 3 (n - 1) q.2 (cs.take (i * 3) ++ cs.drop (i * 3 + 3))] := by
 refine BZ (vs := [.slice A n cap, .int .i64 i, .int .i64 ((i + 1 : Nat) : Int), .slice none 0 0]) Tryz.func155 rfl _ Tryz.ntmps155 rfl H ?_
 simp only [BX, Nat.zero_add]
 refine HC.fact (fun w H => AH.GS A H) ?_
 rintro ⟨hl, hnc, hc63, hA⟩
 have hal : (cs.take (i * 3)).length = i * 3 := by rw [List.length_take, hl, Nat.min_eq_left AA]
 have hdl : (cs.drop (i * 3 + 3)).length = (n - (i + 1)) * 3 := by rw [List.length_drop, hl]; omega
 refine zg <| zs rfl <| zn <| AG <| AR <| zm rfl <| zm rfl <| zm rfl <| zv (FE rfl _ _ (.inr ⟨_, _, rfl, rfl⟩) (.inr ⟨_, _, rfl, rfl⟩) AA AA) <| AS <| ?_
 refine zt <| AG <| zg <| zm rfl <| zm rfl <| zv (CO rfl rfl) <| zn <| CP rfl AA ?_
 refine HC.N1 (cs := cs) A AA ?_
 rintro b pre rest rfl _ _ _ hrest
 have hcr : (cap - (n - 1)) * 3 ≤ (([.int .u64 0, .int .i64 0, .int .i64 0] : List Value) ++ rest).length := by rw [List.length_append]; show _ ≤ 3 + _; omega
 refine zk <| AG <| zg <| zm rfl <| zm rfl <| zv BN <| ?_
 refine zv (CO rfl rfl) <| zn <| BP rfl (fun h => ?_) (fun h => ?_)
 ·have hin : i + 1 = n := by omega
  subst hin
  have hd0 : cs.drop (i * 3 + 3) = [] := List.eq_nil_of_length_eq_zero (by rw [hdl]; simp)
  refine zg <| zm rfl <| zm rfl <| AZ (J9 rfl i rfl AA) rfl ?_
  refine zm rfl <| AZ (ZF rfl rfl AA) rfl ?_
  refine zs rfl <| zn <| AG <| zg <| zm rfl <| zv BN <| ?_
  refine zm rfl <| zv BN <| ?_
  refine zv (B7 rfl rfl) <| zn <| GR rfl AA ?_
  refine AR <| zm rfl <| zm rfl <| zv BN <| ?_
  refine AZ (GZ rfl i rfl AA hnc AA) rfl ?_
  refine A6 (UG (s := 3) (b := b) (z := [.int .u64 0, .int .i64 0, .int .i64 0]) rfl AA (by rw [List.length_append, List.length_append, hl]; omega) CL) rfl rfl ?_
  rw [show i + 1 - i = 1 by omega, TL, T6 pre cs rest [.int .u64 0, .int .i64 0, .int .i64 0] (i * 3) AA rfl, hd0, List.append_nil, List.append_nil]
  refine zn <| zg <| zm rfl <| zs rfl <| zn <| zq <| zr <| ?_
  exact zz rfl rfl fun w' H' => ⟨(some ⟨b, pre.length, none⟩, cap), rfl, H'.AK (AD.trans (b := [AI b 149 (pre ++ cs.take (i * 3) ++ ([.int .u64 0, .int .i64 0, .int .i64 0] ++ rest))]) (by rw [show pre ++ (cs.take (i * 3) ++ [.int .u64 0, .int .i64 0, .int .i64 0]) ++ rest = pre ++ cs.take (i * 3) ++ ([.int .u64 0, .int .i64 0, .int .i64 0] ++ rest) by simp only [List.append_assoc]]; exact AD.refl _) (AD.NF (by rw [hal]; rfl) AA hc63 hcr))⟩
 have h1d : ∀ v ∈ cs.drop (i * 3 + 3), v.oneCell' = true := fun v hv => h1c v (List.mem_of_mem_drop hv)
 refine zk <| AG <| GM mixed AB <| AM (AO rfl) rfl <| AM (AO rfl) rfl <| ?_
 refine AM (FE rfl _ _ (.inl ⟨rfl, rfl⟩) (.inr ⟨_, _, rfl, rfl⟩) AA AA) rfl <| AM BN rfl <| ?_
 refine AM (AO rfl) rfl <| AM BN rfl <| ?_
 refine AM (BM rfl rfl BO) rfl <| ?_
 refine AM (AO rfl) rfl <| AM (AO rfl) rfl <| AM (FE rfl _ _ (.inr ⟨_, _, rfl, rfl⟩) (.inl ⟨rfl, rfl⟩) AA AA) rfl <| AM BN rfl <| ?_
 refine AM (BM (m := ((n - 1 : Nat) : Int)) rfl rfl E3) rfl ?_
 refine AM (DH rfl) rfl <| EM <| zt <| AG <| zg <| ?_
 refine zm rfl <| zm rfl <| zv (N4 rfl) <| zv (DV rfl rfl) <| zn <| CP rfl AA ?_
 refine zk <| zg <| zm rfl <| zm rfl <| AZ (J9 rfl (n - 1) rfl AA) rfl ?_
 refine zs rfl <| zn <| AG <| zg <| zm rfl <| zm rfl <| zv BN <| ?_
 refine zv (BM rfl rfl BO) <| ?_
 refine zm rfl <| zv (LB rfl rfl) <| zn <| GR rfl AA ?_
 refine zg <| zm rfl <| zm rfl <| AZ (GZ rfl i rfl AA AA AA) rfl ?_
 refine zm rfl <| EN (JR (m := 0) (B := none) (news := []) rfl rfl BB.nil rfl AA (by rw [List.length_append, List.length_append, hl]; show _ + 0 ≤ _; omega) (fun v hv => by cases hv)) rfl rfl rfl ?_
 rw [ZB]
 refine zn <| AG <| E2 9 mixed AB ?_
 refine AT (AO rfl) rfl <| AT (AO rfl) rfl <| AT (AO rfl) rfl <| AT BN rfl <| ?_
 refine AT (BM (m := (i : Int)) rfl rfl E3) rfl ?_
 refine AT (GZ rfl i rfl AA AA AA) rfl ?_
 refine AT (AO rfl) rfl <| AT (AO rfl) rfl <| ?_
 refine AT (GZ rfl (i + 1) rfl AA hnc AA) rfl ?_
 refine EV <| ?_
 refine EN (JR (m := n - (i + 1)) (news := cs.drop (i * 3 + 3)) rfl rfl (BB.NH (b := b) _ (QY AA AA)) hdl AA VG h1d) rfl rfl rfl ?_
 refine zn <| zg <| zm rfl <| zm rfl <| AZ (GZ rfl (n - 1) rfl AA hnc AA) rfl ?_
 refine A6 (UG (s := 3) (b := b) (z := [.int .u64 0, .int .i64 0, .int .i64 0]) rfl AA (by rw [NQ, List.length_append, List.length_append, hl]; omega) CL) rfl rfl ?_
 rw [show n - (n - 1) = 1 by omega, TL, show pre.length + (n - 1) * 3 = pre.length + (cs.length - 3) by omega, bB pre cs rest [.int .u64 0, .int .i64 0, .int .i64 0] (i * 3) AA rfl]
 refine zn <| zg <| zm rfl <| zs rfl <| zn <| zq <| zr <| ?_
 exact zz rfl rfl fun w' H' => ⟨(some ⟨b, pre.length, none⟩, cap), rfl, H'.AK (AD.NF (by rw [List.length_append, hal, hdl]; omega) AA hc63 hcr)⟩
theorem dP (A : Option Addr) (n cap i bx : Nat) (cs xs : List Value) (hi : i ≤ n) (hn : n ≤ 100000) (hx3 : xs.length = 3) (h1c : ∀ v ∈ cs, v.oneCell' = true) (h1x : ∀ v ∈ xs, v.oneCell' = true) (H : AH D w w [row A 149 3 n cap cs, EJ bx 149 xs]) :
  Calls Tryz.prog 134 #[.slice A n cap, .int .i64 i, .bool false, .slice (some ⟨bx, 0, none⟩) 1 1] w fun e w' => ∃ q : Option Addr × Nat, e = .returned (.slice q.1 (n + 1) q.2) ∧ AH D w w' [row q.1 149 3 (n + 1) q.2 (cs.take (i * 3) ++ xs ++ cs.drop (i * 3))] := by
 refine BZ (vs := [.slice A n cap, .int .i64 i, .bool false, .slice (some ⟨bx, 0, none⟩) 1 1]) Tryz.func134 rfl _ Tryz.ntmps134 rfl H ?_
 simp only [BX, Nat.zero_add]
 refine zg <| zs rfl <| zn <| AG <| zg <| zm rfl <| zn <| EU rfl <| zk <| zg <| zm rfl <| zm rfl <| zm rfl <| HL.AK (AD.fold (L := [row A 149 3 n cap cs, EJ bx 149 xs]) (l := [])) ?_
 refine CQ (σ := Option Addr × Nat) Tryz.call156 rfl rfl (fun w1 => EZ (DS [row A 149 3 n cap cs, EJ bx 149 xs]) fun D' _ _ H2 => mD D' w1 A n cap i bx cs xs hi hn hx3 h1c h1x (H2.AK AD.flat)) ?_
 intro q
 refine zs rfl <| zn <| zq <| ?_
 exact zz rfl rfl fun w' H' => ⟨q, rfl, H'.AK Z8⟩
theorem cH (A : Option Addr) (n cap i bx : Nat) (cs xs : List Value) (hi : i < n) (hn : n ≤ 100000) (hx3 : xs.length = 3) (h1c : ∀ v ∈ cs, v.oneCell' = true) (h1x : ∀ v ∈ xs, v.oneCell' = true) (H : AH D w w [row A 149 3 n cap cs, EJ bx 149 xs]) :
  Calls Tryz.prog 134 #[.slice A n cap, .int .i64 i, .bool true, .slice (some ⟨bx, 0, none⟩) 1 1] w fun e w' => ∃ q : Option Addr × Nat, e = .returned (.slice q.1 n q.2) ∧ AH D w w' [row q.1 149 3 n q.2 (cs.take (i * 3) ++ xs ++ cs.drop (i * 3 + 3))] := by
 refine BZ (vs := [.slice A n cap, .int .i64 i, .bool true, .slice (some ⟨bx, 0, none⟩) 1 1]) Tryz.func134 rfl _ Tryz.ntmps134 rfl H ?_
 simp only [BX, Nat.zero_add]
 refine zg <| zs rfl <| zn <| AG <| zg <| zm rfl <| zn <| DD rfl <| zg <| zm rfl <| zm rfl <| zm rfl <| AZ (BM (m := ((i + 1 : Nat) : Int)) rfl rfl E3) rfl ?_
 refine zm rfl <| HL.AK (AD.fold (L := [row A 149 3 n cap cs, EJ bx 149 xs]) (l := [])) ?_
 refine CQ (σ := Option Addr × Nat) Tryz.call155 rfl rfl (fun w1 => EZ (DS [row A 149 3 n cap cs, EJ bx 149 xs]) fun D' _ _ H2 => o5 D' w1 A n cap i bx cs xs hi hn hx3 h1c h1x (H2.AK AD.flat)) ?_
 intro q
 refine zs rfl <| zn <| zq <| zr <| ?_
 exact zz rfl rfl fun w' H' => ⟨q, rfl, H'.AK Z8⟩
theorem oT (A : Option Addr) (n cap i : Nat) (cs : List Value) (hi : i < n) (hn : n ≤ 100000) (h1c : ∀ v ∈ cs, v.oneCell' = true) (H : AH D w w [row A 149 3 n cap cs]) :
  Calls Tryz.prog 134 #[.slice A n cap, .int .i64 i, .bool true, .slice none 0 0] w fun e w' => ∃ q : Option Addr × Nat, e = .returned (.slice q.1 (n - 1) q.2) ∧ AH D w w' [row q.1 149 3 (n - 1) q.2 (cs.take (i * 3) ++ cs.drop (i * 3 + 3))] := by
 refine BZ (vs := [.slice A n cap, .int .i64 i, .bool true, .slice none 0 0]) Tryz.func134 rfl _ Tryz.ntmps134 rfl H ?_
 simp only [BX, Nat.zero_add]
 refine zg <| zs rfl <| zn <| AG <| zg <| zm rfl <| zn <| DD rfl <| zg <| zm rfl <| zm rfl <| zm rfl <| AZ (BM (m := ((i + 1 : Nat) : Int)) rfl rfl E3) rfl ?_
 refine zm rfl <| CQ (σ := Option Addr × Nat) Tryz.call155 rfl rfl (fun w1 => EZ (row A 149 3 n cap cs) fun D' _ _ H2 => oZ D' w1 A n cap i cs hi hn h1c H2) ?_
 intro q
 refine zs rfl <| zn <| zq <| zr <| ?_
 exact zz rfl rfl fun w' H' => ⟨q, rfl, H'.AK Z8⟩

end Go.Proofs.YtjlolpmmpafjeaaGreat
