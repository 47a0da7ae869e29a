import Derived.Test.YtjlolpmmpafjeaaGreatU16
set_option linter.unusedVariables false
set_option linter.unusedSimpArgs false
namespace Go.Proofs.YtjlolpmmpafjeaaGreat
open CN
def GY (S T : List BA) (i : Nat) : List (Nat × BA) := ((List.range i).filter fun j => decide (T[j]? ≠ S[j]?)).map fun j => (j, T.getD j FP)
theorem pR {S T : List BA} {i : Nat} {x y : BA} (hT : T[i]? = some x) (hS : S[i]? = some y) : GY S T (i + 1) = if x = y then GY S T i else GY S T i ++ [(i, x)] := by
 have hg : T.getD i FP = x := by rw [List.getD_eq_getElem?_getD, hT]; rfl
 unfold GY
 rw [List.range_succ, List.filter_append, List.map_append]
 by_cases h : x = y
 ·rw [if_pos h]
  have : decide (T[i]? ≠ S[i]?) = false := by rw [hT, hS, h]; simp
  simp [List.filter, this]
 rw [if_neg h]
 have : decide (T[i]? ≠ S[i]?) = true := by rw [hT, hS]; simpa using h
 simp only [List.filter, this, List.map_cons, List.map_nil, hg]
theorem eX {S T : List BA} (i : Nat) : (GY S T i).length ≤ i := by
 unfold GY
 rw [List.length_map]
 exact Nat.le_trans (List.length_filter_le _ _) (by rw [List.length_range]; exact Nat.le_refl _)
set_option maxHeartbeats 1000000 in
theorem jJ (D : Nat → Prop) (w : World) (g q m : Nat) (S T : List BA) (hS : S.length = m) (hT : T.length = m) (hm : m ≤ 1000) (hm0 : 0 < m) (H : AH D w w [BV g S [], BV q T []]) :
  Calls Tryz.prog 22 #[.pointer (some ⟨g, 0, none⟩), .pointer (some ⟨q, 0, none⟩)] w fun e w' => ∃ x : Option Addr × Nat, e = .returned (.slice x.1 (GY S T m).length x.2) ∧ AH D w w' [BV g S [], BV q T [], row x.1 63 65 (GY S T m).length x.2 ((GY S T m).flatMap CT)] := by
 refine BZ (vs := [.pointer (some ⟨g, 0, none⟩), .pointer (some ⟨q, 0, none⟩)]) Tryz.func22 rfl _ Tryz.ntmps22 rfl H ?_
 simp only [BX, Nat.zero_add]
 refine HC.exs ?_
 rintro ⟨⟨A0, c0⟩, A1, c1⟩
 refine HC.AK (l' := BV q T [] :: [AI g 56 [.slice A0 S.length c0, .slice A1 0 c1], row A0 61 64 S.length c0 (S.flatMap BI), row A1 63 65 0 c1 []]) (show AD (AI g 56 [.slice A0 S.length c0, .slice A1 0 c1] :: row A0 61 64 S.length c0 (S.flatMap BI) :: row A1 63 65 0 c1 [] :: [BV q T []]) _ from Z8) ?_
 refine HC.exs ?_
 rintro ⟨⟨B0, d0⟩, B1, d1⟩
 refine HC.AK (l' := [AI q 56 [.slice B0 T.length d0, .slice B1 0 d1], row B0 61 64 T.length d0 (T.flatMap BI), row B1 63 65 0 d1 [], AI g 56 [.slice A0 S.length c0, .slice A1 0 c1], row A0 61 64 S.length c0 (S.flatMap BI), row A1 63 65 0 c1 []]) (fun _ h => h) ?_
 refine HC.fact (fun w H => LN (A := A0) H) (fun hf0 => ?_)
 refine HC.fact (fun w H => LN (A := B0) H) (fun hg0 => ?_)
 have hA0 : CU A0 := hf0.2 (L6 DU AF AA)
 have hB0 : CU B0 := hg0.2 (L6 DU AF AA)
 refine zg <| zs rfl <| zn <| AG <| AR <| zs rfl <| zn <| AG <| AG <| AR <| zs rfl <| zn <| BK <| JA (σ := Nat × Option Addr × Nat) [0, 1] rfl 6 (fun s => .int .i64 (s.1 : Int)) 5 (fun s => .slice s.2.1 (GY S T s.1).length s.2.2) (fun s => [row s.2.1 63 65 (GY S T s.1).length s.2.2 ((GY S T s.1).flatMap CT), AI q 56 [.slice B0 T.length d0, .slice B1 0 d1], row B0 61 64 T.length d0 (T.flatMap BI), row B1 63 65 0 d1 [], AI g 56 [.slice A0 S.length c0, .slice A1 0 c1], row A0 61 64 S.length c0 (S.flatMap BI), row A1 63 65 0 c1 []]) (fun s => s.1 ≤ m) (fun s => m - s.1) ((0, none, 0)) (Nat.zero_le _) rfl rfl (AD.EB 63 65) ?_
 rintro ⟨i, C, c⟩ hi K1 hK1
 dsimp only at hi ⊢
 refine AG <| zg <| zm rfl <| zm rfl <| zv (AY rfl) <| zf rfl <| zl rfl rfl <| zv BN <| ?_
 refine zv (B7 rfl rfl) <| zn <| BP rfl (fun hlt => ?_) (fun hlt => ?_)
 ·have hlt : i < m := by omega
  have hiS : i < S.length := by omega
  have hiT : i < T.length := by omega
  have hsu := pR (S := S) (T := T) (List.getElem?_eq_getElem hiT) (List.getElem?_eq_getElem hiS)
  have hwl := eX (S := S) (T := T) i
  refine zk <| AG <| BK <| AG <| GM mixed AB <| ?_
  refine AM (AO rfl) rfl <| AM (AY rfl) rfl <| AM (AP rfl) rfl <| AM (zw rfl rfl) rfl <| AM (AO rfl) rfl <| ?_
  refine AM (CZ rfl hB0 rfl i rfl hiT) rfl ?_
  refine AM (D4 (cs := BI T[i]) rfl (DU _) (DZ.flat (f := BI) (A := B0) DU hB0 (i := i) hiT)) rfl ?_
  refine AM (AO rfl) rfl <| AM (AY rfl) rfl <| AM (AP rfl) rfl <| AM (zw rfl rfl) rfl <| AM (AO rfl) rfl <| ?_
  refine AM (CZ rfl hA0 rfl i rfl hiS) rfl ?_
  refine AM (D4 (cs := BI S[i]) rfl (DU _) (DZ.flat (f := BI) (A := A0) DU hA0 (i := i) hiS)) rfl ?_
  refine AM (WH (s := T[i]) (t := S[i]) rfl rfl) rfl ?_
  refine EM <| zt <| ?_
  refine BP rfl (fun hne => ?_) (fun hne => ?_)
  ·rw [if_neg hne] at hsu
   refine AR <| zm rfl <| zm rfl <| zm rfl <| zv (AY rfl) <| zf rfl <| ?_
   refine zl rfl rfl <| zm rfl <| AZ (CZ rfl hB0 rfl i rfl hiT) rfl <| AZ (D4 (cs := BI T[i]) rfl (DU _) (DZ.flat (f := BI) (A := B0) DU hB0 (i := i) hiT)) rfl <| AZ (T0 (res := CT (i, T[i])) rfl (W0 i T[i])) rfl ?_
   refine AV (HG (res := CT (i, T[i])) rfl rfl (NZ i T[i])) rfl rfl rfl (fun b41 => ?_)
   refine AV (BT (A := C) (news := CT (i, T[i])) rfl rfl (BB.AI (b := b41)) OG (MJ _) AF AA) rfl rfl rfl (fun q2 => ?_)
   have hl : (GY S T (i + 1)).length = (GY S T i).length + 1 := by rw [hsu, List.length_append]; rfl
   have hfm : (GY S T (i + 1)).flatMap CT = (GY S T i).flatMap CT ++ CT (i, T[i]) := by rw [hsu, List.flatMap_append]; simp
   rw [← hl, ← hfm]
   refine zs rfl <| AS <| zb <| zt <| AR <| zm rfl <| zv (BM rfl rfl BO) <| ?_
   refine zs rfl <| AS <| B5 hK1 ((i + 1, q2)) (hlt) (by show m - (i + 1) < m - i; omega) BD BL
  have hne : T[i] = S[i] := Classical.not_not.1 hne
  rw [if_pos hne] at hsu
  rw [← hsu]
  refine C3 <| zb <| zt <| AR <| zm rfl <| zv (BM rfl rfl BO) <| ?_
  refine zs rfl <| AS <| B5 hK1 ((i + 1, C, c)) (hlt) (by show m - (i + 1) < m - i; omega) BD BL
 have him : i = m := by omega
 subst him
 refine CF <| ze <| ze <| CE <| zt <| AG <| AR <| zm rfl <| zs rfl <| zn <| zq <| ?_
 exact zz rfl rfl fun w' H' => ⟨(C, c), rfl, H'.AK (AD.trans (b := [AI q 56 [.slice B0 T.length d0, .slice B1 0 d1], row B0 61 64 T.length d0 (T.flatMap BI), row B1 63 65 0 d1 [], AI g 56 [.slice A0 S.length c0, .slice A1 0 c1], row A0 61 64 S.length c0 (S.flatMap BI), row A1 63 65 0 c1 [], row C 63 65 (GY S T i).length c ((GY S T i).flatMap CT)]) Z8 (AD.trans (JK (tD := 56) (tL := 63) (g := q) (S := T) (P := []) (A0 := B0) (c0 := d0) (A1 := B1) (c1 := d1)) (AD.trans (b := [AI g 56 [.slice A0 S.length c0, .slice A1 0 c1], row A0 61 64 S.length c0 (S.flatMap BI), row A1 63 65 0 c1 [], U5 56 63 q T [], row C 63 65 (GY S T i).length c ((GY S T i).flatMap CT)]) Z8 (JK (tD := 56) (tL := 63) (g := g) (S := S) (P := []) (A0 := A0) (c0 := c0) (A1 := A1) (c1 := c1)))))⟩
abbrev H6 := List (Nat × BA)
def JZ (l : H6) (i : Nat) : Bool := (l.take i).all fun p => decide (p.1 < 32)
def MM (l : H6) (i : Nat) : Nat := match l[i]? with
 | none => 4
 | some p => if p.1 < 32 then (if p.1 % 16 ≠ 0 then 0 else 1) else if JZ l i then 3 else 2
def DX (l : H6) (r n : Nat) : H6 := ((List.range n).filter fun i => decide (MM l i = r)).map fun i => l.getD i (0, FP)
theorem R1 {l : H6} {r i : Nat} (hi : i < l.length) : DX l r (i + 1) = if MM l i = r then DX l r i ++ [l[i]] else DX l r i := by
 have hg : l.getD i (0, FP) = l[i] := by rw [List.getD_eq_getElem?_getD, List.getElem?_eq_getElem hi]; rfl
 unfold DX
 rw [List.range_succ, List.filter_append, List.map_append]
 by_cases h : MM l i = r
 ·rw [if_pos h]
  simp only [List.filter, decide_eq_true h, List.map_cons, List.map_nil, hg]
 rw [if_neg h]
 simp [List.filter, decide_eq_false h]
theorem QU {l : H6} {r : Nat} (n : Nat) : (DX l r n).length ≤ n := by
 unfold DX
 rw [List.length_map]
 exact Nat.le_trans (List.length_filter_le _ _) (by rw [List.length_range]; exact Nat.le_refl _)
theorem nC {l : H6} {i : Nat} (hi : i < l.length) : JZ l (i + 1) = (JZ l i && decide (l[i].1 < 32)) := by
 unfold JZ
 rw [List.take_succ_eq_append_getElem hi, List.all_append]
 simp
abbrev Q4 := (Option Addr × Nat) × (Option Addr × Nat) × (Option Addr × Nat) × (Option Addr × Nat)
abbrev M5 (l : H6) (i : Nat) (q : Q4) : List Value := [.slice q.1.1 (DX l 0 i).length q.1.2, .slice q.2.1.1 (DX l 1 i).length q.2.1.2, .slice q.2.2.1.1 (DX l 2 i).length q.2.2.1.2, .slice q.2.2.2.1 (DX l 3 i).length q.2.2.2.2]
abbrev LW (l : H6) (i : Nat) (q : Q4) : List AQ := [row q.1.1 63 65 (DX l 0 i).length q.1.2 ((DX l 0 i).flatMap CT), row q.2.1.1 63 65 (DX l 1 i).length q.2.1.2 ((DX l 1 i).flatMap CT), row q.2.2.1.1 63 65 (DX l 2 i).length q.2.2.1.2 ((DX l 2 i).flatMap CT), row q.2.2.2.1 63 65 (DX l 3 i).length q.2.2.2.2 ((DX l 3 i).flatMap CT)]
def JF (v : Value) : Bool := match v with | .slice _ n _ => decide (0 < n) | _ => false
theorem qW {V : List Value} {i : Nat} {v : Value} (h : V[i]? = some v) : (V.take (i + 1)).filter JF = if JF v then (V.take i).filter JF ++ [v] else (V.take i).filter JF := by
 obtain ⟨hi, rfl⟩ := List.getElem?_eq_some_iff.1 h
 rw [List.take_succ_eq_append_getElem hi, List.filter_append]
 by_cases hn : JF V[i] = true
 ·rw [if_pos hn]; simp [List.filter, hn]
 rw [if_neg hn]
 have : JF V[i] = false := by simpa using hn
 simp [List.filter, this]
set_option maxHeartbeats 2000000 in
theorem iR (D : Nat → Prop) (w : World) (X : Option Addr) (cX : Nat) (l : H6) (hl : l.length ≤ 1000) (H : AH D w w [row X 63 65 l.length cX (l.flatMap CT)]) :
  Calls Tryz.prog 21 #[.slice X l.length cX] w fun e w' => ∃ x : (Option Addr × Nat) × Q4, e = .returned (.slice x.1.1 ((M5 l l.length x.2).filter JF).length x.1.2) ∧
   AH D w w' (row x.1.1 54 1 ((M5 l l.length x.2).filter JF).length x.1.2 ((M5 l l.length x.2).filter JF) :: LW l l.length x.2) := by
 refine BZ (vs := [.slice X l.length cX]) Tryz.func21 rfl _ Tryz.ntmps21 rfl H ?_
 simp only [BX, Nat.zero_add]
 refine HC.fact (fun w H => LN (A := X) H) (fun hf0 => ?_)
 refine zg <| zs rfl <| zn <| AG <| AR <| AV (B9) rfl rfl rfl fun b3 =>
  zn <| zg <| ?_
 refine zs rfl <| zn <| AG <| zg <| zs rfl <| zn <| BK <| JA (σ := Nat × Q4) [0, 3] rfl 5 (fun s => .int .i64 (s.1 : Int)) 4 (fun s => .bool (JZ l s.1)) (fun s => row X 63 65 l.length cX (l.flatMap CT) :: AI b3 140 (M5 l s.1 s.2) :: LW l s.1 s.2) (fun s => s.1 ≤ l.length) (fun s => l.length - s.1) ((0, (none, 0), (none, 0), (none, 0), (none, 0))) (Nat.zero_le _) rfl rfl (AD.trans (AD.EB 63 65) (AD.trans (AD.EB 63 65) (AD.trans (AD.EB 63 65) (AD.trans (AD.EB 63 65) (show AD _ [row X 63 65 l.length cX (l.flatMap CT), AI b3 140 [.slice none 0 0, .slice none 0 0, .slice none 0 0, .slice none 0 0], row none 63 65 0 0 [], row none 63 65 0 0 [], row none 63 65 0 0 [], row none 63 65 0 0 []] from Z8))))) ?_
 rintro ⟨i, q0, q1, q2, q3⟩ hi K1 hK1
 dsimp only at hi ⊢
 refine AG <| zg <| zm rfl <| zm rfl <| zv BN <| ?_
 refine zv (B7 rfl rfl) <| zn <| BP rfl (fun hlt => ?_) (fun hlt => ?_)
 ·have hlt : i < l.length := by omega
  have hX : CU X := hf0.2 (L6 HH AF AA)
  obtain ⟨p, hp⟩ : ∃ p, p = l[i] := ⟨_, rfl⟩
  have hcl : MM l i = if p.1 < 32 then (if p.1 % 16 ≠ 0 then 0 else 1) else if JZ l i then 3 else 2 := by unfold MM; rw [List.getElem?_eq_getElem hlt, ← hp]
  have s0 := R1 (r := 0) hlt
  have s1 := R1 (r := 1) hlt
  have s2 := R1 (r := 2) hlt
  have s3 := R1 (r := 3) hlt
  have f1 := nC hlt
  rw [← hp] at s0 s1 s2 s3 f1
  have l0 := QU (l := l) (r := 0) i
  have l1 := QU (l := l) (r := 1) i
  have l2 := QU (l := l) (r := 2) i
  have l3 := QU (l := l) (r := 3) i
  refine zk <| AG <| BK <| zg <| zm rfl <| zm rfl <| AZ (CZ rfl hX rfl i rfl hlt) rfl <| AZ (D4 (cs := CT p) rfl (HH _) (by rw [hp]; exact DZ.flat (f := CT) (A := X) HH hX (i := i) hlt)) rfl ?_
  refine AV (B9) rfl rfl rfl fun b6 =>  ?_
  refine A6 (CV (vs := CT p) rfl rfl (by simp) (by simp) (MJ _)) rfl rfl ?_
  refine zn <| BK <| zg <| zf rfl <| ?_
  refine zl rfl rfl <| zv (B7 rfl rfl) <| zm rfl <| DB (t := 29) rfl (fun c1 => ?_) (fun c1 => ?_)
  ·refine AJ rfl rfl <| zf rfl <| AJ rfl rfl <| zl rfl rfl <| ?_
   refine AJ rfl rfl <| AZ (XG (m := p.1 % 16) (b := 16) rfl rfl AA rfl) rfl ?_
   refine AJ rfl rfl <| zv (CG rfl rfl) <| zv (BF rfl rfl) <| zs rfl <| zn <| BP rfl (fun c2 => ?_) (fun c2 => ?_)
   ·have hfs : JZ l (i + 1) = JZ l i := by rw [f1, decide_eq_true (show p.1 < 32 by omega), Bool.and_true]
    rw [← hfs]
    have hc : MM l i = 0 := by rw [hcl]; rw [if_pos AA, if_pos AA]
    rw [hc] at s0 s1 s2 s3
    rw [if_pos rfl] at s0
    rw [if_neg AF] at s1
    rw [if_neg AF] at s2
    rw [if_neg AF] at s3
    have hl' : (DX l 0 (i + 1)).length = (DX l 0 i).length + 1 := by rw [s0, List.length_append]; rfl
    have hf' : (DX l 0 (i + 1)).flatMap CT = (DX l 0 i).flatMap CT ++ CT p := by rw [s0, List.flatMap_append]; simp
    refine AR <| zv (KL rfl rfl rfl rfl rfl) <| zl rfl rfl <| AZ (FV rfl (HH p)) rfl <| AV (HG (res := CT p) rfl rfl (NZ p.1 p.2)) rfl rfl rfl (fun b38 => ?_)
    refine AV (BT (A := q0.1) (news := CT p) rfl rfl (BB.AI (b := b38)) OG (MJ _) AF AA) rfl rfl rfl (fun qn => ?_)
    rw [← hl', ← hf']
    refine zv (KL rfl rfl rfl rfl rfl) <| A6 (DN rfl rfl rfl rfl rfl) rfl rfl <| AS <| zb <| zb <| zt <| ?_
    refine AR <| zm rfl <| zv (BM rfl rfl BO) <| ?_
    refine zs rfl <| AS <| ?_
    exact B5 hK1 ((i + 1, qn, q1, q2, q3)) (hlt) RV BD ((by dsimp only [M5, LW]; rw [s1, s2, s3]; exact Z8))
   have hfs : JZ l (i + 1) = JZ l i := by rw [f1, decide_eq_true (show p.1 < 32 by omega), Bool.and_true]
   rw [← hfs]
   refine zg <| zf rfl <| zl rfl rfl <| zv (B7 rfl rfl) <| zs rfl <| ?_
   refine zn <| GR rfl (AA) ?_
   have hc : MM l i = 1 := by rw [hcl]; rw [if_pos AA, if_neg AA]
   rw [hc] at s0 s1 s2 s3
   rw [if_neg AF] at s0
   rw [if_pos rfl] at s1
   rw [if_neg AF] at s2
   rw [if_neg AF] at s3
   have hl' : (DX l 1 (i + 1)).length = (DX l 1 i).length + 1 := by rw [s1, List.length_append]; rfl
   have hf' : (DX l 1 (i + 1)).flatMap CT = (DX l 1 i).flatMap CT ++ CT p := by rw [s1, List.flatMap_append]; simp
   refine AR <| zv (KL rfl rfl rfl rfl rfl) <| zl rfl rfl <| AZ (FV rfl (HH p)) rfl <| AV (HG (res := CT p) rfl rfl (NZ p.1 p.2)) rfl rfl rfl (fun b48 => ?_)
   refine AV (BT (A := q1.1) (news := CT p) rfl rfl (BB.AI (b := b48)) OG (MJ _) AF AA) rfl rfl rfl (fun qn => ?_)
   rw [← hl', ← hf']
   refine zv (KL rfl rfl rfl rfl rfl) <| A6 (DN rfl rfl rfl rfl rfl) rfl rfl <| AS <| zb <| zb <| zt <| ?_
   refine AR <| zm rfl <| zv (BM rfl rfl BO) <| ?_
   refine zs rfl <| AS <| ?_
   exact B5 hK1 ((i + 1, q0, qn, q2, q3)) (hlt) RV BD ((by dsimp only [M5, LW]; rw [s0, s2, s3]; exact Z8))
  have hfs : JZ l (i + 1) = false := by rw [f1, decide_eq_false (show ¬ p.1 < 32 by omega), Bool.and_false]
  refine zo rfl rfl <| zo rfl rfl <| zo rfl rfl <| zo rfl rfl <| zv (A8 rfl rfl) <| zs rfl <| zn <| EU rfl <| zg <| zf rfl <| ?_
  refine zl rfl rfl <| zv (B7 rfl rfl) <| zs rfl <| zn <| CP rfl (AA) ?_
  refine zg <| zm rfl <| zs rfl <| zn <| ?_
  obtain ⟨b, hb⟩ : ∃ b, b = JZ l i := ⟨_, rfl⟩
  rw [← hb] at hcl ⊢
  cases b
  ·refine EU rfl ?_
   have hc : MM l i = 2 := by rw [hcl]; rw [if_neg AA, if_neg AF]
   rw [hc] at s0 s1 s2 s3
   rw [if_neg AF] at s0
   rw [if_neg AF] at s1
   rw [if_pos rfl] at s2
   rw [if_neg AF] at s3
   have hl' : (DX l 2 (i + 1)).length = (DX l 2 i).length + 1 := by rw [s2, List.length_append]; rfl
   have hf' : (DX l 2 (i + 1)).flatMap CT = (DX l 2 i).flatMap CT ++ CT p := by rw [s2, List.flatMap_append]; simp
   refine AR <| zv (KL rfl rfl rfl rfl rfl) <| zl rfl rfl <| AZ (FV rfl (HH p)) rfl <| AV (HG (res := CT p) rfl rfl (NZ p.1 p.2)) rfl rfl rfl (fun b22 => ?_)
   refine AV (BT (A := q2.1) (news := CT p) rfl rfl (BB.AI (b := b22)) OG (MJ _) AF AA) rfl rfl rfl (fun qn => ?_)
   rw [← hl', ← hf']
   refine zv (KL rfl rfl rfl rfl rfl) <| A6 (DN rfl rfl rfl rfl rfl) rfl rfl <| AS <| zb <| zb <| zt <| ?_
   refine AR <| zm rfl <| zv (BM rfl rfl BO) <| ?_
   refine zs rfl <| AS <| ?_
   rw [show Value.bool false = Value.bool (JZ l (i + 1)) from by rw [hfs]]
   exact B5 hK1 ((i + 1, q0, q1, qn, q3)) (hlt) RV BD ((by dsimp only [M5, LW]; rw [s0, s1, s3]; exact Z8))
  refine DD rfl ?_
  have hc : MM l i = 3 := by rw [hcl]; rw [if_neg AA, if_pos rfl]
  rw [hc] at s0 s1 s2 s3
  rw [if_neg AF] at s0
  rw [if_neg AF] at s1
  rw [if_neg AF] at s2
  rw [if_pos rfl] at s3
  have hl' : (DX l 3 (i + 1)).length = (DX l 3 i).length + 1 := by rw [s3, List.length_append]; rfl
  have hf' : (DX l 3 (i + 1)).flatMap CT = (DX l 3 i).flatMap CT ++ CT p := by rw [s3, List.flatMap_append]; simp
  refine zg <| zv (KL rfl rfl rfl rfl rfl) <| zl rfl rfl <| AZ (FV rfl (HH p)) rfl <| AV (HG (res := CT p) rfl rfl (NZ p.1 p.2)) rfl rfl rfl (fun b56 => ?_)
  refine AV (BT (A := q3.1) (news := CT p) rfl rfl (BB.AI (b := b56)) OG (MJ _) AF AA) rfl rfl rfl (fun qn => ?_)
  rw [← hl', ← hf']
  refine zv (KL rfl rfl rfl rfl rfl) <| A6 (DN rfl rfl rfl rfl rfl) rfl rfl <| zn <| AR <| zs rfl <| ?_
  refine AS <| zb <| zb <| zt <| AR <| zm rfl <| zv (BM rfl rfl BO) <| ?_
  refine zs rfl <| AS <| ?_
  rw [show Value.bool false = Value.bool (JZ l (i + 1)) from by rw [hfs]]
  exact B5 hK1 ((i + 1, q0, q1, q2, qn)) (hlt) RV BD ((by dsimp only [M5, LW]; rw [s0, s1, s2]; exact Z8))
 have hil : i = l.length := by omega
 subst hil
 obtain ⟨V, hV⟩ : ∃ V, V = M5 l l.length (q0, q1, q2, q3) := ⟨_, rfl⟩
 have hV4 : V.length = 4 := by rw [hV]; rfl
 have hVi : ∀ j, j < 4 → ∃ B n c, V[j]? = some (.slice B n c) := fun j hj => by
  rw [hV]
  match j, hj with
  | 0, _ => exact ⟨_, _, _, rfl⟩
  | 1, _ => exact ⟨_, _, _, rfl⟩
  | 2, _ => exact ⟨_, _, _, rfl⟩
  | 3, _ => exact ⟨_, _, _, rfl⟩
 rw [← hV]
 refine HC.AK (l' := AI b3 140 V :: LW l l.length (q0, q1, q2, q3)) Z8 ?_
 refine CF <| ze <| ze <| CE <| zt <| AG <| AR <| zs rfl <| zn <| AG <| AG <| AR <| zs rfl <| zn <| BK <| JA (σ := Nat × Option Addr × Nat) [3] rfl 8 (fun s => .int .i64 (s.1 : Int)) 7 (fun s => .slice s.2.1 ((V.take s.1).filter JF).length s.2.2) (fun s => row s.2.1 54 1 ((V.take s.1).filter JF).length s.2.2 ((V.take s.1).filter JF) :: AI b3 140 V :: LW l l.length (q0, q1, q2, q3)) (fun s => s.1 ≤ 4) (fun s => 4 - s.1) ((0, none, 0)) (Nat.zero_le _) rfl rfl (AD.EB 54 1) ?_
 rintro ⟨j, C, c⟩ hj K2 hK2
 dsimp only at hj ⊢
 refine AG <| zg <| zm rfl <| zv (B7 rfl rfl) <| AS <| zt <| BP rfl (fun hj4 => ?_) (fun hj4 => ?_)
 ·have hj4 : j < 4 := by omega
  obtain ⟨B, n, cB, hv⟩ := hVi j hj4
  have hv' : V[0 + j * 1]? = some (.slice B n cB) := by rw [Nat.zero_add, Nat.mul_one]; exact hv
  have hs := qW hv
  have hfl : ((V.take j).filter JF).length ≤ 4 := Nat.le_trans (List.length_filter_le _ _) OK
  refine zk <| AG <| BK <| zg <| zm rfl <| AZ (UI rfl rfl j rfl hj4) rfl <| AZ (GB rfl (EH.AI hv')) rfl <| zv BN <| ?_
  refine zv (DV rfl rfl) <| zn <| BP rfl (fun hn => ?_) (fun hn => ?_)
  ·have hne : JF (.slice B n cB) = true := by unfold JF; simpa using (show 0 < n by omega)
   rw [if_pos hne] at hs
   refine AR <| zm rfl <| zm rfl <| AZ (UI rfl rfl j rfl hj4) rfl <| AZ (GB rfl (EH.AI hv')) rfl <| AV (BS rfl rfl rfl) rfl rfl rfl fun b72 =>  ?_
   refine AV (BT (A := C) (news := [.slice B n cB]) rfl rfl (BB.AI (b := b72)) rfl CL AF AA) rfl rfl rfl (fun q9 => ?_)
   have hl9 : ((V.take (j + 1)).filter JF).length = ((V.take j).filter JF).length + 1 := by rw [hs, List.length_append]; rfl
   rw [← hs, ← hl9]
   refine zs rfl <| AS <| zb <| zt <| AR <| zm rfl <| zv (BM rfl rfl BO) <| ?_
   refine zs rfl <| AS <| B5 hK2 ((j + 1, q9)) (hj4) (by show 4 - (j + 1) < 4 - j; omega) BD BL
  have hne : ¬ JF (.slice B n cB) = true := by unfold JF; simpa using (show n = 0 by omega)
  rw [if_neg hne] at hs
  rw [← hs]
  refine C3 <| zb <| zt <| AR <| zm rfl <| zv (BM rfl rfl BO) <| ?_
  refine zs rfl <| AS <| B5 hK2 ((j + 1, C, c)) (hj4) (by show 4 - (j + 1) < 4 - j; omega) BD BL
 have hj4 : j = 4 := by omega
 subst hj4
 rw [List.take_of_length_le AA]
 refine CF <| ze <| ze <| CE <| zt <| AG <| AR <| zm rfl <| zs rfl <| zn <| zq <| ?_
 exact zz rfl rfl fun w' H' => ⟨((C, c), (q0, q1, q2, q3)), by rw [hV], H'.AK (by rw [hV]; exact Z8)⟩
theorem XF {S T : List BA} {m : Nat} {p : Nat × BA} : p ∈ GY S T m ↔ p.1 < m ∧ T[p.1]? ≠ S[p.1]? ∧ p.2 = T.getD p.1 FP := by
 unfold GY
 rw [List.mem_map]
 constructor
 ·rintro ⟨j, hj, rfl⟩
  obtain ⟨h1, h2⟩ := List.mem_filter.1 hj
  exact ⟨List.mem_range.1 h1, of_decide_eq_true h2, rfl⟩
 ·rintro ⟨h1, h2, h3⟩
  exact ⟨p.1, List.mem_filter.2 ⟨List.mem_range.2 h1, decide_eq_true h2⟩, Prod.ext rfl h3.symm⟩
theorem kI (S T : List BA) (m : Nat) : (GY S T m).Pairwise fun a b => a.1 < b.1 := by
 unfold GY
 refine List.Pairwise.map _ (fun _ _ h => h) ?_
 exact List.Pairwise.filter _ List.pairwise_lt_range
theorem VY {l : H6} {f : Nat × BA → Nat} (h : ∀ i (hi : i < l.length), MM l i = f l[i]) (r : Nat) : ∀ i, i ≤ l.length → DX l r i = (l.take i).filter fun p => decide (f p = r)
 | 0, _ => rfl
 | i + 1, hi => by
  have hlt : i < l.length := by omega
  rw [R1 hlt, h i hlt, VY h r i AA, List.take_succ_eq_append_getElem hlt, List.filter_append]
  by_cases hc : f l[i] = r
  ·rw [if_pos hc]; simp [List.filter, decide_eq_true hc]
  ·rw [if_neg hc]; simp [List.filter, decide_eq_false hc]
theorem cN {S T : List BA} {m hd : Nat} (h32 : 32 ≤ hd) (hm : hd < m) (hch : T[hd]? ≠ S[hd]?) (hmin : ∀ j, 32 ≤ j → j < hd → T[j]? = S[j]?) :
  ∀ i (hi : i < (GY S T m).length), MM (GY S T m) i = IY hd ((GY S T m)[i]).1 := by
 intro i hi
 obtain ⟨l, hl⟩ : ∃ l, l = GY S T m := ⟨_, rfl⟩
 have hs : l.Pairwise fun a b => a.1 < b.1 := by rw [hl]; exact kI S T m
 have hmem : ∀ p, p ∈ l ↔ p.1 < m ∧ T[p.1]? ≠ S[p.1]? ∧ p.2 = T.getD p.1 FP := fun p => by rw [hl]; exact XF
 revert hi
 rw [← hl]
 intro hi
 unfold MM IY
 rw [List.getElem?_eq_getElem hi]
 show (if l[i].1 < 32 then _ else _) = _
 by_cases h1 : l[i].1 < 32
 ·rw [if_pos h1, if_pos h1]
 ·rw [if_neg h1, if_neg h1]
  have hin := (hmem l[i]).1 (List.getElem_mem hi)
  by_cases h2 : l[i].1 = hd
  ·rw [if_pos h2]
   have : JZ l i = true := by
    unfold JZ
    rw [List.all_eq_true]
    intro p hp
    obtain ⟨j, hj, rfl⟩ := List.getElem_of_mem hp
    rw [List.length_take] at hj
    rw [List.getElem_take]
    have hji : j < i := by omega
    have hlt := List.pairwise_iff_getElem.1 hs j i AA hi hji
    have hj' := (hmem l[j]).1 (List.getElem_mem AA)
    refine decide_eq_true (Classical.byContradiction fun h3 => hj'.2.1 (hmin _ AA AA))
   rw [this]; rfl
  ·rw [if_neg h2]
   have : JZ l i = false := by
    have hhd : ((hd, T.getD hd FP) : Nat × BA) ∈ l := (hmem _).2 ⟨hm, hch, rfl⟩
    obtain ⟨j, hj, hje⟩ := List.getElem_of_mem hhd
    have hj1 : l[j].1 = hd := by rw [hje]
    have hji : j < i := by
     rcases Nat.lt_trichotomy j i with h | h | h
     ·exact h
     ·subst h; exact absurd hj1 h2
     ·have := List.pairwise_iff_getElem.1 hs i j hi hj h
      exact absurd (hmin l[i].1 AA AA) hin.2.1
    unfold JZ
    rw [List.all_eq_false]
    refine ⟨l[j], ?_, by rw [hj1]; simp; omega⟩
    have : (l.take i)[j]'(by rw [List.length_take]; omega) = l[j] := List.getElem_take
    rw [← this]; exact List.getElem_mem _
   rw [this]; rfl
theorem eL {ep seq : Nat} {x : List UInt8} (h1 : ep < 4294967296) (h2 : seq < 4294967296) (h3 : x.length ≤ 4000) : OE (EY ep seq x) := by
 refine ⟨?_, h1, h2, h3⟩
 show 1 < 256
 decide
theorem cG {m : Nat} {s s' : E1} {le : List C5} (h : SI m s) (hm2 : m ≤ 100000) (hep : s.ep < 4294967290) (hc : EC m s le = (0, s')) :
  32 ≤ GV m s le ∧ GV m s le < m ∧ s'.S[GV m s le]? ≠ s.S[GV m s le]? ∧ ∀ j : Nat, 32 ≤ j → j < GV m s le → s'.S[j]? = s.S[j]? := by
 obtain ⟨he, hl, hcase⟩ := ZT hc
 have hlen := h.len
 have hm := h.m40
 have hk := h.KS
 have hes := OO hl.1
 have hreg : ∀ j : Nat, (FI s.S)[j]? = s.S[32 + j]? := fun j => List.getElem?_drop
 have hpos : ∀ e : EO, e.2.2.2.length ≤ 4000 → OE e → ∃ x, (C1 e)[0]? = some x ∧ PZ e.2.1 x := fun e h4 hok => by
  have hd := W7 e hok []
  rw [List.append_nil] at hd
  rcases hE : C1 e with _ | ⟨x, r⟩
  ·rw [hE] at hd; cases hd
  ·rw [hE] at hd
   exact ⟨x, rfl, (SA hd).1⟩
 rcases hcase with ⟨hfit, hs'⟩ | ⟨hnf, hfit, hs'⟩
 ·have hd : GV m s le = 32 + s.k := by unfold GV; rw [if_pos hfit]
  rw [hd]
  have hEl : (C1 (EY s.ep s.Ls.length (AW le))).length = DG (AW le).length := MT (EY s.ep s.Ls.length (AW le)) (show (AW le).length ≤ 4000 by omega)
  have hS : ∀ j : Nat, s'.S[j]? = if j < 32 + s.k then s.S[j]? else if j < 32 + s.k + (C1 (EY s.ep s.Ls.length (AW le))).length then (C1 (EY s.ep s.Ls.length (AW le)))[j - (32 + s.k)]? else s.S[j]? := fun j => by
   rw [hs']
   show (D7 s.S (32 + s.k) (C1 (EY s.ep s.Ls.length (AW le))))[j]? = _
   rw [LP AA]
  obtain ⟨x, hx, hh⟩ := hpos (EY s.ep s.Ls.length (AW le)) (show (AW le).length ≤ 4000 by omega) (eL AA (by have := h.many; omega) AA)
  have hxl : 0 < (C1 (EY s.ep s.Ls.length (AW le))).length := by
   obtain ⟨a, _⟩ := List.getElem?_eq_some_iff.1 hx; exact a
  refine ⟨by omega, by omega, fun e => ?_, fun j h1 h2 => by rw [hS, if_pos h2]⟩
  rw [hS, if_neg AA, if_pos AA, Nat.sub_self, hx, ← hreg] at e
  have : x ∈ (FI s.S).drop s.k := by
   refine List.mem_of_getElem? (i := 0) ?_
   rw [List.getElem?_drop, Nat.add_zero]; exact e.symm
  exact h.ji.rest x this hh
 ·have hd : GV m s le = 32 := by unfold GV; rw [if_neg hnf]
  rw [hd]
  have hsv := OR h hep
  obtain ⟨s1, hs1⟩ : ∃ s1, s1 = H8 s := ⟨_, rfl⟩
  have hk1 : s1.k = 0 := by rw [hs1]; rfl
  have he1 : s1.ep = s.ep + 1 := by rw [hs1]; rfl
  rw [← hs1] at hsv hs'
  have hl1 := hsv.len
  have hEl : (C1 (EY s1.ep s1.Ls.length (AW le))).length = DG (AW le).length := MT (EY s1.ep s1.Ls.length (AW le)) (show (AW le).length ≤ 4000 by omega)
  obtain ⟨x, hx, hh⟩ := hpos (EY s1.ep s1.Ls.length (AW le)) (show (AW le).length ≤ 4000 by omega) (eL AA (by have := hsv.many; omega) AA)
  have hxl : 0 < (C1 (EY s1.ep s1.Ls.length (AW le))).length := by
   obtain ⟨a, _⟩ := List.getElem?_eq_some_iff.1 hx; exact a
  refine ⟨by omega, by omega, fun e => ?_, fun j h1 h2 => absurd h1 AA⟩
  have hS : s'.S[32]? = some x := by
   rw [hs']
   show (D7 s1.S (32 + s1.k) (C1 (EY s1.ep s1.Ls.length (AW le))))[32]? = _
   rw [hk1, LP AA, if_neg AA, if_pos AA, Nat.sub_self, hx]
  rw [hS, show (32 : Nat) = 32 + 0 from rfl, ← hreg] at e
  exact h.fresh (s.ep + 1) (Nat.lt_succ_self _) x (List.mem_of_getElem? e.symm) (he1 ▸ hh)
def ES (l : H6) : List Nat := [0, 1, 2, 3].filter fun r => decide (0 < (DX l r l.length).length)
theorem VQ (l : H6) : (ES l).Pairwise (· < ·) := List.Pairwise.filter _ AF
theorem TT {l : H6} {r : Nat} : r ∈ ES l ↔ r ≤ 3 ∧ 0 < (DX l r l.length).length := by
 unfold ES
 rw [List.mem_filter]
 constructor
 ·rintro ⟨h1, h2⟩
  refine ⟨?_, of_decide_eq_true h2⟩
  simp at h1; omega
 ·rintro ⟨h1, h2⟩
  refine ⟨?_, decide_eq_true h2⟩
  simp; omega
theorem p9 (hd j : Nat) : IY hd j ≤ 3 := by unfold IY; split; · split <;> decide
                                            split <;> decide
theorem cM {m : Nat} {s s' : E1} {le : List C5} (h : SI m s) (h0 : 0 < s.ep) (hm2 : m ≤ 100000) (hep : s.ep < 4294967290) (hf : ∀ x ∈ le, Flat.ok x) (hc : EC m s le = (0, s'))
  {l : H6} (hl : l = GY s.S s'.S m) {k : Nat} (hk : k ≤ (ES l).length) {U : List BA} (hUl : U.length = m)
  (hU : ∀ j : Nat, U[j]? = s.S[j]? ∨ U[j]? = s'.S[j]?)
  (hdone : ∀ a (ha : a < (ES l).length), a < k → ∀ p ∈ DX l (ES l)[a] l.length, U[p.1]? = s'.S[p.1]?)
  (hnot : ∀ a (ha : a < (ES l).length), k < a → ∀ p ∈ DX l (ES l)[a] l.length, U[p.1]? = s.S[p.1]?) :
  ∃ su, SI m su ∧ su.S = U ∧ su.ep ≤ s.ep + 1 ∧ su.c.2.2.2.1.length = s.c.2.2.2.1.length ∧ (k = (ES l).length → su.c = s'.c) ∧ (k + 1 < (ES l).length → su.c = s.c) ∧ (su.c = s.c ∨ su.c = s'.c) := by
 obtain ⟨hd, hhd⟩ : ∃ hd, hd = GV m s le := ⟨_, rfl⟩
 obtain ⟨d1, d2, d3, d4⟩ := cG h hm2 hep hc
 rw [← hhd] at d1 d2 d3 d4
 have hr' := Q7 h hf hep
 have hpl := V0 h hf hep
 rw [hc] at hr' hpl
 obtain ⟨k', r2, r3, r4, r5⟩ := hr'
 have k' : SI m s' := k'
 have hlen := h.len
 have hlen' := k'.len
 have hcls := cN (m := m) d1 d2 d3 d4
 rw [← hl] at hcls
 have hP : ∀ r p, p ∈ DX l r l.length ↔ p ∈ l ∧ IY hd p.1 = r := fun r p => by
  rw [VY (f := fun p => IY hd p.1) hcls r l.length (Nat.le_refl _), List.take_length, List.mem_filter]
  exact ⟨fun ⟨a, b⟩ => ⟨a, of_decide_eq_true b⟩, fun ⟨a, b⟩ => ⟨a, decide_eq_true b⟩⟩
 have hch : ∀ j : Nat, s'.S[j]? ≠ s.S[j]? → ∃ a, ∃ ha : a < (ES l).length, (ES l)[a] = IY hd j ∧ ∃ x, (j, x) ∈ DX l (ES l)[a] l.length := fun j hj => by
  have hjm : j < m := by
   refine Classical.byContradiction fun hn => hj ?_
   rw [List.getElem?_eq_none AA, List.getElem?_eq_none AA]
  have hin : ((j, s'.S.getD j FP) : Nat × BA) ∈ DX l (IY hd j) l.length := (hP _ _).2 ⟨by rw [hl]; exact XF.2 ⟨hjm, hj, rfl⟩, rfl⟩
  have hmem : IY hd j ∈ ES l := TT.2 ⟨p9 _ _, List.length_pos_of_mem hin⟩
  obtain ⟨a, ha, hae⟩ := List.getElem_of_mem hmem
  exact ⟨a, ha, hae, _, by rw [hae]; exact hin⟩
 have hlt : ∀ a b (ha : a < (ES l).length) (hb : b < (ES l).length), (ES l)[a] < (ES l)[b] → a < b := fun a b ha hb hab => by
  refine Classical.byContradiction fun hn => ?_
  rcases Nat.lt_or_ge b a with h1 | h1
  ·have := List.pairwise_iff_getElem.1 (VQ l) b a hb ha h1; omega
  ·have : a = b := by omega
   subst this; omega
 have hord : ∀ j j' : Nat, IY hd j' < IY hd j → U[j]? ≠ s.S[j]? → U[j']? = s'.S[j']? := fun j j' hjj hne => by
  by_cases hcj : s'.S[j']? = s.S[j']?
  ·rcases hU j' with k | k
   ·rw [k, hcj]
   ·exact k
  ·have hj : s'.S[j]? ≠ s.S[j]? := fun e => by
    rcases hU j with k | k
    ·exact hne k
    ·exact hne (k.trans e)
   obtain ⟨a, ha, hae, x, hx⟩ := hch j hj
   obtain ⟨b, hb, hbe, y, hy⟩ := hch j' hcj
   have hak : a ≤ k := Classical.byContradiction fun hn => hne (hnot a ha AA _ hx)
   have hba : b < a := hlt b a hb ha (by rw [hae, hbe]; exact hjj)
   exact hdone b hb AA _ hy
 by_cases hkl : k = (ES l).length
 ·have hUS : U = s'.S := by
   refine List.ext_getElem? fun j => ?_
   by_cases hcj : s'.S[j]? = s.S[j]?
   ·rcases hU j with k | k
    ·rw [k, hcj]
    ·exact k
   ·obtain ⟨a, ha, hae, x, hx⟩ := hch j hcj
    exact hdone a ha AA _ hx
  exact ⟨s', k', hUS.symm, r3, hpl, fun _ => rfl, fun hk2 => by omega, .inr rfl⟩
 ·rcases mW h h0 hep hc hUl hU (by rw [← hhd]; exact hord) with ⟨_, su, t1, t2, t3, t4⟩ | hUS
  ·exact ⟨su, t1, t2, t4, by rw [t3], fun hk2 => absurd hk2 hkl, fun _ => t3, .inl t3⟩
  ·refine ⟨s', k', hUS.symm, r3, hpl, fun _ => rfl, fun hk2 => ?_, .inr rfl⟩
   obtain ⟨a, ha, hae, x, hx⟩ := hch hd d3
   have hr3 : IY hd hd = 3 := by unfold IY; rw [if_neg AA, if_pos rfl]
   have hak : a ≤ k := Classical.byContradiction fun hn => by
    have := hnot a ha AA _ hx
    rw [hUS] at this
    exact d3 this
   have hl1 : (ES l).length - 1 < (ES l).length := by omega
   have h3 := (TT.1 (List.getElem_mem hl1)).1
   have : a < (ES l).length - 1 := by omega
   have := List.pairwise_iff_getElem.1 (VQ l) a ((ES l).length - 1) ha hl1 this
   omega
theorem VP (kept : Nat → Bool) : ∀ (P : List (Nat × BA)) (k : Nat) (S : List BA) (j : Nat), (∀ p ∈ P, p.1 ≠ j) → (FF kept k S P)[j]? = S[j]?
 | [], _, _, _, _ => rfl
 | p :: r, k, S, j, h => by
  unfold FF
  rw [VP kept r _ _ j (fun q hq => h q (List.mem_cons_of_mem _ hq))]
  split
  ·rw [List.getElem?_set_ne (h p (List.mem_cons_self ..))]
  ·rfl
theorem Y1 (kept : Nat → Bool) (f : Nat → BA) : ∀ (P : List (Nat × BA)) (k : Nat) (S : List BA) (j : Nat), (∀ p ∈ P, p.2 = f p.1) → j < S.length → ((FF kept k S P)[j]? = S[j]? ∨ (FF kept k S P)[j]? = some (f j))
 | [], _, _, _, _, _ => .inl rfl
 | p :: r, k, S, j, h, hj => by
  unfold FF
  have hr := Y1 kept f r (k + 1) (if kept k then S.set p.1 p.2 else S) j (fun q hq => h q (List.mem_cons_of_mem _ hq)) (by split <;> simpa using hj)
  rcases hr with e | e
  ·by_cases hk : kept k = true
   ·rw [if_pos hk] at e ⊢
    by_cases hp : p.1 = j
    ·right; rw [e, hp, List.getElem?_set_self hj, h p (List.mem_cons_self ..), hp]
    ·left; rw [e, List.getElem?_set_ne hp]
   ·rw [if_neg hk] at e ⊢
    exact .inl e
  ·exact .inr e
theorem ZJ (f : Nat → BA) : ∀ (P : List (Nat × BA)) (k : Nat) (S : List BA) (j : Nat), (∀ p ∈ P, p.2 = f p.1) → j < S.length → (∃ p ∈ P, p.1 = j) → (FF (fun _ => true) k S P)[j]? = some (f j)
 | [], _, _, _, _, _, h => by obtain ⟨p, hp, _⟩ := h; cases hp
 | p :: r, k, S, j, h, hj, hex => by
  unfold FF
  rw [if_pos rfl]
  by_cases hr : ∃ q ∈ r, q.1 = j
  ·exact ZJ f r (k + 1) _ j (fun q hq => h q (List.mem_cons_of_mem _ hq)) (by simpa using hj) hr
  ·rw [VP _ r _ _ j (fun q hq e => hr ⟨q, hq, e⟩)]
   obtain ⟨q, hq, hqj⟩ := hex
   rcases List.mem_cons.1 hq with rfl | hq
   ·rw [hqj, List.getElem?_set_self hj, h q (List.mem_cons_self ..), hqj]
   ·exact absurd ⟨q, hq, hqj⟩ hr
structure NK (S S' : List BA) (l : H6) (m k : Nat) (T : List BA) : Prop where
 len : T.length = m
 two : ∀ j : Nat, T[j]? = S[j]? ∨ T[j]? = S'[j]?
 did : ∀ a (ha : a < (ES l).length), a < k → ∀ p ∈ DX l (ES l)[a] l.length, T[p.1]? = S'[p.1]?
 not : ∀ a (ha : a < (ES l).length), k ≤ a → ∀ p ∈ DX l (ES l)[a] l.length, T[p.1]? = S[p.1]?
theorem NK.zero {S S' : List BA} {l : H6} {m : Nat} (h : S.length = m) : NK S S' l m 0 S := ⟨h, fun _ => .inl rfl, fun a _ h => absurd h (Nat.not_lt_zero _), fun _ _ _ _ _ => rfl⟩
structure XE (S' : List BA) (l : H6) (m : Nat) : Prop where
 val : ∀ r, ∀ p ∈ DX l r l.length, p.1 < m ∧ S'[p.1]? = some p.2
 one : ∀ r r' p p', p ∈ DX l r l.length → p' ∈ DX l r' l.length → p.1 = p'.1 → r = r'
theorem NK.mid {S S' : List BA} {l : H6} {m k : Nat} {T : List BA} (h : NK S S' l m k T) (ok : XE S' l m) (hS' : S'.length = m) (hk : k < (ES l).length) (kf : Nat → Bool) :
  (FF kf 0 T (DX l (ES l)[k] l.length)).length = m ∧ (∀ j : Nat, (FF kf 0 T (DX l (ES l)[k] l.length))[j]? = S[j]? ∨ (FF kf 0 T (DX l (ES l)[k] l.length))[j]? = S'[j]?) ∧
   ∀ a (ha : a < (ES l).length), a ≠ k → ∀ p ∈ DX l (ES l)[a] l.length, (FF kf 0 T (DX l (ES l)[k] l.length))[p.1]? = T[p.1]? := by
 have hv : ∀ p ∈ DX l (ES l)[k] l.length, p.2 = S'.getD p.1 FP := fun p hp => by
  rw [List.getD_eq_getElem?_getD, (ok.val _ p hp).2]; rfl
 refine ⟨by rw [PC, h.len], fun j => ?_, fun a ha hak p hp => ?_⟩
 ·by_cases hj : j < m
  ·rcases Y1 kf (fun j => S'.getD j FP) (DX l (ES l)[k] l.length) 0 T j hv (by rw [h.len]; exact hj) with e | e
   ·rw [e]; exact h.two j
   ·right; rw [e, List.getD_eq_getElem?_getD, List.getElem?_eq_getElem AA]; rfl
  ·rw [List.getElem?_eq_none (by rw [PC, h.len]; omega)]
   right; rw [List.getElem?_eq_none AA]
 ·refine VP kf _ 0 T p.1 fun q hq e => hak ?_
  have := ok.one _ _ q p hq hp e
  have hs := VQ l
  rcases Nat.lt_trichotomy a k with h1 | h1 | h1
  ·have := List.pairwise_iff_getElem.1 hs a k ha hk h1; omega
  ·exact h1
  ·have := List.pairwise_iff_getElem.1 hs k a hk ha h1; omega
theorem NK.next {S S' : List BA} {l : H6} {m k : Nat} {T : List BA} (h : NK S S' l m k T) (ok : XE S' l m) (hS' : S'.length = m) (hk : k < (ES l).length) :
  NK S S' l m (k + 1) (FF (fun _ => true) 0 T (DX l (ES l)[k] l.length)) := by
 obtain ⟨a1, a2, a3⟩ := h.mid ok hS' hk fun _ => true
 refine ⟨a1, a2, fun a ha hak p hp => ?_, fun a ha hak p hp => ?_⟩
 ·by_cases hka : a = k
  ·subst hka
   have hv : ∀ p ∈ DX l (ES l)[a] l.length, p.2 = S'.getD p.1 FP := fun p hp => by
    rw [List.getD_eq_getElem?_getD, (ok.val _ p hp).2]; rfl
   rw [ZJ (fun j => S'.getD j FP) _ 0 T p.1 hv (by rw [h.len]; exact (ok.val _ p hp).1) ⟨p, hp, rfl⟩, (ok.val _ p hp).2, List.getD_eq_getElem?_getD, (ok.val _ p hp).2]; rfl
  ·rw [a3 a ha hka p hp]; exact h.did a ha AA p hp
 ·rw [a3 a ha AA p hp]; exact h.not a ha AA p hp
theorem qG {m : Nat} {s s' : E1} {le : List C5} (h : SI m s) (hm2 : m ≤ 100000) (hep : s.ep < 4294967290) (hf : ∀ x ∈ le, Flat.ok x) (hc : EC m s le = (0, s')) {l : H6} (hl : l = GY s.S s'.S m) : XE s'.S l m := by
 obtain ⟨d1, d2, d3, d4⟩ := cG h hm2 hep hc
 have hr' := Q7 h hf hep
 rw [hc] at hr'
 have k' : SI m s' := hr'.1
 have hlen' := k'.len
 have hcls := cN (m := m) d1 d2 d3 d4
 rw [← hl] at hcls
 have hP : ∀ r p, p ∈ DX l r l.length → p ∈ l ∧ IY (GV m s le) p.1 = r := fun r p hp => by
  rw [VY (f := fun p => IY (GV m s le) p.1) hcls r l.length (Nat.le_refl _), List.take_length, List.mem_filter] at hp
  exact ⟨hp.1, of_decide_eq_true hp.2⟩
 refine ⟨fun r p hp => ?_, fun r r' p p' hp hp' e => ?_⟩
 ·have h1 := (hP r p hp).1
  rw [hl] at h1
  obtain ⟨a, _, c⟩ := XF.1 h1
  refine ⟨a, ?_⟩
  rw [c, List.getD_eq_getElem?_getD, List.getElem?_eq_getElem AA]; rfl
 ·rw [← (hP r p hp).2, ← (hP r' p' hp').2, e]
def MX (l : H6) (q : Q4) (r : Nat) : Value := match r with
 | 0 => .slice q.1.1 (DX l 0 l.length).length q.1.2
 | 1 => .slice q.2.1.1 (DX l 1 l.length).length q.2.1.2
 | 2 => .slice q.2.2.1.1 (DX l 2 l.length).length q.2.2.1.2
 | _ => .slice q.2.2.2.1 (DX l 3 l.length).length q.2.2.2.2
theorem kR (l : H6) (q : Q4) : (M5 l l.length q).filter JF = (ES l).map (MX l q) := by
 have h : M5 l l.length q = [0, 1, 2, 3].map (MX l q) := rfl
 rw [h, List.filter_map]
 congr 1
theorem aK (l : H6) (q : Q4) (r : Nat) (hr : r ≤ 3) : ∃ B c, MX l q r = .slice B (DX l r l.length).length c := by
 have : r = 0 ∨ r = 1 ∨ r = 2 ∨ r = 3 := by omega
 rcases this with rfl | rfl | rfl | rfl <;> exact ⟨_, _, rfl⟩
def QA (l : H6) (q : Q4) (r : Nat) : List AQ := (LW l l.length q).eraseIdx r
theorem cW (l : H6) (q : Q4) (r : Nat) (hr : r ≤ 3) {B : Option Addr} {c : Nat} (h : MX l q r = .slice B (DX l r l.length).length c) :
  List.Perm (LW l l.length q) (row B 63 65 (DX l r l.length).length c ((DX l r l.length).flatMap CT) :: QA l q r) := by
 have : r = 0 ∨ r = 1 ∨ r = 2 ∨ r = 3 := by omega
 rcases this with rfl | rfl | rfl | rfl
 ·simp only [MX, Value.slice.injEq] at h
  obtain ⟨rfl, _, rfl⟩ := h
  exact List.Perm.refl _
 ·simp only [MX, Value.slice.injEq] at h
  obtain ⟨rfl, _, rfl⟩ := h
  exact List.Perm.swap _ _ _
 ·simp only [MX, Value.slice.injEq] at h
  obtain ⟨rfl, _, rfl⟩ := h
  exact (List.Perm.cons _ (List.Perm.swap _ _ _)).trans (List.Perm.swap _ _ _)
 ·simp only [MX, Value.slice.injEq] at h
  obtain ⟨rfl, _, rfl⟩ := h
  exact (List.Perm.cons _ ((List.Perm.cons _ (List.Perm.swap _ _ _)).trans (List.Perm.swap _ _ _))).trans (List.Perm.swap _ _ _)
abbrev OD (g from_ to_ : Nat) : List Value := [.pointer (some ⟨g, 0, none⟩), .int .i64 (from_ : Int), .int .i64 (to_ : Int)]
theorem iW (D : Nat → Prop) (w : World) (g from_ to_ at_ N : Nat) (S T : List BA) (hto : to_ ≤ S.length) (hS : S.length ≤ 100000) (hN : at_ + N = to_) (hT : T = (S.drop at_).take N) (H : AH D w w [BR g S []]) :
  Calls Tryz.prog 78 #[.agg (OD g from_ to_).toArray, .int .i64 (at_ : Int)] w fun e w' => ∃ q : Option Addr × Nat, e = .returned (.slice q.1 N q.2) ∧ AH D w w' [row q.1 61 64 N q.2 (T.flatMap BI), BR g S []] := by
 refine BZ (vs := [.agg (OD g from_ to_).toArray, .int .i64 (at_ : Int)]) Tryz.func78 rfl _ Tryz.ntmps78 rfl H ?_
 simp only [BX, Nat.zero_add]
 refine zg <| AV (PT (cs := OD g from_ to_) rfl) rfl rfl rfl (fun b2 => ?_)
 refine zs rfl <| zn <| zg <| zs rfl <| zn <| AG <| BK <| JA (σ := Nat × Option Addr × Nat) [2] rfl 1 (fun s => .int .i64 ((at_ + s.1 : Nat) : Int)) 5 (fun s => .slice s.2.1 s.1 s.2.2) (fun s => [row s.2.1 61 64 s.1 s.2.2 (((S.drop at_).take s.1).flatMap BI), BR g S [], AI b2 167 (OD g from_ to_)]) (fun s => s.1 ≤ N) (fun s => N - s.1) ((0, none, 0)) (Nat.zero_le _) rfl rfl (AD.trans (AD.EB 61 64) Z3) ?_
 rintro ⟨k, ql⟩ hkN K1 hK1
 dsimp only at hkN ⊢
 refine AG <| zg <| zm rfl <| zf rfl <| zl rfl rfl <| ?_
 refine zv (B7 rfl rfl) <| zn <| BP rfl (fun h2 => ?_) (fun h2 => ?_)
 ·have hk : k < N := by omega
  have hi : at_ + k < S.length := by omega
  have hst : (S.drop at_).take (k + 1) = (S.drop at_).take k ++ [S[at_ + k]] := by
   rw [List.take_succ_eq_append_getElem MG, List.getElem_drop]
  obtain ⟨s, hs⟩ : ∃ s, s = S[at_ + k] := ⟨_, rfl⟩
  rw [← hs] at hst
  refine zk <| AG <| BK <| zg <| zf rfl <| zl rfl rfl <| zm rfl <| ?_
  refine B2 Tryz.call35 rfl rfl (fun w1 => zp (BR g S []) fun D' _ _ H2 => (fP D' w1 g (at_ + k) S [] hi H2).mono fun e w' ⟨he, H'⟩ => ⟨show e = Ending.returned (.tuple #[.agg (BI s).toArray, .int .i64 0]) by rw [he, hs]; rfl, H'⟩) ?_
  refine zm rfl <| zx rfl rfl <| zx rfl rfl <| AV (B9) rfl rfl rfl fun b6 =>  ?_
  refine A6 (CV (vs := BI s) rfl rfl NN NN (IF s)) rfl rfl ?_
  refine zs rfl <| zn <| AG <| zg <| zm rfl <| zv (CG rfl rfl) <| zn <| CP rfl ((fun h => h rfl)) <| zk <| AR <| zm rfl <| AZ (FV rfl (DU s)) rfl <| AV (HG (res := BI s) rfl rfl (OS _)) rfl rfl rfl (fun b37 => ?_)
  refine AV (BT (A := ql.1) (news := BI s) rfl rfl (BB.AI (b := b37)) O8 (IF _) AF AA) rfl rfl rfl (fun qm => ?_)
  rw [show ((S.drop at_).take k).flatMap BI ++ BI s = ((S.drop at_).take (k + 1)).flatMap BI by rw [hst, List.flatMap_append, List.flatMap_singleton]]
  refine zs rfl <| AS <| zb <| zt <| AR <| zm rfl <| AZ (BM (m := ((at_ + (k + 1) : Nat) : Int)) rfl rfl ((wrap_i64 AA).trans AA)) rfl ?_
  refine zs rfl <| AS <| B5 hK1 ((k + 1, qm)) (hk) AA BD BL
 obtain rfl : k = N := by omega
 rw [← hT]
 refine CF <| ze <| ze <| CE <| zt <| AG <| AR <| zm rfl <| zs rfl <| zn <| zq <| ?_
 exact zz rfl rfl fun w' H' => ⟨ql, rfl, H'.AK Z8⟩
set_option maxHeartbeats 1000000 in
theorem nG (D : Nat → Prop) (w : World) (g from_ to_ at_ n : Nat) (S L : List BA) (v : Value) (hS : S.length ≤ 100000) (hl0 : 0 < L.length) (hn : n = L.length) (hfit : at_ + L.length ≤ S.length) (HA : Old D w (AX.rep L [v])) (H : AH D w w [BR g S []]) :
  Calls Tryz.prog 100 #[.agg (OD g from_ to_).toArray, .int .i64 (at_ : Int), v] w fun e w' => e = .returned (.int .i64 0) ∧ AH D w w' [BR g (D7 S at_ L) []] := by
 obtain ⟨A, cap, rfl, hA1, hA2, HS, HR⟩ := HA.SY
 obtain ⟨x0, r, hLr⟩ : ∃ x r, L = x :: r := by
  cases L with
  | nil => simp at hl0
  | cons x r => exact ⟨x, r, rfl⟩
 have hrl : r.length = L.length - 1 := by rw [hLr, List.length_cons]; omega
 have hA := SB HS (k := 0) hl0
 have hL0 : L[0] = x0 := by simp only [hLr, List.getElem_cons_zero]
 obtain ⟨ba, off, rfl⟩ : ∃ b off, A = some ⟨b, off, none⟩ := ⟨_, _, hA⟩
 obtain ⟨A1, hAe⟩ : ∃ A1 : Option Addr, A1 = if cap = 1 then some ⟨ba, off, none⟩ else (some ⟨ba, off, none⟩ : Option Addr).map (·.add (1 * 64)) := ⟨_, rfl⟩
 refine BZ (vs := [.agg (OD g from_ to_).toArray, .int .i64 (at_ : Int), .slice (some ⟨ba, off, none⟩) L.length cap]) Tryz.func100 rfl _ Tryz.ntmps100 rfl H ?_
 simp only [BX, Nat.zero_add]
 refine zg <| AV (PT (cs := OD g from_ to_) rfl) rfl rfl rfl (fun b3 => ?_)
 refine zs rfl <| zn <| AG <| zg <| zm rfl <| AZ (QD (.slice A1 (L.length - 1) (cap - 1)) rfl 1 L.length (.inr ⟨_, _, rfl, rfl⟩) (.inl ⟨rfl, rfl⟩) AA AA (by rw [hAe])) rfl ?_
 refine zv BN <| ?_
 refine zm rfl <| zn <| BK <| GL (σ := Nat) [1, 2, 3, 13, 14] rfl 15 (fun i => .int .i64 (i : Int)) (fun i => [BR g S (PW (at_ + 1) r i), AI b3 167 (OD g from_ to_)]) (fun i => i ≤ r.length) (fun i => r.length - i) (0) (Nat.zero_le _) rfl (show AD _ [BR g S [], AI b3 167 (OD g from_ to_)] from Z8) ?_
 rintro i hi K1 hK1
 refine zg <| zv (B7 rfl rfl) <| zn <| AG <| BP rfl (fun h => ?_) (fun h => ?_)
 ·have hir : i < r.length := by omega
  have hli : i + 1 < L.length := by omega
  have hLi : L[i + 1] = r[i] := by simp only [hLr, List.getElem_cons_succ]
  have hAv : A1 = some ⟨ba, off + 1 * 64, none⟩ := by rw [hAe, if_neg AA]; rfl
  have hA1i : CU A1 := by rw [hAv]; rfl
  have hcx : ∀ l', DZ D w l' (ab A1) (ao A1 + i * 64) (BI r[i]) := fun l' => by
   have := PG HS hli l'
   rw [hLi] at this
   rw [hAv]
   show DZ D w l' ba (off + 1 * 64 + i * 64) _
   rw [show off + 1 * 64 + i * 64 = off + (i + 1) * 64 by omega]
   exact this
  refine zk <| AG <| BK <| zg <| zm rfl <| AZ (CZ (A := A1) rfl hA1i rfl i rfl AA) rfl ?_
  refine AZ (D4 (cs := BI r[i]) rfl (DU _) (hcx _)) rfl <| AV (B9) rfl rfl rfl fun b8 =>
   zs rfl <| ?_
  refine A6 (CV (vs := BI r[i]) rfl rfl NN NN (IF _)) rfl rfl ?_
  refine zn <| zg <| zf rfl <| zl rfl rfl <| ?_
  refine zm rfl <| zv (BM rfl rfl BO) <| ?_
  refine zm rfl <| AZ (BM (m := ((at_ + 1 + i : Nat) : Int)) rfl rfl ((wrap_i64 AA).trans AA)) rfl ?_
  refine AZ (FV rfl (DU _)) rfl <| B2 Tryz.call23 rfl rfl (fun w1 => zp (BR g S (PW (at_ + 1) r i)) fun D' _ _ H2 => Q5 D' w1 g (at_ + 1 + i) r[i] S (PW (at_ + 1) r i) AA (by have := UX (at_ := at_ + 1) (l := r) (i := i); omega) H2) ?_
  rw [← UP hir]
  refine zs rfl <| zn <| zg <| zm rfl <| zv (CG rfl rfl) <| zn <| CP rfl ((fun h => h rfl)) <| C3 <| zb <| zt <| AR <| zv (BM rfl rfl BO) <| ?_
  refine zm rfl <| AS <| B5 hK1 (i + 1) (hir) AA BD BL
 obtain rfl : i = r.length := by omega
 refine CF <| ze <| ze <| CE <| zt <| AG <| zg <| zf rfl <| zl rfl rfl <| ?_
 refine B2 Tryz.call24 rfl rfl (fun w1 => zp (BR g S (PW (at_ + 1) r r.length)) fun D' _ _ H2 => (R0 D' w1 g S (PW (at_ + 1) r r.length) (U2 AA) H2)) ?_
 rw [UR AA]
 have hpl2 : (D7 S (at_ + 1) r).length = S.length := PN AA
 refine zs rfl <| zn <| zg <| zm rfl <| zv (CG rfl rfl) <| zn <| CP rfl ((fun h => h rfl)) <| zk <| AG <| AG <| E2 6 mixed AB ?_
 refine AT (AP rfl) rfl <| AT (zw rfl rfl) rfl <| AT (AO rfl) rfl <| AT (AO rfl) rfl <| ?_
 refine AT (NW rfl hA rfl rfl AA) rfl ?_
 refine AT (D4 (cs := BI x0) rfl (DU _) (by rw [← hL0]; exact PG HS hl0 _)) rfl ?_
 refine EV <| ?_
 refine B2 Tryz.call23 rfl rfl (fun w1 => zp (BR g (D7 S (at_ + 1) r) []) fun D' _ _ H2 => Q5 D' w1 g at_ x0 (D7 S (at_ + 1) r) [] AA AF H2) ?_
 refine zs rfl <| zn <| zg <| zm rfl <| zv (CG rfl rfl) <| zn <| CP rfl ((fun h => h rfl)) <| zk <| zg <| zf rfl <| zl rfl rfl <| ?_
 have hfin : FF (fun _ => true) 0 (D7 S (at_ + 1) r) [(at_, x0)] = D7 S at_ L := by
  rw [hLr, ← bP (by rw [← hLr]; exact hfit)]; rfl
 rw [List.nil_append]
 refine B2 Tryz.call24 rfl rfl (fun w1 => zp (BR g (D7 S (at_ + 1) r) [(at_, x0)]) fun D' _ _ H2 => R0 D' w1 g (D7 S (at_ + 1) r) [(at_, x0)] (fun p hp => by obtain rfl := List.mem_singleton.1 hp; show at_ < _; omega) H2) ?_
 rw [hfin]
 refine zs rfl <| zn <| zq <| ?_
 exact zz rfl rfl fun w' H' => ⟨rfl, H'.AK Z8⟩
end Go.Proofs.YtjlolpmmpafjeaaGreat
set_option linter.unusedVariables false
namespace CN
open Go
theorem AH.LA (A B : AQ) {P : Program} {f : Nat} {args : Array Value} {D : Nat → Prop} {w0 w : World} {l r r2 post : List AQ} {v : Value} [hp : GP l A r] [hq : GP r B r2] (H : AH D w0 w l)
  (hc : ∀ D', (∀ A, Old D w0 A → Old D' w A) → (∀ B : AQ, (∀ h, DS r2 h → (∀ A, Old D w0 A → ∃ h1, A h1 ∧ ED h1 h) → B h) → Old D' w B) → AH D' w w [A, B] → Calls P f args w fun e w' => e = .returned v ∧ AH D' w w' post) :
  Calls P f args w fun e w' => e = .returned v ∧ AH D w0 w' (post ++ r2) := AH.call (pre := [A, B]) (H.AK (AD.perm (hp.out.trans (List.Perm.cons _ hq.out)))) hc
theorem AH.qN (A B : AQ) {P : Program} {f : Nat} {args : Array Value} {D : Nat → Prop} {w0 w : World} {l r r2 : List AQ} {σ : Type} {post : σ → List AQ} {v : σ → Value} [hp : GP l A r] [hq : GP r B r2] (H : AH D w0 w l)
  (hc : ∀ D', (∀ A, Old D w0 A → Old D' w A) → (∀ B : AQ, (∀ h, DS r2 h → (∀ A, Old D w0 A → ∃ h1, A h1 ∧ ED h1 h) → B h) → Old D' w B) → AH D' w w [A, B] → Calls P f args w fun e w' => ∃ s, e = .returned (v s) ∧ AH D' w w' (post s)) :
  Calls P f args w fun e w' => ∃ s, e = .returned (v s) ∧ AH D w0 w' (post s ++ r2) := AH.U3 (pre := [A, B]) (H.AK (AD.perm (hp.out.trans (List.Perm.cons _ hq.out)))) hc
theorem AH.fD (A B C : AQ) {P : Program} {f : Nat} {args : Array Value} {D : Nat → Prop} {w0 w : World} {l r r2 r3 : List AQ} {σ : Type} {post : σ → List AQ} {v : σ → Value} [hp : GP l A r] [hq : GP r B r2] [hs : GP r2 C r3] (H : AH D w0 w l)
  (hc : ∀ D', (∀ A, Old D w0 A → Old D' w A) → (∀ B : AQ, (∀ h, DS r3 h → (∀ A, Old D w0 A → ∃ h1, A h1 ∧ ED h1 h) → B h) → Old D' w B) → AH D' w w [A, B, C] → Calls P f args w fun e w' => ∃ s, e = .returned (v s) ∧ AH D' w w' (post s)) :
  Calls P f args w fun e w' => ∃ s, e = .returned (v s) ∧ AH D w0 w' (post s ++ r3) := AH.U3 (pre := [A, B, C]) (H.AK (AD.perm (hp.out.trans (List.Perm.cons _ (hq.out.trans (List.Perm.cons _ hs.out)))))) hc
end CN
