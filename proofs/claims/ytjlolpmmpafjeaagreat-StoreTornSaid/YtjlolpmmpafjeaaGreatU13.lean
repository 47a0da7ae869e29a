import Derived.Test.YtjlolpmmpafjeaaGreatU12
set_option linter.unusedVariables false
set_option linter.unusedSimpArgs false
namespace Go.Proofs.YtjlolpmmpafjeaaGreat
open CN
variable (D : Nat → Prop) (w : World)
def CT (p : Nat × BA) : List Value := .int .i64 (p.1 : Int) :: BI p.2
@[simp] theorem HH (p : Nat × BA) : (CT p).length = 65 := by simp [CT, DU]
theorem MJ (p : Nat × BA) : ∀ v ∈ CT p, v.oneCell' = true := fun v hv => by
 rcases List.mem_cons.1 hv with rfl | h
 ·rfl
 ·exact IF _ v h
def iC (tD tL g : Nat) (S : List BA) (P : List (Nat × BA)) (q : (Option Addr × Nat) × (Option Addr × Nat)) : List AQ :=
 [AI g tD [.slice q.1.1 S.length q.1.2, .slice q.2.1 P.length q.2.2], row q.1.1 61 64 S.length q.1.2 (S.flatMap BI), row q.2.1 tL 65 P.length q.2.2 (P.flatMap CT)]
def U5 (tD tL g : Nat) (S : List BA) (P : List (Nat × BA)) : AQ := GQ (iC tD tL g S P)
abbrev BR (g : Nat) (S : List BA) (P : List (Nat × BA)) : AQ := U5 107 143 g S P
theorem JK {tD tL g : Nat} {S : List BA} {P : List (Nat × BA)} {A0 A1 : Option Addr} {c0 c1 : Nat} {l : List AQ} :
  AD (AI g tD [.slice A0 S.length c0, .slice A1 P.length c1] :: row A0 61 64 S.length c0 (S.flatMap BI) :: row A1 tL 65 P.length c1 (P.flatMap CT) :: l) (U5 tD tL g S P :: l) :=
 AD.GQ (L := iC tD tL g S P) (l := l) ((A0, c0), (A1, c1))
theorem aX (n : Nat) : DW (List.replicate 64 (Value.int .u8 0)) n = (List.replicate n FP).flatMap BI := by
 rw [DW, List.flatMap_replicate, mP]
theorem gJ (n : Nat) (h1 : 1 ≤ n) (h2 : n ≤ 4096) :
  Calls Tryz.prog 15 #[.int .i64 n] w fun e w' => ∃ g : Nat, e = .returned (.tuple #[.pointer (some ⟨g, 0, none⟩), .int .i64 0]) ∧ AH D w w' [BR g (List.replicate n FP) []] := by
 refine BZ (vs := [.int .i64 n]) Tryz.func15 rfl _ Tryz.ntmps15 rfl (AH.start D w) ?_
 simp only [BX, Nat.zero_add]
 refine zg <| zs rfl <| zs rfl <| zn <| AG <| zg <| zm rfl <| zv (B7 rfl rfl) <| zm rfl <| F0 (t := 6) rfl AA ?_
 refine AJ rfl rfl <| zm rfl <| AJ rfl rfl <| zv (DV rfl rfl) <| zv (A8 rfl rfl) <| zn <| CP rfl AA ?_
 refine zk <| zg <| zm rfl <| AV (eH rfl rfl n rfl AA AA) rfl rfl rfl (fun b => ?_)
 refine zv (CH rfl rfl) <| ?_
 refine AV (EE rfl rfl) rfl rfl rfl fun b13 =>  ?_
 refine zs rfl <| zs rfl <| zn <| zq <| E5 (.inr rfl) rfl rfl rfl fun w' H' => ⟨_, rfl, H'.AK ?_⟩
 refine AD.trans (b := [AI b13 107 [.slice (some ⟨b, 0, none⟩) (List.replicate n FP).length n, .slice none ([] : List (Nat × BA)).length 0], row (some ⟨b, 0, none⟩) 61 64 (List.replicate n FP).length n ((List.replicate n FP).flatMap BI), row none 143 65 0 0 []]) ?_ JK
 rw [List.length_replicate, ← aX]
 exact AD.cons ((AD.FQ 64 n (by rw [MH]; simp) AA).trans (AD.cons (AD.EB _ _)))
theorem dZ (g : Nat) (i : Int) (A0 A1 : Option Addr) (n c0 m c1 : Nat) (H : AH D w w [AI g 107 [.slice A0 n c0, .slice A1 m c1]]) :
  Calls Tryz.prog 61 #[.pointer (some ⟨g, 0, none⟩), .int .i64 i] w fun e w' => e = .returned (.bool (decide (0 ≤ i ∧ i < n))) ∧ AH D w w' [AI g 107 [.slice A0 n c0, .slice A1 m c1]] := by
 refine BZ (vs := [.pointer (some ⟨g, 0, none⟩), .int .i64 i]) Tryz.func61 rfl _ Tryz.ntmps61 rfl H ?_
 simp only [BX, Nat.zero_add]
 refine zg <| zs rfl <| zn <| AG <| AR <| zm rfl <| zv (OW rfl rfl) <| zm rfl <| AJ rfl rfl <| zm rfl <| AJ rfl rfl <| zv (GN rfl rfl) <| zv (BF rfl rfl) <| zm rfl <| DB (t := 11) rfl (fun h1 => ?_) (fun h1 => ?_)
 ·refine AJ rfl rfl <| zm rfl <| AJ rfl rfl <| zm rfl <| AJ rfl rfl <| zv (AY rfl) <| AJ rfl rfl <| zf rfl <| AJ rfl rfl <| zl rfl rfl <| AJ rfl rfl <| zv BN <| ?_
  refine AJ rfl rfl <| zv (B7 rfl rfl) <| zv (BF rfl rfl) <| zs rfl <| zn <| zq <| ?_
  exact zz rfl rfl fun w' H' => ⟨by simp [h1], H'⟩
 refine zo rfl rfl <| zo rfl rfl <| zo rfl rfl <| zo rfl rfl <| zo rfl rfl <| zo rfl rfl <| zo rfl rfl <| zv (A8 rfl rfl) <| zs rfl <| zn <| zq <| ?_
 exact zz rfl rfl fun w' H' => ⟨by simp [h1], H'⟩
theorem W0 (i : Nat) (s : BA) : KI (fun j => [(0, 1), (1, 64)][j]?) ([.int .i64 0] ++ List.replicate 64 (.int .u8 0)) [(0, .int .i64 (i : Int)), (1, .agg (BI s).toArray)] = some (CT (i, s)) := by
 have h : FH (.int .i64 (i : Int) :: List.replicate 64 (.int .u8 0)) 1 (BI s) = .int .i64 (i : Int) :: BI s := by
  have := L2 [.int .i64 (i : Int)] (List.replicate 64 (.int .u8 0)) [] (BI s) 1 rfl (by rw [DU]; simp)
  simpa using this
 simp only [KI, Value.cells, List.getElem?_cons_zero, List.getElem?_cons_succ, List.size_toArray, DU]
 simp only [FH, List.length_cons, List.length_nil, List.cons_append, List.nil_append, List.length_replicate, List.set_cons_zero, h, and_self]
 simp [CT]
theorem NZ (i : Nat) (s : BA) : KI (fun j => some (j * 65, 65)) (DW ([.int .i64 0] ++ List.replicate 64 (.int .u8 0)) 1) [(0, .agg (CT (i, s)).toArray)] = some (CT (i, s)) := by
 simp only [KI, Value.cells, List.size_toArray, HH, Nat.zero_mul]
 rw [if_pos ⟨trivial, by rw [MH]; simp⟩, WB (by rw [HH, MH]; simp)]
theorem Q5 (g : Nat) (i : Nat) (s : BA) (S : List BA) (P : List (Nat × BA)) (hi : i < S.length) (hP : P.length ≤ 1000000) (H : AH D w w [BR g S P]) :
  Calls Tryz.prog 23 #[.pointer (some ⟨g, 0, none⟩), .int .i64 i, .agg (BI s).toArray] w fun e w' => e = .returned (.int .i64 0) ∧ AH D w w' [BR g S (P ++ [(i, s)])] := by
 refine BZ (vs := [.pointer (some ⟨g, 0, none⟩), .int .i64 i, .agg (BI s).toArray]) Tryz.func23 rfl _ Tryz.ntmps23 rfl H ?_
 simp only [BX, Nat.zero_add]
 refine HC.exs ?_
 rintro ⟨⟨A0, c0⟩, A1, c1⟩
 refine HC.AK (l' := [AI g 107 [.slice A0 S.length c0, .slice A1 P.length c1], row A0 61 64 S.length c0 (S.flatMap BI), row A1 143 65 P.length c1 (P.flatMap CT)]) (fun _ h => h) ?_
 refine zg <| AV (PT (cs := BI s) rfl) rfl rfl rfl (fun b5 => ?_)
 refine zs rfl <| zn <| AG <| zg <| zm rfl <| zm rfl <| B2 Tryz.call61 rfl rfl (fun w1 => zp (AI g 107 [.slice A0 S.length c0, .slice A1 P.length c1]) fun D' _ _ H2 => dZ D' w1 g i A0 A1 _ c0 _ c1 H2) ?_
 refine zv FC <| ?_
 refine zn <| CP rfl (by simp [hi]) ?_
 refine zk <| AG <| NC (σ := Option Addr × Nat) [] rfl  (fun q => [AI g 107 [.slice A0 S.length c0, .slice q.1 (P.length + 1) q.2], row A0 61 64 S.length c0 (S.flatMap BI), row q.1 143 65 (P.length + 1) q.2 ((P ++ [(i, s)]).flatMap CT)]) (fun K1 hK1 => ?_) (fun q => ?_)
 ·refine HC.AK (AD.trans (b := [AI b5 61 (BI s), AI g 107 [.slice A0 S.length c0, .slice A1 P.length c1], row A0 61 64 S.length c0 (S.flatMap BI), row A1 143 65 P.length c1 (P.flatMap CT)]) Z8 (AD.refl _)) ?_
  refine EF [AI b5 61 (BI s)] mixed 13 rfl ?_
  refine AE 0 rfl (AO rfl) rfl <| AE 1 rfl (AO rfl) rfl <| AE 2 rfl (AY rfl) rfl <| AE 3 rfl (AP rfl) rfl <| AE 5 rfl (AO rfl) rfl <| AE 6 rfl DY rfl <| ?_
  refine AE 7 rfl (T0 (res := CT (i, s)) rfl (W0 i s)) rfl ?_
  refine DE 4 8 AB ?_ ?_
  ·skip
   refine CW rfl (zw rfl rfl) rfl <| AL 8 AB <| BC rfl (HG (res := CT (i, s)) rfl rfl (NZ i s)) rfl (fun b19 => ?_)
   refine AL 9 AB <| BC rfl (BT (A := A1) (news := CT (i, s)) rfl rfl (BB.AI (b := b19)) OG (MJ _) AF AA) rfl ?_
   rintro ⟨B, cB⟩
   dsimp only
   refine AE 10 rfl (AY rfl) rfl <| AE 11 rfl (AP rfl) rfl <| AL 12 AB <| CB rfl (DN rfl rfl rfl rfl rfl) rfl ?_
   refine BY AB <| ?_
   exact DF hK1 ((B, cB)) BD Z2
  skip
  refine BC rfl (HG (res := CT (i, s)) rfl rfl (NZ i s)) rfl (fun b19 => ?_)
  refine AL 4 AB <| CW rfl (zw rfl rfl) rfl <| AL 9 AB <| BC rfl (BT (A := A1) (news := CT (i, s)) rfl rfl (BB.AI (b := b19)) OG (MJ _) AF AA) rfl ?_
  rintro ⟨B, cB⟩
  dsimp only
  refine AE 10 rfl (AY rfl) rfl <| AE 11 rfl (AP rfl) rfl <| AL 12 AB <| CB rfl (DN rfl rfl rfl rfl rfl) rfl ?_
  refine BY AB <| ?_
  exact DF hK1 ((B, cB)) BD Z2
 refine zt <| zg <| zs rfl <| zn <| zq <| ?_
 exact zz rfl rfl fun w' H' => ⟨rfl, H'.AK (by have := JK (tD := 107) (tL := 143) (g := g) (S := S) (P := P ++ [(i, s)]) (A0 := A0) (c0 := c0) (A1 := q.1) (c1 := q.2) (l := []); rw [List.length_append] at this; exact this)⟩
def N8 (i : Nat) (P : List (Nat × BA)) (s : BA) : BA := P.foldl (fun s p => if p.1 = i then p.2 else s) s
theorem ZQ (i : Nat) (P : List (Nat × BA)) (p : Nat × BA) (s : BA) : N8 i (P ++ [p]) s = if p.1 = i then p.2 else N8 i P s := by simp [N8]
def FF (kept : Nat → Bool) : Nat → List BA → List (Nat × BA) → List BA
 | _, S, [] => S
 | k, S, p :: r => FF kept (k + 1) (if kept k then S.set p.1 p.2 else S) r
theorem VW (kept : Nat → Bool) : ∀ (P : List (Nat × BA)) (k : Nat) (S : List BA) (p : Nat × BA), FF kept k S (P ++ [p]) = if kept (k + P.length) then (FF kept k S P).set p.1 p.2 else FF kept k S P
 | [], k, S, p => by simp [FF]
 | q :: r, k, S, p => by
  simp only [List.cons_append, FF]
  rw [VW kept r (k + 1)]
  simp only [List.length_cons]
  rw [show k + 1 + r.length = k + (r.length + 1) by omega]
theorem PC (kept : Nat → Bool) : ∀ (P : List (Nat × BA)) (k : Nat) (S : List BA), (FF kept k S P).length = S.length
 | [], _, _ => rfl
 | p :: r, k, S => by
  simp only [FF]
  rw [PC kept r]
  split <;> simp
theorem eZ (p : Nat × BA) (k : Nat) (v : Value) (h : (BI p.2)[k]? = some v) : (CT p)[0 + 1 + k]? = some v := by
 rw [show 0 + 1 + k = k + 1 by omega]
 exact h
theorem LN {D : Nat → Prop} {w0 w : World} {l r : List AQ} {A : Option Addr} {t : TypeId} {sz n cap : Nat} {cs : List Value} [h : GC l A t sz n cap cs r] (H : AH D w0 w l) : n ≤ 9223372036854775807 ∧ (cs ≠ [] → CU A) := by
 have := AH.GS A H
 exact ⟨by omega, this.2.2.2⟩
theorem L6 {α : Type} {f : α → List Value} {sz : Nat} (hf : ∀ x, (f x).length = sz) (hz : 0 < sz) {xs : List α} (h : 0 < xs.length) : xs.flatMap f ≠ [] := by
 intro e
 have := FU hf xs
 rw [e, List.length_nil] at this
 have := Nat.mul_pos h hz
 omega
theorem fP (g : Nat) (i : Nat) (S : List BA) (P : List (Nat × BA)) (hi : i < S.length) (H : AH D w w [BR g S P]) :
  Calls Tryz.prog 35 #[.pointer (some ⟨g, 0, none⟩), .int .i64 i] w fun e w' => e = .returned (.tuple #[.agg (BI (N8 i P S[i])).toArray, .int .i64 0]) ∧ AH D w w' [BR g S P] := by
 refine BZ (vs := [.pointer (some ⟨g, 0, none⟩), .int .i64 i]) Tryz.func35 rfl _ Tryz.ntmps35 rfl H ?_
 simp only [BX, Nat.zero_add]
 refine HC.exs ?_
 rintro ⟨⟨A0, c0⟩, A1, c1⟩
 refine HC.AK (l' := [AI g 107 [.slice A0 S.length c0, .slice A1 P.length c1], row A0 61 64 S.length c0 (S.flatMap BI), row A1 143 65 P.length c1 (P.flatMap CT)]) (fun _ h => h) ?_
 refine HC.fact (fun w H => LN (A := A0) H) (fun hf0 => ?_)
 refine HC.fact (fun w H => LN (A := A1) H) (fun hf1 => ?_)
 have hA0 : CU A0 := hf0.2 (L6 DU AF AA)
 refine zg <| AV (B9) rfl rfl rfl fun b4 =>
  zs rfl <| zn <| ?_
 refine AG <| zg <| zm rfl <| zm rfl <| B2 Tryz.call61 rfl rfl (fun w1 => zp (AI g 107 [.slice A0 S.length c0, .slice A1 P.length c1]) fun D' _ _ H2 => dZ D' w1 g i A0 A1 _ c0 _ c1 H2) ?_
 refine zv FC <| ?_
 refine zn <| CP rfl (by simp [hi]) ?_
 refine zk <| zg <| zm rfl <| zv (AY rfl) <| zf rfl <| zl rfl rfl <| zm rfl <| zv (CZ rfl DP rfl _ rfl AA) <| ?_
 refine AZ (D4 (cs := BI S[i]) rfl (DU _) (DZ.flat DU hA0 hi)) rfl <| AV (B9) rfl rfl rfl fun b6 =>  ?_
 refine A6 (CV rfl rfl (by simp) (by simp) (IF _)) rfl rfl ?_
 refine zn <| AG <| zg <| zm rfl <| zv (AY rfl) <| zf rfl <| zl rfl rfl <| zv BN <| ?_
 refine zm rfl <| zn <| BK <| GL (σ := Nat) [1, 4, 6, 24, 25] rfl 26 (fun j => .int .i64 j) (fun j => [AI b6 61 (BI (N8 i (P.take j) S[i])), AI b4 61 (List.replicate 64 (.int .u8 0)), AI g 107 [.slice A0 S.length c0, .slice A1 P.length c1], row A0 61 64 S.length c0 (S.flatMap BI), row A1 143 65 P.length c1 (P.flatMap CT)]) (fun j => j ≤ P.length) (fun j => P.length - j) (0) (Nat.zero_le _) rfl ((show AD _ (AI b6 61 (BI S[i]) :: _) from Z8)) ?_
 rintro j hj K1 hK1
 refine zg <| zv (B7 rfl rfl) <| zn <| AG <| BP rfl (fun hlt => ?_) (fun hlt => ?_)
 ·have hlt : j < P.length := by omega
  have hA1 : CU A1 := hf1.2 (L6 HH AF AA)
  have hsn := List.take_succ_eq_append_getElem hlt
  refine zk <| AG <| BK <| zg <| zv (CZ rfl DP rfl _ rfl AA) <| ?_
  refine AZ (D4 (cs := CT P[j]) rfl (HH _) (DZ.flat HH hA1 hlt)) rfl <| AV (B9) rfl rfl rfl fun b8 =>  ?_
  refine A6 (CV rfl rfl (by simp) (by simp) (MJ _)) rfl rfl ?_
  refine zn <| zg <| zf rfl <| zl rfl rfl <| ?_
  refine zm rfl <| zv (CO rfl rfl) <| zn <| NC (σ := Unit) [1, 4, 6, 24, 25, 26] rfl  (fun _u => [AI b6 61 (BI (N8 i (P.take (j + 1)) S[i])), AI b4 61 (List.replicate 64 (.int .u8 0)), AI g 107 [.slice A0 S.length c0, .slice A1 P.length c1], row A0 61 64 S.length c0 (S.flatMap BI), row A1 143 65 P.length c1 (P.flatMap CT)]) (fun K2 hK2 => ?_) (fun _u => ?_)
  ·rw [hsn, ZQ] at hK2
   refine BP rfl (fun he => ?_) (fun he => ?_)
   ·rw [if_pos AA] at hK2
    refine AR <| zf rfl <| ?_
    refine AZ (D4 (cs := BI P[j].2) rfl (DU _) (DZ.AI (eZ P[j]))) rfl <| A6 (CV rfl rfl (by simp) (by simp) (IF _)) rfl rfl ?_
    refine AS <| DF hK2 (()) BD BL
   rw [if_neg AA] at hK2
   refine C3 <| DF hK2 (()) BD BL
  refine zb <| zt <| AR <| zv (BM rfl rfl BO) <| ?_
  refine zm rfl <| AS <| B5 hK1 (j + 1) (hlt) AA BD BL
 have : j = P.length := by omega
 subst this
 rw [List.take_length]
 refine CF <| ze <| ze <| CE <| zt <| AG <| AR <| zv DY <| ?_
 refine A6 (CV rfl rfl (by simp) (by simp) (IF _)) rfl rfl ?_
 refine zs rfl <| zn <| zq <| ?_
 exact ID (.inr rfl) rfl rfl (by simp) rfl fun w' H' => ⟨rfl, H'.AK (AD.trans Z8 (JK (A0 := A0) (c0 := c0) (A1 := A1) (c1 := c1)))⟩
theorem Y2 (g f : Nat) (cap : List Value) (kept : Nat → Bool) (S : List BA) (P : List (Nat × BA)) (hP : ∀ p ∈ P, p.1 < S.length) (hcf : ∀ args w, (callFunc f args).run Tryz.prog w = .ok (.enter f args) w)
  (HK : ∀ D' w1, (∀ A, Old D w A → Old D' w1 A) → ∀ at' : Nat, at' < P.length → Calls Tryz.prog f ([Value.int .i64 (at' : Int)] ++ cap).toArray w1 fun e w' => e = .returned (.bool (kept at')) ∧ AH D' w1 w' []) (H : AH D w w [BR g S P]) :
  Calls Tryz.prog 62 #[.pointer (some ⟨g, 0, none⟩), .func (.func f) #[] cap.toArray] w fun e w' => e = .returned (.tuple #[]) ∧ AH D w w' [BR g (FF kept 0 S P) []] := by
 refine BZ (vs := [.pointer (some ⟨g, 0, none⟩), .func (.func f) #[] cap.toArray]) Tryz.func62 rfl _ Tryz.ntmps62 rfl H ?_
 simp only [BX, Nat.zero_add]
 refine HC.exs ?_
 rintro ⟨⟨A0, c0⟩, A1, c1⟩
 refine HC.AK (l' := [AI g 107 [.slice A0 S.length c0, .slice A1 P.length c1], row A0 61 64 S.length c0 (S.flatMap BI), row A1 143 65 P.length c1 (P.flatMap CT)]) (fun _ h => h) ?_
 refine HC.fact (fun w H => LN (A := A0) H) (fun hf0 => ?_)
 refine HC.fact (fun w H => LN (A := A1) H) (fun hf1 => ?_)
 refine AG <| zg <| zm rfl <| zv (AY rfl) <| zf rfl <| ?_
 refine zl rfl rfl <| zv BN <| ?_
 refine zm rfl <| zn <| BK <| GL (σ := Nat) [0, 1, 9, 10] rfl 11 (fun j => .int .i64 j) (fun j => [AI g 107 [.slice A0 S.length c0, .slice A1 P.length c1], row A0 61 64 S.length c0 ((FF kept 0 S (P.take j)).flatMap BI), row A1 143 65 P.length c1 (P.flatMap CT)]) (fun j => j ≤ P.length) (fun j => P.length - j) (0) (Nat.zero_le _) rfl (AD.refl _) ?_
 rintro j hj K1 hK1
 refine zg <| zv (B7 rfl rfl) <| zn <| AG <| BP rfl (fun hlt => ?_) (fun hlt => ?_)
 ·have hlt : j < P.length := by omega
  have hA1 : CU A1 := hf1.2 (L6 HH AF AA)
  have hsn := List.take_succ_eq_append_getElem hlt
  have hpj := hP _ (List.getElem_mem hlt)
  have hA0 : CU A0 := hf0.2 (L6 DU AF AA)
  have hsl := PC kept (P.take j) 0 S
  refine zk <| AG <| BK <| zg <| zm rfl <| zv (CZ rfl DP rfl _ rfl AA) <| ?_
  refine AZ (D4 (cs := CT P[j]) rfl (HH _) (DZ.flat HH hA1 hlt)) rfl <| AV (B9) rfl rfl rfl fun b5 =>
   zs rfl <| ?_
  refine A6 (CV rfl rfl (by simp) (by simp) (MJ _)) rfl rfl ?_
  refine zn <| zg <| zm rfl <| zm rfl <| SV rfl hcf rfl rfl (fun w1 => D6 fun D' hold _ _ => HK D' w1 hold j hlt) ?_
  refine zn <| NC (σ := Unit) [0, 1, 9, 10, 11] rfl  (fun _u => [AI g 107 [.slice A0 S.length c0, .slice A1 P.length c1], row A0 61 64 S.length c0 ((FF kept 0 S (P.take (j + 1))).flatMap BI), row A1 143 65 P.length c1 (P.flatMap CT)]) (fun K2 hK2 => ?_) (fun _u => ?_)
  ·rw [hsn, VW, List.length_take, Nat.zero_add, Nat.min_eq_left AA] at hK2
   refine FW rfl (fun hk => ?_) (fun hk => ?_)
   ·rw [if_pos hk] at hK2
    generalize FF kept 0 S (P.take j) = T at *
    generalize P[j] = p at *
    refine EF [AI g 107 [.slice A0 S.length c0, .slice A1 P.length c1], AI b5 143 (CT p)] mixed 10 rfl ?_
    refine AE 0 rfl (AO rfl) rfl <| AE 1 rfl (AY rfl) rfl <| AE 2 rfl (AP rfl) rfl <| AE 3 rfl (zw rfl rfl) rfl <| AE 4 rfl (AP rfl) rfl <| AE 5 rfl (zw rfl rfl) rfl <| AE 6 rfl (AP rfl) rfl <| AL 7 AB <| CW rfl (D4 (cs := BI p.2) rfl (DU _) (DZ.AI (eZ p))) rfl <| AE 8 rfl (CZ rfl DP rfl _ rfl AA) rfl <| ?_
    refine AL 9 AB <| CB rfl (Y8 (A := A0) (vs := BI p.2) rfl rfl (DU _) (by rw [FU DU]; omega) (by rw [FU DU, DU, ← Nat.succ_mul]; exact Nat.mul_le_mul_right _ AA) (IF _)) rfl ?_
    rw [WY DU T p.1 p.2 AA]
    refine BY AB <| ?_
    refine DF hK2 (()) BD BL
   rw [if_neg (by simp [hk])] at hK2
   refine C3 <| DF hK2 (()) BD BL
  refine zb <| zt <| AR <| zv (BM rfl rfl BO) <| ?_
  refine zm rfl <| AS <| B5 hK1 (j + 1) (hlt) AA BD BL
 have : j = P.length := by omega
 subst this
 rw [List.take_length]
 have hsl := PC kept P 0 S
 refine CF <| ze <| ze <| CE <| zt <| AR <| zm rfl <| zv (AY rfl) <| zf rfl <| A6 (DN rfl rfl rfl rfl rfl) rfl rfl <| AS <| ?_
 refine M9 (.inl rfl) rfl fun w' H' => ⟨rfl, H'.AK ?_⟩
 have hd := JK (tD := 107) (tL := 143) (g := g) (S := FF kept 0 S P) (P := []) (A0 := A0) (c0 := c0) (A1 := none) (c1 := 0) (l := [])
 rw [hsl] at hd
 exact AD.trans (AD.cons (AD.cons ((AD.nil _).trans (AD.EB _ _)))) hd
theorem jV (i : Int) : Calls Tryz.prog 63 #[.int .i64 i] w fun e w' => e = .returned (.bool true) ∧ AH D w w' [] := by
 refine BZ (vs := [.int .i64 i]) Tryz.func63 rfl _ Tryz.ntmps63 rfl (AH.start D w) ?_
 simp only [BX, Nat.zero_add]
 refine zg <| zs rfl <| zn <| AG <| AR <| zs rfl <| zn <| zq <| ?_
 exact zz rfl rfl fun w' H' => ⟨rfl, H'⟩
theorem R0 (g : Nat) (S : List BA) (P : List (Nat × BA)) (hP : ∀ p ∈ P, p.1 < S.length) (H : AH D w w [BR g S P]) :
  Calls Tryz.prog 24 #[.pointer (some ⟨g, 0, none⟩)] w fun e w' => e = .returned (.int .i64 0) ∧ AH D w w' [BR g (FF (fun _ => true) 0 S P) []] := by
 refine BZ (vs := [.pointer (some ⟨g, 0, none⟩)]) Tryz.func24 rfl _ Tryz.ntmps24 rfl H ?_
 simp only [BX, Nat.zero_add]
 refine zg <| zs rfl <| zn <| AG <| zg <| zm rfl <| zv (IL rfl rfl) <| zn <| EU rfl <| zk <| zg <| zm rfl <| B2 Tryz.call62 rfl rfl (fun w1 => zp (BR g S P) fun D' _ _ H2 => Y2 D' w1 g 63 [] (fun _ => true) S P hP Tryz.call63 (fun D2 w2 _ k _ => jV D2 w2 k) H2) ?_
 refine zn <| zg <| zs rfl <| AS <| zt <| zq <| ?_
 exact zz rfl rfl fun w' H' => ⟨rfl, H'⟩
theorem jX (i b : Nat) (v : Value) (keep : List Bool) (h1 : Old D w (AI b 24 [v])) (h2 : Old D w (AX.rep keep [v])) :
  Calls Tryz.prog 64 #[.int .i64 i, .pointer (some ⟨b, 0, none⟩)] w fun e w' => e = .returned (.bool (keep.getD i false)) ∧ AH D w w' [] := by
 obtain ⟨A, cap, rfl, hc1, hc2, hel⟩ := h2.XT rfl
 have hb : ∀ l, EH D w l b 0 (.slice A keep.length cap) := fun l => EH.old (Old.AI h1)
 refine BZ (vs := [.int .i64 i, .pointer (some ⟨b, 0, none⟩)]) Tryz.func64 rfl _ Tryz.ntmps64 rfl (AH.start D w) ?_
 simp only [BX, Nat.zero_add]
 refine zg <| zs rfl <| zn <| AG <| AR <| zm rfl <| AZ (GB rfl (hb _)) rfl <| zv BN <| ?_
 refine zv (B7 rfl rfl) <| zm rfl <| DB (t := 8) rfl (fun hlt => ?_) (fun hlt => ?_)
 ·have hlt : i < keep.length := by omega
  obtain ⟨hA, u, hu, hcl⟩ := hel i hlt
  have hu := hu.pure
  simp only [List.cons.injEq, and_true] at hu
  subst hu
  refine AJ rfl rfl <| AZ (GB rfl (hb _)) rfl <| AJ rfl rfl <| zm rfl <| AJ rfl rfl <| zv (CZ rfl DP rfl _ rfl AA) <| AJ rfl rfl <| zv Z9 <| ?_
  refine zv (BF rfl rfl) <| zs rfl <| zn <| zq <| ?_
  exact zz rfl rfl fun w' H' => ⟨by simp [List.getD_eq_getElem?_getD, List.getElem?_eq_getElem hlt], H'⟩
 refine zo rfl rfl <| zo rfl rfl <| zo rfl rfl <| zo rfl rfl <| zv (A8 rfl rfl) <| zs rfl <| zn <| zq <| ?_
 exact zz rfl rfl fun w' H' => ⟨by rw [List.getD_eq_getElem?_getD, List.getElem?_eq_none AA]; rfl, H'⟩
theorem Y6 (g : Nat) (S : List BA) (P : List (Nat × BA)) (v : Value) (keep : List Bool) (hP : ∀ p ∈ P, p.1 < S.length) (hv : Old D w (AX.rep keep [v])) (H : AH D w w [BR g S P]) :
  Calls Tryz.prog 25 #[.pointer (some ⟨g, 0, none⟩), v] w fun e w' => e = .returned (.tuple #[]) ∧ AH D w w' [BR g (FF (fun k => keep.getD k false) 0 S P) []] := by
 obtain ⟨A, cap, rfl, hc1, hc2, _⟩ := hv.XT rfl
 refine BZ (vs := [.pointer (some ⟨g, 0, none⟩), .slice A keep.length cap]) Tryz.func25 rfl _ Tryz.ntmps25 rfl H ?_
 simp only [BX, Nat.zero_add]
 refine zg <| AV (EE rfl rfl) rfl rfl rfl fun b3 =>  ?_
 refine zn <| zg <| zm rfl <| zv (OW rfl rfl) <| zn <| DD rfl <| AR <| zm rfl <| AZ (XB (first := []) (captured := [.tmp 3]) rfl rfl) rfl ?_
 refine B2 Tryz.call62 rfl rfl (fun w1 => zp (BR g S P) fun D' hold hin H2 => Y2 D' w1 g 64 [.pointer (some ⟨b3, 0, none⟩)] (fun k => keep.getD k false) S P hP Tryz.call64 (fun D2 w2 ho k _ => jX D2 w2 k b3 (.slice A keep.length cap) keep (ho _ (hin _ fun h hs _ => bO hs)) (ho _ (hold _ hv))) H2) ?_
 refine AS <| ?_
 exact M9 (.inl rfl) rfl fun w' H' => ⟨rfl, H'.AK Z8⟩
theorem SE (g : Nat) (S : List BA) (P : List (Nat × BA)) (H : AH D w w [BR g S P]) : Calls Tryz.prog 44 #[.pointer (some ⟨g, 0, none⟩)] w fun e w' => e = .returned (.int .i64 S.length) ∧ AH D w w' [BR g S P] := by
 refine BZ (vs := [.pointer (some ⟨g, 0, none⟩)]) Tryz.func44 rfl _ Tryz.ntmps44 rfl H ?_
 simp only [BX, Nat.zero_add]
 refine HC.exs ?_
 rintro ⟨⟨A0, c0⟩, A1, c1⟩
 refine HC.AK (l' := [AI g 107 [.slice A0 S.length c0, .slice A1 P.length c1], row A0 61 64 S.length c0 (S.flatMap BI), row A1 143 65 P.length c1 (P.flatMap CT)]) (fun _ h => h) ?_
 refine zg <| zs rfl <| zn <| AG <| zg <| zm rfl <| zv (IL rfl rfl) <| zn <| EU rfl <| zk <| zg <| zm rfl <| zv (AY rfl) <| zf rfl <| zl rfl rfl <| zv BN <| ?_
 refine zs rfl <| zn <| zq <| ?_
 exact zz rfl rfl fun w' H' => ⟨rfl, H'.AK (AD.trans Z8 (JK (A0 := A0) (c0 := c0) (A1 := A1) (c1 := c1)))⟩
def DR (S : List BA) (at_ : Nat) : Option EO :=
 match FN ((S.drop at_).take 16) with
 | some (e, _) => if e.1 = 2 ∧ e.2.2.1 = 0 then some e else none
 | none => none
def QC (b : Option (EO × Nat)) (at_ : Nat) (x : Option EO) : Option (EO × Nat) :=
 match x with
 | none => b
 | some e => match b with
  | none => some (e, at_)
  | some y => if y.1.2.1 < e.2.1 then some (e, at_) else b
def MC (S : List BA) : Nat → Option (EO × Nat)
 | 0 => none
 | j + 1 => QC (MC S j) (16 * j) (DR S (16 * j))
def F8 (S : List BA) : Option (EO × Nat) := MC S 2
def D7 (S : List BA) (at_ : Nat) (l : List BA) : List BA := S.take at_ ++ l ++ S.drop (at_ + l.length)
theorem PN {S : List BA} {at_ : Nat} {l : List BA} (h : at_ + l.length ≤ S.length) : (D7 S at_ l).length = S.length := by
 unfold D7; simp only [List.length_append, List.length_take, List.length_drop]; omega
theorem LP {S : List BA} {at_ : Nat} {l : List BA} (h : at_ + l.length ≤ S.length) (i : Nat) : (D7 S at_ l)[i]? = if i < at_ then S[i]? else if i < at_ + l.length then l[i - at_]? else S[i]? := by
 unfold D7
 rw [List.append_assoc]
 rcases Nat.lt_or_ge i at_ with h1 | h1
 ·rw [if_pos h1, List.getElem?_append_left OK, List.getElem?_take_of_lt h1]
 ·rw [if_neg AA, List.getElem?_append_right OK, List.length_take, Nat.min_eq_left AA]
  rcases Nat.lt_or_ge i (at_ + l.length) with h2 | h2
  ·rw [if_pos h2, List.getElem?_append_left AA]
  ·rw [if_neg AA, List.getElem?_append_right AA, List.getElem?_drop]
   congr 1; omega
theorem Y0 : ∀ (P : List (Nat × BA)) (k : Nat) (S : List BA), FF (fun _ => true) k S P = P.foldl (fun s p => s.set p.1 p.2) S
 | [], _, _ => rfl
 | p :: r, k, S => by
  show FF (fun _ => true) (k + 1) (if true = true then S.set p.1 p.2 else S) r = _
  rw [if_pos rfl, Y0 r (k + 1)]; rfl
theorem lV (l : List BA) : ∀ (at_ : Nat) (S : List BA), at_ + l.length ≤ S.length → (l.zipIdx.map fun p => (at_ + p.2, p.1)).foldl (fun s p => s.set p.1 p.2) S = D7 S at_ l := by
 induction l with
 | nil => intro at_ S h; simp [D7]
 | cons x r ih =>
  intro at_ S h
  rw [List.length_cons] at h
  rw [List.zipIdx_cons, List.map_cons, List.foldl_cons]
  have e : (r.zipIdx (0 + 1)).map (fun p => (at_ + p.2, p.1)) = r.zipIdx.map (fun p => (at_ + 1 + p.2, p.1)) := by
   rw [List.zipIdx_succ, List.map_map]
   refine List.map_congr_left fun p _ => ?_
   show (at_ + (p.2 + 1), p.1) = _
   rw [show at_ + (p.2 + 1) = at_ + 1 + p.2 by omega]
  rw [e, ih (at_ + 1) _ (by rw [List.length_set]; omega)]
  refine List.ext_getElem? fun i => ?_
  rw [LP (by rw [List.length_set]; omega), LP (by rw [List.length_cons]; omega), List.getElem?_set]
  simp only [List.length_cons, Nat.add_zero]
  rcases Nat.lt_trichotomy i at_ with h1 | h1 | h1
  ·rw [if_pos AA, if_neg AA, if_pos h1]
  ·subst h1
   rw [if_pos AA, if_pos rfl, if_pos AA, if_neg AA, if_pos AA, Nat.sub_self]; rfl
  ·rw [if_neg AA, if_neg (by omega : ¬ i < at_)]
   rcases Nat.lt_or_ge i (at_ + 1 + r.length) with h2 | h2
   ·rw [if_pos h2, if_pos AA, show i - at_ = (i - (at_ + 1)) + 1 by omega, List.getElem?_cons_succ]
   ·rw [if_neg AA, if_neg AA, if_neg AA]
def PW (at_ : Nat) (l : List BA) (i : Nat) : List (Nat × BA) := ((l.take i).zipIdx).map fun p => (at_ + p.2, p.1)
theorem UP {at_ : Nat} {l : List BA} {i : Nat} (h : i < l.length) : PW at_ l (i + 1) = PW at_ l i ++ [(at_ + i, l[i])] := by
 unfold PW
 rw [List.take_succ_eq_append_getElem h, List.zipIdx_append, List.map_append]
 congr 1
 simp only [List.zipIdx_cons, List.zipIdx_nil, List.map_cons, List.map_nil, List.length_take]
 rw [Nat.min_eq_left AA, Nat.zero_add]
theorem UX {at_ : Nat} {l : List BA} {i : Nat} : (PW at_ l i).length ≤ l.length := by
 unfold PW; rw [List.length_map, List.length_zipIdx, List.length_take]; omega
theorem U2 {at_ : Nat} {l : List BA} {i n : Nat} (h : at_ + l.length ≤ n) : ∀ p ∈ PW at_ l i, p.1 < n := fun p hp => by
 obtain ⟨⟨x, k⟩, hx, rfl⟩ := List.mem_map.1 hp
 have := List.snd_lt_of_mem_zipIdx hx
 rw [List.length_take] at this
 show at_ + k < n
 omega
theorem UR {at_ : Nat} {l : List BA} {S : List BA} (h : at_ + l.length ≤ S.length) : FF (fun _ => true) 0 S (PW at_ l l.length) = D7 S at_ l := by
 rw [Y0]
 unfold PW
 rw [List.take_length]
 exact lV l at_ S h
theorem bP {S : List BA} {at_ : Nat} {x : BA} {r : List BA} (h : at_ + (x :: r).length ≤ S.length) : (D7 S (at_ + 1) r).set at_ x = D7 S at_ (x :: r) := by
 rw [List.length_cons] at h
 refine List.ext_getElem? fun i => ?_
 have hl : (D7 S (at_ + 1) r).length = S.length := PN AA
 rw [List.getElem?_set, LP AA, LP (by rw [List.length_cons]; omega), hl]
 simp only [List.length_cons]
 rcases Nat.lt_trichotomy i at_ with h1 | h1 | h1
 ·rw [if_neg AA, if_pos AA, if_pos h1]
 ·subst h1
  rw [if_pos rfl, if_pos AA, if_neg AA, if_pos AA, Nat.sub_self]; rfl
 ·rw [if_neg AA, if_neg AA, if_neg (by omega : ¬ i < at_)]
  rcases Nat.lt_or_ge i (at_ + 1 + r.length) with h2 | h2
  ·rw [if_pos h2, if_pos AA, show i - at_ = (i - (at_ + 1)) + 1 by omega, List.getElem?_cons_succ]
  ·rw [if_neg AA, if_neg AA]
theorem lN {D : Nat → Prop} {w0 : World} {xs : List UInt8} {cs : List Value} (k : Old D w0 (AX.rep xs cs)) : ∃ B cb, cs = [.slice B xs.length cb] ∧ Old D w0 (AX.rep xs [.slice B xs.length cb]) := by
 obtain ⟨h, hh, B, cb, e, r⟩ := k
 subst e
 exact ⟨B, cb, rfl, h, hh, B, cb, rfl, r⟩
def E9 (ep : Nat) : Nat → Nat → List BA → List (List UInt8) × Nat
 | 0, _, _ => ([], 0)
 | f + 1, seq, l => match FN l with
  | none => ([], 0)
  | some (e, n) => if e.1 = 1 ∧ e.2.1 = ep ∧ e.2.2.1 = seq then (e.2.2.2 :: (E9 ep f (seq + 1) (l.drop n)).1, n + (E9 ep f (seq + 1) (l.drop n)).2) else ([], 0)
abbrev EY (ep seq : Nat) (xs : List UInt8) : EO := (1, ep, seq, xs)
def LS (ep : Nat) : Nat → List (List UInt8) → List BA
 | _, [] => []
 | seq, x :: r => C1 (EY ep seq x) ++ LS ep (seq + 1) r
theorem m8 (ep : Nat) (xss : List (List UInt8)) : ∀ (seq : Nat) (x : List UInt8), LS ep seq (xss ++ [x]) = LS ep seq xss ++ C1 (EY ep (seq + xss.length) x) := by
 induction xss with
 | nil => intro seq x; simp [LS]
 | cons y r ih =>
  intro seq x
  rw [List.cons_append, LS, ih (seq + 1) x, LS, List.append_assoc]
  rw [List.length_cons, show seq + (r.length + 1) = seq + 1 + r.length by omega]
theorem bY (ep : Nat) (hep : ep < 4294967296) : ∀ (xss : List (List UInt8)) (f seq : Nat) (rest : List BA), xss.length ≤ f → seq + xss.length < 4294967296 → (∀ x ∈ xss, x.length ≤ 4000) →
  E9 ep f seq (LS ep seq xss ++ rest) = (xss ++ (E9 ep (f - xss.length) (seq + xss.length) rest).1, (LS ep seq xss).length + (E9 ep (f - xss.length) (seq + xss.length) rest).2)
 | [], f, seq, rest, _, _, _ => by simp [LS]
 | x :: r, 0, seq, rest, h, _, _ => by simp at h
 | x :: r, f + 1, seq, rest, h, hs, hx => by
  rw [List.length_cons] at h hs
  have hok : OE (EY ep seq x) := ⟨show 1 < 256 by decide, hep, show seq < _ by omega, hx x (by simp)⟩
  have hl := MT (EY ep seq x) (hx x (by simp))
  have ih := bY ep hep r f (seq + 1) rest AA AA (fun y hy => hx y (by simp [hy]))
  rw [LS, List.append_assoc, E9, W7 _ hok]
  dsimp only
  rw [if_pos ⟨rfl, rfl, rfl⟩, List.drop_left' hl, ih]
  rw [List.length_append, hl, List.length_cons, show f + 1 - (r.length + 1) = f - r.length by omega, show seq + (r.length + 1) = seq + 1 + r.length by omega]
  simp only [List.cons_append, Prod.mk.injEq, true_and]
  omega
def PZ (ep : Nat) (s : BA) : Prop := s[0] = 87 ∧ EW s 2 4 = ep
def JS (ep : Nat) (l : List BA) : Prop := ∀ s ∈ l, ¬ PZ ep s
theorem SA {s : BA} {r : List BA} {e : EO} {n : Nat} (h : FN (s :: r) = some (e, n)) : PZ e.2.1 s ∧ 1 ≤ n ∧ n ≤ (s :: r).length := by
 have h' : (if s[0].toNat = 87 ∧ DG (EW s 10 2) ≠ 0 ∧ DG (EW s 10 2) ≤ (s :: r).length ∧ C1 (IP (s :: r) s) = (s :: r).take (DG (EW s 10 2)) then some (IP (s :: r) s, DG (EW s 10 2)) else none) = some (e, n) := h
 by_cases hh : s[0].toNat = 87 ∧ DG (EW s 10 2) ≠ 0 ∧ DG (EW s 10 2) ≤ (s :: r).length ∧ C1 (IP (s :: r) s) = (s :: r).take (DG (EW s 10 2))
 ·rw [if_pos hh] at h'
  injection h' with h'
  injection h' with h1 h2
  subst h1; subst h2
  exact ⟨⟨UInt8.toNat_inj.1 hh.1, rfl⟩, by omega, hh.2.2.1⟩
 ·rw [if_neg hh] at h'; cases h'
theorem bL {ep : Nat} {l : List BA} (h : ∀ s, l[0]? = some s → ¬ PZ ep s) (f seq : Nat) : E9 ep f seq l = ([], 0) := by
 cases f with
 | zero => rfl
 | succ f =>
  rw [E9]
  cases l with
  | nil => rfl
  | cons s r =>
   rcases hd : FN (s :: r) with _ | ⟨e, n⟩
   ·rfl
   ·dsimp only
    rw [if_neg]
    rintro ⟨_, h2, _⟩
    have := (SA hd).1
    rw [h2] at this
    exact h s rfl this
theorem aF (e : EO) (i : Nat) (h : i < (C1 e).length) : (C1 e)[i] = GU (HN e.1 e.2.1 e.2.2.1 e.2.2.2) i := by
 have : (C1 e)[i]? = some (GU (HN e.1 e.2.1 e.2.2.1 e.2.2.2) i) := by
  unfold C1 JE GO
  rw [List.getElem?_map, List.getElem?_range (by simpa [C1, JE, GO] using h)]; rfl
 rw [List.getElem?_eq_getElem h] at this
 simpa using this
theorem dQ (e : EO) (i : Nat) (h : i < (C1 e).length) : (C1 e)[i][0] = if i = 0 then 87 else 119 := by
 rw [aF e i h, ZL]; rfl
theorem SM (e : EO) : 1 ≤ (C1 e).length := by
 rw [C1, NY, LY]; omega
theorem nM (e : EO) (h2 : e.2.1 < 4294967296) : EW ((C1 e)[0]'(SM e)) 2 4 = e.2.1 := by
 rw [aF e 0 (SM e)]
 obtain ⟨t, ht⟩ := bD e
 unfold EW; rw [ht]
 exact WM _ h2
theorem lP {ep : Nat} (e : EO) (h2 : e.2.1 < 4294967296) (h : e.2.1 ≠ ep) : JS ep (C1 e) := by
 intro s hs ⟨h87, hep⟩
 obtain ⟨i, hi, rfl⟩ := List.mem_iff_getElem.1 hs
 rw [dQ e i hi] at h87
 by_cases h0 : i = 0
 ·subst h0
  rw [nM e h2] at hep
  exact h hep
 ·rw [if_neg h0] at h87
  exact absurd h87 AF
theorem jP {ep : Nat} (e : EO) : JS ep (C1 e).tail := by
 intro s hs ⟨h87, _⟩
 obtain ⟨i, hi, rfl⟩ := List.mem_iff_getElem.1 hs
 rw [List.getElem_tail, dQ, if_neg AA] at h87
 exact absurd h87 AF
theorem YN {ep n : Nat} : JS ep (List.replicate n FP) := by
 intro s hs ⟨h87, _⟩
 obtain ⟨_, rfl⟩ := List.mem_replicate.1 hs
 exact absurd h87 AF
theorem ZS {ep : Nat} {a b : List BA} : JS ep (a ++ b) ↔ JS ep a ∧ JS ep b := by
 unfold JS
 constructor
 ·exact fun h => ⟨fun s hs => h s (List.mem_append.2 (.inl hs)), fun s hs => h s (List.mem_append.2 (.inr hs))⟩
 ·rintro ⟨h1, h2⟩ s hs
  rcases List.mem_append.1 hs with h | h
  ·exact h1 s h
  ·exact h2 s h
theorem V7 {ep : Nat} {a b : List BA} (h : JS ep b) (hs : ∀ s ∈ a, s ∈ b) : JS ep a := fun s m => h s (hs s m)
theorem kW {ep at_ : Nat} {S l : List BA} (h : JS ep S) (hl : JS ep l) : JS ep (D7 S at_ l) := by
 unfold D7
 rw [ZS, ZS]
 exact ⟨⟨V7 h fun s m => List.mem_of_mem_take m, hl⟩, V7 h fun s m => List.mem_of_mem_drop m⟩
structure JI (T : List BA) (ep : Nat) (L : List (List UInt8)) (k : Nat) : Prop where
 KS : k ≤ T.length
 eq : T.take k = LS ep 0 L
 small : ∀ x ∈ L, x.length ≤ 4000
 rest : JS ep (T.drop k)
theorem fJ (ep : Nat) : ∀ (L : List (List UInt8)) (seq : Nat), L.length ≤ (LS ep seq L).length
 | [], _ => Nat.le_refl _
 | x :: r, seq => by
  rw [LS, List.length_append, List.length_cons]
  have := fJ ep r (seq + 1)
  have := SM (EY ep seq x)
  omega
section
variable {T : List BA} {ep k : Nat} {L : List (List UInt8)}
theorem JI.len (h : JI T ep L k) : (LS ep 0 L).length = k := by rw [← h.eq, List.length_take, Nat.min_eq_left h.KS]
theorem JI.many (h : JI T ep L k) : L.length ≤ k := by have := fJ ep L 0; rw [h.len] at this; exact this
theorem JI.open (h : JI T ep L k) (hep : ep < 4294967296) (hT : T.length < 4294967296) : E9 ep T.length 0 T = (L, k) := by
 have hm := h.many
 have hk := h.KS
 have e := bY ep hep L T.length 0 (T.drop k) AA AA h.small
 rw [← h.eq, List.take_append_drop] at e
 rw [e, bL (fun s hs => h.rest s (List.mem_of_getElem? hs)), List.append_nil, h.eq, h.len]; rfl
theorem JI.append (h : JI T ep L k) {x : List UInt8} (hx : x.length ≤ 4000) {e : EO} (he : e = EY ep L.length x) (hl : k + (C1 e).length ≤ T.length) : JI (D7 T k (C1 e)) ep (L ++ [x]) (k + (C1 e).length) := by
 have hk := h.KS
 have hlen : (T.take k ++ C1 e).length = k + (C1 e).length := by rw [List.length_append, List.length_take, Nat.min_eq_left hk]
 refine ⟨by rw [PN hl]; exact hl, ?_, ?_, ?_⟩
 ·unfold D7
  rw [List.take_left' hlen, m8, h.eq, he, Nat.zero_add]
 ·intro y hy
  rcases List.mem_append.1 hy with hy | hy
  ·exact h.small y hy
  ·obtain rfl := List.mem_singleton.1 hy; exact hx
 ·unfold D7
  rw [List.drop_left' hlen]
  refine V7 h.rest fun s m => ?_
  rw [← List.drop_drop] at m
  exact List.mem_of_mem_drop m
theorem JI.begin (h : JS ep T) : JI T ep [] 0 := ⟨Nat.zero_le _, by rw [List.take_zero]; rfl, (fun x hx => by cases hx), h⟩
end
abbrev QG (y : EO × Nat) (f : Nat) (q : Option Addr × Nat) : List AQ := [AI f 223 [.int .i64 y.1.1, .int .u32 y.1.2.1, .int .u32 y.1.2.2.1, .slice q.1 y.1.2.2.2.length q.2, .int .i64 (y.2 : Int)], row q.1 5 1 y.1.2.2.2.length q.2 (y.1.2.2.2.map AU)]
def M0 (b : Option (EO × Nat)) (f : Nat) (q : Option Addr × Nat) : List AQ := match b with
 | none => []
 | some y => QG y f q
def OB (b : Option (EO × Nat)) (f : Nat) : Value := match b with
 | none => .pointer none
 | some _ => .pointer (some ⟨f, 0, none⟩)
set_option maxHeartbeats 1000000 in
theorem nN (g pb : Nat) (S : List BA) (hS : 32 ≤ S.length) (HP : Old D w (AI pb 3 [.int .i64 0, .int .i64 16])) (H : AH D w w [BR g S []]) :
  Calls Tryz.prog 143 #[.pointer (some ⟨g, 0, none⟩), .slice (some ⟨pb, 0, none⟩) 2 2] w fun e w' => ∃ s : Nat × Option Addr × Nat, e = .returned (OB (F8 S) s.1) ∧ AH D w w' (BR g S [] :: M0 (F8 S) s.1 s.2) := by
 have hcell : ∀ (j : Nat) (hj : j < 2) l, EH D w l pb (0 + j * 1) (.int .i64 ((16 * j : Nat) : Int)) := fun j hj l => by
  rw [Nat.mul_one]
  refine (DZ.old (Old.AI HP)).cell (i := j) ?_
  rcases (show j = 0 ∨ j = 1 by omega) with rfl | rfl <;> rfl
 refine BZ (vs := [.pointer (some ⟨g, 0, none⟩), .slice (some ⟨pb, 0, none⟩) 2 2]) Tryz.func143 rfl _ Tryz.ntmps143 rfl H ?_
 simp only [BX, Nat.zero_add]
 refine zg <| zs rfl <| zn <| AG <| AR <| zs rfl <| zn <| AG <| AG <| AR <| zm rfl <| zv BN <| ?_
 refine zm rfl <| zn <| BK <| JA (σ := Nat × Option (EO × Nat) × Nat × Option Addr × Nat) [0, 15, 16] rfl 17 (fun s => .int .i64 (s.1 : Int)) 5 (fun s => OB s.2.1 s.2.2.1) (fun s => [DS (M0 s.2.1 s.2.2.1 s.2.2.2), BR g S []]) (fun s => s.1 ≤ 2 ∧ s.2.1 = MC S s.1) (fun s => 2 - s.1) ((0, none, 0, none, 0)) (⟨by decide, rfl⟩) rfl rfl (AD.trans (b := [] ++ [BR g S []]) Z8 (AD.fold (L := []))) ?_
 rintro ⟨j, b, f, q⟩ hj_ K1 hK1
 dsimp only at hj_ ⊢
 obtain ⟨hj2, hb⟩ := hj_
 refine zg <| zv (B7 rfl rfl) <| zn <| AG <| BP rfl (fun h => ?_) (fun h => ?_)
 ·have hj : j < 2 := by omega
  have hj1 : j + 1 ≤ 2 := by omega
  have hbs : MC S (j + 1) = QC b (16 * j) (DR S (16 * j)) := by rw [hb]; rfl
  refine zk <| AG <| BK <| zg <| AZ (fW rfl rfl j rfl hj) rfl <| AZ (GB rfl (hcell j hj _)) rfl <| zs rfl <| zn <| zg <| zs rfl <| zn <| AG <| zg <| zm rfl <| zn <| BK <| JA (σ := Nat × Option Addr × Nat) [0, 5, 7, 15, 16, 17] rfl 21 (fun s => .int .i64 (s.1 : Int)) 8 (fun s => .slice s.2.1 s.1 s.2.2) (fun s => [row s.2.1 61 64 s.1 s.2.2 (((S.drop (16 * j)).take s.1).flatMap BI), BR g S [], DS (M0 b f q)]) (fun s => s.1 ≤ 16) (fun s => 16 - s.1) ((0, none, 0)) AF rfl rfl (AD.trans (AD.EB 61 64) Z3) ?_
  rintro ⟨k, ql⟩ hk16 K2 hK2
  dsimp only at hk16 ⊢
  refine zg <| zv (B7 rfl rfl) <| zn <| AG <| BP rfl (fun h2 => ?_) (fun h2 => ?_)
  ·have hk : k < 16 := by omega
   have hi : 16 * j + k < S.length := by omega
   have hst : (S.drop (16 * j)).take (k + 1) = (S.drop (16 * j)).take k ++ [S[16 * j + k]] := by
    rw [List.take_succ_eq_append_getElem MG, List.getElem_drop]
   obtain ⟨s, hs⟩ : ∃ s, s = S[16 * j + k] := ⟨_, rfl⟩
   rw [← hs] at hst
   refine zk <| AG <| BK <| zg <| zm rfl <| zs rfl <| zn <| zg <| zm rfl <| zm rfl <| zm rfl <| AZ (BM (m := ((16 * j + k : Nat) : Int)) rfl rfl ((wrap_i64 AA).trans AA)) rfl ?_
   refine B2 Tryz.call35 rfl rfl (fun w1 => zp (BR g S []) fun D' _ _ H2 => (fP D' w1 g (16 * j + k) S [] hi H2).mono fun e w' ⟨he, H'⟩ => ⟨show e = Ending.returned (.tuple #[.agg (BI s).toArray, .int .i64 0]) by rw [he, hs]; rfl, H'⟩) ?_
   refine zm rfl <| zx rfl rfl <| zx rfl rfl <| AV (B9) rfl rfl rfl fun b10 =>  ?_
   refine A6 (CV (vs := BI s) rfl rfl NN NN (IF s)) rfl rfl ?_
   refine zs rfl <| zn <| AG <| zg <| zm rfl <| zv (CG rfl rfl) <| zn <| CP rfl ((fun h => h rfl)) <| zk <| AR <| zm rfl <| AZ (FV rfl (DU s)) rfl <| AV (HG (res := BI s) rfl rfl (OS _)) rfl rfl rfl (fun b37 => ?_)
   refine AV (BT (A := ql.1) (news := BI s) rfl rfl (BB.AI (b := b37)) O8 (IF _) AF AA) rfl rfl rfl (fun qm => ?_)
   rw [show ((S.drop (16 * j)).take k).flatMap BI ++ BI s = ((S.drop (16 * j)).take (k + 1)).flatMap BI by rw [hst, List.flatMap_append, List.flatMap_singleton]]
   refine zs rfl <| AS <| zb <| zt <| AR <| zv (BM rfl rfl BO) <| ?_
   refine zm rfl <| AS <| B5 hK2 ((k + 1, qm)) (hk) AA BD BL
  obtain rfl : k = 16 := by omega
  obtain ⟨T, hT⟩ : ∃ T, T = (S.drop (16 * j)).take 16 := ⟨_, rfl⟩
  have hTl : T.length = 16 := by rw [hT, List.length_take, List.length_drop]; omega
  rw [← hT]
  rcases hd : FN T with _ | ⟨x, n⟩
  ·have hkeep : b = MC S (j + 1) := by rw [hbs]; unfold DR; rw [← hT, hd]; rfl
   refine CF <| ze <| ze <| CE <| zt <| AG <| AR <| zm rfl <| B2 Tryz.call79 rfl rfl (fun w1 => D6 fun D' _ hin _ => YS D' w1 _ T hd (hin _ fun h hs ho => C7 (A := ql.1) hs T hTl.symm (L4.2 rfl))) ?_
   refine zm rfl <| zx rfl rfl <| zx rfl rfl <| zx rfl rfl <| AV (B9) rfl rfl rfl fun b12 =>  ?_
   refine A6 (CV (vs := [.int .i64 0, .int .u32 0, .int .u32 0, .slice none 0 0]) rfl rfl (by simp) (by simp) CL) rfl rfl ?_
   refine zs rfl <| zs rfl <| zn <| AG <| GM mixed AB <| ?_
   refine AM (AO rfl) rfl <| AM (CO rfl rfl) rfl <| AM (AO rfl) rfl <| ?_
   refine XA (t := 48) rfl (AF) ?_
   refine BG rfl rfl rfl rfl rfl rfl <| BG rfl rfl rfl rfl rfl rfl <| BG rfl rfl rfl rfl rfl rfl <| AM (A8 rfl rfl) rfl <| AM (AO rfl) rfl <| BG rfl rfl rfl rfl rfl rfl <| ?_
   refine BG rfl rfl rfl rfl rfl rfl <| BG rfl rfl rfl rfl rfl rfl <| AM (A8 rfl rfl) rfl <| AM (AO rfl) rfl <| BG rfl rfl rfl rfl rfl rfl <| BG rfl rfl rfl rfl rfl rfl <| ?_
   refine BG rfl rfl rfl rfl rfl rfl <| DM rfl rfl rfl rfl rfl <| DM rfl rfl rfl rfl rfl <| DM rfl rfl rfl rfl rfl <| DM rfl rfl rfl rfl rfl <| DM rfl rfl rfl rfl rfl <| ?_
   refine DM rfl rfl rfl rfl rfl <| DM rfl rfl rfl rfl rfl <| DM rfl rfl rfl rfl rfl <| BG rfl rfl rfl rfl rfl rfl <| AM (A8 rfl rfl) rfl <| EM <| ?_
   refine zt <| EU rfl <| C3 <| zb <| zt <| AR <| zv (BM rfl rfl BO) <| ?_
   refine zm rfl <| AS <| B5 hK1 ((j + 1, b, f, q)) (⟨hj1, hkeep⟩) AA BD BL
  refine CF <| ze <| ze <| CE <| zt <| AG <| AR <| zm rfl <| CQ (σ := Option Addr × Nat) Tryz.call79 rfl rfl (fun w1 => zu fun D' _ hin _ => Y3 D' w1 _ T x n hd (hin _ fun h hs ho => C7 (A := ql.1) hs T hTl.symm (L4.2 rfl))) ?_
  intro qx
  try rw [List.nil_append]
  refine zm rfl <| zx rfl rfl <| zx rfl rfl <| zx rfl rfl <| AV (B9) rfl rfl rfl fun b12 =>  ?_
  refine A6 (CV (vs := M1 x qx) rfl rfl (by simp [M1]) (by simp [M1]) (by simp [M1, Value.oneCell'])) rfl rfl ?_
  have hlk : DR S (16 * j) = if x.1 = 2 ∧ x.2.2.1 = 0 then some x else none := by unfold DR; rw [← hT, hd]
  refine zs rfl <| zs rfl <| zn <| AG <| ?_
  rcases b with _ | y
  ·dsimp only [OB]
   refine GM mixed AB <| AM (AO rfl) rfl <| AM (CO rfl rfl) rfl <| AM (AO rfl) rfl <| ?_
   refine UH (t := 48) rfl (rfl) ?_
   refine B6 rfl rfl <| AM (AP rfl) rfl <| B6 rfl rfl <| AM (zw rfl rfl) rfl <| B6 rfl rfl <| AM (CO rfl rfl) rfl <| AM (BF rfl rfl) rfl <| AM (AO rfl) rfl <| ?_
   refine JC (t := 53) rfl (fun c1 => ?_) (fun c1 => ?_)
   ·have c1 : x.1 = 2 := by omega
    refine B6 rfl rfl <| AM (AP rfl) rfl <| B6 rfl rfl <| AM (zw rfl rfl) rfl <| B6 rfl rfl <| AM (CO rfl rfl) rfl <| AM (BF rfl rfl) rfl <| AM (AO rfl) rfl <| ?_
    refine JC (t := 58) rfl (fun c2 => ?_) (fun c2 => ?_)
    ·have c2 : x.2.2.1 = 0 := by omega
     rw [hlk, if_pos ⟨c1, c2⟩] at hbs
     have hnew : some (x, 16 * j) = MC S (j + 1) := hbs.symm
     refine B6 rfl rfl <| AM (AO rfl) rfl <| B6 rfl rfl <| AM (IL rfl rfl) rfl <| B6 rfl rfl <| AM (AO rfl) rfl <| ?_
     refine BG rfl rfl rfl rfl rfl rfl <| BG rfl rfl rfl rfl rfl rfl <| BG rfl rfl rfl rfl rfl rfl <| BG rfl rfl rfl rfl rfl rfl <| BG rfl rfl rfl rfl rfl rfl <| BG rfl rfl rfl rfl rfl rfl <| ?_
     refine BG rfl rfl rfl rfl rfl rfl <| BG rfl rfl rfl rfl rfl rfl <| B6 rfl rfl <| AM (BF rfl rfl) rfl <| AM (BF rfl rfl) rfl <| EM <| zt <| ?_
     refine DD rfl <| AR <| zv DY <| ?_
     refine zm rfl <| zv (CH rfl rfl) <| ?_
     refine AV (EE rfl rfl) rfl rfl rfl fun b75 =>  ?_
     refine zs rfl <| AS <| zb <| zt <| AR <| zv (BM rfl rfl BO) <| ?_
     refine zm rfl <| AS <| ?_
     exact B5 hK1 ((j + 1, some (x, 16 * j), b75, qx)) (⟨hj1, hnew⟩) AA BD (AD.trans (b := QG (x, 16 * j) b75 qx ++ [BR g S []]) Z8 AD.fold)
    have hkeep : none = MC S (j + 1) := by rw [hbs, hlk, if_neg AA]; rfl
    refine BG rfl rfl rfl rfl rfl rfl <| BG rfl rfl rfl rfl rfl rfl <| BG rfl rfl rfl rfl rfl rfl <| DM rfl rfl rfl rfl rfl <| DM rfl rfl rfl rfl rfl <| DM rfl rfl rfl rfl rfl <| ?_
    refine DM rfl rfl rfl rfl rfl <| DM rfl rfl rfl rfl rfl <| DM rfl rfl rfl rfl rfl <| DM rfl rfl rfl rfl rfl <| DM rfl rfl rfl rfl rfl <| BG rfl rfl rfl rfl rfl rfl <| ?_
    refine AM (A8 rfl rfl) rfl <| EM <| zt <| EU rfl <| C3 <| zb <| ?_
    refine zt <| AR <| zv (BM rfl rfl BO) <| ?_
    refine zm rfl <| AS <| ?_
    exact B5 hK1 ((j + 1, none, f, q)) (⟨hj1, hkeep⟩) AA BD (AD.trans (b := [] ++ [BR g S []]) Z8 (AD.fold (L := [])))
   have hkeep : none = MC S (j + 1) := by rw [hbs, hlk, if_neg AA]; rfl
   refine BG rfl rfl rfl rfl rfl rfl <| BG rfl rfl rfl rfl rfl rfl <| BG rfl rfl rfl rfl rfl rfl <| AM (A8 rfl rfl) rfl <| AM (AO rfl) rfl <| BG rfl rfl rfl rfl rfl rfl <| ?_
   refine BG rfl rfl rfl rfl rfl rfl <| BG rfl rfl rfl rfl rfl rfl <| DM rfl rfl rfl rfl rfl <| DM rfl rfl rfl rfl rfl <| DM rfl rfl rfl rfl rfl <| DM rfl rfl rfl rfl rfl <| ?_
   refine DM rfl rfl rfl rfl rfl <| DM rfl rfl rfl rfl rfl <| DM rfl rfl rfl rfl rfl <| DM rfl rfl rfl rfl rfl <| BG rfl rfl rfl rfl rfl rfl <| AM (A8 rfl rfl) rfl <| ?_
   refine EM <| zt <| EU rfl <| C3 <| zb <| zt <| ?_
   refine AR <| zv (BM rfl rfl BO) <| ?_
   refine zm rfl <| AS <| ?_
   exact B5 hK1 ((j + 1, none, f, q)) (⟨hj1, hkeep⟩) AA BD (AD.trans (b := [] ++ [BR g S []]) Z8 (AD.fold (L := [])))
  dsimp only [OB, M0]
  refine HC.AK (AD.trans (b := DS (QG y f q) :: [BR g S [], AI b12 172 (M1 x qx), row qx.1 5 1 x.2.2.2.length qx.2 (x.2.2.2.map AU)]) Z8 AD.flat) ?_
  refine GM mixed AB <| AM (AO rfl) rfl <| AM (CO rfl rfl) rfl <| AM (AO rfl) rfl <| ?_
  refine UH (t := 48) rfl (rfl) ?_
  refine B6 rfl rfl <| AM (AP rfl) rfl <| B6 rfl rfl <| AM (zw rfl rfl) rfl <| B6 rfl rfl <| AM (CO rfl rfl) rfl <| AM (BF rfl rfl) rfl <| AM (AO rfl) rfl <| ?_
  refine JC (t := 53) rfl (fun c1 => ?_) (fun c1 => ?_)
  ·have c1 : x.1 = 2 := by omega
   refine B6 rfl rfl <| AM (AP rfl) rfl <| B6 rfl rfl <| AM (zw rfl rfl) rfl <| B6 rfl rfl <| AM (CO rfl rfl) rfl <| AM (BF rfl rfl) rfl <| AM (AO rfl) rfl <| ?_
   refine JC (t := 58) rfl (fun c2 => ?_) (fun c2 => ?_)
   ·have c2 : x.2.2.1 = 0 := by omega
    rw [hlk, if_pos ⟨c1, c2⟩] at hbs
    have hbs : MC S (j + 1) = if y.1.2.1 < x.2.1 then some (x, 16 * j) else some y := hbs
    refine B6 rfl rfl <| AM (AO rfl) rfl <| B6 rfl rfl <| AM (IL rfl rfl) rfl <| B6 rfl rfl <| AM (AO rfl) rfl <| ?_
    refine B6 rfl rfl <| AM (AP rfl) rfl <| B6 rfl rfl <| AM (zw rfl rfl) rfl <| B6 rfl rfl <| AM (AO rfl) rfl <| B6 rfl rfl <| AM (AY rfl) rfl <| B6 rfl rfl <| AM (AP rfl) rfl <| B6 rfl rfl <| AM (AP rfl) rfl <| ?_
    refine B6 rfl rfl <| AM (zw rfl rfl) rfl <| B6 rfl rfl <| AM (DV rfl rfl) rfl <| B6 rfl rfl <| AM (A8 rfl rfl) rfl <| AM (BF rfl rfl) rfl <| EM <| zt <| ?_
    refine BP rfl (fun c3 => ?_) (fun c3 => ?_)
    ·have hnew : some (x, 16 * j) = MC S (j + 1) := by rw [hbs, if_pos AA]
     refine AR <| zv DY <| ?_
     refine zm rfl <| zv (CH rfl rfl) <| ?_
     refine AV (EE rfl rfl) rfl rfl rfl fun b75 =>  ?_
     refine zs rfl <| AS <| zb <| zt <| AR <| zv (BM rfl rfl BO) <| ?_
     refine zm rfl <| AS <| ?_
     exact B5 hK1 ((j + 1, some (x, 16 * j), b75, qx)) (⟨hj1, hnew⟩) AA BD (AD.trans (b := QG (x, 16 * j) b75 qx ++ [BR g S []]) Z8 AD.fold)
    have hkeep : some y = MC S (j + 1) := by rw [hbs, if_neg AA]
    refine C3 <| zb <| zt <| AR <| zv (BM rfl rfl BO) <| ?_
    refine zm rfl <| AS <| ?_
    exact B5 hK1 ((j + 1, some y, f, q)) (⟨hj1, hkeep⟩) AA BD (AD.trans (b := QG y f q ++ [BR g S []]) Z8 AD.fold)
   have hkeep : some y = MC S (j + 1) := by rw [hbs, hlk, if_neg AA]; rfl
   refine BG rfl rfl rfl rfl rfl rfl <| BG rfl rfl rfl rfl rfl rfl <| BG rfl rfl rfl rfl rfl rfl <| DM rfl rfl rfl rfl rfl <| DM rfl rfl rfl rfl rfl <| DM rfl rfl rfl rfl rfl <| ?_
   refine DM rfl rfl rfl rfl rfl <| DM rfl rfl rfl rfl rfl <| DM rfl rfl rfl rfl rfl <| DM rfl rfl rfl rfl rfl <| DM rfl rfl rfl rfl rfl <| BG rfl rfl rfl rfl rfl rfl <| ?_
   refine AM (A8 rfl rfl) rfl <| EM <| zt <| EU rfl <| C3 <| zb <| ?_
   refine zt <| AR <| zv (BM rfl rfl BO) <| ?_
   refine zm rfl <| AS <| ?_
   exact B5 hK1 ((j + 1, some y, f, q)) (⟨hj1, hkeep⟩) AA BD (AD.trans (b := QG y f q ++ [BR g S []]) Z8 AD.fold)
  have hkeep : some y = MC S (j + 1) := by rw [hbs, hlk, if_neg AA]; rfl
  refine BG rfl rfl rfl rfl rfl rfl <| BG rfl rfl rfl rfl rfl rfl <| BG rfl rfl rfl rfl rfl rfl <| AM (A8 rfl rfl) rfl <| AM (AO rfl) rfl <| BG rfl rfl rfl rfl rfl rfl <| ?_
  refine BG rfl rfl rfl rfl rfl rfl <| BG rfl rfl rfl rfl rfl rfl <| DM rfl rfl rfl rfl rfl <| DM rfl rfl rfl rfl rfl <| DM rfl rfl rfl rfl rfl <| DM rfl rfl rfl rfl rfl <| ?_
  refine DM rfl rfl rfl rfl rfl <| DM rfl rfl rfl rfl rfl <| DM rfl rfl rfl rfl rfl <| DM rfl rfl rfl rfl rfl <| BG rfl rfl rfl rfl rfl rfl <| AM (A8 rfl rfl) rfl <| ?_
  refine EM <| zt <| EU rfl <| C3 <| zb <| zt <| ?_
  refine AR <| zv (BM rfl rfl BO) <| ?_
  refine zm rfl <| AS <| ?_
  exact B5 hK1 ((j + 1, some y, f, q)) (⟨hj1, hkeep⟩) AA BD (AD.trans (b := QG y f q ++ [BR g S []]) Z8 AD.fold)
 obtain rfl : j = 2 := by omega
 refine CF <| ze <| ze <| CE <| zt <| AG <| AR <| zm rfl <| zs rfl <| zn <| zq <| ?_
 exact zz rfl rfl fun w' H' => ⟨(f, q), by rw [hb]; rfl, H'.AK (AD.trans (b := DS (M0 (F8 S) f q) :: [BR g S []]) (by rw [hb]; exact Z8) (AD.trans AD.flat (AD.perm List.perm_append_comm)))⟩
theorem YO (g : Nat) (S : List BA) (hS : 32 ≤ S.length) (H : AH D w w [BR g S []]) :
  Calls Tryz.prog 112 #[.pointer (some ⟨g, 0, none⟩)] w fun e w' => ∃ s : Nat × Option Addr × Nat, e = .returned (OB (F8 S) s.1) ∧ AH D w w' (BR g S [] :: M0 (F8 S) s.1 s.2) := by
 refine BZ (vs := [.pointer (some ⟨g, 0, none⟩)]) Tryz.func112 rfl _ Tryz.ntmps112 rfl H ?_
 simp only [BX, Nat.zero_add]
 refine zg <| zs rfl <| zn <| AG <| AR <| zm rfl <| AV (BS rfl rfl rfl) rfl rfl rfl fun b4 =>  ?_
 refine CQ (σ := Nat × Option Addr × Nat) Tryz.call143 rfl rfl (fun w1 => EZ (BR g S []) fun D' _ hin H2 => nN D' w1 g b4 S hS (hin _ fun h hs _ => bO hs) H2) ?_
 intro s
 refine zs rfl <| zn <| zq <| ?_
 exact zz rfl rfl fun w' H' => ⟨s, rfl, H'.AK (AD.trans (b := BR g S [] :: M0 (F8 S) s.1 s.2 ++ [AI b4 3 [.int .i64 0, .int .i64 16]]) (fun _ h => h) AD.KM)⟩
def HM (S : List BA) : Nat × List UInt8 × Int := match F8 S with
 | none => (0, [], 13)
 | some y => (y.1.2.1, y.1.2.2.2, 0)
theorem lZ (g : Nat) (S : List BA) (hS : 32 ≤ S.length) (H : AH D w w [BR g S []]) :
  Calls Tryz.prog 73 #[.pointer (some ⟨g, 0, none⟩)] w fun e w' => ∃ q : Option Addr × Nat, e = .returned (.tuple #[.int .u32 (HM S).1, .slice q.1 (HM S).2.1.length q.2, .int .i64 (HM S).2.2]) ∧ AH D w w' [BR g S [], row q.1 5 1 (HM S).2.1.length q.2 ((HM S).2.1.map AU)] := by
 refine BZ (vs := [.pointer (some ⟨g, 0, none⟩)]) Tryz.func73 rfl _ Tryz.ntmps73 rfl H ?_
 simp only [BX, Nat.zero_add]
 refine zg <| zs rfl <| zs rfl <| zs rfl <| AS <| zt <| AG <| zg <| zm rfl <| B2 Tryz.call44 rfl rfl (fun w1 => zp (BR g S []) fun D' _ _ H2 => SE D' w1 g S [] H2) ?_
 refine zv (B7 rfl rfl) <| zn <| CP rfl (AA) ?_
 refine zk <| zg <| zm rfl <| CQ (σ := Nat × Option Addr × Nat) Tryz.call112 rfl rfl (fun w1 => EZ (BR g S []) fun D' _ _ H2 => YO D' w1 g S hS H2) ?_
 intro s
 obtain ⟨f, q⟩ := s
 unfold HM
 rcases hn : F8 S with _ | y
 ·dsimp only [OB, M0]
  refine zs rfl <| zn <| AG <| zg <| zm rfl <| zv (IL rfl rfl) <| zn <| DD rfl <| zg <| zs rfl <| zs rfl <| zs rfl <| AS <| zt <| zq <| zr <| ?_
  exact T4 (.inr rfl) rfl rfl rfl rfl fun w' H' => ⟨(none, 0), rfl, H'.AK (AD.trans (b := BR g S [] :: []) Z8 (AD.cons (AD.EB 5 1)))⟩
 dsimp only [OB, M0]
 refine zs rfl <| zn <| AG <| zg <| zm rfl <| zv (IL rfl rfl) <| zn <| EU rfl <| zk <| AG <| GM mixed AB <| AM (AO rfl) rfl <| AM (AY rfl) rfl <| ?_
 refine AM (AP rfl) rfl <| AM (AP rfl) rfl <| AM (zw rfl rfl) rfl <| AM (AO rfl) rfl <| AM (AY rfl) rfl <| AM (AP rfl) rfl <| ?_
 refine AM (AP rfl) rfl <| AM (zw rfl rfl) rfl <| AM (DH rfl) rfl <| AM (DH rfl) rfl <| AM (DH rfl) rfl <| EM <| ?_
 refine zt <| zq <| ?_
 exact T4 (.inr rfl) rfl rfl rfl rfl fun w' H' => ⟨q, rfl, H'.AK Z8⟩
end Go.Proofs.YtjlolpmmpafjeaaGreat
