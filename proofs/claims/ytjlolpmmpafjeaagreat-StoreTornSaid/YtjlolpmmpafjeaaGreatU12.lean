import Derived.Test.YtjlolpmmpafjeaaGreatU11
set_option linter.unusedVariables false
set_option linter.unusedSimpArgs false
namespace Go.Proofs.YtjlolpmmpafjeaaGreat
open CN
abbrev BA := Vector UInt8 64
def BI (s : BA) : List Value := s.toList.map AU
@[simp] theorem DU (s : BA) : (BI s).length = 64 := by simp [BI]
theorem IF (s : BA) : ∀ v ∈ BI s, v.oneCell' = true := EL _
theorem pE {s t : BA} : BI s = BI t ↔ s = t := by
 unfold BI
 rw [rO]
 exact ⟨fun h => Vector.toList_inj.1 h, fun h => by rw [h]⟩
def FP : BA := Vector.replicate 64 0
theorem mP : BI FP = List.replicate 64 (.int .u8 0) := by simp [BI, FP, AU]
def QK (k : Int) (n : Nat) : Nat := (k % (n : Int)).toNat
theorem e6 (k : Int) {n : Nat} (h : 0 < n) : QK k n < n := by
 unfold QK
 have := Int.emod_nonneg k (show (n : Int) ≠ 0 by omega)
 have := Int.emod_lt_of_pos k (show (0 : Int) < n by omega)
 omega
theorem qZ (s : BA) {j : Nat} (h : j < 64) : (BI s)[j]? = some (AU s[j]) := by
 unfold BI
 rw [List.getElem?_map, Vector.getElem?_toList, Vector.getElem?_eq_getElem h]; rfl
theorem e7 (s : BA) : (FX (List.replicate 64 (.i .u8)) (BI s)).isSome = true := by
 have := ZV s.toList
 rw [Vector.length_toList] at this
 exact this
section
variable {D : Nat → Prop} {w0 : World} {env : BH} {l : List AQ} {dst : Option Tmp} {ty : TypeId} {pos : String} {after : Array Edge} {g : Option (Nat × Bool)} {x y : Operand} {t' : TypeId} {s t : BA}
theorem WH (hx : BQ env x = some (.agg (BI s).toArray)) (hy : BQ env y = some (.agg (BI t).toArray)) : DI Tryz.prog D w0 env l ⟨dst, .binOp .neq 61 x y t', ty, pos, after, g⟩ (.bool (decide (¬ s = t))) := UW hx hy (e7 s) (e7 t) pE
end
def QJ (m : UInt8) (c : List UInt8) : List UInt8 := m :: (c ++ List.replicate (63 - c.length) 0)
theorem jW (m : UInt8) (c : List UInt8) (h : c.length ≤ 63) : (QJ m c).length = 64 := by
 simp [QJ]; omega
def piece (F : List UInt8) (k : Nat) : List UInt8 := (F.drop (63 * k)).take 63
theorem ON (F : List UInt8) (k : Nat) : (piece F k).length = min 63 (F.length - 63 * k) := by simp [piece]
def ME (k : Nat) : UInt8 := if k = 0 then 87 else 119
def GU (F : List UInt8) (k : Nat) : BA := ⟨(QJ (ME k) (piece F k)).toArray, by
 rw [List.size_toArray, jW _ _ (by rw [ON]; omega)]⟩
def GO (F : List UInt8) (k : Nat) : List BA := (List.range k).map (GU F)
def JE (F : List UInt8) : List BA := GO F ((F.length + 62) / 63)
theorem ZZ (F : List UInt8) (k : Nat) : (GO F k).length = k := by simp [GO]
theorem V2 (F : List UInt8) (k : Nat) : GO F (k + 1) = GO F k ++ [GU F k] := by simp [GO, List.range_succ]
theorem TG (F : List UInt8) (k : Nat) : BI (GU F k) = .int .u8 (ME k).toNat :: ((piece F k).map AU ++ List.replicate (63 - (piece F k).length) (.int .u8 0)) := by
 show ((QJ (ME k) (piece F k)).toArray.toList.map AU) = _
 simp [QJ, AU]
theorem OS (s : BA) : KI (fun j => some (j * 64, 64)) (DW (List.replicate 64 (.int .u8 0)) 1) [(0, .agg (BI s).toArray)] = some (BI s) := by
 simp only [KI, Value.cells, List.size_toArray, DU, Nat.zero_mul]
 rw [if_pos ⟨trivial, by rw [MH]; simp⟩, WB (by rw [DU, MH]; simp)]
theorem TM (m : Value) (F : List UInt8) (k : Nat) : FH (m :: List.replicate 63 (.int .u8 0)) (0 + 1 * 1) ((piece F k).map AU) = m :: ((piece F k).map AU ++ List.replicate (63 - (piece F k).length) (.int .u8 0)) := by
 have hl : (piece F k).length ≤ 63 := by rw [ON]; omega
 have := L2 [m] (List.replicate (piece F k).length (.int .u8 0)) (List.replicate (63 - (piece F k).length) (.int .u8 0)) ((piece F k).map AU) (0 + 1 * 1) rfl (by simp)
 rw [List.append_assoc, List.replicate_append_replicate, show (piece F k).length + (63 - (piece F k).length) = 63 by omega] at this
 simpa using this
theorem V4 (F : List UInt8) (k m : Nat) (hm : m = min 63 (F.length - 63 * k)) : (piece F k).map AU = ((F.map AU).drop (63 * k * 1)).take (m * 1) := by
 subst hm
 rw [Nat.mul_one, Nat.mul_one, ← List.map_drop, ← List.map_take, piece]
 congr 1
 rcases Nat.le_total 63 (F.length - 63 * k) with h | h
 ·rw [Nat.min_eq_left h]
 rw [Nat.min_eq_right h, List.take_of_length_le J0, List.take_of_length_le (by simp)]
def tI (bo : Nat) (A : Option Addr) (c : Nat) (F : List UInt8) (n k : Nat) : List AQ :=
 [GQ (fun q : Option Addr × Nat => [AI bo 53 [.slice q.1 k q.2], row q.1 61 64 k q.2 ((GO F k).flatMap BI)]), row A 5 1 n c (F.map AU)]
theorem cQ (m : Int) : ∀ v ∈ (Value.int .u8 m :: List.replicate 63 (Value.int .u8 0)), v.oneCell' = true := fun v hv => by
 rcases List.mem_cons.1 hv with rfl | h
 ·rfl
 ·rw [List.eq_of_mem_replicate h]; rfl
theorem aR (D : Nat → Prop) (w : World) (k a b : Nat) (v : Value) (xs : List UInt8) (hk : k < 256) (ha : a < 4294967296) (hb : b < 4294967296) (hx : xs.length ≤ 4000) (HA : Old D w (AX.rep xs [v])) :
  Calls Tryz.prog 99 #[.agg #[.int .i64 k, .int .u32 a, .int .u32 b, v]] w fun e w' => ∃ q : Option Addr × Nat, e = .returned (.tuple #[.slice q.1 ((15 + xs.length + 62) / 63) q.2, .int .i64 0]) ∧ AH D w w' [row q.1 61 64 ((15 + xs.length + 62) / 63) q.2 ((JE (HN k a b xs)).flatMap BI)] := by
 obtain ⟨Ax, capx, rfl, hc1, hc2, HS⟩ := HA.IG
 obtain ⟨F, hF⟩ : ∃ F, F = HN k a b xs := ⟨_, rfl⟩
 have hFl : F.length = 15 + xs.length := by rw [hF]; exact LY _ _ _ _
 have hS : JE F = GO F ((15 + xs.length + 62) / 63) := by rw [← hFl]; rfl
 rw [← hF, hS]
 obtain ⟨n, hn⟩ : ∃ n, n = 15 + xs.length := ⟨_, rfl⟩
 refine m9 (vs := [.agg #[.int .i64 k, .int .u32 a, .int .u32 b, .slice Ax xs.length capx]]) Tryz.func99 rfl _ Tryz.ntmps99 rfl (AH.start D w) ?_
 simp only [BX, Nat.zero_add]
 refine zg <| AV (EE rfl rfl) rfl rfl rfl fun b1 =>  ?_
 refine zs rfl <| zs rfl <| zn <| AG <| BK <| zg <| zf rfl <| zl rfl rfl <| zv (B7 rfl rfl) <| zm rfl <| ?_
 refine F0 (t := 11) rfl AA ?_
 refine AJ rfl rfl <| zf rfl <| AJ rfl rfl <| zl rfl rfl <| AJ rfl rfl <| zv (DV rfl rfl) <| zv (A8 rfl rfl) <| zs rfl <| AS <| ?_
 refine zt <| CP rfl AA ?_
 refine zg <| zf rfl <| zl rfl rfl <| zv BN <| ?_
 refine zv (DV rfl rfl) <| zs rfl <| zn <| CP rfl AA ?_
 refine C3 <| zb <| zt <| zg <| AV (B9) rfl rfl rfl fun b4 =>  ?_
 refine zn <| AG <| zg <| zf rfl <| ?_
 refine zl rfl rfl <| zf rfl <| zl rfl rfl <| zf rfl <| zl rfl rfl <| zv (CH rfl rfl) <| ?_
 refine zf rfl <| zl rfl rfl <| zv (CH rfl rfl) <| ?_
 refine CQ (σ := Option Addr × Nat) Tryz.call140 rfl rfl (fun w1 => zu fun D' hold _ _ => lO D' w1 k a b _ xs hk ha hb hx (hold _ HA)) ?_
 rintro ⟨A, c⟩
 try rw [List.nil_append]
 rw [← hn] at hFl
 rw [← hF, ← hn]
 dsimp only
 refine CQ (σ := Nat × Nat) Tryz.call139 rfl rfl (fun w1 => zu fun D' _ _ _ => kJ D' w1 A n c) ?_
 rintro ⟨bs, bn⟩
 try rw [List.nil_append]
 dsimp only
 refine zn <| BK <| HC.fact (fun w H => AH.GS A H) ?_
 rintro ⟨hrl, hnc, hcc, hA⟩
 have hA : CU A := hA (by intro h; have := congrArg List.length h; simp [hFl] at this; omega)
 refine iZ rfl Tryz.call157 rfl ((n + 62) / 63) (RB A n) (fun k => AI bs 108 [.slice A n c] :: AI bn 3 [.int .i64 63] :: tI b4 A c F n k) (AD.trans (b := AI bs 108 [.slice A n c] :: AI bn 3 [.int .i64 63] :: ([AI b4 53 [.slice none 0 0], row none 61 64 0 0 []] ++ [row A 5 1 n c (F.map AU)])) (AD.trans Z8 (AD.cons (AD.cons (AD.cons (AD.EB _ _))))) (AD.cons (AD.cons (AD.GQ (L := fun q : Option Addr × Nat => [AI b4 53 [.slice q.1 0 q.2], row q.1 61 64 0 q.2 ((GO F 0).flatMap BI)]) (none, 0))))) (j4 D w bs bn A n c hnc AA _) ?_ ?_
 ·intro lp dp rec i hi
  have hin : 63 * i < n := by omega
  obtain ⟨m, hm⟩ : ∃ m, m = min 63 (n - 63 * i) := ⟨_, rfl⟩
  have hm63 : m ≤ 63 := by omega
  rw [show RB A n i = .slice (A.map (·.add (63 * i))) m m from by unfold RB; rw [← hm]]
  have hsn : (GO F i).flatMap BI ++ BI (GU F i) = (GO F (i + 1)).flatMap BI := by rw [V2]; simp
  have hsrc : ∀ {l r : List AQ} [GC l A 5 1 n c (F.map AU) r], BB D w l (A.map (·.add (63 * i))) ((piece F i).map AU) := fun {l r} [hp : GC l A 5 1 n c (F.map AU) r] => by
   have h := BB.HJ (D := D) (w0 := w) (h := hp) hA (63 * i) m AA hrl hnc (V4 F i m (by rw [hFl]; exact hm))
   rw [if_neg AA, Nat.mul_one] at h
   exact h
  refine L3 <| F5 (DH rfl) rfl rfl rfl <| L8 <| nE <| ?_
  refine HD.AK (l' := GQ (fun q : Option Addr × Nat => [AI b4 53 [.slice q.1 i q.2], row q.1 61 64 i q.2 ((GO F i).flatMap BI)]) :: MD lp dp rec .busy :: AI bs 108 [.slice A n c] :: AI bn 3 [.int .i64 63] :: row A 5 1 n c (F.map AU) :: []) (show AD (MD lp dp rec .busy :: AI bs 108 [.slice A n c] :: AI bn 3 [.int .i64 63] :: GQ (fun q : Option Addr × Nat => [AI b4 53 [.slice q.1 i q.2], row q.1 61 64 i q.2 ((GO F i).flatMap BI)]) :: row A 5 1 n c (F.map AU) :: []) _ from Z8) ?_
  refine HD.exs ?_
  rintro ⟨A2, c2⟩
  dsimp only [List.cons_append, List.nil_append]
  by_cases hi0 : i = 0
  ·have hcp : FH (.int .u8 87 :: List.replicate 63 (.int .u8 0)) (0 + 1 * 1) ((piece F i).map AU) = BI (GU F i) := by rw [TM, TG, ME, if_pos hi0]; rfl
   refine bQ <| ND <| L3 <| ?_
   refine F5 (aD (res := .int .u8 119 :: List.replicate 63 (.int .u8 0)) rfl rfl) rfl rfl rfl ?_
   refine PS (B9) rfl rfl rfl fun b6 =>  ?_
   refine SQ (CV (vs := .int .u8 119 :: List.replicate 63 (.int .u8 0)) rfl rfl (by simp) (by simp) (cQ _)) rfl rfl ?_
   refine L8 <| M7 <| ND <| ND <| L3 <| F5 (zw rfl rfl) rfl rfl rfl <| ?_
   refine F5 BN rfl rfl rfl <| ?_
   refine F5 (CO rfl rfl) rfl rfl rfl <| L8 <| M7 <| ?_
   refine lE rfl AA ?_
   refine L3 <| F5 (KL rfl rfl rfl rfl rfl) rfl rfl rfl <| ?_
   refine SQ (CI (.int .u8 87 :: List.replicate 63 (.int .u8 0)) rfl rfl (by simp) rfl rfl) rfl rfl ?_
   refine L8 <| M7 <| ND <| L3 <| ?_
   refine F5 (NA rfl 1 64 (.inr ⟨_, _, rfl, rfl⟩) (.inl ⟨rfl, rfl⟩) AF AF AF) rfl rfl rfl ?_
   refine F5 (AO rfl) rfl rfl rfl <| ?_
   refine gX (JR (news := (piece F i).map AU) rfl rfl hsrc (by rw [List.length_map, ON, hFl, ← hm, Nat.mul_one]) AA U7 (EL _)) rfl rfl rfl ?_
   rw [hcp]
   refine L8 <| M7 <| L3 <| F5 (zw rfl rfl) rfl rfl rfl <| ?_
   refine F5 (FV rfl (DU (GU F i))) rfl rfl rfl ?_
   refine PS (HG (res := BI (GU F i)) rfl rfl (OS _)) rfl rfl rfl (fun bs2 => ?_)
   refine PS (BT (A := A2) (news := BI (GU F i)) rfl rfl (BB.AI (b := bs2)) O8 (IF _) AF AA) rfl rfl rfl (fun q2 => ?_)
   refine SQ (DN rfl rfl rfl rfl rfl) rfl rfl <| L8 <| TA <| ?_
   rw [hsn]
   exact eI (AD.trans (b := MD lp dp rec .busy :: AI bs 108 [.slice A n c] :: AI bn 3 [.int .i64 63] :: ([AI b4 53 [.slice q2.1 (i + 1) q2.2], row q2.1 61 64 (i + 1) q2.2 ((GO F (i + 1)).flatMap BI)] ++ [row A 5 1 n c (F.map AU)])) Z8 (AD.cons (AD.cons (AD.cons (AD.GQ (L := fun q : Option Addr × Nat => [AI b4 53 [.slice q.1 (i + 1) q.2], row q.1 61 64 (i + 1) q.2 ((GO F (i + 1)).flatMap BI)]) q2)))))
  have hcp : FH (.int .u8 119 :: List.replicate 63 (.int .u8 0)) (0 + 1 * 1) ((piece F i).map AU) = BI (GU F i) := by rw [TM, TG, ME, if_neg hi0]; rfl
  refine bQ <| ND <| L3 <| ?_
  refine F5 (aD (res := .int .u8 119 :: List.replicate 63 (.int .u8 0)) rfl rfl) rfl rfl rfl ?_
  refine PS (B9) rfl rfl rfl fun b6 =>  ?_
  refine SQ (CV (vs := .int .u8 119 :: List.replicate 63 (.int .u8 0)) rfl rfl (by simp) (by simp) (cQ _)) rfl rfl ?_
  refine L8 <| M7 <| ND <| ND <| L3 <| F5 (zw rfl rfl) rfl rfl rfl <| ?_
  refine F5 BN rfl rfl rfl <| ?_
  refine F5 (CO rfl rfl) rfl rfl rfl <| L8 <| M7 <| ?_
  refine lJ rfl AA ?_
  refine dD <| M7 <| ND <| L3 <| ?_
  refine F5 (NA rfl 1 64 (.inr ⟨_, _, rfl, rfl⟩) (.inl ⟨rfl, rfl⟩) AF AF AF) rfl rfl rfl ?_
  refine F5 (AO rfl) rfl rfl rfl <| ?_
  refine gX (JR (news := (piece F i).map AU) rfl rfl hsrc (by rw [List.length_map, ON, hFl, ← hm, Nat.mul_one]) AA U7 (EL _)) rfl rfl rfl ?_
  rw [hcp]
  refine L8 <| M7 <| L3 <| F5 (zw rfl rfl) rfl rfl rfl <| ?_
  refine F5 (FV rfl (DU (GU F i))) rfl rfl rfl ?_
  refine PS (HG (res := BI (GU F i)) rfl rfl (OS _)) rfl rfl rfl (fun bs2 => ?_)
  refine PS (BT (A := A2) (news := BI (GU F i)) rfl rfl (BB.AI (b := bs2)) O8 (IF _) AF AA) rfl rfl rfl (fun q2 => ?_)
  refine SQ (DN rfl rfl rfl rfl rfl) rfl rfl <| L8 <| TA <| ?_
  rw [hsn]
  exact eI (AD.trans (b := MD lp dp rec .busy :: AI bs 108 [.slice A n c] :: AI bn 3 [.int .i64 63] :: ([AI b4 53 [.slice q2.1 (i + 1) q2.2], row q2.1 61 64 (i + 1) q2.2 ((GO F (i + 1)).flatMap BI)] ++ [row A 5 1 n c (F.map AU)])) Z8 (AD.cons (AD.cons (AD.cons (AD.GQ (L := fun q : Option Addr × Nat => [AI b4 53 [.slice q.1 (i + 1) q.2], row q.1 61 64 (i + 1) q.2 ((GO F (i + 1)).flatMap BI)]) q2)))))
 intro dp
 refine JJ.AK (l' := GQ (fun q : Option Addr × Nat => [AI b4 53 [.slice q.1 ((n + 62) / 63) q.2], row q.1 61 64 ((n + 62) / 63) q.2 ((GO F ((n + 62) / 63)).flatMap BI)]) :: ob dp (.deferred (some [])) :: AI bs 108 [.slice A n c] :: AI bn 3 [.int .i64 63] :: row A 5 1 n c (F.map AU) :: []) (show AD (ob dp (.deferred (some [])) :: AI bs 108 [.slice A n c] :: AI bn 3 [.int .i64 63] :: GQ (fun q : Option Addr × Nat => [AI b4 53 [.slice q.1 ((n + 62) / 63) q.2], row q.1 61 64 ((n + 62) / 63) q.2 ((GO F ((n + 62) / 63)).flatMap BI)]) :: row A 5 1 n c (F.map AU) :: []) _ from Z8) ?_
 refine JJ.exs ?_
 rintro ⟨A2, c2⟩
 dsimp only [List.cons_append, List.nil_append]
 refine TA <| X6 <| ND <| L3 <| F5 (zw rfl rfl) rfl rfl rfl <| F5 (DH rfl) rfl rfl rfl <| ?_
 refine F5 (DH rfl) rfl rfl rfl <| L8 <| M7 <| qU <| ?_
 exact j0 (.inr rfl) rfl rfl rfl fun w' H' => ⟨(A2, c2), rfl, H'.AK Z8⟩
theorem L4 : ∀ {S : List BA} {cs : List Value} {h : Heap}, G4 S cs h ↔ cs = S.flatMap BI
 | [], cs, h => Iff.rfl
 | s :: r, cs, h => by
  constructor
  ·rintro ⟨c1, c2, rfl, h1, h2⟩
   rw [show c1 = BI s from DQ.1 h1, L4.1 h2, List.flatMap_cons]
  ·rintro rfl
   exact ⟨BI s, _, List.flatMap_cons, DQ.2 rfl, L4.2 rfl⟩
theorem _root_.CN.Old.SY {D : Nat → Prop} {w0 : World} {S : List BA} {v : Value} (k : Old D w0 (AX.rep S [v])) :
  ∃ A cap, v = .slice A S.length cap ∧ S.length ≤ cap ∧ cap ≤ 9223372036854775807 ∧ CS D w0 A (S.flatMap BI) ∧ Old D w0 (J5 A (S.flatMap BI)) := by
 obtain ⟨h, hh, A, cap, e, h1, h2, ecs, k1, k2⟩ := k
 have := L4.1 k1
 subst this
 exact ⟨A, cap, by simpa using e, h1, h2, CS.RD ⟨h, hh, k2⟩, ⟨h, hh, k2⟩⟩
theorem SB {S : List BA} {D : Nat → Prop} {w0 : World} {A : Option Addr} (HS : CS D w0 A (S.flatMap BI)) {k : Nat} (hk : k < S.length) : CU A := HS.CU (by
 intro h
 have := congrArg List.length h
 rw [List.length_flatMap] at this
 cases S with
 | nil => simp at hk
 | cons s r => simp at this)
theorem PG {S : List BA} {D : Nat → Prop} {w0 : World} {A : Option Addr} (HS : CS D w0 A (S.flatMap BI)) {k : Nat} (hk : k < S.length) (l : List AQ) : DZ D w0 l (ab A) (ao A + k * 64) (BI S[k]) :=
 DZ.sub ((BB.old (l := l) HS).cells (by
  intro h
  have := congrArg List.length h
  cases S with
  | nil => simp at hk
  | cons s r => simp at this)) fun i v hv => by
  have : i < 64 := by
   rcases Nat.lt_or_ge i 64 with h | h
   ·exact h
   ·rw [List.getElem?_eq_none (by simpa using h)] at hv; cases hv
  rw [Q9 DU S k i hk this]; exact hv
theorem UA {S : List BA} {D : Nat → Prop} {w0 : World} {A : Option Addr} (HS : CS D w0 A (S.flatMap BI)) {k j : Nat} (hk : k < S.length) (hj : j < 64) (l : List AQ) : EH D w0 l (ab A) (ao A + k * 64 + j) (.int .u8 ((S[k])[j].toNat : Int)) :=
 (PG HS hk l).cell (i := j) (qZ S[k] hj)
theorem lI (D : Nat → Prop) (w : World) (v1 v2 : Value) (S T : List BA) (HA : Old D w (AX.rep S [v1])) (HB : Old D w (AX.rep T [v2])) :
  Calls Tryz.prog 124 #[v1, v2] w fun e w' => e = .returned (.bool (decide (S = T))) ∧ AH D w w' [] := by
 obtain ⟨A, c1, rfl, hA1, hA2, HS, _⟩ := HA.SY
 obtain ⟨B, c2, rfl, hB1, hB2, HT, _⟩ := HB.SY
 refine BZ (vs := [.slice A S.length c1, .slice B T.length c2]) Tryz.func124 rfl _ Tryz.ntmps124 rfl (AH.start D w) ?_
 simp only [BX, Nat.zero_add]
 refine zg <| zs rfl <| zn <| AG <| zg <| zm rfl <| zv BN <| ?_
 refine zm rfl <| zv BN <| ?_
 refine zv (CG rfl rfl) <| zn <| BP rfl (fun h => ?_) (fun h => ?_)
 ·have hne : ¬ S = T := fun e => by subst e; exact h rfl
  refine zg <| zs rfl <| zn <| zq <| zr <| ?_
  exact zz rfl rfl fun w' H' => ⟨by rw [decide_eq_false hne], H'⟩
 have hl : S.length = T.length := by omega
 refine zk <| AG <| zg <| zm rfl <| zv BN <| ?_
 refine zm rfl <| zn <| BK <| JP (σ := Nat) [0, 1, 12] rfl 13 (fun k => .int .i64 (k : Int)) (fun k => k ≤ S.length ∧ S.take k = T.take k) (fun k => S.length - k) (0) (⟨Nat.zero_le _, by simp⟩) rfl ?_
 rintro k ⟨hk, hkt⟩ K1 hK1
 refine zg <| zv (B7 rfl rfl) <| zn <| AG <| BP rfl (fun h2 => ?_) (fun h2 => ?_)
 ·have hlt : k < S.length := by omega
  have hlt2 : k < T.length := by omega
  have hA := SB HS hlt
  have hB := SB HT hlt2
  have hc1 := PG HS hlt []
  have hc2 := PG HT hlt2 []
  have hs1 := List.take_succ_eq_append_getElem hlt
  have hs2 := List.take_succ_eq_append_getElem hlt2
  have hat : S = T → S[k] = T[k] := fun e => by subst e; rfl
  generalize S[k] = s at *
  generalize T[k] = t at *
  refine zk <| AG <| BK <| zg <| zm rfl <| zs rfl <| zn <| AG <| GM mixed AB <| ?_
  refine AM (AO rfl) rfl <| AM (AO rfl) rfl <| AM (CZ rfl DP rfl _ rfl AA) rfl <| ?_
  refine AM (D4 (cs := BI s) rfl (DU _) hc1) rfl ?_
  refine AM (AO rfl) rfl <| AM (AO rfl) rfl <| AM (CZ rfl DP rfl _ rfl AA) rfl <| ?_
  refine AM (D4 (cs := BI t) rfl (DU _) hc2) rfl ?_
  refine AM (WH rfl rfl) rfl ?_
  refine EM <| zt <| ?_
  refine BP rfl (fun h3 => ?_) (fun h3 => ?_)
  ·have hne : ¬ S = T := fun e => h3 (hat e)
   refine zg <| zs rfl <| zn <| zq <| B4 <| zr <| zr <| B4 <| zr <| ?_
   exact zz rfl rfl fun w' H' => ⟨by rw [decide_eq_false hne], H'⟩
  have hst : s = t := Classical.not_not.1 h3
  refine C3 <| zb <| zt <| AR <| zv (BM rfl rfl BO) <| ?_
  refine zm rfl <| AS <| B5 hK1 (k + 1) (⟨hlt, by rw [hs1, hs2, hkt, hst]⟩) AA BD BL
 have hk' : k = S.length := by omega
 have he : S = T := by rw [← List.take_length (l := S), ← hk', hkt, hk', hl, List.take_length]
 refine CF <| ze <| ze <| CE <| zt <| AG <| AR <| zs rfl <| zn <| zq <| ?_
 exact zz rfl rfl fun w' H' => ⟨by rw [decide_eq_true he], H'⟩
def DG (m : Nat) : Nat := if 4000 < m then 0 else (m + 77) / 63
theorem WZ (D : Nat → Prop) (w : World) (m N : Nat) (hN : DG m = N) : Calls Tryz.prog 97 #[.int .i64 (m : Int)] w fun e w' => e = .returned (.int .i64 (N : Int)) ∧ AH D w w' [] := by
 subst hN
 refine (nH D w m).mono fun e w' ⟨he, H'⟩ => ⟨?_, H'⟩
 rw [he]
 have : JX (m : Int) = ((DG m : Nat) : Int) := by
  unfold JX DG
  split <;> split <;> omega
 rw [this]
def EW (s : BA) (lo m : Nat) : Nat := IB ((s.toList.drop lo).take m)
theorem aE (s : BA) (lo : Nat) (h : lo + 2 ≤ 64) : EW s lo 2 < 65536 := by
 have hl : ((s.toList.drop lo).take 2).length = 2 := by simp; omega
 have := UO ((s.toList.drop lo).take 2) 2 AA
 rw [List.take_of_length_le AA] at this
 exact this
theorem R8 (s : BA) (lo : Nat) (h : lo + 4 ≤ 64) : EW s lo 4 < 4294967296 := by
 have hl : ((s.toList.drop lo).take 4).length = 4 := by simp; omega
 have := UO ((s.toList.drop lo).take 4) 4 AA
 rw [List.take_of_length_le AA] at this
 exact this
def GJ (S : List BA) : List UInt8 := S.flatMap (fun s => s.toList.drop 1)
theorem VS (S : List BA) : (GJ S).length = 63 * S.length := by
 induction S with
 | nil => rfl
 | cons s r ih =>
  unfold GJ at ih ⊢
  rw [List.flatMap_cons, List.length_append, ih, List.length_cons]; simp; omega
abbrev EO := Nat × Nat × Nat × List UInt8
def C1 (e : EO) : List BA := JE (HN e.1 e.2.1 e.2.2.1 e.2.2.2)
def IP (S : List BA) (s : BA) : EO := (s[1].toNat, EW s 2 4, EW s 6 4, ((GJ (S.take (DG (EW s 10 2)))).drop 11).take (EW s 10 2))
def FN : List BA → Option (EO × Nat)
 | [] => none
 | s :: r => if s[0].toNat = 87 ∧ DG (EW s 10 2) ≠ 0 ∧ DG (EW s 10 2) ≤ (s :: r).length ∧ C1 (IP (s :: r) s) = (s :: r).take (DG (EW s 10 2)) then some (IP (s :: r) s, DG (EW s 10 2)) else none
theorem BB.sW {D : Nat → Prop} {w0 : World} {l : List AQ} {b : Nat} {t : TypeId} {cs : List Value} {r : List AQ} [h : FR l b t cs r] (off : Nat) {news : List Value} (hn : ∀ i v, news[i]? = some v → cs[off + i]? = some v) : BB D w0 l (some ⟨b, off, none⟩) news :=
 ⟨fun _ => rfl, fun _ => show DZ D w0 l b off news from DZ.AI hn⟩
theorem mL {P : Program} {D : Nat → Prop} {w0 : World} {env : BH} {l : List AQ} {dst : Option Tmp} {ty : TypeId} {pos : String} {after : Array Edge} {g : Option (Nat × Bool)} {t e : TypeId} {s bb : Nat} {z : List Value} [h : E6 P t e] [hs : CX P e s bb z] {x : Operand} {ol oh : Option Operand} {A : Option Addr} {n cap : Nat} (hx : BQ env x = some (.slice A n cap)) (lo hi : Nat)
  (hl : (ol = none ∧ lo = 0) ∨ ∃ o k, ol = some o ∧ BQ env o = some (.int k lo)) (hh : (oh = none ∧ hi = n) ∨ ∃ o k, oh = some o ∧ BQ env o = some (.int k hi)) (h1 : lo ≤ hi) (h2 : hi ≤ cap) {R : Value} (hR : Value.slice (if cap = lo then A else A.map (·.add (lo * s))) (hi - lo) (cap - lo) = R) :
  DI P D w0 env l ⟨dst, .slice t x ol oh none, ty, pos, after, g⟩ R := hR ▸ FE hx lo hi hl hh h1 h2
theorem X9 {D : Nat → Prop} {w : World} {S : List BA} {A : Option Addr} (HR : Old D w (J5 A (S.flatMap BI))) {i lo m cap : Nat} (hi : i < S.length) (h : lo + m ≤ 64) (h0 : 0 < m) (hc : m ≤ cap) (hc2 : cap ≤ 9223372036854775807) {A' : Option Addr} (hA' : A' = some ⟨ab A, ao A + i * 64 + lo, none⟩) :
  Old D w (AX.rep ((S[i].toList.drop lo).take m) [.slice A' m cap]) := by
 have hl : ((S[i].toList.drop lo).take m).length = m := by simp; omega
 refine HR.imp fun x hx => ⟨A', cap, by rw [hl], by rw [hl]; exact hc, hc2, _, DQ.2 rfl, ?_⟩
 have hat : ∀ j v, (((S[i].toList.drop lo).take m).map AU)[j]? = some v → (S.flatMap BI)[i * 64 + (lo + j)]? = some v := fun j v hv => by
  have hj : j < m := by
   rcases Nat.lt_or_ge j m with h | h
   ·exact h
   ·rw [List.getElem?_eq_none J0] at hv; cases hv
  rw [Q9 DU S i (lo + j) hi AA]
  rw [List.getElem?_map, List.getElem?_take_of_lt hj, List.getElem?_drop] at hv
  unfold BI
  rw [List.getElem?_map]; exact hv
 rcases hx with hx | ⟨b, off, t, cs0, fr, rfl, h1, h2⟩
 ·have := hat 0 (AU (S[i][lo]'(by omega))) (by
   rw [List.getElem?_map, List.getElem?_take_of_lt h0, List.getElem?_drop, Vector.getElem?_toList, Vector.getElem?_eq_getElem AA]; rfl)
  rw [hx] at this; simp at this
 refine .inr ⟨b, off + i * 64 + lo, t, cs0, fr, hA', h1, fun j v hv => ?_⟩
 have := h2 _ _ (hat j v hv)
 rw [show off + i * 64 + lo + j = off + (i * 64 + (lo + j)) by omega]
 exact this
theorem QS (D : Nat → Prop) (w : World) {s : BA} {r : List BA} {A : Option Addr} (HR : Old D w (J5 A ((s :: r).flatMap BI))) (lo m cap N : Nat) (hN : EW s lo m = N) (h : lo + m ≤ 64) (h0 : 0 < m) (hm : m ≤ 4) (hc : m ≤ cap) (hc2 : cap ≤ 9223372036854775807) {A' : Option Addr} (hA' : A' = some ⟨ab A, ao A + 0 * 64 + lo, none⟩) :
  Calls Tryz.prog 123 #[.slice A' m cap] w fun e w' => e = .returned (.int .u32 (N : Int)) ∧ AH D w w' [] :=
 hN ▸ jM D w _ ((s.toList.drop lo).take m) J0 (X9 HR (i := 0) (by simp) h h0 hc hc2 hA')
def qP (D : Nat → Prop) (w : World) (S : List BA) (e : Ending) (w' : World) : Prop :=
 (FN S = none ∧ e = .returned (.tuple #[.agg #[.int .i64 0, .int .u32 0, .int .u32 0, .slice none 0 0], .int .i64 0, .int .i64 11]) ∧ AH D w w' []) ∨
 (∃ (x : EO) (n : Nat) (q : Option Addr × Nat), FN S = some (x, n) ∧ e = .returned (.tuple #[.agg #[.int .i64 x.1, .int .u32 x.2.1, .int .u32 x.2.2.1, .slice q.1 x.2.2.2.length q.2], .int .i64 n, .int .i64 0]) ∧ AH D w w' [row q.1 5 1 x.2.2.2.length q.2 (x.2.2.2.map AU)])
theorem YP (D : Nat → Prop) (w : World) (v : Value) (S : List BA) (HA : Old D w (AX.rep S [v])) :
  Calls Tryz.prog 79 #[v] w fun e w' => qP D w S e w' := by
 obtain ⟨A, cap, rfl, hA1, hA2, HS, HR⟩ := HA.SY
 cases S with
 | nil =>
  have hno : FN [] = none := rfl
  refine BZ (vs := [.slice A ([] : List BA).length cap]) Tryz.func79 rfl _ Tryz.ntmps79 rfl (AH.start D w) ?_
  simp only [BX, Nat.zero_add]
  refine zg <| AV (B9) rfl rfl rfl fun b2 =>
   zs rfl <| zs rfl <| AS <| ?_
  refine zt <| AG <| zg <| zm rfl <| zv BN <| ?_
  refine zv (CO rfl rfl) <| zm rfl <| KW (t := 16) rfl (rfl) <| zo rfl rfl <| zo rfl rfl <| zo rfl rfl <| zo rfl rfl <| zo rfl rfl <| zv (BF rfl rfl) <| zn <| DD rfl <| zg <| zv (CH rfl rfl) <| ?_
  refine A6 (DT rfl rfl rfl rfl rfl rfl) rfl rfl <| zs rfl <| zs rfl <| zn <| zq <| ?_
  refine zr <| ?_
  exact QM (.inr rfl) rfl rfl (by simp) rfl rfl fun w' H' => .inl ⟨hno, rfl, H'.AK (AD.nil _)⟩
 | cons s r =>
  have hA := SB HS (k := 0) (by simp)
  have h00 := UA HS (k := 0) (j := 0) (by simp) AF
  have h01 := UA HS (k := 0) (j := 1) (by simp) AF
  simp only [List.getElem_cons_zero] at h00 h01
  have hlen1 : 0 < (s :: r).length := by simp
  have hk1 := s[1].toNat_lt
  have hb10 := aE s 10 AF
  have hb2 := R8 s 2 AF
  have hb6 := R8 s 6 AF
  obtain ⟨kk, hkk⟩ : ∃ m, m = s[1].toNat := ⟨_, rfl⟩
  obtain ⟨size, hsz⟩ : ∃ m, EW s 10 2 = m := ⟨_, rfl⟩
  obtain ⟨n, hn⟩ : ∃ m, DG size = m := ⟨_, rfl⟩
  obtain ⟨a, hna⟩ : ∃ m, EW s 2 4 = m := ⟨_, rfl⟩
  obtain ⟨b, hnb⟩ : ∃ m, EW s 6 4 = m := ⟨_, rfl⟩
  rw [← hkk] at hk1 h01
  rw [hsz] at hb10
  rw [hna] at hb2
  rw [hnb] at hb6
  have hdec : FN (s :: r) = if s[0].toNat = 87 ∧ n ≠ 0 ∧ n ≤ (s :: r).length ∧ C1 (IP (s :: r) s) = (s :: r).take n then some (IP (s :: r) s, n) else none := by
   rw [← hn, ← hsz]; rfl
  have hcand : IP (s :: r) s = (kk, a, b, ((GJ ((s :: r).take n)).drop 11).take size) := by
   rw [← hn, ← hsz, ← hna, ← hnb, hkk]; rfl
  rw [hcand] at hdec
  refine BZ (vs := [.slice A (s :: r).length cap]) Tryz.func79 rfl _ Tryz.ntmps79 rfl (AH.start D w) ?_
  simp only [BX, Nat.zero_add]
  refine zg <| AV (B9) rfl rfl rfl fun b2 =>
   zs rfl <| zs rfl <| AS <| ?_
  refine zt <| AG <| zg <| zm rfl <| zv BN <| ?_
  refine zv (CO rfl rfl) <| zm rfl <| F0 (t := 16) rfl (J0) ?_
  refine AJ rfl rfl <| zm rfl <| AJ rfl rfl <| zv (NW rfl DP rfl rfl AA) <| AJ rfl rfl <| zv (KL rfl rfl rfl rfl rfl) <| ?_
  refine AJ rfl rfl <| AZ (GB rfl (h00 _)) rfl <| AJ rfl rfl <| zv (CG rfl rfl) <| zv (A8 rfl rfl) <| zn <| BP rfl (fun h87 => ?_) (fun h87 => ?_)
  ·have hno : FN (s :: r) = none := by rw [hdec, if_neg]; rintro ⟨h, _⟩; omega
   refine zg <| zv (CH rfl rfl) <| ?_
   refine A6 (DT rfl rfl rfl rfl rfl rfl) rfl rfl <| zs rfl <| zs rfl <| zn <| zq <| ?_
   refine zr <| ?_
   exact QM (.inr rfl) rfl rfl (by simp) rfl rfl fun w' H' => .inl ⟨hno, rfl, H'.AK (AD.nil _)⟩
  ·have h87' : s[0].toNat = 87 := by omega
   refine zk <| zg <| zm rfl <| zv (NW rfl DP rfl rfl AA) <| ?_
   refine AZ (NA rfl 10 12 (.inr ⟨_, _, rfl, rfl⟩) (.inr ⟨_, _, rfl, rfl⟩) AF AF AF) rfl ?_
   refine B2 Tryz.call123 rfl rfl (fun w1 => D6 fun D' hold _ _ => QS D' w1 (hold _ HR) 10 2 54 size hsz AF AF AF AF AF rfl) ?_
   refine zv (CD rfl BO) <| ?_
   refine zs rfl <| zn <| zg <| zm rfl <| B2 Tryz.call97 rfl rfl (fun w1 => D6 fun D' _ _ _ => WZ D' w1 size n hn) ?_
   refine zs rfl <| zn <| AG <| zg <| zm rfl <| zv (CO rfl rfl) <| zm rfl <| DB (t := 33) rfl (fun hz => ?_) (fun hz => ?_)
   ·have hno : FN (s :: r) = none := by rw [hdec, if_neg]; rintro ⟨_, h, _⟩; omega
    refine zo rfl rfl <| zo rfl rfl <| zo rfl rfl <| zo rfl rfl <| zv (BF rfl rfl) <| AS <| zt <| DD rfl <| zg <| zv (CH rfl rfl) <| ?_
    refine A6 (DT rfl rfl rfl rfl rfl rfl) rfl rfl <| zs rfl <| zs rfl <| zn <| zq <| ?_
    refine zr <| ?_
    exact QM (.inr rfl) rfl rfl (by simp) rfl rfl fun w' H' => .inl ⟨hno, rfl, H'.AK (AD.nil _)⟩
   ·refine AJ rfl rfl <| zm rfl <| AJ rfl rfl <| zm rfl <| AJ rfl rfl <| zv BN <| ?_
    refine AJ rfl rfl <| zv (DV rfl rfl) <| zv (A8 rfl rfl) <| zn <| BP rfl (fun hgt => ?_) (fun hgt => ?_)
    ·have hno : FN (s :: r) = none := by rw [hdec, if_neg]; rintro ⟨_, _, h, _⟩; omega
     refine zg <| zv (CH rfl rfl) <| ?_
     refine A6 (DT rfl rfl rfl rfl rfl rfl) rfl rfl <| zs rfl <| zs rfl <| zn <| zq <| ?_
     refine zr <| ?_
     exact QM (.inr rfl) rfl rfl (by simp) rfl rfl fun w' H' => .inl ⟨hno, rfl, H'.AK (AD.nil _)⟩
    ·have hnl : n ≤ (s :: r).length := by omega
     have hs4 : size ≤ 4000 ∧ n = (size + 77) / 63 := by
      unfold DG at hn
      split at hn <;> omega
     refine zk <| AG <| NX (σ := Nat) [0, 2, 5, 6] rfl 7 (fun g => .pointer (some ⟨g, 0, none⟩)) (fun g => [AI g 172 [.int .i64 (kk : Int), .int .u32 (a : Int), .int .u32 (b : Int), .slice none 0 0], AI b2 172 [.int .i64 0, .int .u32 0, .int .u32 0, .slice none 0 0]]) (fun K1 hK1 => ?_) (fun g => ?_)
     ·refine EF [AI b2 172 [.int .i64 0, .int .u32 0, .int .u32 0, .slice none 0 0]] mixed 16 rfl ?_
      refine AE 0 rfl (AO rfl) rfl <| AE 1 rfl (NW rfl DP rfl rfl AA) rfl <| ?_
      refine AE 2 rfl (KL rfl rfl rfl rfl rfl) rfl <| AE 5 rfl (AO rfl) rfl <| AE 6 rfl (NW rfl DP rfl rfl AA) rfl <| ?_
      refine AE 3 rfl (GB rfl (h01 _)) rfl <| AE 4 rfl (CD rfl BO) rfl <| ?_
      refine AE 7 rfl (NA rfl 2 6 (.inr ⟨_, _, rfl, rfl⟩) (.inr ⟨_, _, rfl, rfl⟩) AF AF AF) rfl ?_
      refine AE 9 rfl (AO rfl) rfl <| AE 10 rfl (NW rfl DP rfl rfl AA) rfl <| ?_
      refine AE 11 rfl (NA rfl 6 10 (.inr ⟨_, _, rfl, rfl⟩) (.inr ⟨_, _, rfl, rfl⟩) AF AF AF) rfl ?_
      refine DE 8 14 AB ?_ ?_
      ·skip
       refine CY rfl Tryz.call123 rfl (fun w1 => D6 fun D' hold _ _ => QS D' w1 (hold _ HR) 2 4 62 a hna AF AF AF AF AF rfl) ?_
       refine DE 12 14 AB ?_ ?_
       ·skip
        refine CY rfl Tryz.call123 rfl (fun w1 => D6 fun D' hold _ _ => QS D' w1 (hold _ HR) 6 4 58 b hnb AF AF AF AF AF rfl) ?_
        refine AE 13 rfl (CH rfl rfl) rfl <| ?_
        refine AL 14 AB <| BC rfl (B9) rfl (fun b7 => ?_)
        refine AL 15 AB <| CB rfl (CV (vs := [.int .i64 (kk : Int), .int .u32 (a : Int), .int .u32 (b : Int), .slice none 0 0]) rfl rfl (by simp) (by simp) CL) rfl ?_
        refine BY AB <| ?_
        refine DF hK1 (b7) BD BL
       ·skip
        refine BC rfl (B9) rfl (fun b7 => ?_)
        refine AL 12 AB <| CY rfl Tryz.call123 rfl (fun w1 => D6 fun D' hold _ _ => QS D' w1 (hold _ HR) 6 4 58 b hnb AF AF AF AF AF rfl) ?_
        refine AE 13 rfl (CH rfl rfl) rfl <| ?_
        refine AL 15 AB <| CB rfl (CV (vs := [.int .i64 (kk : Int), .int .u32 (a : Int), .int .u32 (b : Int), .slice none 0 0]) rfl rfl (by simp) (by simp) CL) rfl ?_
        refine BY AB <| ?_
        refine DF hK1 (b7) BD BL
      ·skip
       refine BC rfl (B9) rfl (fun b7 => ?_)
       refine AL 8 AB <| CY rfl Tryz.call123 rfl (fun w1 => D6 fun D' hold _ _ => QS D' w1 (hold _ HR) 2 4 62 a hna AF AF AF AF AF rfl) ?_
       refine AL 12 AB <| CY rfl Tryz.call123 rfl (fun w1 => D6 fun D' hold _ _ => QS D' w1 (hold _ HR) 6 4 58 b hnb AF AF AF AF AF rfl) ?_
       refine AE 13 rfl (CH rfl rfl) rfl <| ?_
       refine AL 15 AB <| CB rfl (CV (vs := [.int .i64 (kk : Int), .int .u32 (a : Int), .int .u32 (b : Int), .slice none 0 0]) rfl rfl (by simp) (by simp) CL) rfl ?_
       refine BY AB <| ?_
       refine DF hK1 (b7) BD BL
     ·refine zt <| zg <| zs rfl <| zn <| AG <| zg <| zm rfl <| zm rfl <| AZ (mL rfl 0 n (.inl ⟨rfl, rfl⟩) (.inr ⟨_, _, rfl, rfl⟩) (Nat.zero_le _) AA (R := .slice A n cap) (by rw [bA]; rfl)) rfl ?_
      refine zv BN <| ?_
      refine zm rfl <| zn <| BK <| JA (σ := Nat × Nat × List Value × Option Addr × Nat) [0, 2, 5, 6, 7, 56, 57] rfl 58 (fun q => .int .i64 (q.1 : Int)) 8 (fun q => .slice q.2.2.2.1 q.2.1 q.2.2.2.2) (fun q => [row q.2.2.2.1 5 1 q.2.1 q.2.2.2.2 q.2.2.1, AI g 172 [.int .i64 (kk : Int), .int .u32 (a : Int), .int .u32 (b : Int), .slice none 0 0], AI b2 172 [.int .i64 0, .int .u32 0, .int .u32 0, .slice none 0 0]]) (fun q => q.1 ≤ n ∧ q.2.1 = 63 * q.1 ∧ q.2.2.1 = (GJ ((s :: r).take q.1)).map AU) (fun q => n - q.1) ((0, 0, [], none, 0)) (⟨Nat.zero_le _, rfl, rfl⟩) rfl rfl (AD.EB _ _) ?_
      rintro ⟨k, m, cs, A2, c2⟩ hj_ K2 hK2
      dsimp only at hj_ ⊢
      obtain ⟨hk, hm, hcs⟩ := hj_
      refine zg <| zv (B7 rfl rfl) <| zn <| AG <| BP rfl (fun hlt => ?_) (fun hlt => ?_)
      ·have hlt1 : k < n := by omega
       have hlt2 : k < (s :: r).length := by omega
       have hcx := PG HS hlt2
       have hs1 : GJ ((s :: r).take (k + 1)) = GJ ((s :: r).take k) ++ ((s :: r)[k]).toList.drop 1 := by
        unfold GJ
        rw [List.take_succ_eq_append_getElem hlt2, List.flatMap_append, List.flatMap_singleton]
       generalize (s :: r)[k] = x at *
       have hdrop : ∀ i v, ((x.toList.drop 1).map AU)[i]? = some v → (BI x)[0 + 1 * 1 + i]? = some v := fun i v hv => by
        unfold BI
        rw [List.map_drop, List.getElem?_drop] at hv
        exact hv
       refine zk <| AG <| BK <| zg <| zv (CZ rfl DP rfl _ rfl AA) <| ?_
       refine AZ (D4 (cs := BI x) rfl (DU _) (hcx _)) rfl <| AV (B9) rfl rfl rfl fun b10 =>  ?_
       refine A6 (CV (vs := BI x) rfl rfl (DU _) (by simp) (IF _)) rfl rfl ?_
       refine zn <| AR <| zm rfl <| AZ (NA rfl 1 64 (.inr ⟨_, _, rfl, rfl⟩) (.inl ⟨rfl, rfl⟩) AF AF AF) rfl ?_
       refine AV (BT (A := A2) (news := (x.toList.drop 1).map AU) rfl rfl (BB.sW (b := b10) (0 + 1 * 1) hdrop) (by simp) (EL _) AF AA) rfl rfl rfl (fun q2 => ?_)
       refine zs rfl <| AS <| zb <| zt <| AR <| zv (BM rfl rfl BO) <| ?_
       refine zm rfl <| AS <| ?_
       have e1 : m + (64 - 1) = 63 * (k + 1) := by omega
       have e2 : cs ++ (x.toList.drop 1).map AU = (GJ ((s :: r).take (k + 1))).map AU := by rw [hcs, hs1, List.map_append]
       have e3 : n - (k + 1) < n - k := by omega
       refine B5 hK2 ((k + 1, m + (64 - 1), cs ++ (x.toList.drop 1).map AU, q2)) (⟨hlt1, e1, e2⟩) (e3) BD BL
      ·have hkn : k = n := by omega
       subst hkn
       refine HC.fact (fun w H => AH.GS A2 H) ?_
       rintro ⟨_, hmc, hcc2, _⟩
       obtain ⟨B, hB⟩ : ∃ B, B = GJ ((s :: r).take k) := ⟨_, rfl⟩
       have hBl : B.length = m := by rw [hB, VS, List.length_take, Nat.min_eq_left hnl, hm]
       rw [← hB] at hcs hdec
       obtain ⟨X, hX⟩ : ∃ X, X = (B.drop 11).take (11 + size - 11) := ⟨_, rfl⟩
       have hXl : X.length = size := by rw [hX]; simp; omega
       rw [show (B.drop 11).take size = X by rw [hX]; congr 1; omega] at hdec
       refine CF <| ze <| ze <| CE <| zt <| AG <| AR <| zm rfl <| zm rfl <| AZ (BM (m := ((11 + size : Nat) : Int)) rfl rfl E3) rfl ?_
       refine zv (FE rfl 11 _ (.inr ⟨_, _, rfl, rfl⟩) (.inr ⟨_, _, rfl, rfl⟩) AA AA) <| ?_
       refine CQ (σ := Option Addr × Nat) Tryz.call81 rfl rfl (fun w1 => zu fun D' _ hin _ => ZP D' w1 _ X AA (hin _ fun h hs ho => (by rw [hX]; exact I4 (C7 (A := A2) hs B hBl.symm (DQ.2 hcs)) 11 (11 + size) AA AA))) ?_
       intro q
       try rw [List.nil_append]
       refine zf rfl <| ?_
       refine A6 (CI [.int .i64 (kk : Int), .int .u32 (a : Int), .int .u32 (b : Int), .slice q.1 X.length q.2] rfl rfl (by simp) rfl rfl) rfl rfl ?_
       refine zn <| AG <| zg <| zv DY <| ?_
       refine CQ (σ := Option Addr × Nat) Tryz.call99 rfl rfl (fun w1 => zu fun D' _ hin _ => aR D' w1 kk a b _ X AA hb2 hb6 AA (hin _ fun h hs ho => C7 (A := q.1) hs X rfl (DQ.2 rfl))) ?_
       intro q3
       try rw [List.nil_append]
       have hEl : (JE (HN kk a b X)).length = (15 + X.length + 62) / 63 := by rw [JE, ZZ, LY]
       refine zm rfl <| zx rfl rfl <| zx rfl rfl <| zs rfl <| zs rfl <| AS <| zt <| zg <| zm rfl <| zv (CG rfl rfl) <| zm rfl <| F0 (t := 79) rfl ((by simp)) ?_
       refine AJ rfl rfl <| zm rfl <| AJ rfl rfl <| zm rfl <| AJ rfl rfl <| zm rfl <| AJ rfl rfl <| zv (FE rfl _ _ (.inl ⟨rfl, rfl⟩) (.inr ⟨_, _, rfl, rfl⟩) AA AA) <| ?_
       refine AJ rfl rfl <| B2 Tryz.call124 rfl rfl (fun w1 => D6 fun D' _ hin _ => lI D' w1 _ _ (JE (HN kk a b X)) (((s :: r).drop 0).take (k - 0)) (hin _ fun h hs ho => C7 (A := q3.1) hs _ hEl.symm (L4.2 rfl)) (hin _ fun h hs ho => I4 (L7 ho HA) 0 k (Nat.zero_le _) hnl)) ?_
       by_cases heq : JE (HN kk a b X) = ((s :: r).drop 0).take (k - 0)
       ·have hyes : FN (s :: r) = some ((kk, a, b, X), k) := by
         rw [hdec, if_pos]
         exact ⟨h87', by omega, hnl, heq⟩
        rw [decide_eq_true heq]
        refine AJ rfl rfl <| zv (P0 rfl) <| zv (A8 rfl rfl) <| zn <| EU rfl <| C3 <| zt <| zg <| zv DY <| ?_
        refine zm rfl <| A6 (DT rfl rfl rfl rfl rfl rfl) rfl rfl <| zs rfl <| zs rfl <| zn <| ?_
        refine zq <| ?_
        exact QM (.inr rfl) rfl rfl (by simp) rfl rfl fun w' H' => .inr ⟨(kk, a, b, X), k, q, hyes, rfl, H'.AK Z8⟩
       ·have hno : FN (s :: r) = none := by
         rw [hdec, if_neg]
         rintro ⟨_, _, _, h⟩
         exact heq h
        rw [decide_eq_false heq]
        refine AJ rfl rfl <| zv (P0 rfl) <| zv (A8 rfl rfl) <| zn <| DD rfl <| AG <| AR <| zv (CH rfl rfl) <| ?_
        refine A6 (DT rfl rfl rfl rfl rfl rfl) rfl rfl <| zs rfl <| zs rfl <| zn <| zq <| ?_
        refine zr <| ?_
        exact QM (.inr rfl) rfl rfl (by simp) rfl rfl fun w' H' => .inl ⟨hno, rfl, H'.AK (AD.nil _)⟩
theorem WM (a : Nat) (h : a < 4294967296) : IB (DK a) = a := by
 simp only [IB, DK, List.foldl_cons, List.foldl_nil, UInt8.toNat_ofNat']
 omega
theorem oP (n : Nat) (h : n < 65536) : IB [UInt8.ofNat (n / 256), UInt8.ofNat n] = n := by
 simp only [IB, List.foldl_cons, List.foldl_nil, UInt8.toNat_ofNat']
 omega
theorem V8 (F : List UInt8) (k : Nat) : (GU F k).toList = ME k :: (piece F k ++ List.replicate (63 - (piece F k).length) 0) := by
 show (QJ (ME k) (piece F k)).toArray.toList = _
 simp [QJ]
theorem ZL (F : List UInt8) (k : Nat) : (GU F k)[0] = ME k := by
 have h : (GU F k).toList[0]? = some (ME k) := by rw [V8]; rfl
 rw [Vector.getElem?_toList, Vector.getElem?_eq_getElem AF] at h
 simpa using h
theorem iV (F : List UInt8) (k : Nat) : GJ (GO F k) = F.take (63 * k) ++ List.replicate (63 * k - F.length) 0 := by
 induction k with
 | zero => simp [GO, GJ]
 | succ k ih =>
  have h1 : GJ (GO F (k + 1)) = GJ (GO F k) ++ (piece F k ++ List.replicate (63 - (piece F k).length) 0) := by
   rw [V2]
   unfold GJ
   rw [List.flatMap_append, List.flatMap_singleton, V8]; rfl
  rw [h1, ih, ON]
  unfold piece
  rcases Nat.lt_or_ge (63 * k) F.length with h | h
  ·rw [show 63 * k - F.length = 0 by omega, List.replicate_zero, List.append_nil, ← List.append_assoc]
   have h2 : F.take (63 * k) ++ (F.drop (63 * k)).take 63 = F.take (63 * (k + 1)) := by
    rw [show 63 * (k + 1) = 63 * k + 63 by omega, List.take_add]
   rw [h2, show 63 - min 63 (F.length - 63 * k) = 63 * (k + 1) - F.length by omega]
  ·rw [List.take_of_length_le h, List.take_of_length_le (show F.length ≤ 63 * (k + 1) by omega), List.drop_eq_nil_of_le h]
   rw [show min 63 (F.length - 63 * k) = 0 by omega]
   simp only [List.take_nil, List.nil_append, Nat.sub_zero]
   rw [List.append_assoc, List.replicate_append_replicate, show 63 * k - F.length + 63 = 63 * (k + 1) - F.length by omega]
theorem nF (F : List UInt8) : GJ (JE F) = F ++ List.replicate (63 * ((F.length + 62) / 63) - F.length) 0 := by
 rw [JE, iV, List.take_of_length_le AA]
theorem NY (F : List UInt8) : (JE F).length = (F.length + 62) / 63 := by rw [JE, ZZ]
def OE (e : EO) : Prop := e.1 < 256 ∧ e.2.1 < 4294967296 ∧ e.2.2.1 < 4294967296 ∧ e.2.2.2.length ≤ 4000
theorem MT (e : EO) (h : e.2.2.2.length ≤ 4000) : (C1 e).length = DG e.2.2.2.length := by
 rw [C1, NY, LY, DG, if_neg AA]; omega
theorem l8 (F : List UInt8) (h : 0 < F.length) : ∃ r, JE F = GU F 0 :: r := by
 unfold JE GO
 obtain ⟨m, hm⟩ : ∃ m, (F.length + 62) / 63 = m + 1 := ⟨(F.length + 62) / 63 - 1, by omega⟩
 rw [hm, List.range_succ_eq_map]
 exact ⟨_, rfl⟩
theorem eC (e : EO) : HN e.1 e.2.1 e.2.2.1 e.2.2.2 = UInt8.ofNat e.1 :: (DK e.2.1 ++ (DK e.2.2.1 ++ (UInt8.ofNat (e.2.2.2.length / 256) :: UInt8.ofNat e.2.2.2.length :: (e.2.2.2 ++ DK (Sm [preB e.1 e.2.1 e.2.2.1 e.2.2.2]))))) := by
 simp [HN, preB, G3]
theorem bD (e : EO) : ∃ t, (GU (HN e.1 e.2.1 e.2.2.1 e.2.2.2) 0).toList = 87 :: UInt8.ofNat e.1 :: (DK e.2.1 ++ (DK e.2.2.1 ++ (UInt8.ofNat (e.2.2.2.length / 256) :: UInt8.ofNat e.2.2.2.length :: t))) := by
 rw [V8, show ME 0 = 87 from rfl]
 unfold piece
 rw [Nat.mul_zero, List.drop_zero, eC]
 refine ⟨(e.2.2.2 ++ DK (Sm [preB e.1 e.2.1 e.2.2.1 e.2.2.2])).take 52 ++ List.replicate (63 - ((UInt8.ofNat e.1 :: (DK e.2.1 ++ (DK e.2.2.1 ++ (UInt8.ofNat (e.2.2.2.length / 256) :: UInt8.ofNat e.2.2.2.length :: (e.2.2.2 ++ DK (Sm [preB e.1 e.2.1 e.2.2.1 e.2.2.2])))))).take 63).length) 0, ?_⟩
 generalize 63 - _ = q
 simp [DK]
theorem YQ {s : BA} {j : Nat} (hj : j < 64) {v : UInt8} (h : s.toList[j]? = some v) : s[j] = v := by
 rw [Vector.getElem?_toList, Vector.getElem?_eq_getElem hj] at h
 simpa using h
theorem W7 (e : EO) (h : OE e) (rest : List BA) : FN (C1 e ++ rest) = some (e, DG e.2.2.2.length) := by
 obtain ⟨h1, h2, h3, h4⟩ := h
 obtain ⟨r, hr⟩ := l8 (HN e.1 e.2.1 e.2.2.1 e.2.2.2) (by rw [LY]; omega)
 obtain ⟨t, ht⟩ := bD e
 have hlen := MT e h4
 have hE : C1 e = JE (HN e.1 e.2.1 e.2.2.1 e.2.2.2) := rfl
 have hbody := nF (HN e.1 e.2.1 e.2.2.1 e.2.2.2)
 rw [← hE] at hr hbody
 generalize hs : GU (HN e.1 e.2.1 e.2.2.1 e.2.2.2) 0 = s at *
 have n10 : EW s 10 2 = e.2.2.2.length := by
  unfold EW; rw [ht]
  show IB [UInt8.ofNat (e.2.2.2.length / 256), UInt8.ofNat e.2.2.2.length] = _
  exact oP _ AA
 have n2 : EW s 2 4 = e.2.1 := by
  unfold EW; rw [ht]
  exact WM _ h2
 have n6 : EW s 6 4 = e.2.2.1 := by
  unfold EW; rw [ht]
  exact WM _ h3
 have n0 : s[0].toNat = 87 := by rw [YQ (v := 87) AF (by rw [ht]; rfl)]; rfl
 have n1 : s[1].toNat = e.1 := by
  rw [YQ (v := UInt8.ofNat e.1) AF (by rw [ht]; rfl)]
  simp only [UInt8.toNat_ofNat']; omega
 have htake : (s :: (r ++ rest)).take (DG e.2.2.2.length) = C1 e := by
  rw [← List.cons_append, ← hr, ← hlen, List.take_left]
 have hcand : IP (s :: (r ++ rest)) s = e := by
  unfold IP
  rw [n10, htake, n1, n2, n6, hbody, eC]
  have : ((UInt8.ofNat e.1 :: (DK e.2.1 ++ (DK e.2.2.1 ++ (UInt8.ofNat (e.2.2.2.length / 256) :: UInt8.ofNat e.2.2.2.length :: (e.2.2.2 ++ DK (Sm [preB e.1 e.2.1 e.2.2.1 e.2.2.2])))))) ++ List.replicate (63 * (((UInt8.ofNat e.1 :: (DK e.2.1 ++ (DK e.2.2.1 ++ (UInt8.ofNat (e.2.2.2.length / 256) :: UInt8.ofNat e.2.2.2.length :: (e.2.2.2 ++ DK (Sm [preB e.1 e.2.1 e.2.2.1 e.2.2.2])))))).length + 62) / 63) - (UInt8.ofNat e.1 :: (DK e.2.1 ++ (DK e.2.2.1 ++ (UInt8.ofNat (e.2.2.2.length / 256) :: UInt8.ofNat e.2.2.2.length :: (e.2.2.2 ++ DK (Sm [preB e.1 e.2.1 e.2.2.1 e.2.2.2])))))).length) 0).drop 11 = e.2.2.2 ++ (DK (Sm [preB e.1 e.2.1 e.2.2.1 e.2.2.2]) ++ List.replicate (63 * (((UInt8.ofNat e.1 :: (DK e.2.1 ++ (DK e.2.2.1 ++ (UInt8.ofNat (e.2.2.2.length / 256) :: UInt8.ofNat e.2.2.2.length :: (e.2.2.2 ++ DK (Sm [preB e.1 e.2.1 e.2.2.1 e.2.2.2])))))).length + 62) / 63) - (UInt8.ofNat e.1 :: (DK e.2.1 ++ (DK e.2.2.1 ++ (UInt8.ofNat (e.2.2.2.length / 256) :: UInt8.ofNat e.2.2.2.length :: (e.2.2.2 ++ DK (Sm [preB e.1 e.2.1 e.2.2.1 e.2.2.2])))))).length) 0) := by
   generalize List.replicate _ _ = z
   generalize DK (Sm _) = y
   simp [DK]
  rw [this, List.take_left]
 rw [hr, List.cons_append]
 show (if s[0].toNat = 87 ∧ DG (EW s 10 2) ≠ 0 ∧ DG (EW s 10 2) ≤ (s :: (r ++ rest)).length ∧ C1 (IP (s :: (r ++ rest)) s) = (s :: (r ++ rest)).take (DG (EW s 10 2)) then some (IP (s :: (r ++ rest)) s, DG (EW s 10 2)) else none) = _
 rw [hcand, n10, htake, if_pos]
 refine ⟨n0, ?_, ?_, rfl⟩
 ·unfold DG; rw [if_neg AA]; omega
 ·rw [← hlen, hr]; simp
end Go.Proofs.YtjlolpmmpafjeaaGreat
set_option linter.unusedVariables false
namespace Go.Proofs.YtjlolpmmpafjeaaGreat
open CN
def M1 (x : EO) (q : Option Addr × Nat) : List Value := [.int .i64 x.1, .int .u32 x.2.1, .int .u32 x.2.2.1, .slice q.1 x.2.2.2.length q.2]
theorem Y3 (D : Nat → Prop) (w : World) (v : Value) (S : List BA) (x : EO) (n : Nat) (h : FN S = some (x, n)) (HA : Old D w (AX.rep S [v])) :
  Calls Tryz.prog 79 #[v] w fun e w' => ∃ q : Option Addr × Nat, e = .returned (.tuple #[.agg (M1 x q).toArray, .int .i64 n, .int .i64 0]) ∧ AH D w w' [row q.1 5 1 x.2.2.2.length q.2 (x.2.2.2.map AU)] :=
 (YP D w v S HA).mono fun e w' hp => by
  rcases hp with ⟨h1, _⟩ | ⟨x', n', q, h1, he, H'⟩
  ·rw [h] at h1; cases h1
  ·rw [h] at h1; cases h1; exact ⟨q, he, H'⟩
theorem YS (D : Nat → Prop) (w : World) (v : Value) (S : List BA) (h : FN S = none) (HA : Old D w (AX.rep S [v])) :
  Calls Tryz.prog 79 #[v] w fun e w' => e = .returned (.tuple #[.agg #[.int .i64 0, .int .u32 0, .int .u32 0, .slice none 0 0], .int .i64 0, .int .i64 11]) ∧ AH D w w' [] :=
 (YP D w v S HA).mono fun e w' hp => by
  rcases hp with ⟨_, he, H'⟩ | ⟨x', n', q, h1, _⟩
  ·exact ⟨he, H'⟩
  ·rw [h] at h1; cases h1
theorem aA (D : Nat → Prop) (w : World) (e : EO) (h : OE e) (v : Value) (HA : Old D w (AX.rep e.2.2.2 [v])) :
  Calls Tryz.prog 99 #[.agg #[.int .i64 e.1, .int .u32 e.2.1, .int .u32 e.2.2.1, v]] w fun r w' => ∃ q : Option Addr × Nat, r = .returned (.tuple #[.slice q.1 (C1 e).length q.2, .int .i64 0]) ∧ AH D w w' [row q.1 61 64 (C1 e).length q.2 ((C1 e).flatMap BI)] := by
 have hl : (C1 e).length = (15 + e.2.2.2.length + 62) / 63 := by rw [C1, NY, LY]
 rw [hl]
 exact aR D w e.1 e.2.1 e.2.2.1 v e.2.2.2 h.1 h.2.1 h.2.2.1 h.2.2.2 HA
end Go.Proofs.YtjlolpmmpafjeaaGreat
