import Derived.Test.YtjlolpmmpafjeaaGreatU13
set_option linter.unusedVariables false
set_option linter.unusedSimpArgs false
namespace Go.Proofs.YtjlolpmmpafjeaaGreat
open CN
variable (D : Nat → Prop) (w : World)
def HF (S : List BA) : Nat := match F8 S with
 | none => 0
 | some y => if y.2 = 0 then 16 else 0
theorem P7 (S : List BA) : HF S = 0 ∨ HF S = 16 := by
 unfold HF; split
 ·exact .inl rfl
 split
 ·exact .inr rfl
 exact .inl rfl
abbrev I1 (a : Nat) (xs : List UInt8) : EO := (2, a, 0, xs)
def FK (S : List BA) (a : Nat) (xs : List UInt8) : List BA := D7 S (HF S) (C1 (I1 a xs))
theorem mB (a : Nat) (v : Value) (xs : List UInt8) (L : List BA) (n : Nat) (hL : L = C1 (I1 a xs)) (hn : n = L.length) (ha : a < 4294967296) (hx : xs.length ≤ 4000) (HA : Old D w (AX.rep xs [v])) :
  Calls Tryz.prog 99 #[.agg #[.int .i64 2, .int .u32 a, .int .u32 0, v]] w fun r w' => ∃ q : Option Addr × Nat, r = .returned (.tuple #[.slice q.1 n q.2, .int .i64 0]) ∧ AH D w w' [row q.1 61 64 n q.2 (L.flatMap BI)] := by
 subst hn; subst hL
 exact aA D w (I1 a xs) ⟨show 2 < 256 by decide, ha, show 0 < 4294967296 by decide, hx⟩ v HA
set_option maxHeartbeats 1000000 in
theorem qX (g : Nat) (S : List BA) (a : Nat) (v : Value) (xs : List UInt8) (hS : 32 ≤ S.length) (ha : a < 4294967296) (hl : xs.length ≤ 993) (HA : Old D w (AX.rep xs [v])) (H : AH D w w [BR g S []]) :
  Calls Tryz.prog 111 #[.pointer (some ⟨g, 0, none⟩), .int .u32 a, v] w fun e w' => e = .returned (.int .i64 0) ∧ AH D w w' [BR g (FK S a xs) []] := by
 obtain ⟨L, hL⟩ : ∃ L, L = C1 (I1 a xs) := ⟨_, rfl⟩
 have hel : L.length = (15 + xs.length + 62) / 63 := by rw [hL, C1, NY, LY]
 obtain ⟨A, cap, rfl, _⟩ := HA.IG
 have hsv : FK S a xs = D7 S (HF S) L := by unfold FK; rw [hL]
 obtain ⟨n, hn⟩ : ∃ n, n = L.length := ⟨_, rfl⟩
 have hn1 : 1 ≤ n := by omega
 have hn16 : n ≤ 16 := by omega
 have hat := P7 S
 obtain ⟨at_, hate⟩ : ∃ x, x = HF S := ⟨_, rfl⟩
 rw [← hate] at hat hsv
 have hfit : at_ + L.length ≤ S.length := by omega
 obtain ⟨x0, r, hLr⟩ : ∃ x r, L = x :: r := by
  cases L with
  | nil => simp at hn; omega
  | cons x r => exact ⟨x, r, rfl⟩
 have hrl : r.length = n - 1 := by rw [hn, hLr, List.length_cons]; omega
 have hl0 : 0 < L.length := by omega
 have hL0 : L[0] = x0 := by simp only [hLr, List.getElem_cons_zero]
 refine BZ (vs := [.pointer (some ⟨g, 0, none⟩), .int .u32 a, .slice A xs.length cap]) Tryz.func111 rfl _ Tryz.ntmps111 rfl H ?_
 simp only [BX, Nat.zero_add]
 refine zg <| zs rfl <| zn <| AG <| zg <| zm rfl <| B2 Tryz.call44 rfl rfl (fun w1 => zp (BR g S []) fun D' _ _ H2 => SE D' w1 g S [] H2) ?_
 refine zv (B7 rfl rfl) <| zn <| CP rfl (AA) ?_
 refine zk <| zg <| zm rfl <| zm rfl <| zv (CH rfl rfl) <| ?_
 refine CQ (σ := Option Addr × Nat) Tryz.call99 rfl rfl (fun w1 => zu fun D' hold _ _ => mB D' w1 a (.slice A xs.length cap) xs L n hL hn ha AA (hold _ HA)) ?_
 intro q
 try rw [List.nil_append]
 refine zm rfl <| zx rfl rfl <| zx rfl rfl <| zs rfl <| zs rfl <| AS <| zt <| AG <| zg <| zm rfl <| zv (CG rfl rfl) <| zn <| CP rfl ((fun h => h rfl)) <| zk <| AG <| zg <| zm rfl <| zv BN <| ?_
 refine zv (DV rfl rfl) <| zn <| CP rfl (AA) ?_
 refine zk <| zg <| zs rfl <| AS <| zt <| AG <| zg <| zm rfl <| CQ (σ := Nat × Option Addr × Nat) Tryz.call112 rfl rfl (fun w1 => EZ (BR g S []) fun D' _ _ H2 => YO D' w1 g S hS H2) ?_
 intro s
 obtain ⟨f, qf⟩ := s
 dsimp only
 refine zs rfl <| zn <| NX (σ := Unit) [0, 7] rfl 9 (fun _u => .int .i64 (at_ : Int)) (fun _u => [row q.1 61 64 n q.2 (L.flatMap BI), BR g S []]) (fun K1 hK1 => ?_) (fun _u => ?_)
 ·unfold HF at hate
  rcases hnw : F8 S with _ | y
  ·rw [hnw] at hate
   have hate : at_ = 0 := hate
   dsimp only [OB, M0]
   refine zg <| zm rfl <| zv (OW rfl rfl) <| zm rfl <| zo rfl rfl <| zo rfl rfl <| zo rfl rfl <| zo rfl rfl <| zo rfl rfl <| zv (A8 rfl rfl) <| zn <| EU rfl <| C3 <| ?_
   rw [hate] at hK1
   refine DF hK1 (()) BD BL
  rw [hnw] at hate
  have hate : at_ = if y.2 = 0 then 16 else 0 := hate
  dsimp only [OB, M0]
  refine zg <| zm rfl <| zv (OW rfl rfl) <| zm rfl <| AJ rfl rfl <| zm rfl <| AJ rfl rfl <| zv (AY rfl) <| AJ rfl rfl <| zf rfl <| AJ rfl rfl <| zl rfl rfl <| AJ rfl rfl <| zv (CO rfl rfl) <| zv (BF rfl rfl) <| ?_
  refine zn <| BP rfl (fun z => ?_) (fun z => ?_)
  ·rw [if_pos AA] at hate
   rw [hate] at hK1
   refine AR <| zs rfl <| AS <| DF hK1 (()) BD BL
  rw [if_neg AA] at hate
  rw [hate] at hK1
  refine C3 <| DF hK1 (()) BD BL
 refine zt <| AG <| zg <| zm rfl <| zv BN <| ?_
 refine zm rfl <| zn <| BK <| GL (σ := Nat × List BA × List (Nat × BA)) [0, 7, 9, 43] rfl 44 (fun s => .int .i64 (s.1 : Int)) (fun s => [BR g s.2.1 s.2.2, row q.1 61 64 n q.2 (L.flatMap BI)]) (fun s => s.1 ≤ n ∧ (s.1 < n → s.2 = (S, PW (at_ + 1) r s.1)) ∧ (s.1 = n → s.2 = (D7 S (at_ + 1) r, [(at_, x0)]))) (fun s => n - s.1) ((0, S, [])) (⟨Nat.zero_le _, fun _ => rfl, fun h => by omega⟩) rfl BL ?_
 rintro ⟨i, T, P⟩ hj_ K2 hK2
 dsimp only at hj_ ⊢
 obtain ⟨hi, hlt1, heq1⟩ := hj_
 refine zg <| zv (B7 rfl rfl) <| zn <| AG <| BP rfl (fun h => ?_) (fun h => ?_)
 ·have hin : i < n := by omega
  have hTP := hlt1 hin
  simp only [Prod.mk.injEq] at hTP
  obtain ⟨rfl, rfl⟩ := hTP
  refine HC.fact (fun w H => AH.GS q.1 H) ?_
  rintro ⟨hpl, _, _, hA⟩
  have hA : CU q.1 := hA VD
  by_cases hlast : i + 1 = n
  ·have hi1 : i = r.length := by omega
   refine zk <| AG <| BK <| zg <| zm rfl <| zs rfl <| zn <| zg <| zm rfl <| zv (BM rfl rfl BO) <| ?_
   refine zm rfl <| zv BN <| ?_
   refine AZ (XG (m := 0) (b := n) rfl rfl AA (by rw [hlast, Nat.mod_self])) rfl ?_
   refine zs rfl <| zn <| AG <| zg <| zm rfl <| zv (CO rfl rfl) <| zn <| GR rfl ((by rfl)) ?_
   refine zg <| zm rfl <| B2 Tryz.call24 rfl rfl (fun w1 => zp (BR g T (PW (at_ + 1) r i)) fun D' _ _ H2 => (R0 D' w1 g T (PW (at_ + 1) r i) (U2 (by rw [hLr, List.length_cons] at hfit; omega)) H2)) ?_
   have hfl : FF (fun _ => true) 0 T (PW (at_ + 1) r i) = D7 T (at_ + 1) r := by rw [hi1]; exact UR AA
   rw [hfl]
   have hpl2 : (D7 T (at_ + 1) r).length = T.length := PN AA
   refine zs rfl <| zn <| zg <| zm rfl <| zv (CG rfl rfl) <| zn <| CP rfl ((fun h => h rfl)) <| zk <| zg <| zm rfl <| zm rfl <| zm rfl <| AZ (BM (m := ((at_ : Nat) : Int)) rfl rfl ((wrap_i64 AA).trans AA)) rfl ?_
   refine zm rfl <| zm rfl <| AZ (CZ rfl hA rfl 0 rfl AA) rfl ?_
   refine AZ (D4 (cs := BI x0) rfl (DU _) (by rw [← hL0]; exact DZ.flat (f := BI) (A := q.1) DU hA (i := 0) hl0)) rfl ?_
   refine B2 Tryz.call23 rfl rfl (fun w1 => zp (BR g (D7 T (at_ + 1) r) []) fun D' _ _ H2 => Q5 D' w1 g at_ x0 (D7 T (at_ + 1) r) [] AA AF H2) ?_
   refine zs rfl <| zn <| zg <| zm rfl <| zv (CG rfl rfl) <| zn <| CP rfl ((fun h => h rfl)) <| C3 <| zb <| zt <| AR <| zv (BM rfl rfl BO) <| ?_
   refine zm rfl <| AS <| B5 hK2 ((i + 1, D7 T (at_ + 1) r, [(at_, x0)])) (⟨by show i + 1 ≤ n; omega, fun h => by have h : i + 1 < n := h; omega, fun _ => rfl⟩) AA BD BL
  have hir : i < r.length := by omega
  have hli : i + 1 < L.length := by omega
  have hLi : L[i + 1] = r[i] := by simp only [hLr, List.getElem_cons_succ]
  refine zk <| AG <| BK <| zg <| zm rfl <| zs rfl <| zn <| zg <| zm rfl <| zv (BM rfl rfl BO) <| ?_
  refine zm rfl <| zv BN <| ?_
  refine AZ (XG (m := i + 1) (b := n) rfl rfl AA (Nat.mod_eq_of_lt AA).symm) rfl ?_
  refine zs rfl <| zn <| AG <| zg <| zm rfl <| zv (CO rfl rfl) <| zn <| CP rfl (AA) ?_
  refine zk <| zg <| zm rfl <| zm rfl <| zm rfl <| AZ (BM (m := ((at_ + 1 + i : Nat) : Int)) rfl rfl ((wrap_i64 AA).trans AA)) rfl ?_
  refine zm rfl <| zm rfl <| AZ (CZ rfl hA rfl (i + 1) rfl AA) rfl ?_
  refine AZ (D4 (cs := BI r[i]) rfl (DU _) (by rw [← hLi]; exact DZ.flat (f := BI) (A := q.1) DU hA (i := i + 1) hli)) rfl ?_
  refine B2 Tryz.call23 rfl rfl (fun w1 => zp (BR g T (PW (at_ + 1) r i)) fun D' _ _ H2 => Q5 D' w1 g (at_ + 1 + i) r[i] T (PW (at_ + 1) r i) AA (by have := UX (at_ := at_ + 1) (l := r) (i := i); omega) H2) ?_
  rw [← UP hir]
  refine zs rfl <| zn <| zg <| zm rfl <| zv (CG rfl rfl) <| zn <| CP rfl ((fun h => h rfl)) <| C3 <| zb <| zt <| AR <| zv (BM rfl rfl BO) <| ?_
  refine zm rfl <| AS <| B5 hK2 ((i + 1, T, PW (at_ + 1) r (i + 1))) (⟨by show i + 1 ≤ n; omega, fun _ => rfl, fun h => by have h : i + 1 = n := h; omega⟩) AA BD BL
 have hin : i = n := by omega
 have hTP := heq1 hin
 simp only [Prod.mk.injEq] at hTP
 obtain ⟨rfl, rfl⟩ := hTP
 have hpl2 : (D7 S (at_ + 1) r).length = S.length := PN AA
 have hfin : FF (fun _ => true) 0 (D7 S (at_ + 1) r) [(at_, x0)] = FK S a xs := by
  rw [hsv, hLr, ← bP (by rw [← hLr]; exact hfit)]; rfl
 refine CF <| ze <| ze <| CE <| zt <| AG <| AR <| zm rfl <| B2 Tryz.call24 rfl rfl (fun w1 => zp (BR g (D7 S (at_ + 1) r) [(at_, x0)]) fun D' _ _ H2 => R0 D' w1 g (D7 S (at_ + 1) r) [(at_, x0)] (fun p hp => by obtain rfl := List.mem_singleton.1 hp; show at_ < _; omega) H2) ?_
 rw [hfin]
 refine zs rfl <| zn <| zq <| ?_
 exact zz rfl rfl fun w' H' => ⟨rfl, H'.AK Z8⟩
theorem mR {s : BA} {r : List BA} (h : s[0] ≠ 87) : FN (s :: r) = none := by
 unfold FN; exact if_neg (fun hh => h (UInt8.toNat_inj.1 hh.1))
theorem mH {S : List BA} {at_ : Nat} {s : BA} (h : S[at_]? = some s) (hs : s[0] ≠ 87) : DR S at_ = none := by
 obtain ⟨hl, rfl⟩ := List.getElem?_eq_some_iff.1 h
 unfold DR
 rw [List.drop_eq_getElem_cons hl, List.take_succ_cons, mR hs]
theorem pM {S : List BA} {at_ : Nat} {e : EO} (hok : OE e) (h1 : e.1 = 2) (h2 : e.2.2.1 = 0) (hl : (C1 e).length ≤ 16) (hS : at_ + 16 ≤ S.length) : DR (D7 S at_ (C1 e)) at_ = some e := by
 have : ((D7 S at_ (C1 e)).drop at_).take 16 = C1 e ++ (S.drop (at_ + (C1 e).length)).take (16 - (C1 e).length) := by
  unfold D7
  rw [List.append_assoc, List.drop_left' OK, List.take_append, List.take_of_length_le hl]
 unfold DR
 rw [this, W7 e hok]
 exact if_pos ⟨h1, h2⟩
theorem lF {S : List BA} {at_ at2 : Nat} {l : List BA} (h : at_ + l.length ≤ S.length) (h1 : at2 + 16 ≤ at_ ∨ at_ + l.length ≤ at2) : DR (D7 S at_ l) at2 = DR S at2 := by
 have : ((D7 S at_ l).drop at2).take 16 = (S.drop at2).take 16 := by
  refine List.ext_getElem? fun i => ?_
  rw [List.getElem?_take, List.getElem?_take]
  split
  ·rw [List.getElem?_drop, List.getElem?_drop, LP h]
   rcases h1 with h1 | h1
   ·rw [if_pos AA]
   ·rw [if_neg AA, if_neg AA]
  ·rfl
 unfold DR
 rw [this]
theorem SG {a : Nat} {xs : List UInt8} (hx : xs.length ≤ 993) : (C1 (I1 a xs)).length ≤ 16 ∧ 1 ≤ (C1 (I1 a xs)).length := by
 rw [C1, NY, LY]
 show (15 + xs.length + 62) / 63 ≤ 16 ∧ 1 ≤ (15 + xs.length + 62) / 63
 omega
theorem rR {a : Nat} {xs : List UInt8} (ha : a < 4294967296) (hx : xs.length ≤ 993) : OE (I1 a xs) := ⟨show 2 < 256 by decide, ha, show 0 < 4294967296 by decide, show xs.length ≤ 4000 by omega⟩
section
variable {S : List BA} {a : Nat} {xs : List UInt8}
theorem T9 (hS : 32 ≤ S.length) (hx : xs.length ≤ 993) : (FK S a xs).length = S.length := by
 have := P7 S
 have := (SG (a := a) hx).1
 exact PN AA
theorem bW (hS : 32 ≤ S.length) (ha : a < 4294967296) (hx : xs.length ≤ 993) : DR (FK S a xs) (HF S) = some (I1 a xs) := by
 have := P7 S
 exact pM (rR ha hx) rfl rfl (SG hx).1 AA
theorem lM (hS : 32 ≤ S.length) (hx : xs.length ≤ 993) {at2 : Nat} (h2 : at2 = 0 ∨ at2 = 16) (hne : at2 ≠ HF S) : DR (FK S a xs) at2 = DR S at2 := by
 have := P7 S
 have := (SG (a := a) hx).1
 exact lF AA AA
theorem WT (hS : 32 ≤ S.length) (hx : xs.length ≤ 993) {at2 i : Nat} (h2 : at2 = 0 ∨ at2 = 16) (hne : at2 ≠ HF S) (hi : at2 ≤ i ∧ i < at2 + 16) : (FK S a xs)[i]? = S[i]? := by
 have := P7 S
 have := (SG (a := a) hx).1
 unfold FK
 rw [LP AA]
 rcases Nat.lt_or_ge i (HF S) with h | h
 ·rw [if_pos h]
 ·rw [if_neg AA, if_neg AA]
end
theorem SO (S : List BA) : F8 S = QC (QC none 0 (DR S 0)) 16 (DR S 16) := rfl
theorem RZ {n at_ : Nat} (h : at_ < n) : DR (List.replicate n FP) at_ = none :=
 mH (s := FP) (by rw [List.getElem?_replicate, if_pos h]) AF
theorem WO {n : Nat} (h : 32 ≤ n) : F8 (List.replicate n FP) = none := by
 rw [SO, RZ AA, RZ AA]; rfl
theorem pH {S : List BA} (h : F8 S = none) : HF S = 0 := by unfold HF; rw [h]
theorem dK {S : List BA} {y : EO × Nat} (h : F8 S = some y) : HF S = if y.2 = 0 then 16 else 0 := by unfold HF; rw [h]
theorem Y7 {S : List BA} (h : F8 S = none) : HM S = (0, [], 13) := by unfold HM; rw [h]
theorem kY {S : List BA} {y : EO × Nat} (h : F8 S = some y) : HM S = (y.1.2.1, y.1.2.2.2, 0) := by unfold HM; rw [h]
theorem XK (g : Nat) (S : List BA) (a : Nat) (xs : List UInt8) (er : Int) (hL : HM S = (a, xs, er)) (hS : 32 ≤ S.length) (H : AH D w w [BR g S []]) :
  Calls Tryz.prog 73 #[.pointer (some ⟨g, 0, none⟩)] w fun e w' => ∃ q : Option Addr × Nat, e = .returned (.tuple #[.int .u32 a, .slice q.1 xs.length q.2, .int .i64 er]) ∧ AH D w w' [BR g S [], row q.1 5 1 xs.length q.2 (xs.map AU)] := by
 have h := lZ D w g S hS H
 rw [hL] at h
 exact h
def D9 (c : CA) (l : List C5) : CA × Int :=
 if ¬ C4 c then (FZ, 14) else if 32 < l.length then (FZ, 3) else if (E4 c l).2 ≠ 0 then (FZ, (E4 c l).2) else if ¬ C4 (E4 c l).1 then (FZ, 14) else ((E4 c l).1, 0)
theorem N7 (c : CA) (l : List C5) : I7 c l (D9 c l) := by
 unfold D9
 by_cases h1 : C4 c
 ·rw [if_neg (fun h => h h1)]
  by_cases h2 : 32 < l.length
  ·rw [if_pos h2]; exact .inr (.inl ⟨h1, h2, rfl⟩)
  ·rw [if_neg h2]
   by_cases h3 : (E4 c l).2 ≠ 0
   ·rw [if_pos h3]; exact .inr (.inr (.inl ⟨h1, by omega, h3, rfl⟩))
   ·rw [if_neg h3]
    have h3 : (E4 c l).2 = 0 := Classical.not_not.1 h3
    by_cases h4 : C4 (E4 c l).1
    ·rw [if_neg (fun h => h h4)]; exact .inr (.inr (.inr (.inr ⟨h1, by omega, h3, h4, rfl⟩)))
    ·rw [if_pos h4]; exact .inr (.inr (.inr (.inl ⟨h1, by omega, h3, h4, rfl⟩)))
 ·rw [if_pos h1]; exact .inl ⟨h1, rfl⟩
theorem gH {c : CA} {l : List C5} {r : CA × Int} (h : I7 c l r) : r = D9 c l := h.X3 (N7 c l)
theorem SU {c : CA} {l : List C5} (h : (D9 c l).2 = 0) : C4 c ∧ l.length ≤ 32 ∧ (E4 c l).2 = 0 ∧ C4 (E4 c l).1 ∧ (D9 c l).1 = (E4 c l).1 := by
 rcases N7 c l with ⟨h1, h2⟩ | ⟨h1, h2, h3⟩ | ⟨h1, h2, h3, h4⟩ | ⟨h1, h2, h3, h4, h5⟩ | ⟨h1, h2, h3, h4, h5⟩
 ·rw [h2] at h; cases h
 ·rw [h3] at h; cases h
 ·rw [h4] at h; exact absurd h h3
 ·rw [h5] at h; cases h
 ·exact ⟨h1, h2, h3, h4, by rw [h5]⟩
theorem ZD (c : CA) (e : C5) : (B8 c e).1.2.2.2.1.length = c.2.2.2.1.length := by
 unfold B8
 dsimp only
 split; · rfl
 split; · rfl
 split; · rfl
 split
 ·split; · rfl
  split
  ·split; · rfl
   exact List.length_set
  ·split
   ·split; · rfl
    exact List.length_set
   ·exact List.length_set
 split; · rfl
 split; · rfl
 split
 ·split <;> rfl
 split
 ·split <;> rfl
 ·rfl
theorem YL : ∀ (l : List C5) (c : CA), (E4 c l).1.2.2.2.1.length = c.2.2.2.1.length
 | [], c => rfl
 | e :: r, c => by
  unfold E4
  split
  ·rw [YL r, ZD]
  ·exact ZD c e
theorem aB {c : CA} {l : List C5} (h : (D9 c l).2 = 0) : (D9 c l).1.2.2.2.1.length = c.2.2.2.1.length := by
 rw [(SU h).2.2.2.2, YL]
def JW : CA → List (List C5) → Option CA
 | c, [] => some c
 | c, l :: r => if (D9 c l).2 = 0 then JW (D9 c l).1 r else none
theorem WA (l : List C5) : ∀ (Ls : List (List C5)) (c d : CA), JW c Ls = some d → (D9 d l).2 = 0 → JW c (Ls ++ [l]) = some (D9 d l).1
 | [], c, d, h, h2 => by
  have h : some c = some d := h
  injection h with h; subst h
  show (if (D9 c l).2 = 0 then some (D9 c l).1 else none) = _
  rw [if_pos h2]
 | x :: r, c, d, h, h2 => by
  have h : (if (D9 c x).2 = 0 then JW (D9 c x).1 r else none) = some d := h
  show (if (D9 c x).2 = 0 then JW (D9 c x).1 (r ++ [l]) else none) = _
  split at h
  ·rename_i h0
   rw [if_pos h0]; exact WA l r _ d h h2
  ·cases h
theorem YI : ∀ (Ls : List (List C5)) (c d : CA), JW c Ls = some d → d.2.2.2.1.length = c.2.2.2.1.length
 | [], c, d, h => by
  have h : some c = some d := h
  injection h with h; subst h; rfl
 | x :: r, c, d, h => by
  have h : (if (D9 c x).2 = 0 then JW (D9 c x).1 r else none) = some d := h
  split at h
  ·rename_i h0
   rw [YI r _ d h, aB h0]
  ·cases h
theorem NS {c : CA} (h : C4 c) : (C8 c).length ≤ 993 := by
 have hw := h.S7
 have := hw.lp; have := hw.lv; have := hw.ls
 rw [pL]; omega
theorem OO {l : List C5} (h : l.length ≤ 32) : (AW l).length ≤ 513 := by rw [W1]; omega
instance uI (e : C5) : Decidable (FL e) := inferInstanceAs (Decidable (1 ≤ e.1 ∧ e.1 ≤ 10 ∧ 0 ≤ e.2.1 ∧ e.2.1 < 256 ∧ 0 ≤ e.2.2.1 ∧ e.2.2.1 < 4294967296 ∧ 0 ≤ e.2.2.2.1 ∧ e.2.2.2.1 < 65536 ∧ e.2.2.2.2.2.2.toNat < 281474976710656))
instance uG (l : List C5) : Decidable (G0 l) := inferInstanceAs (Decidable (l.length ≤ 32 ∧ ∀ i (h : i < l.length), FL l[i]))
theorem TE {S S' : List BA} {at_ : Nat} (h : ∀ j, at_ ≤ j → j < at_ + 16 → S'[j]? = S[j]?) : DR S' at_ = DR S at_ := by
 have : (S'.drop at_).take 16 = (S.drop at_).take 16 := by
  refine List.ext_getElem? fun i => ?_
  rw [List.getElem?_take, List.getElem?_take]
  split
  ·rw [List.getElem?_drop, List.getElem?_drop, h _ AA AA]
  ·rfl
 unfold DR
 rw [this]
theorem TP {S : List BA} {at_ : Nat} {e : EO} (h : DR S at_ = some e) : ∃ s, S[at_]? = some s ∧ PZ e.2.1 s := by
 unfold DR at h
 rcases hT : (S.drop at_).take 16 with _ | ⟨s, r⟩
 ·rw [hT] at h; cases h
 ·rw [hT] at h
  rcases hd : FN (s :: r) with _ | ⟨x, n⟩
  ·rw [hd] at h; cases h
  ·rw [hd] at h
   dsimp only at h
   split at h
   ·injection h with h; subst h
    refine ⟨s, ?_, (SA hd).1⟩
    have : ((S.drop at_).take 16)[0]? = (s :: r)[0]? := by rw [hT]
    rw [List.getElem?_take_of_lt AF, List.getElem?_drop] at this
    simpa using this
   ·cases h
theorem tW : FP[0] ≠ 87 := by decide
structure TK (S : List BA) (i : Nat) : Prop where
 len : 32 ≤ S.length
 at_ : HF S = 16 * (i % 2)
 el : ∀ e, DR S (16 * ((i + 1) % 2)) = some e → e.2.1 < i + 1
 hd : ∀ s, S[16 * (i % 2)]? = some s → s[0] = 87 → EW s 2 4 < i
 nw : (i = 0 ∧ DR S 0 = none ∧ DR S 16 = none ∧ ∀ s, S[16]? = some s → s[0] ≠ 87) ∨ ∃ x, DR S (16 * ((i + 1) % 2)) = some (I1 i x)
theorem TK.zero {m : Nat} (hm : 32 ≤ m) : TK (List.replicate m FP) 0 := by
 have hz : ∀ (j : Nat) s, (List.replicate m FP)[j]? = some s → s[0] ≠ 87 := fun j s hs => by
  rw [List.getElem?_replicate] at hs
  split at hs
  ·injection hs with hs; rw [← hs]; exact tW
  ·cases hs
 refine ⟨by rw [List.length_replicate]; exact hm, pH (WO hm), fun e h => ?_, fun s hs h87 => absurd h87 (hz _ s hs), .inl ⟨rfl, RZ AA, RZ AA, hz 16⟩⟩
 rw [RZ AA] at h; cases h
theorem TK.next {S : List BA} {i : Nat} {xs : List UInt8} (h : TK S i) (hi : i < 4294967295) (hx : xs.length ≤ 993) : TK (FK S (i + 1) xs) (i + 1) ∧ HM (FK S (i + 1) xs) = (i + 1, xs, 0) := by
 obtain ⟨h1, h2, h3, h4, h5⟩ := h
 have hl : (FK S (i + 1) xs).length = S.length := T9 AA hx
 have m1 : DR (FK S (i + 1) xs) (16 * (i % 2)) = some (I1 (i + 1) xs) := by
  have := bW (S := S) (a := i + 1) (xs := xs) AA AA hx
  rwa [h2] at this
 have m2 : DR (FK S (i + 1) xs) (16 * ((i + 1) % 2)) = DR S (16 * ((i + 1) % 2)) := lM AA hx AA AA
 have hn : F8 (FK S (i + 1) xs) = some (I1 (i + 1) xs, 16 * (i % 2)) := by
  rw [SO]
  rcases Nat.mod_two_eq_zero_or_one i with hm | hm
  ·have hm2 : (i + 1) % 2 = 1 := by omega
   rw [hm] at m1
   rw [hm2] at m2 h3
   have m1 : DR (FK S (i + 1) xs) 0 = some (I1 (i + 1) xs) := m1
   have m2 : DR (FK S (i + 1) xs) 16 = DR S 16 := m2
   rw [m1, m2, hm]
   rcases ho : DR S 16 with _ | e
   ·rfl
   ·have := h3 e ho
    show (if i + 1 < e.2.1 then _ else _) = _
    rw [if_neg AA]; rfl
  ·have hm2 : (i + 1) % 2 = 0 := by omega
   rw [hm] at m1
   rw [hm2] at m2 h3
   have m1 : DR (FK S (i + 1) xs) 16 = some (I1 (i + 1) xs) := m1
   have m2 : DR (FK S (i + 1) xs) 0 = DR S 0 := m2
   rw [m1, m2, hm]
   rcases ho : DR S 0 with _ | e
   ·rfl
   ·have := h3 e ho
    show (if e.2.1 < i + 1 then _ else _) = _
    rw [if_pos AA]
 refine ⟨⟨by omega, ?_, fun e he => ?_, fun s hs h87 => ?_, .inr ⟨xs, ?_⟩⟩, kY hn⟩
 ·rw [dK hn]
  show (if 16 * (i % 2) = 0 then 16 else 0) = _
  split <;> omega
 ·rw [show (i + 1 + 1) % 2 = i % 2 by omega, m1] at he
  cases he
  show i + 1 < i + 1 + 1
  omega
 ·rw [WT AA hx (at2 := 16 * ((i + 1) % 2)) AA AA AA] at hs
  rcases h5 with ⟨rfl, _, _, hz⟩ | ⟨x, hn5⟩
  ·exact absurd h87 (hz s hs)
  ·obtain ⟨s', hs', hh⟩ := TP hn5
   rw [hs'] at hs
   injection hs with hs; subst hs
   rw [hh.2]; exact Nat.lt_succ_self i
 ·rw [show 16 * ((i + 1 + 1) % 2) = 16 * (i % 2) by omega]
  exact m1
theorem kZ {S S' : List BA} (h : ∀ j, j < 32 → S'[j]? = S[j]?) : F8 S' = F8 S := by
 rw [SO, SO, TE (S := S) (S' := S') (at_ := 0) (fun j _ h2 => h j AA), TE (S := S) (S' := S') (at_ := 16) (fun j _ h2 => h j AA)]
theorem TK.congr {S S' : List BA} {i : Nat} (h : TK S i) (hl : 32 ≤ S'.length) (hs : ∀ j, j < 32 → S'[j]? = S[j]?) : TK S' i ∧ HM S' = HM S := by
 have hn := kZ hs
 have hl1 : ∀ p, p < 2 → DR S' (16 * p) = DR S (16 * p) := fun p hp => TE fun j h1 h2 => hs j AA
 obtain ⟨h1, h2, h3, h4, h5⟩ := h
 have hm := Nat.mod_lt i (show 0 < 2 by decide)
 have hm2 := Nat.mod_lt (i + 1) (show 0 < 2 by decide)
 refine ⟨⟨hl, ?_, ?_, ?_, ?_⟩, by unfold HM; rw [hn]⟩
 ·unfold HF at h2 ⊢; rw [hn]; exact h2
 ·rw [hl1 _ hm2]; exact h3
 ·rw [hs _ AA]; exact h4
 ·rcases h5 with ⟨a, b, c, d⟩ | ⟨x, hx⟩
  ·refine .inl ⟨a, ?_, ?_, ?_⟩
   ·have := hl1 0 AF; rw [Nat.mul_zero] at this; rw [this]; exact b
   ·have := hl1 1 AF; rw [Nat.mul_one] at this; rw [this]; exact c
   ·rw [hs 16 AF]; exact d
  ·exact .inr ⟨x, by rw [hl1 _ hm2]; exact hx⟩
structure E1 where
 S : List BA
 ep : Nat
 c0 : CA
 Ls : List (List C5)
 c : CA
 k : Nat
abbrev FI (S : List BA) : List BA := S.drop 32
structure SI (m : Nat) (s : E1) : Prop where
 len : s.S.length = m
 m40 : 40 ≤ m
 tk : TK s.S s.ep
 ld : HM s.S = (s.ep, C8 s.c0, 0)
 g0 : C4 s.c0
 ok0 : JH s.c0
 oks : ∀ l ∈ s.Ls, G0 l ∧ ∀ x ∈ l, Flat.ok x
 rep : JW s.c0 s.Ls = some s.c
 gc : C4 s.c
 okc : JH s.c
 ji : JI (FI s.S) s.ep (s.Ls.map AW) s.k
 fresh : ∀ e, s.ep < e → JS e (FI s.S)
theorem SI.S8 {m : Nat} {s : E1} (h : SI m s) : (FI s.S).length = m - 32 := by
 show (s.S.drop 32).length = _
 rw [List.length_drop, h.len]
theorem SI.KS {m : Nat} {s : E1} (h : SI m s) : s.k ≤ m - 32 := by have := h.ji.KS; rw [h.S8] at this; exact this
theorem SI.many {m : Nat} {s : E1} (h : SI m s) : s.Ls.length ≤ s.k := by have := h.ji.many; rwa [List.length_map] at this
theorem W4 {S : List BA} {a : Nat} {xs : List UInt8} (hS : 32 ≤ S.length) (hx : xs.length ≤ 993) : FI (FK S a xs) = FI S := by
 have h1 := P7 S
 have h2 := (SG (a := a) hx).1
 refine List.ext_getElem? fun i => ?_
 rw [List.getElem?_drop, List.getElem?_drop]
 unfold FK
 rw [LP AA, if_neg AA, if_neg AA]
theorem qQ {S l : List BA} {k : Nat} (h : 32 + k + l.length ≤ S.length) : FI (D7 S (32 + k) l) = D7 (FI S) k l := by
 have hr : (FI S).length = S.length - 32 := List.length_drop
 refine List.ext_getElem? fun i => ?_
 rw [List.getElem?_drop, LP AA, LP AA]
 rcases Nat.lt_or_ge i k with h1 | h1
 ·rw [if_pos AA, if_pos h1, List.getElem?_drop]
 ·rw [if_neg AA, if_neg (by omega : ¬ i < k)]
  rcases Nat.lt_or_ge i (k + l.length) with h2 | h2
  ·rw [if_pos AA, if_pos h2, show 32 + i - (32 + k) = i - k by omega]
  ·rw [if_neg AA, if_neg AA, List.getElem?_drop]
def KZ (m p : Nat) : E1 := ⟨FK (List.replicate m FP) 1 (C8 (E0 p)), 1, E0 p, [], E0 p, 0⟩
theorem R2 {m p : Nat} (hm : 40 ≤ m) (h1 : 1 ≤ p) (h8 : p ≤ 8) : SI m (KZ m p) := by
 have hg := TF p h1 h8
 have hsm := NS hg
 have hl : (List.replicate m FP).length = m := List.length_replicate
 obtain ⟨t1, t2⟩ := (TK.zero (m := m) AA).next (xs := C8 (E0 p)) AF hsm
 have hrg : FI (FK (List.replicate m FP) 1 (C8 (E0 p))) = List.replicate (m - 32) FP := by
  rw [W4 AA hsm]
  show (List.replicate m FP).drop 32 = _
  rw [List.drop_replicate]
 refine ⟨by show (FK _ _ _).length = m; rw [T9 AA hsm, hl], hm, t1, t2, hg, TY p h8, (fun l hl => by cases hl), rfl, hg, TY p h8, ?_, fun e he => ?_⟩
 ·show JI (FI (FK _ _ _)) 1 [] 0
  rw [hrg]; exact JI.begin YN
 ·show JS e (FI (FK _ _ _))
  rw [hrg]; exact YN
def H8 (s : E1) : E1 := ⟨FK s.S (s.ep + 1) (C8 s.c), s.ep + 1, s.c, [], s.c, 0⟩
theorem OR {m : Nat} {s : E1} (h : SI m s) (he : s.ep < 4294967290) : SI m (H8 s) := by
 have hsm := NS h.gc
 have hl := h.len
 have hm := h.m40
 obtain ⟨t1, t2⟩ := h.tk.next (xs := C8 s.c) AA hsm
 have hrg : FI (FK s.S (s.ep + 1) (C8 s.c)) = FI s.S := W4 AA hsm
 refine ⟨by show (FK _ _ _).length = m; rw [T9 AA hsm, hl], hm, t1, t2, h.gc, h.okc, (fun l hl => by cases hl), rfl, h.gc, h.okc, ?_, fun e he => ?_⟩
 ·show JI (FI (FK _ _ _)) (s.ep + 1) [] 0
  rw [hrg]; exact JI.begin (h.fresh _ (Nat.lt_succ_self _))
 ·show JS e (FI (FK _ _ _))
  have he : s.ep + 1 < e := he
  rw [hrg]; exact h.fresh e AA
def LD (s : E1) (l : List C5) : E1 := ⟨D7 s.S (32 + s.k) (C1 (EY s.ep s.Ls.length (AW l))), s.ep, s.c0, s.Ls ++ [l], (D9 s.c l).1, s.k + DG (AW l).length⟩
theorem c8 {m : Nat} {s : E1} (h : SI m s) {l : List C5} (he : (D9 s.c l).2 = 0) (hl : G0 l) (hf : ∀ x ∈ l, Flat.ok x) (hep : s.ep < 4294967296) (hfit : DG (AW l).length ≤ m - 32 - s.k) : SI m (LD s l) := by
 have hlen := h.len
 have hm := h.m40
 have hk := h.KS
 have hsm := OO hl.1
 have hE : (C1 (EY s.ep s.Ls.length (AW l))).length = DG (AW l).length := MT (EY s.ep s.Ls.length (AW l)) (show (AW l).length ≤ 4000 by omega)
 have hput : (D7 s.S (32 + s.k) (C1 (EY s.ep s.Ls.length (AW l)))).length = s.S.length := PN AA
 obtain ⟨t1, t2⟩ := h.tk.congr (S' := D7 s.S (32 + s.k) (C1 (EY s.ep s.Ls.length (AW l)))) AA (fun j hj => by rw [LP AA, if_pos AA])
 have hrg := qQ (S := s.S) (k := s.k) (l := C1 (EY s.ep s.Ls.length (AW l))) AA
 have hok := SU he
 refine ⟨hput.trans hlen, hm, t1, t2.trans h.ld, h.g0, h.ok0, fun y hy => ?_, WA l s.Ls s.c0 s.c h.rep he, by show C4 (D9 s.c l).1; rw [hok.2.2.2.2]; exact hok.2.2.2.1, SD (N7 s.c l) h.okc hf, ?_, fun e he => ?_⟩
 ·rcases List.mem_append.1 hy with hy | hy
  ·exact h.oks y hy
  ·obtain rfl := List.mem_singleton.1 hy; exact ⟨hl, hf⟩
 ·show JI (FI (D7 s.S (32 + s.k) _)) s.ep ((s.Ls ++ [l]).map AW) (s.k + DG (AW l).length)
  rw [hrg, List.map_append]
  have := h.ji.append (x := AW l) AA (e := EY s.ep s.Ls.length (AW l)) (by rw [List.length_map]) (by rw [h.S8]; omega)
  rw [hE] at this
  exact this
 ·show JS e (FI (D7 s.S (32 + s.k) _))
  have he : s.ep < e := he
  rw [hrg]
  exact kW (h.fresh e he) (lP _ hep (show s.ep ≠ e by omega))
def EC (m : Nat) (s : E1) (l : List C5) : Int × E1 :=
 if (D9 s.c l).2 ≠ 0 then ((D9 s.c l).2, s) else if ¬ G0 l then (11, s)
 else if DG (AW l).length ≤ m - 32 - s.k then (0, LD s l)
 else if DG (AW l).length ≤ m - 32 then (0, LD (H8 s) l) else (12, H8 s)
theorem Q7 {m : Nat} {s : E1} (h : SI m s) {l : List C5} (hf : ∀ x ∈ l, Flat.ok x) (hep : s.ep < 4294967290) : SI m (EC m s l).2 ∧ s.ep ≤ (EC m s l).2.ep ∧ (EC m s l).2.ep ≤ s.ep + 1 ∧ (EC m s l).2.c = (if (EC m s l).1 = 0 then (D9 s.c l).1 else s.c) ∧ ((EC m s l).1 = 0 → (D9 s.c l).2 = 0 ∧ G0 l) := by
 unfold EC
 by_cases h1 : (D9 s.c l).2 ≠ 0
 ·rw [if_pos h1]; exact ⟨h, Nat.le_refl _, Nat.le_succ _, by rw [if_neg h1], fun h0 => absurd h0 h1⟩
 ·rw [if_neg h1]
  have h1 : (D9 s.c l).2 = 0 := Classical.not_not.1 h1
  by_cases h2 : G0 l
  ·rw [if_neg (fun k => k h2)]
   by_cases h3 : DG (AW l).length ≤ m - 32 - s.k
   ·rw [if_pos h3]
    exact ⟨c8 h h1 h2 hf AA h3, Nat.le_refl _, Nat.le_succ _, by rw [if_pos rfl]; rfl, fun _ => ⟨h1, h2⟩⟩
   ·rw [if_neg h3]
    by_cases h4 : DG (AW l).length ≤ m - 32
    ·rw [if_pos h4]
     refine ⟨c8 (OR h hep) h1 h2 hf (by show s.ep + 1 < _; omega) (by show _ ≤ m - 32 - 0; omega), Nat.le_succ _, Nat.le_refl _, by rw [if_pos rfl]; rfl, fun _ => ⟨h1, h2⟩⟩
    ·rw [if_neg h4]
     exact ⟨OR h hep, Nat.le_succ _, Nat.le_refl _, by rw [if_neg (show ¬ (12 : Int) = 0 by decide)]; rfl, fun h0 => absurd h0 (show ¬ (12 : Int) = 0 by decide)⟩
  ·rw [if_pos h2]; exact ⟨h, Nat.le_refl _, Nat.le_succ _, by rw [if_neg (show ¬ (11 : Int) = 0 by decide)], fun h0 => absurd h0 (show ¬ (11 : Int) = 0 by decide)⟩
theorem SI.sS {m : Nat} {s : E1} (h : SI m s) : s.c.2.2.2.1.length = s.c0.2.2.2.1.length := YI _ _ _ h.rep
theorem V0 {m : Nat} {s : E1} (h : SI m s) {l : List C5} (hf : ∀ x ∈ l, Flat.ok x) (hep : s.ep < 4294967290) : (EC m s l).2.c.2.2.2.1.length = s.c.2.2.2.1.length := by
 obtain ⟨_, _, _, h4, h5⟩ := Q7 h hf hep
 rw [h4]
 split
 ·rename_i h0
  exact aB (h5 h0).1
 ·rfl
theorem TK.RO {S U : List BA} {i : Nat} (h : TK S i) (hi : 0 < i) (hl : 32 ≤ U.length) (hn : ∀ j, 16 * ((i + 1) % 2) ≤ j → j < 16 * ((i + 1) % 2) + 16 → U[j]? = S[j]?) (hh : U[16 * (i % 2)]? = S[16 * (i % 2)]?) : TK U i ∧ HM U = HM S := by
 obtain ⟨h1, h2, h3, h4, h5⟩ := h
 have hm := Nat.mod_lt i (show 0 < 2 by decide)
 have hm2 := Nat.mod_lt (i + 1) (show 0 < 2 by decide)
 obtain ⟨x, hx⟩ : ∃ x, DR S (16 * ((i + 1) % 2)) = some (I1 i x) := by
  rcases h5 with ⟨a, _⟩ | h5
  ·omega
  ·exact h5
 have hx' : DR U (16 * ((i + 1) % 2)) = some (I1 i x) := by rw [TE (S := S) (S' := U) hn]; exact hx
 have ho : ∀ e, DR U (16 * (i % 2)) = some e → e.2.1 < i := fun e he => by
  obtain ⟨s, hs, hd⟩ := TP he
  rw [hh] at hs
  have := h4 s hs hd.1
  rw [← hd.2]; exact this
 have ho' : ∀ e, DR S (16 * (i % 2)) = some e → e.2.1 < i := fun e he => by
  obtain ⟨s, hs, hd⟩ := TP he
  have := h4 s hs hd.1
  rw [← hd.2]; exact this
 have hnew : ∀ T : List BA, DR T (16 * ((i + 1) % 2)) = some (I1 i x) → (∀ e, DR T (16 * (i % 2)) = some e → e.2.1 < i) → F8 T = some (I1 i x, 16 * ((i + 1) % 2)) := by
  intro T a b
  rw [SO]
  rcases Nat.mod_two_eq_zero_or_one i with hm | hm
  ·have hm2 : (i + 1) % 2 = 1 := by omega
   rw [hm] at b
   rw [hm2] at a ⊢
   have b : ∀ e, DR T 0 = some e → e.2.1 < i := b
   have a : DR T 16 = some (I1 i x) := a
   rw [a]
   rcases ho : DR T 0 with _ | e
   ·rfl
   ·have := b e ho
    show (if e.2.1 < i then _ else _) = _
    rw [if_pos this]
  ·have hm2 : (i + 1) % 2 = 0 := by omega
   rw [hm] at b
   rw [hm2] at a ⊢
   have b : ∀ e, DR T 16 = some e → e.2.1 < i := b
   have a : DR T 0 = some (I1 i x) := a
   rw [a]
   rcases ho : DR T 16 with _ | e
   ·rfl
   ·have := b e ho
    show (if i < e.2.1 then _ else _) = _
    rw [if_neg AA]; rfl
 have n1 := hnew U hx' ho
 have n2 := hnew S hx ho'
 refine ⟨⟨hl, ?_, fun e he => ?_, fun s hs h87 => ?_, .inr ⟨x, hx'⟩⟩, by unfold HM; rw [n1, n2]⟩
 ·rw [dK n1]
  show (if 16 * ((i + 1) % 2) = 0 then 16 else 0) = _
  split <;> omega
 ·rw [hx'] at he; cases he
  exact Nat.lt_succ_self i
 ·rw [hh] at hs; exact h4 s hs h87
theorem JI.RO {T U : List BA} {ep k : Nat} {L : List (List UInt8)} (h : JI T ep L k) (hl : U.length = T.length) (ht : ∀ j, j < k → U[j]? = T[j]?) (hr : ∀ s ∈ U.drop k, ¬ PZ ep s) : JI U ep L k := by
 refine ⟨by rw [hl]; exact h.KS, ?_, h.small, hr⟩
 rw [← h.eq]
 refine List.ext_getElem? fun j => ?_
 rw [List.getElem?_take, List.getElem?_take]
 split
 ·exact ht j DP
 ·rfl
theorem SI.RO {m : Nat} {s : E1} (h : SI m s) (h0 : 0 < s.ep) {U : List BA} (hl : U.length = m)
  (hn : ∀ j, 16 * ((s.ep + 1) % 2) ≤ j → j < 16 * ((s.ep + 1) % 2) + 16 → U[j]? = s.S[j]?) (hh : U[16 * (s.ep % 2)]? = s.S[16 * (s.ep % 2)]?)
  (ht : ∀ j, j < s.k → U[32 + j]? = s.S[32 + j]?) (hr : ∀ j, U[32 + j]? = s.S[32 + j]? ∨ ∀ x, U[32 + j]? = some x → ∀ e, ¬ PZ e x) :
  SI m ⟨U, s.ep, s.c0, s.Ls, s.c, s.k⟩ := by
 have hm := h.m40
 have hlen := h.len
 obtain ⟨t1, t2⟩ := h.tk.RO h0 AA hn hh
 have hreg : ∀ j, (FI U)[j]? = U[32 + j]? := fun j => List.getElem?_drop
 have hregS : ∀ j, (FI s.S)[j]? = s.S[32 + j]? := fun j => List.getElem?_drop
 have hul : (FI U).length = (FI s.S).length := by show (U.drop 32).length = (s.S.drop 32).length; rw [List.length_drop, List.length_drop, hl, hlen]
 refine ⟨hl, hm, t1, t2.trans h.ld, h.g0, h.ok0, h.oks, h.rep, h.gc, h.okc, ?_, fun e he => ?_⟩
 ·refine h.ji.RO hul (fun j hj => by rw [hreg, hregS]; exact ht j hj) fun x hx => ?_
  obtain ⟨j, hj, rfl⟩ := List.getElem_of_mem hx
  have hj' : ((FI U).drop s.k)[j]? = some ((FI U).drop s.k)[j] := List.getElem?_eq_getElem hj
  rw [List.getElem?_drop, hreg] at hj'
  rcases hr (s.k + j) with k | k
  ·rw [k, ← hregS, ← List.getElem?_drop] at hj'
   exact h.ji.rest _ (List.mem_of_getElem? hj')
  ·exact k _ hj' _
 ·intro x hx
  obtain ⟨j, hj, rfl⟩ := List.getElem_of_mem hx
  have hj' : (FI U)[j]? = some (FI U)[j] := List.getElem?_eq_getElem hj
  rw [hreg] at hj'
  rcases hr j with k | k
  ·rw [k, ← hregS] at hj'
   exact h.fresh e he _ (List.mem_of_getElem? hj')
  ·exact k _ hj' _
theorem ZT {m : Nat} {s s' : E1} {l : List C5} (h : EC m s l = (0, s')) : (D9 s.c l).2 = 0 ∧ G0 l ∧ ((DG (AW l).length ≤ m - 32 - s.k ∧ s' = LD s l) ∨ (¬ DG (AW l).length ≤ m - 32 - s.k ∧ DG (AW l).length ≤ m - 32 ∧ s' = LD (H8 s) l)) := by
 unfold EC at h
 by_cases h1 : (D9 s.c l).2 ≠ 0
 ·rw [if_pos h1] at h; exact absurd (congrArg Prod.fst h) h1
 ·rw [if_neg h1] at h
  have h1 : (D9 s.c l).2 = 0 := Classical.not_not.1 h1
  by_cases h2 : G0 l
  ·rw [if_neg (fun k => k h2)] at h
   by_cases h3 : DG (AW l).length ≤ m - 32 - s.k
   ·rw [if_pos h3] at h
    exact ⟨h1, h2, .inl ⟨h3, (congrArg Prod.snd h).symm⟩⟩
   ·rw [if_neg h3] at h
    by_cases h4 : DG (AW l).length ≤ m - 32
    ·rw [if_pos h4] at h
     exact ⟨h1, h2, .inr ⟨h3, h4, (congrArg Prod.snd h).symm⟩⟩
    ·rw [if_neg h4] at h
     exact absurd (congrArg Prod.fst h) (show ¬ (12 : Int) = 0 by decide)
  ·rw [if_pos h2] at h
   exact absurd (congrArg Prod.fst h) (show ¬ (11 : Int) = 0 by decide)
theorem dL {m : Nat} {s : E1} {l : List C5} (h : SI m s) (h0 : 0 < s.ep) (hl : G0 l) (hfit : DG (AW l).length ≤ m - 32 - s.k) {U : List BA} (hUl : U.length = m)
  (hU : ∀ j : Nat, U[j]? = s.S[j]? ∨ U[j]? = (LD s l).S[j]?) (hhd : U[32 + s.k]? = s.S[32 + s.k]?) : SI m ⟨U, s.ep, s.c0, s.Ls, s.c, s.k⟩ := by
 have hsm := OO hl.1
 have hlen := h.len
 have hk := h.KS
 have hm := h.m40
 obtain ⟨E, hE⟩ : ∃ E, E = C1 (EY s.ep s.Ls.length (AW l)) := ⟨_, rfl⟩
 have hEl : E.length = DG (AW l).length := by rw [hE]; exact MT (EY s.ep s.Ls.length (AW l)) (show (AW l).length ≤ 4000 by omega)
 have hS : ∀ j : Nat, (LD s l).S[j]? = if j < 32 + s.k then s.S[j]? else if j < 32 + s.k + E.length then E[j - (32 + s.k)]? else s.S[j]? := fun j => by
  show (D7 s.S (32 + s.k) (C1 (EY s.ep s.Ls.length (AW l))))[j]? = _
  rw [← hE, LP AA]
 have hlow : ∀ j : Nat, j < 32 + s.k → U[j]? = s.S[j]? := fun j hj => by
  rcases hU j with k | k
  ·exact k
  ·rw [hS, if_pos hj] at k; exact k
 have hm2 := Nat.mod_lt (s.ep + 1) (show 0 < 2 by decide)
 have hm3 := Nat.mod_lt s.ep (show 0 < 2 by decide)
 refine h.RO h0 hUl (fun j _ hj => hlow j AA) (hlow _ AA) (fun j hj => hlow _ AA) fun j => ?_
 rcases hU (32 + j) with k | k
 ·exact .inl k
 ·rw [hS] at k
  by_cases c1 : 32 + j < 32 + s.k
  ·exact .inl (hlow _ c1)
  ·rw [if_neg c1] at k
   by_cases c2 : 32 + j < 32 + s.k + E.length
   ·rw [if_pos c2] at k
    by_cases c3 : j = s.k
    ·rw [c3]; exact .inl hhd
    ·refine .inr fun x hx e => ?_
     rw [k] at hx
     have ht : E.tail[j - s.k - 1]? = some x := by
      rw [List.getElem?_tail, ← hx]; congr 1; omega
     rw [hE] at ht
     exact jP (ep := e) (EY s.ep s.Ls.length (AW l)) x (List.mem_of_getElem? ht)
   ·rw [if_neg c2] at k; exact .inl k
theorem mA {m : Nat} {s : E1} (h : SI m s) (h0 : 0 < s.ep) {U : List BA} (hUl : U.length = m)
  (hU : ∀ j : Nat, j < 32 → U[j]? = s.S[j]? ∨ U[j]? = (H8 s).S[j]?) (hhd : U[16 * (s.ep % 2)]? = s.S[16 * (s.ep % 2)]?) (hr : ∀ j : Nat, 32 ≤ j → U[j]? = s.S[j]?) : SI m ⟨U, s.ep, s.c0, s.Ls, s.c, s.k⟩ := by
 have hlen := h.len
 have hm := h.m40
 have hsm := NS h.gc
 have hat := h.tk.at_
 refine h.RO h0 hUl (fun j h1 h2 => ?_) hhd (fun j _ => hr _ AA) (fun j => .inl (hr _ AA))
 rcases hU j AA with k | k
 ·exact k
 ·rw [k]
  exact WT AA hsm (at2 := 16 * ((s.ep + 1) % 2)) AA AA ⟨h1, h2⟩
def GV (m : Nat) (s : E1) (l : List C5) : Nat := if DG (AW l).length ≤ m - 32 - s.k then 32 + s.k else 32
def IY (hd j : Nat) : Nat := if j < 32 then (if j % 16 ≠ 0 then 0 else 1) else if j = hd then 3 else 2
theorem mW {m : Nat} {s s' : E1} {l : List C5} (h : SI m s) (h0 : 0 < s.ep) (hep : s.ep < 4294967290) (hc : EC m s l = (0, s')) {U : List BA} (hUl : U.length = m)
  (hU : ∀ j : Nat, U[j]? = s.S[j]? ∨ U[j]? = s'.S[j]?)
  (ho : ∀ j j' : Nat, IY (GV m s l) j' < IY (GV m s l) j → U[j]? ≠ s.S[j]? → U[j']? = s'.S[j']?) :
  (U[GV m s l]? = s.S[GV m s l]? ∧ ∃ su, SI m su ∧ su.S = U ∧ su.c = s.c ∧ su.ep ≤ s.ep + 1) ∨ U = s'.S := by
 obtain ⟨he, hl, hcase⟩ := ZT hc
 have hlen := h.len
 have hm := h.m40
 have hk := h.KS
 have hend : U[GV m s l]? ≠ s.S[GV m s l]? → 32 ≤ GV m s l → U = s'.S := fun hn h32 => by
  refine List.ext_getElem? fun j => ?_
  by_cases hj : j = GV m s l
  ·subst hj
   rcases hU (GV m s l) with k | k
   ·exact absurd k hn
   ·exact k
  ·refine ho (GV m s l) j ?_ hn
   unfold IY
   rw [if_neg (by omega : ¬ GV m s l < 32), if_pos rfl, if_neg hj]
   split
   ·split <;> omega
   ·decide
 have h32 : 32 ≤ GV m s l := by unfold GV; split <;> omega
 by_cases hn : U[GV m s l]? = s.S[GV m s l]?
 ·refine .inl ⟨hn, ?_⟩
  rcases hcase with ⟨hfit, hs'⟩ | ⟨hnf, hfit, hs'⟩
  ·have hd : GV m s l = 32 + s.k := by unfold GV; rw [if_pos hfit]
   rw [hd] at hn
   exact ⟨_, dL h h0 hl hfit hUl (fun j => by have := hU j; rw [hs'] at this; exact this) hn, rfl, rfl, Nat.le_succ _⟩
  ·have hd : GV m s l = 32 := by unfold GV; rw [if_neg hnf]
   rw [hd] at hn ho
   have hsv := OR h hep
   have hsm := NS h.gc
   have hes := OO hl.1
   obtain ⟨s1, hs1⟩ : ∃ s1, s1 = H8 s := ⟨_, rfl⟩
   have hk1 : s1.k = 0 := by rw [hs1]; rfl
   rw [← hs1] at hsv hs'
   have hl1 := hsv.len
   have hlow : ∀ j : Nat, j < 32 → s'.S[j]? = s1.S[j]? := fun j hj => by
    rw [hs']
    show (D7 s1.S (32 + s1.k) _)[j]? = _
    have hEl := MT (EY s1.ep s1.Ls.length (AW l)) (show (AW l).length ≤ 4000 by omega)
    have hEl : (C1 (EY s1.ep s1.Ls.length (AW l))).length = DG (AW l).length := hEl
    rw [LP AA, if_pos AA]
   have hreg : ∀ j : Nat, 32 ≤ j → s1.S[j]? = s.S[j]? := fun j hj => by
    have : (FI s1.S)[j - 32]? = (FI s.S)[j - 32]? := by rw [hs1]; show (FI (FK s.S (s.ep + 1) (C8 s.c)))[j - 32]? = _; rw [W4 AA hsm]
    have a : (FI s1.S)[j - 32]? = s1.S[32 + (j - 32)]? := List.getElem?_drop
    have b : (FI s.S)[j - 32]? = s.S[32 + (j - 32)]? := List.getElem?_drop
    rw [a, b, show 32 + (j - 32) = j by omega] at this
    exact this
   have hm3 := Nat.mod_lt s.ep (show 0 < 2 by decide)
   by_cases ha : U[16 * (s.ep % 2)]? = s.S[16 * (s.ep % 2)]?
   ·obtain ⟨x, hx, hxh⟩ := TP (bW (S := s.S) (a := s.ep + 1) (xs := C8 s.c) AA AA hsm)
    rw [h.tk.at_] at hx
    have hx : s1.S[16 * (s.ep % 2)]? = some x := by rw [hs1]; exact hx
    have hne : U[16 * (s.ep % 2)]? ≠ s'.S[16 * (s.ep % 2)]? := fun e => by
     rw [ha, hlow _ AA, hx] at e
     have := h.tk.hd x e hxh.1
     have h2 : EW x 2 4 = s.ep + 1 := hxh.2
     omega
    refine ⟨_, mA h h0 hUl (fun j hj => ?_) ha (fun j hj => ?_), rfl, rfl, Nat.le_succ _⟩
    ·rcases hU j with k | k
     ·exact .inl k
     ·right; rw [k, hlow j hj, hs1]
    ·refine Classical.byContradiction fun k => hne (ho j (16 * (s.ep % 2)) ?_ k)
     unfold IY
     rw [if_pos AA, if_neg AA, if_neg (by omega : ¬ j < 32)]
     split <;> decide
   ·refine ⟨⟨U, s1.ep, s1.c0, s1.Ls, s1.c, s1.k⟩, ?_, rfl, by rw [hs1]; rfl, by rw [hs1]; exact Nat.le_refl _⟩
    have hr1 : IY 32 (16 * (s.ep % 2)) = 1 := by unfold IY; rw [if_pos AA, if_neg AA]
    refine dL hsv (by rw [hs1]; exact Nat.succ_pos _) hl AA hUl (fun j => ?_) (by rw [hk1, hreg _ AA]; exact hn)
    by_cases hj : j < 32
    ·left
     rw [← hlow j hj]
     by_cases hjm : j % 16 = 0
     ·by_cases hja : j = 16 * (s.ep % 2)
      ·rcases hU j with k | k
       ·rw [hja] at k; exact absurd k ha
       ·exact k
      ·rcases hU j with k | k
       ·rw [k, hlow j hj, hs1]
        exact (WT AA hsm (at2 := 16 * ((s.ep + 1) % 2)) AA (by have := h.tk.at_; omega) AA).symm
       ·exact k
     ·refine ho (16 * (s.ep % 2)) j ?_ ha
      rw [hr1]; unfold IY; rw [if_pos hj, if_pos hjm]; decide
    ·rcases hU j with k | k
     ·left; rw [k, hreg j AA]
     ·right; rw [k, hs']
 ·exact .inr (hend hn h32)
abbrev BV (g : Nat) (S : List BA) (P : List (Nat × BA)) : AQ := U5 56 63 g S P
theorem rQ (n : Nat) (h1 : 1 ≤ n) (h2 : n ≤ 4096) :
  Calls Tryz.prog 16 #[.int .i64 n] w fun e w' => ∃ g : Nat, e = .returned (.tuple #[.pointer (some ⟨g, 0, none⟩), .int .i64 0]) ∧ AH D w w' [BV g (List.replicate n FP) []] := by
 refine BZ (vs := [.int .i64 n]) Tryz.func16 rfl _ Tryz.ntmps16 rfl (AH.start D w) ?_
 simp only [BX, Nat.zero_add]
 refine zg <| zs rfl <| zs rfl <| zn <| AG <| zg <| zm rfl <| zv (B7 rfl rfl) <| zm rfl <| F0 (t := 6) rfl AA ?_
 refine AJ rfl rfl <| zm rfl <| AJ rfl rfl <| zv (DV rfl rfl) <| zv (A8 rfl rfl) <| zn <| CP rfl AA ?_
 refine zk <| zg <| zm rfl <| AV (eH rfl rfl n rfl AA AA) rfl rfl rfl (fun b => ?_)
 refine zv (CH rfl rfl) <| ?_
 refine AV (EE rfl rfl) rfl rfl rfl fun b13 =>  ?_
 refine zs rfl <| zs rfl <| zn <| zq <| E5 (.inr rfl) rfl rfl rfl fun w' H' => ⟨_, rfl, H'.AK ?_⟩
 refine AD.trans (b := [AI b13 56 [.slice (some ⟨b, 0, none⟩) (List.replicate n FP).length n, .slice none ([] : List (Nat × BA)).length 0], row (some ⟨b, 0, none⟩) 61 64 (List.replicate n FP).length n ((List.replicate n FP).flatMap BI), row none 63 65 0 0 []]) ?_ JK
 rw [List.length_replicate, ← aX]
 exact AD.cons ((AD.FQ 64 n (by rw [MH]; simp) AA).trans (AD.cons (AD.EB _ _)))
theorem bV (g : Nat) (i : Int) (A0 A1 : Option Addr) (n c0 m c1 : Nat) (H : AH D w w [AI g 56 [.slice A0 n c0, .slice A1 m c1]]) :
  Calls Tryz.prog 127 #[.pointer (some ⟨g, 0, none⟩), .int .i64 i] w fun e w' => e = .returned (.bool (decide (0 ≤ i ∧ i < n))) ∧ AH D w w' [AI g 56 [.slice A0 n c0, .slice A1 m c1]] := by
 refine BZ (vs := [.pointer (some ⟨g, 0, none⟩), .int .i64 i]) Tryz.func127 rfl _ Tryz.ntmps127 rfl H ?_
 simp only [BX, Nat.zero_add]
 refine zg <| zs rfl <| zn <| AG <| AR <| zm rfl <| zv (GN rfl rfl) <| zm rfl <| DB (t := 7) rfl (fun h1 => ?_) (fun h1 => ?_)
 ·refine AJ rfl rfl <| zm rfl <| AJ rfl rfl <| zm rfl <| AJ rfl rfl <| zv (AY rfl) <| AJ rfl rfl <| zf rfl <| AJ rfl rfl <| zl rfl rfl <| AJ rfl rfl <| zv BN <| ?_
  refine AJ rfl rfl <| zv (B7 rfl rfl) <| zv (BF rfl rfl) <| zs rfl <| zn <| zq <| ?_
  exact zz rfl rfl fun w' H' => ⟨by simp [h1], H'⟩
 refine zo rfl rfl <| zo rfl rfl <| zo rfl rfl <| zo rfl rfl <| zo rfl rfl <| zo rfl rfl <| zo rfl rfl <| zv (A8 rfl rfl) <| zs rfl <| zn <| zq <| ?_
 exact zz rfl rfl fun w' H' => ⟨by simp [h1], H'⟩
theorem bI (g : Nat) (i : Nat) (s : BA) (S : List BA) (P : List (Nat × BA)) (hi : i < S.length) (hP : P.length ≤ 1000000) (H : AH D w w [BV g S P]) :
  Calls Tryz.prog 87 #[.pointer (some ⟨g, 0, none⟩), .int .i64 i, .agg (BI s).toArray] w fun e w' => e = .returned (.int .i64 0) ∧ AH D w w' [BV g S (P ++ [(i, s)])] := by
 refine BZ (vs := [.pointer (some ⟨g, 0, none⟩), .int .i64 i, .agg (BI s).toArray]) Tryz.func87 rfl _ Tryz.ntmps87 rfl H ?_
 simp only [BX, Nat.zero_add]
 refine HC.exs ?_
 rintro ⟨⟨A0, c0⟩, A1, c1⟩
 refine HC.AK (l' := [AI g 56 [.slice A0 S.length c0, .slice A1 P.length c1], row A0 61 64 S.length c0 (S.flatMap BI), row A1 63 65 P.length c1 (P.flatMap CT)]) (fun _ h => h) ?_
 refine zg <| AV (PT (cs := BI s) rfl) rfl rfl rfl (fun b5 => ?_)
 refine zs rfl <| zn <| AG <| zg <| zm rfl <| zm rfl <| B2 Tryz.call127 rfl rfl (fun w1 => zp (AI g 56 [.slice A0 S.length c0, .slice A1 P.length c1]) fun D' _ _ H2 => bV D' w1 g i A0 A1 _ c0 _ c1 H2) ?_
 refine zv FC <| ?_
 refine zn <| CP rfl (by simp [hi]) ?_
 refine zk <| AG <| NC (σ := Option Addr × Nat) [] rfl  (fun q => [AI g 56 [.slice A0 S.length c0, .slice q.1 (P.length + 1) q.2], row A0 61 64 S.length c0 (S.flatMap BI), row q.1 63 65 (P.length + 1) q.2 ((P ++ [(i, s)]).flatMap CT)]) (fun K1 hK1 => ?_) (fun q => ?_)
 ·refine HC.AK (AD.trans (b := [AI b5 61 (BI s), AI g 56 [.slice A0 S.length c0, .slice A1 P.length c1], row A0 61 64 S.length c0 (S.flatMap BI), row A1 63 65 P.length c1 (P.flatMap CT)]) Z8 (AD.refl _)) ?_
  refine EF [AI b5 61 (BI s)] mixed 13 rfl ?_
  refine AE 0 rfl (AO rfl) rfl <| AE 1 rfl (AO rfl) rfl <| AE 2 rfl (AY rfl) rfl <| AE 3 rfl (AP rfl) rfl <| AE 5 rfl (AO rfl) rfl <| AE 6 rfl DY rfl <| ?_
  refine AE 7 rfl (T0 (res := CT (i, s)) rfl (W0 i s)) rfl ?_
  refine DE 4 8 AB ?_ ?_
  ·skip
   refine CW rfl (zw rfl rfl) rfl <| AL 8 AB <| BC rfl (HG (res := CT (i, s)) rfl rfl (NZ i s)) rfl (fun b19 => ?_)
   refine AL 9 AB <| BC rfl (BT (A := A1) (news := CT (i, s)) rfl rfl (BB.AI (b := b19)) OG (MJ _) AF AA) rfl ?_
   rintro ⟨B, cB⟩
   dsimp only
   refine AE 10 rfl (AY rfl) rfl <| AE 11 rfl (AP rfl) rfl <| AL 12 AB <| CB rfl (DN rfl rfl rfl rfl rfl) rfl ?_
   refine BY AB <| ?_
   exact DF hK1 ((B, cB)) BD Z2
  skip
  refine BC rfl (HG (res := CT (i, s)) rfl rfl (NZ i s)) rfl (fun b19 => ?_)
  refine AL 4 AB <| CW rfl (zw rfl rfl) rfl <| AL 9 AB <| BC rfl (BT (A := A1) (news := CT (i, s)) rfl rfl (BB.AI (b := b19)) OG (MJ _) AF AA) rfl ?_
  rintro ⟨B, cB⟩
  dsimp only
  refine AE 10 rfl (AY rfl) rfl <| AE 11 rfl (AP rfl) rfl <| AL 12 AB <| CB rfl (DN rfl rfl rfl rfl rfl) rfl ?_
  refine BY AB <| ?_
  exact DF hK1 ((B, cB)) BD Z2
 refine zt <| zg <| zs rfl <| zn <| zq <| ?_
 exact zz rfl rfl fun w' H' => ⟨rfl, H'.AK (by have := JK (tD := 56) (tL := 63) (g := g) (S := S) (P := P ++ [(i, s)]) (A0 := A0) (c0 := c0) (A1 := q.1) (c1 := q.2) (l := []); rw [List.length_append] at this; exact this)⟩
end Go.Proofs.YtjlolpmmpafjeaaGreat
