import Derived.Test.YtjlolpmmpafjeaaGreatU26
set_option linter.unusedVariables false
set_option linter.unusedSimpArgs false
namespace Go.Proofs.YtjlolpmmpafjeaaGreat
open CN
variable (D : Nat → Prop) (w : World)
theorem WX {xs : List (List UInt8)} {cs : List Value} {h : Heap} (k : G4 xs cs h) (i : Nat) {x : List UInt8} {v : Value} (hx : xs[i]? = some x) (hv : cs[i]? = some v) : AX.rep x [v] h := by
 obtain ⟨h1, rfl⟩ := List.getElem?_eq_some_iff.1 hx
 obtain ⟨h2, rfl⟩ := List.getElem?_eq_some_iff.1 hv
 exact W9 k rfl i h1 h2
theorem YY {D : Nat → Prop} {w0 w : World} {l r : List AQ} {t : TypeId} {xs : List (List UInt8)} {cs : List Value} [h : GP l (D5 t xs cs) r] (H : AH D w0 w l) (hl : cs.length = xs.length) : ∀ (i : Nat) (x : List UInt8), xs[i]? = some x → ∃ (B : Option Addr) (cb : Nat), cs[i]? = some (Value.slice B x.length cb) := by
 intro i x hx
 obtain ⟨y, _, hs⟩ := H.own
 have hr := PE (t := t) (xs := xs) (cs := cs) hs
 obtain ⟨h1, rfl⟩ := List.getElem?_eq_some_iff.1 hx
 have hv : cs[i]? = some (cs[i]'(by omega)) := List.getElem?_eq_getElem AA
 obtain ⟨A, c, e, _⟩ := WX hr i hx hv
 have e : [cs[i]'(by omega)] = [Value.slice A xs[i].length c] := e
 injection e with e _
 exact ⟨A, c, by rw [hv, e]⟩
set_option maxHeartbeats 2000000 in
theorem tX (q m : Nat) (s : E1) (p : Nat) (h : SI m s) (hm2 : m ≤ 100000) (hep : s.ep < 4294967296) (h1 : 1 ≤ p) (h8 : p ≤ 8) (hp : s.c0.2.2.2.1.length = p) (H : AH D w w [BV q s.S []]) :
  Calls Tryz.prog 18 #[.pointer (some ⟨q, 0, none⟩), .int .i64 (p : Int)] w fun e w' => ∃ tb : Nat, e = .returned (.tuple #[.pointer (some ⟨tb, 0, none⟩), .int .i64 0]) ∧ AH D w w' [G2 tb q m s, BV q s.S []] := by
 have hlen := h.len
 have hm := h.m40
 have hk := h.KS
 have hmany := h.many
 have hreg := h.S8
 have hE : E9 s.ep (m - 32) 0 (FI s.S) = (s.Ls.map AW, s.k) := by
  have := h.ji.open hep AA
  rwa [hreg] at this
 have hT : FI s.S = (s.S.drop 32).take (m - 32) := by
  show s.S.drop 32 = _
  rw [List.take_of_length_le MG]
 have hml : (s.Ls.map AW).length = s.Ls.length := List.length_map _
 obtain ⟨S, hS⟩ : ∃ S, S = s.S := ⟨_, rfl⟩
 have hld := h.ld
 rw [← hS] at hld
 have hSl : S.length = m := by rw [hS]; exact hlen
 rw [← hS] at H
 refine BZ (vs := [.pointer (some ⟨q, 0, none⟩), .int .i64 (p : Int)]) Tryz.func18 rfl _ Tryz.ntmps18 rfl H ?_
 simp only [BX, Nat.zero_add]
 refine HC.exs ?_
 rintro ⟨⟨A0, c0⟩, A1, c1⟩
 refine HC.AK (l' := [AI q 56 [.slice A0 S.length c0, .slice A1 0 c1], row A0 61 64 S.length c0 (S.flatMap BI), row A1 63 65 0 c1 []]) (fun _ h => h) ?_
 refine zg <| zs rfl <| zs rfl <| zn <| AG <| zg <| zm rfl <| zv (IL rfl rfl) <| zm rfl <| AJ rfl rfl <| zm rfl <| AJ rfl rfl <| zv (AY rfl) <| AJ rfl rfl <| zf rfl <| AJ rfl rfl <| zl rfl rfl <| AJ rfl rfl <| zv BN <| ?_
 refine AJ rfl rfl <| zv (B7 rfl rfl) <| zv (A8 rfl rfl) <| zm rfl <| F0 (t := 28) rfl (AA) ?_
 refine AJ rfl rfl <| zm rfl <| AJ rfl rfl <| zv (B7 rfl rfl) <| zv (A8 rfl rfl) <| zm rfl <| F0 (t := 32) rfl (AA) ?_
 refine AJ rfl rfl <| zm rfl <| AJ rfl rfl <| zv (DV rfl rfl) <| zv (A8 rfl rfl) <| zn <| CP rfl (AA) ?_
 refine HC.AK (JK (P := [])) ?_
 refine zk <| zg <| zm rfl <| CQ (σ := (Option Addr × Nat) × Int) Tryz.call50 rfl rfl (fun w1 => EZ (BV q S []) fun D' _ _ H2 => aJ D' w1 q S s.ep (C8 s.c0) hld AA H2) ?_
 intro qb
 refine AV (B9) rfl rfl rfl fun b6 => 
  A6 (DT rfl rfl rfl rfl rfl rfl) rfl rfl <| zn <| AG <| AG <| ?_
 refine AR <| zf rfl <| zl rfl rfl <| zv (CO rfl rfl) <| zn <| ?_
 rw [hS]
 refine CP rfl (AF) ?_
 refine zk <| zg <| zf rfl <| zl rfl rfl <| ?_
 refine CQ (σ := DA) Tryz.call53 rfl rfl (fun w1 => zu fun D' _ hin _ => c9 D' w1 _ s.c0 h.g0 (hin _ fun h hs ho => C7 (A := qb.1.1) hs (C8 s.c0) rfl (DQ.2 rfl))) ?_
 intro qc
 try rw [List.nil_append]
 refine zm rfl <| zx rfl rfl <| zx rfl rfl <| AV (B9) rfl rfl rfl fun b11 =>  ?_
 refine A6 (CV (vs := B3 s.c0 qc) rfl rfl rfl (by simp) CL) rfl rfl ?_
 refine zs rfl <| zn <| AG <| zg <| zm rfl <| zv (CG rfl rfl) <| zm rfl <| F0 (t := 64) rfl ((fun h => h rfl)) <| AJ rfl rfl <| zf rfl <| AJ rfl rfl <| zl rfl rfl <| AJ rfl rfl <| zv BN <| ?_
 refine AJ rfl rfl <| zm rfl <| AJ rfl rfl <| zv (CG rfl rfl) <| zv (A8 rfl rfl) <| zn <| CP rfl (AA) ?_
 refine zk <| AG <| HC.AK (l' := BV q s.S [] :: AI b6 122 [.int .u32 (s.ep : Int), .slice qb.1.1 (C8 s.c0).length qb.1.2, .int .i64 qb.2, .int .i64 0] :: AI b11 49 (B3 s.c0 qc) :: C6 s.c0 qc) Z8 ?_
 refine HC.exs ?_
 rintro ⟨⟨A0, c0⟩, A1, c1⟩
 refine HC.AK (l' := AI q 56 [.slice A0 s.S.length c0, .slice A1 0 c1] :: row A0 61 64 s.S.length c0 (s.S.flatMap BI) :: row A1 63 65 0 c1 [] :: AI b6 122 [.int .u32 (s.ep : Int), .slice qb.1.1 (C8 s.c0).length qb.1.2, .int .i64 qb.2, .int .i64 0] :: AI b11 49 (B3 s.c0 qc) :: C6 s.c0 qc) (fun _ h => h) ?_
 refine EF [AI b6 122 [.int .u32 (s.ep : Int), .slice qb.1.1 (C8 s.c0).length qb.1.2, .int .i64 qb.2, .int .i64 0]] mixed 14 rfl ?_
 refine AE 0 rfl (AO rfl) rfl <| AE 1 rfl (AO rfl) rfl <| AE 2 rfl (AY rfl) rfl <| AE 3 rfl (AP rfl) rfl <| AE 6 rfl (AP rfl) rfl <| AE 7 rfl (zw rfl rfl) rfl <| AL 4 AB <| CW rfl (zw rfl rfl) rfl <| AE 5 rfl BN rfl <| ?_
 refine AL 8 AB <| IW (JK (P := [])) ?_
 refine CR (σ := Nat) rfl Tryz.call54 rfl (fun w1 => EZ (BV q s.S []) fun D' _ _ H2 => (cS D' w1 q s.S 32 s.S.length (m - 32) (FI s.S) s.ep AA AA AA AA hT H2).mono fun e w' ⟨jb, he, H'⟩ => ⟨jb, he, show AH D' w1 w' [D3 jb q 32 m s.ep (32 + s.k) (s.Ls.map AW), BV q s.S []] by rw [hE] at H'; rw [← hlen]; exact H'⟩) ?_
 intro jb
 refine AE 9 rfl (AO rfl) rfl <| AE 10 rfl (I9 rfl rfl) rfl <| AE 11 rfl (I9 rfl rfl) rfl <| AE 12 rfl (DH rfl) rfl <| AE 13 rfl (DH rfl) rfl <| BY AB <| zt <| AG <| zg <| zs rfl <| ?_
 refine zn <| BK <| HC.exs ?_
 rintro ⟨A5, cap5, cs5⟩
 refine HC.AK (l' := FJ jb q 32 m s.ep (32 + s.k) (s.Ls.map AW).length (A5, cap5) :: row A5 108 1 (s.Ls.map AW).length cap5 cs5 :: D5 5 (s.Ls.map AW) cs5 :: BV q s.S [] :: AI b6 122 [.int .u32 (s.ep : Int), .slice qb.1.1 (C8 s.c0).length qb.1.2, .int .i64 qb.2, .int .i64 0] :: AI b11 49 (B3 s.c0 qc) :: C6 s.c0 qc) (fun _ h => h) ?_
 refine HC.fact (fun w H => AH.GS A5 H) ?_
 rintro ⟨hc5, _, _, hA5'⟩
 refine HC.fact (fun w H => YY (t := 5) (xs := s.Ls.map AW) (cs := cs5) H (by rw [hc5, Nat.mul_one])) ?_
 intro hcs5
 rw [hml]
 refine GL (σ := Nat × CA) [0, 6, 11, 13] rfl 15 (fun st => .int .i64 (st.1 : Int)) (fun st => [IJ b11 st.2, FJ jb q 32 m s.ep (32 + s.k) s.Ls.length (A5, cap5), row A5 108 1 s.Ls.length cap5 cs5, D5 5 (s.Ls.map AW) cs5, BV q s.S [], AI b6 122 [.int .u32 (s.ep : Int), .slice qb.1.1 (C8 s.c0).length qb.1.2, .int .i64 qb.2, .int .i64 0]]) (fun st => st.1 ≤ s.Ls.length ∧ JW st.2 (s.Ls.drop st.1) = some s.c ∧ JH st.2) (fun st => s.Ls.length - st.1) ((0, s.c0)) (⟨Nat.zero_le _, h.rep, h.ok0⟩) rfl (AD.trans (b := DC b11 s.c0 qc ++ [FJ jb q 32 m s.ep (32 + s.k) s.Ls.length (A5, cap5), row A5 108 1 s.Ls.length cap5 cs5, D5 5 (s.Ls.map AW) cs5, BV q s.S [], AI b6 122 [.int .u32 (s.ep : Int), .slice qb.1.1 (C8 s.c0).length qb.1.2, .int .i64 qb.2, .int .i64 0]]) Z8 (D1 qc)) ?_
 rintro ⟨i, ci⟩ hj_ K1 hK1
 dsimp only at hj_ ⊢
 obtain ⟨hi, hrc, hoc⟩ := hj_
 refine AG <| zg <| zm rfl <| zm rfl <| zv (AY rfl) <| zf rfl <| zl rfl rfl <| zv BN <| ?_
 refine zv (B7 rfl rfl) <| zn <| BP rfl (fun hlt => ?_) (fun hlt => ?_)
 ·have hlt : i < s.Ls.length := by omega
  obtain ⟨le, hle⟩ : ∃ le, s.Ls[i]? = some le := ⟨_, List.getElem?_eq_getElem hlt⟩
  have hmi : (s.Ls.map AW)[i]? = some (AW le) := by rw [List.getElem?_map, hle]; rfl
  obtain ⟨B, cb, hcell⟩ := hcs5 i _ hmi
  have hcell' : cs5[i * 1]? = some (.slice B (AW le).length cb) := by rw [Nat.mul_one]; exact hcell
  have hA5 : CU A5 := hA5' (by intro h; rw [h] at hcell; cases hcell)
  obtain ⟨hlt2, hle2⟩ := List.getElem?_eq_some_iff.1 hle
  obtain ⟨hleo, hlf⟩ := h.oks le (hle2 ▸ List.getElem_mem hlt)
  rw [List.drop_eq_getElem_cons hlt, hle2] at hrc
  have hrc : (if (D9 ci le).2 = 0 then JW (D9 ci le).1 (s.Ls.drop (i + 1)) else none) = some s.c := hrc
  split at hrc
  ·rename_i h0
   obtain ⟨c2, hc2e⟩ : ∃ c2, c2 = (D9 ci le).1 := ⟨_, rfl⟩
   have hed : D9 ci le = (c2, 0) := Prod.ext hc2e.symm h0
   have hoc2 : JH c2 := by rw [hc2e]; exact SD (N7 ci le) hoc hlf
   rw [← hc2e] at hrc
   refine zk <| AG <| BK <| zg <| zm rfl <| zv (AY rfl) <| zf rfl <| zl rfl rfl <| zm rfl <| ?_
   refine AZ (CZ rfl hA5 rfl i rfl hlt) rfl <| AZ (GB rfl (EH.row (A := A5) hA5 (i := i * 1) hcell')) rfl <| CQ (σ := Option Addr × Nat) Tryz.call55 rfl rfl (fun w1 => zu fun D' _ hin _ => eW D' w1 _ le hleo (hin _ fun h hs ho => WX (PE (t := 5) (xs := s.Ls.map AW) (cs := cs5) hs) i hmi hcell)) ?_
   intro qe
   try rw [List.nil_append]
   refine zm rfl <| zx rfl rfl <| zx rfl rfl <| zs rfl <| zs rfl <| AS <| zt <| AG <| zg <| zm rfl <| zv (CG rfl rfl) <| zn <| CP rfl ((fun h => h rfl)) <| HC.AK (AD.pick (A := IJ b11 ci) (AD.refl _)) ?_
   refine HC.exs ?_
   intro q2
   refine HC.AK (l' := DC b11 ci q2 ++ [row qe.1 81 7 le.length qe.2 (le.flatMap DL), FJ jb q 32 m s.ep (32 + s.k) s.Ls.length (A5, cap5), row A5 108 1 s.Ls.length cap5 cs5, D5 5 (s.Ls.map AW) cs5, BV q s.S [], AI b6 122 [.int .u32 (s.ep : Int), .slice qb.1.1 (C8 s.c0).length qb.1.2, .int .i64 qb.2, .int .i64 0]]) (fun _ h => h) ?_
   refine zk <| zg <| AZ (FV rfl rfl) rfl <| zm rfl <| CQ (σ := DA) Tryz.call30 rfl rfl (fun w1 => zu fun D' _ hin _ => UB D' w1 ci _ _ _ _ le c2 0 hed (by have := hleo.1; omega) (ER.rows (q := q2) hoc hin) (hin _ fun h hs ho => C7 (A := qe.1) hs le rfl (KF.2 ⟨rfl, hlf⟩))) ?_
   intro q3
   try rw [List.nil_append]
   refine zm rfl <| zx rfl rfl <| zx rfl rfl <| A6 (CV (vs := B3 c2 q3) rfl rfl rfl (by simp) CL) rfl rfl ?_
   refine zs rfl <| zn <| zg <| zm rfl <| zv (CG rfl rfl) <| zn <| CP rfl ((fun h => h rfl)) <| C3 <| zb <| zt <| AR <| zm rfl <| zv (BM rfl rfl BO) <| ?_
   refine zs rfl <| AS <| ?_
   exact B5 hK1 ((i + 1, c2)) (⟨hlt, hrc, hoc2⟩) (by show s.Ls.length - (i + 1) < s.Ls.length - i; omega) BD (AD.trans (b := DC b11 c2 q3 ++ [FJ jb q 32 m s.ep (32 + s.k) s.Ls.length (A5, cap5), row A5 108 1 s.Ls.length cap5 cs5, D5 5 (s.Ls.map AW) cs5, BV q s.S [], AI b6 122 [.int .u32 (s.ep : Int), .slice qb.1.1 (C8 s.c0).length qb.1.2, .int .i64 qb.2, .int .i64 0]]) Z8 (D1 q3))
  cases hrc
 have hil : i = s.Ls.length := by omega
 rw [hil, List.drop_length] at hrc
 have hrc : some ci = some s.c := hrc
 injection hrc with hrc
 rw [hrc]
 refine HC.exs ?_
 intro q2
 refine HC.AK (l' := DC b11 s.c q2 ++ [FJ jb q 32 m s.ep (32 + s.k) s.Ls.length (A5, cap5), row A5 108 1 s.Ls.length cap5 cs5, D5 5 (s.Ls.map AW) cs5, BV q s.S [], AI b6 122 [.int .u32 (s.ep : Int), .slice qb.1.1 (C8 s.c0).length qb.1.2, .int .i64 qb.2, .int .i64 0]]) (fun _ h => h) ?_
 refine CF <| ze <| ze <| CE <| zt <| AG <| AR <| zm rfl <| zm rfl <| AZ (FV rfl rfl) rfl ?_
 dsimp only [List.getElem_toArray, List.getElem_cons_zero, List.getElem_cons_succ]
 refine zf rfl <| zl rfl rfl <| zv (CH rfl rfl) <| ?_
 refine AV (EE rfl rfl) rfl rfl rfl fun b119 =>  ?_
 refine zs rfl <| zs rfl <| zn <| zq <| ?_
 exact E5 (.inr rfl) rfl rfl rfl fun w' H' => ⟨b119, rfl, H'.AK (AD.trans (b := FJ jb q 32 m s.ep (32 + s.k) (s.Ls.map AW).length (A5, cap5) :: row A5 108 1 (s.Ls.map AW).length cap5 cs5 :: D5 5 (s.Ls.map AW) cs5 :: (AI b119 52 (FB jb q s q2) :: (C6 s.c q2 ++ [BV q s.S []]))) (by rw [hml]; exact Z8) (AD.trans OZ (AD.trans (b := AI b119 52 (FB jb q s q2) :: D3 jb q 32 m s.ep (32 + s.k) (s.Ls.map AW) :: (C6 s.c q2 ++ [BV q s.S []])) Z8 (MW jb q2))))⟩
set_option maxHeartbeats 2000000 in
theorem kN (q m p : Nat) (hm : 40 ≤ m) (hm2 : m ≤ 100000) (h1 : 1 ≤ p) (h8 : p ≤ 8) (S : List BA) (hS : S = List.replicate m FP) (H : AH D w w [BV q S []]) :
  Calls Tryz.prog 18 #[.pointer (some ⟨q, 0, none⟩), .int .i64 (p : Int)] w fun e w' => ∃ tb : Nat, e = .returned (.tuple #[.pointer (some ⟨tb, 0, none⟩), .int .i64 0]) ∧ AH D w w' [G2 tb q m (KZ m p), BV q (KZ m p).S []] := by
 have hSl : S.length = m := by rw [hS]; exact List.length_replicate
 have hld0 : HM S = (0, [], 13) := Y7 (by rw [hS]; exact WO AA)
 obtain ⟨s, hs⟩ : ∃ s, s = KZ m p := ⟨_, rfl⟩
 have h : SI m s := by rw [hs]; exact R2 hm h1 h8
 have hep : s.ep < 4294967296 := by rw [hs]; exact (show 1 < 4294967296 by decide)
 have hp : s.c0.2.2.2.1.length = p := by rw [hs]; exact List.length_replicate
 have hS1 : s.S = FK S 1 (C8 (E0 p)) := by rw [hs, hS]; rfl
 have hc0 : s.c0 = E0 p := by rw [hs]; rfl
 have hlen := h.len
 have hk := h.KS
 have hmany := h.many
 have hreg := h.S8
 have hg := TF p h1 h8
 have hld := h.ld
 have hE : E9 s.ep (m - 32) 0 (FI s.S) = (s.Ls.map AW, s.k) := by
  have := h.ji.open hep AA
  rwa [hreg] at this
 have hT : FI s.S = (s.S.drop 32).take (m - 32) := by
  show s.S.drop 32 = _
  rw [List.take_of_length_le MG]
 have hml : (s.Ls.map AW).length = s.Ls.length := List.length_map _
 rw [← hs]
 refine BZ (vs := [.pointer (some ⟨q, 0, none⟩), .int .i64 (p : Int)]) Tryz.func18 rfl _ Tryz.ntmps18 rfl H ?_
 simp only [BX, Nat.zero_add]
 refine HC.exs ?_
 rintro ⟨⟨A0, c0⟩, A1, c1⟩
 refine HC.AK (l' := [AI q 56 [.slice A0 S.length c0, .slice A1 0 c1], row A0 61 64 S.length c0 (S.flatMap BI), row A1 63 65 0 c1 []]) (fun _ h => h) ?_
 refine zg <| zs rfl <| zs rfl <| zn <| AG <| zg <| zm rfl <| zv (IL rfl rfl) <| zm rfl <| AJ rfl rfl <| zm rfl <| AJ rfl rfl <| zv (AY rfl) <| AJ rfl rfl <| zf rfl <| AJ rfl rfl <| zl rfl rfl <| AJ rfl rfl <| zv BN <| ?_
 refine AJ rfl rfl <| zv (B7 rfl rfl) <| zv (A8 rfl rfl) <| zm rfl <| F0 (t := 28) rfl (AA) ?_
 refine AJ rfl rfl <| zm rfl <| AJ rfl rfl <| zv (B7 rfl rfl) <| zv (A8 rfl rfl) <| zm rfl <| F0 (t := 32) rfl (AA) ?_
 refine AJ rfl rfl <| zm rfl <| AJ rfl rfl <| zv (DV rfl rfl) <| zv (A8 rfl rfl) <| zn <| CP rfl (AA) ?_
 refine HC.AK (JK (P := [])) ?_
 refine zk <| zg <| zm rfl <| B2 Tryz.call50 rfl rfl (fun w1 => zp (BV q S []) fun D' _ _ H2 => lR D' w1 q S hld0 AA H2) ?_
 refine AV (B9) rfl rfl rfl fun b6 => 
  A6 (DT rfl rfl rfl rfl rfl rfl) rfl rfl <| zn <| AG <| AG <| ?_
 refine AR <| zf rfl <| zl rfl rfl <| zv (CO rfl rfl) <| zn <| ?_
 refine GR rfl (rfl) <| zg <| zm rfl <| CQ (σ := DA) Tryz.call29 rfl rfl (fun w1 => zu fun D' _ _ _ => mI D' w1 p h1 h8) ?_
 intro qf
 try rw [List.nil_append]
 refine zm rfl <| zx rfl rfl <| zx rfl rfl <| AV (B9) rfl rfl rfl fun b7 =>  ?_
 refine A6 (CV (vs := B3 (E0 p) qf) rfl rfl rfl (by simp) CL) rfl rfl ?_
 refine zs rfl <| zn <| zg <| AZ (FV rfl rfl) rfl <| CQ (σ := Option Addr × Nat) Tryz.call51 rfl rfl (fun w1 => zu fun D' _ hin _ => WJ D' w1 (E0 p) _ _ _ hg (ER.rows (q := qf) (TY p h8) hin)) ?_
 intro qg
 try rw [List.nil_append]
 refine zm rfl <| zx rfl rfl <| zx rfl rfl <| zs rfl <| zs rfl <| AS <| zt <| zg <| zm rfl <| zm rfl <| B2 Tryz.call52 rfl rfl (fun w1 => zp (BV q S []) fun D' _ hin H2 => (W6 D' w1 q S 1 _ (C8 (E0 p)) AA AA AF (NS hg) (hin _ fun h hs ho => C7 (A := qg.1) hs (C8 (E0 p)) rfl (DQ.2 rfl)) H2).mono fun e w' ⟨he, H'⟩ => ⟨he, show AH D' w1 w' [BV q s.S []] by rw [hS1]; exact H'⟩) ?_
 refine zn <| AR <| zm rfl <| CQ (σ := (Option Addr × Nat) × Int) Tryz.call50 rfl rfl (fun w1 => EZ (BV q s.S []) fun D' _ _ H2 => aJ D' w1 q s.S s.ep (C8 s.c0) hld AA H2) ?_
 intro qb
 refine A6 (CV (vs := [.int .u32 (s.ep : Int), .slice qb.1.1 (C8 s.c0).length qb.1.2, .int .i64 qb.2, .int .i64 0]) rfl rfl rfl (by simp) CL) rfl rfl ?_
 refine zn <| zg <| zf rfl <| zl rfl rfl <| ?_
 refine CQ (σ := DA) Tryz.call53 rfl rfl (fun w1 => zu fun D' _ hin _ => c9 D' w1 _ s.c0 h.g0 (hin _ fun h hs ho => C7 (A := qb.1.1) hs (C8 s.c0) rfl (DQ.2 rfl))) ?_
 intro qc
 try rw [List.nil_append]
 refine zm rfl <| zx rfl rfl <| zx rfl rfl <| AV (B9) rfl rfl rfl fun b11 =>  ?_
 refine A6 (CV (vs := B3 s.c0 qc) rfl rfl rfl (by simp) CL) rfl rfl ?_
 refine zs rfl <| zn <| AG <| zg <| zm rfl <| zv (CG rfl rfl) <| zm rfl <| F0 (t := 64) rfl ((fun h => h rfl)) <| AJ rfl rfl <| zf rfl <| AJ rfl rfl <| zl rfl rfl <| AJ rfl rfl <| zv BN <| ?_
 refine AJ rfl rfl <| zm rfl <| AJ rfl rfl <| zv (CG rfl rfl) <| zv (A8 rfl rfl) <| zn <| CP rfl (AA) ?_
 refine zk <| AG <| HC.AK (l' := BV q s.S [] :: AI b6 122 [.int .u32 (s.ep : Int), .slice qb.1.1 (C8 s.c0).length qb.1.2, .int .i64 qb.2, .int .i64 0] :: AI b11 49 (B3 s.c0 qc) :: C6 s.c0 qc) Z8 ?_
 refine HC.exs ?_
 rintro ⟨⟨A0, c0⟩, A1, c1⟩
 refine HC.AK (l' := AI q 56 [.slice A0 s.S.length c0, .slice A1 0 c1] :: row A0 61 64 s.S.length c0 (s.S.flatMap BI) :: row A1 63 65 0 c1 [] :: AI b6 122 [.int .u32 (s.ep : Int), .slice qb.1.1 (C8 s.c0).length qb.1.2, .int .i64 qb.2, .int .i64 0] :: AI b11 49 (B3 s.c0 qc) :: C6 s.c0 qc) (fun _ h => h) ?_
 refine EF [AI b6 122 [.int .u32 (s.ep : Int), .slice qb.1.1 (C8 s.c0).length qb.1.2, .int .i64 qb.2, .int .i64 0]] mixed 14 rfl ?_
 refine AE 0 rfl (AO rfl) rfl <| AE 1 rfl (AO rfl) rfl <| AE 2 rfl (AY rfl) rfl <| AE 3 rfl (AP rfl) rfl <| AE 6 rfl (AP rfl) rfl <| AE 7 rfl (zw rfl rfl) rfl <| AL 4 AB <| CW rfl (zw rfl rfl) rfl <| AE 5 rfl BN rfl <| ?_
 refine AL 8 AB <| IW (JK (P := [])) ?_
 refine CR (σ := Nat) rfl Tryz.call54 rfl (fun w1 => EZ (BV q s.S []) fun D' _ _ H2 => (cS D' w1 q s.S 32 s.S.length (m - 32) (FI s.S) s.ep AA AA AA AA hT H2).mono fun e w' ⟨jb, he, H'⟩ => ⟨jb, he, show AH D' w1 w' [D3 jb q 32 m s.ep (32 + s.k) (s.Ls.map AW), BV q s.S []] by rw [hE] at H'; rw [← hlen]; exact H'⟩) ?_
 intro jb
 refine AE 9 rfl (AO rfl) rfl <| AE 10 rfl (I9 rfl rfl) rfl <| AE 11 rfl (I9 rfl rfl) rfl <| AE 12 rfl (DH rfl) rfl <| AE 13 rfl (DH rfl) rfl <| BY AB <| zt <| AG <| zg <| zs rfl <| ?_
 refine zn <| BK <| HC.exs ?_
 rintro ⟨A5, cap5, cs5⟩
 refine HC.AK (l' := FJ jb q 32 m s.ep (32 + s.k) (s.Ls.map AW).length (A5, cap5) :: row A5 108 1 (s.Ls.map AW).length cap5 cs5 :: D5 5 (s.Ls.map AW) cs5 :: BV q s.S [] :: AI b6 122 [.int .u32 (s.ep : Int), .slice qb.1.1 (C8 s.c0).length qb.1.2, .int .i64 qb.2, .int .i64 0] :: AI b11 49 (B3 s.c0 qc) :: C6 s.c0 qc) (fun _ h => h) ?_
 refine HC.fact (fun w H => AH.GS A5 H) ?_
 rintro ⟨hc5, _, _, hA5'⟩
 refine HC.fact (fun w H => YY (t := 5) (xs := s.Ls.map AW) (cs := cs5) H (by rw [hc5, Nat.mul_one])) ?_
 intro hcs5
 rw [hml]
 refine GL (σ := Nat × CA) [0, 6, 11, 13] rfl 15 (fun st => .int .i64 (st.1 : Int)) (fun st => [IJ b11 st.2, FJ jb q 32 m s.ep (32 + s.k) s.Ls.length (A5, cap5), row A5 108 1 s.Ls.length cap5 cs5, D5 5 (s.Ls.map AW) cs5, BV q s.S [], AI b6 122 [.int .u32 (s.ep : Int), .slice qb.1.1 (C8 s.c0).length qb.1.2, .int .i64 qb.2, .int .i64 0]]) (fun st => st.1 ≤ s.Ls.length ∧ JW st.2 (s.Ls.drop st.1) = some s.c ∧ JH st.2) (fun st => s.Ls.length - st.1) ((0, s.c0)) (⟨Nat.zero_le _, h.rep, h.ok0⟩) rfl (AD.trans (b := DC b11 s.c0 qc ++ [FJ jb q 32 m s.ep (32 + s.k) s.Ls.length (A5, cap5), row A5 108 1 s.Ls.length cap5 cs5, D5 5 (s.Ls.map AW) cs5, BV q s.S [], AI b6 122 [.int .u32 (s.ep : Int), .slice qb.1.1 (C8 s.c0).length qb.1.2, .int .i64 qb.2, .int .i64 0]]) Z8 (D1 qc)) ?_
 rintro ⟨i, ci⟩ hj_ K1 hK1
 dsimp only at hj_ ⊢
 obtain ⟨hi, hrc, hoc⟩ := hj_
 refine AG <| zg <| zm rfl <| zm rfl <| zv (AY rfl) <| zf rfl <| zl rfl rfl <| zv BN <| ?_
 refine zv (B7 rfl rfl) <| zn <| BP rfl (fun hlt => ?_) (fun hlt => ?_)
 ·have hlt : i < s.Ls.length := by omega
  obtain ⟨le, hle⟩ : ∃ le, s.Ls[i]? = some le := ⟨_, List.getElem?_eq_getElem hlt⟩
  have hmi : (s.Ls.map AW)[i]? = some (AW le) := by rw [List.getElem?_map, hle]; rfl
  obtain ⟨B, cb, hcell⟩ := hcs5 i _ hmi
  have hcell' : cs5[i * 1]? = some (.slice B (AW le).length cb) := by rw [Nat.mul_one]; exact hcell
  have hA5 : CU A5 := hA5' (by intro h; rw [h] at hcell; cases hcell)
  obtain ⟨hlt2, hle2⟩ := List.getElem?_eq_some_iff.1 hle
  obtain ⟨hleo, hlf⟩ := h.oks le (hle2 ▸ List.getElem_mem hlt)
  rw [List.drop_eq_getElem_cons hlt, hle2] at hrc
  have hrc : (if (D9 ci le).2 = 0 then JW (D9 ci le).1 (s.Ls.drop (i + 1)) else none) = some s.c := hrc
  split at hrc
  ·rename_i h0
   obtain ⟨c2, hc2e⟩ : ∃ c2, c2 = (D9 ci le).1 := ⟨_, rfl⟩
   have hed : D9 ci le = (c2, 0) := Prod.ext hc2e.symm h0
   have hoc2 : JH c2 := by rw [hc2e]; exact SD (N7 ci le) hoc hlf
   rw [← hc2e] at hrc
   refine zk <| AG <| BK <| zg <| zm rfl <| zv (AY rfl) <| zf rfl <| zl rfl rfl <| zm rfl <| ?_
   refine AZ (CZ rfl hA5 rfl i rfl hlt) rfl <| AZ (GB rfl (EH.row (A := A5) hA5 (i := i * 1) hcell')) rfl <| CQ (σ := Option Addr × Nat) Tryz.call55 rfl rfl (fun w1 => zu fun D' _ hin _ => eW D' w1 _ le hleo (hin _ fun h hs ho => WX (PE (t := 5) (xs := s.Ls.map AW) (cs := cs5) hs) i hmi hcell)) ?_
   intro qe
   try rw [List.nil_append]
   refine zm rfl <| zx rfl rfl <| zx rfl rfl <| zs rfl <| zs rfl <| AS <| zt <| AG <| zg <| zm rfl <| zv (CG rfl rfl) <| zn <| CP rfl ((fun h => h rfl)) <| HC.AK (AD.pick (A := IJ b11 ci) (AD.refl _)) ?_
   refine HC.exs ?_
   intro q2
   refine HC.AK (l' := DC b11 ci q2 ++ [row qe.1 81 7 le.length qe.2 (le.flatMap DL), FJ jb q 32 m s.ep (32 + s.k) s.Ls.length (A5, cap5), row A5 108 1 s.Ls.length cap5 cs5, D5 5 (s.Ls.map AW) cs5, BV q s.S [], AI b6 122 [.int .u32 (s.ep : Int), .slice qb.1.1 (C8 s.c0).length qb.1.2, .int .i64 qb.2, .int .i64 0]]) (fun _ h => h) ?_
   refine zk <| zg <| AZ (FV rfl rfl) rfl <| zm rfl <| CQ (σ := DA) Tryz.call30 rfl rfl (fun w1 => zu fun D' _ hin _ => UB D' w1 ci _ _ _ _ le c2 0 hed (by have := hleo.1; omega) (ER.rows (q := q2) hoc hin) (hin _ fun h hs ho => C7 (A := qe.1) hs le rfl (KF.2 ⟨rfl, hlf⟩))) ?_
   intro q3
   try rw [List.nil_append]
   refine zm rfl <| zx rfl rfl <| zx rfl rfl <| A6 (CV (vs := B3 c2 q3) rfl rfl rfl (by simp) CL) rfl rfl ?_
   refine zs rfl <| zn <| zg <| zm rfl <| zv (CG rfl rfl) <| zn <| CP rfl ((fun h => h rfl)) <| C3 <| zb <| zt <| AR <| zm rfl <| zv (BM rfl rfl BO) <| ?_
   refine zs rfl <| AS <| ?_
   exact B5 hK1 ((i + 1, c2)) (⟨hlt, hrc, hoc2⟩) (by show s.Ls.length - (i + 1) < s.Ls.length - i; omega) BD (AD.trans (b := DC b11 c2 q3 ++ [FJ jb q 32 m s.ep (32 + s.k) s.Ls.length (A5, cap5), row A5 108 1 s.Ls.length cap5 cs5, D5 5 (s.Ls.map AW) cs5, BV q s.S [], AI b6 122 [.int .u32 (s.ep : Int), .slice qb.1.1 (C8 s.c0).length qb.1.2, .int .i64 qb.2, .int .i64 0]]) Z8 (D1 q3))
  cases hrc
 have hil : i = s.Ls.length := by omega
 rw [hil, List.drop_length] at hrc
 have hrc : some ci = some s.c := hrc
 injection hrc with hrc
 rw [hrc]
 refine HC.exs ?_
 intro q2
 refine HC.AK (l' := DC b11 s.c q2 ++ [FJ jb q 32 m s.ep (32 + s.k) s.Ls.length (A5, cap5), row A5 108 1 s.Ls.length cap5 cs5, D5 5 (s.Ls.map AW) cs5, BV q s.S [], AI b6 122 [.int .u32 (s.ep : Int), .slice qb.1.1 (C8 s.c0).length qb.1.2, .int .i64 qb.2, .int .i64 0]]) (fun _ h => h) ?_
 refine CF <| ze <| ze <| CE <| zt <| AG <| AR <| zm rfl <| zm rfl <| AZ (FV rfl rfl) rfl ?_
 dsimp only [List.getElem_toArray, List.getElem_cons_zero, List.getElem_cons_succ]
 refine zf rfl <| zl rfl rfl <| zv (CH rfl rfl) <| ?_
 refine AV (EE rfl rfl) rfl rfl rfl fun b119 =>  ?_
 refine zs rfl <| zs rfl <| zn <| zq <| ?_
 exact E5 (.inr rfl) rfl rfl rfl fun w' H' => ⟨b119, rfl, H'.AK (AD.trans (b := FJ jb q 32 m s.ep (32 + s.k) (s.Ls.map AW).length (A5, cap5) :: row A5 108 1 (s.Ls.map AW).length cap5 cs5 :: D5 5 (s.Ls.map AW) cs5 :: (AI b119 52 (FB jb q s q2) :: (C6 s.c q2 ++ [BV q s.S []]))) (by rw [hml]; exact Z8) (AD.trans OZ (AD.trans (b := AI b119 52 (FB jb q s q2) :: D3 jb q 32 m s.ep (32 + s.k) (s.Ls.map AW) :: (C6 s.c q2 ++ [BV q s.S []])) Z8 (MW jb q2))))⟩
set_option maxHeartbeats 2000000 in
theorem iO (tb q m : Nat) (s : E1) (v : Value) (l : List C5) (h : SI m s) (hm2 : m ≤ 100000) (hep : s.ep < 4294967290) (hll : l.length ≤ 1000000) (HA : Old D w (AX.rep l [v])) (H : AH D w w [G2 tb q m s, BV q s.S []]) :
  Calls Tryz.prog 20 #[.pointer (some ⟨tb, 0, none⟩), v] w fun e w' => e = .returned (.int .i64 (EC m s l).1) ∧ AH D w w' [G2 tb q m (EC m s l).2, BV q (EC m s l).2.S []] := by
 obtain ⟨Al, cl, rfl, _, _, _, hfl⟩ := HA.EG
 have hlen := h.len
 have hm := h.m40
 have hk := h.KS
 have hmany := h.many
 have hml : (s.Ls.map AW).length = s.Ls.length := List.length_map _
 obtain ⟨c2, er, hed⟩ : ∃ c2 er, D9 s.c l = (c2, er) := ⟨_, _, rfl⟩
 refine BZ (vs := [.pointer (some ⟨tb, 0, none⟩), .slice Al l.length cl]) Tryz.func20 rfl _ Tryz.ntmps20 rfl H ?_
 simp only [BX, Nat.zero_add]
 refine HC.exs ?_
 rintro ⟨jb, x⟩
 refine HC.AK (l' := AI tb 52 (FB jb q s x) :: D3 jb q 32 m s.ep (32 + s.k) (s.Ls.map AW) :: (C6 s.c x ++ [BV q s.S []])) (fun _ h => h) ?_
 refine zg <| zs rfl <| zn <| AG <| AR <| zm rfl <| zv (AY rfl) <| zf rfl <| ?_
 refine AZ (MI (vs := B3 s.c x) rfl rfl) rfl <| zm rfl <| CQ (σ := DA) Tryz.call30 rfl rfl (fun w1 => zu fun D' hold hin _ => UB D' w1 s.c _ _ _ _ l c2 er hed hll (ER.rows (q := x) h.okc hin) (hold _ HA)) ?_
 intro qd
 try rw [List.nil_append]
 refine zm rfl <| zx rfl rfl <| zx rfl rfl <| AV (B9) rfl rfl rfl fun b5 =>  ?_
 refine A6 (CV (vs := B3 c2 qd) rfl rfl rfl (by simp) CL) rfl rfl ?_
 refine zs rfl <| zn <| AG <| zg <| zm rfl <| zv (CG rfl rfl) <| zn <| BP rfl (fun he => ?_) (fun he => ?_)
 ·have hc : EC m s l = (er, s) := by unfold EC; rw [hed, if_pos he]
  refine zg <| zm rfl <| zs rfl <| zn <| zq <| zr <| ?_
  exact zz rfl rfl fun w' H' => ⟨by rw [hc]; rfl, by rw [hc]; exact H'.AK (AD.trans (b := AI tb 52 (FB jb q s x) :: D3 jb q 32 m s.ep (32 + s.k) (s.Ls.map AW) :: (C6 s.c x ++ [BV q s.S []])) Z8 (MW jb x))⟩
 have he : er = 0 := Classical.not_not.1 he
 subst he
 have h0 : (D9 s.c l).2 = 0 := by rw [hed]
 have hl32 : l.length ≤ 32 := (SU h0).2.1
 have hsm := OO hl32
 have hc2 : c2 = (D9 s.c l).1 := by rw [hed]
 by_cases hok : G0 l
 ·obtain ⟨n, hn⟩ : ∃ n, DG (AW l).length = n := ⟨_, rfl⟩
  refine zk <| zg <| zm rfl <| CQ (σ := Option Addr × Nat) Tryz.call59 rfl rfl (fun w1 => zu fun D' hold _ _ => eD D' w1 _ l hok (hold _ HA)) ?_
  intro qe
  try rw [List.nil_append]
  refine zm rfl <| zx rfl rfl <| zx rfl rfl <| zs rfl <| zs rfl <| AS <| zt <| AG <| zg <| zm rfl <| zv (CG rfl rfl) <| zn <| CP rfl ((fun h => h rfl)) <| zk <| zg <| zm rfl <| zv (AY rfl) <| zf rfl <| zl rfl rfl <| zm rfl <| ?_
  by_cases hfit : n ≤ m - 32 - s.k
  ·obtain ⟨sN, hsN⟩ : ∃ sN, sN = LD s l := ⟨_, rfl⟩
   have hc : EC m s l = (0, sN) := by unfold EC; rw [hed, if_neg (fun h => h rfl), if_neg (fun h => h hok), hn, if_pos hfit, hsN]
   have hS' : sN.S = D7 s.S (32 + s.k) (C1 (EY s.ep (s.Ls.map AW).length (AW l))) := by rw [hsN, hml]; rfl
   have hL' : sN.Ls.map AW = s.Ls.map AW ++ [AW l] := by rw [hsN]; show (s.Ls ++ [l]).map AW = _; rw [List.map_append]; rfl
   have hk' : 32 + sN.k = 32 + s.k + n := by rw [hsN]; show 32 + (s.k + DG (AW l).length) = _; omega
   have hcN : sN.c = c2 := by rw [hsN, hc2]; rfl
   have heN : sN.ep = s.ep := by rw [hsN]; rfl
   rw [hc]
   subst hcN
   refine B2 Tryz.call60 rfl rfl (fun w1 H1 => AH.LA (D3 jb q 32 m s.ep (32 + s.k) (s.Ls.map AW)) (BV q s.S []) H1 fun D' _ hin H2 => TJ D' w1 jb q 32 m s.ep (32 + s.k) (s.Ls.map AW) _ s.S (AW l) n (32 + sN.k) (sN.Ls.map AW) sN.S hn hk' hL' hS' AA AA AA AA AA AA AA (hin _ fun h hs ho => C7 (A := qe.1) hs (AW l) rfl (DQ.2 rfl)) H2) ?_
   rw [← heN]
   obtain ⟨jb2, hjb2⟩ : ∃ x, x = jb := ⟨_, rfl⟩
   rw [← hjb2]
   refine zs rfl <| zn <| AG <| zg <| zm rfl <| zv (CO rfl rfl) <| zn <| CP rfl (AF) ?_
   refine zk <| AG <| zg <| zm rfl <| zv (CG rfl rfl) <| zn <| CP rfl ((fun h => h rfl)) <| zk <| zg <| zm rfl <| AZ (FV rfl rfl) rfl <| zv (AY rfl) <| zf rfl <| ?_
   refine A6 (QN (FB jb2 q sN qd) rfl rfl rfl (by simp) CL VM) rfl rfl ?_
   refine zn <| zg <| zs rfl <| AS <| zt <| zq <| ?_
   exact zz rfl rfl fun w' H' => ⟨rfl, H'.AK (AD.trans (b := AI tb 52 (FB jb2 q sN qd) :: D3 jb2 q 32 m sN.ep (32 + sN.k) (sN.Ls.map AW) :: (C6 sN.c qd ++ [BV q sN.S []])) Z8 (MW (s := sN) jb2 qd))⟩
  refine B2 Tryz.call60 rfl rfl (fun w1 => zp (D3 jb q 32 m s.ep (32 + s.k) (s.Ls.map AW)) fun D' _ hin H2 => TC D' w1 jb q 32 m s.ep (32 + s.k) (s.Ls.map AW) _ (AW l) AA n hn AA AA AA AA AA (hin _ fun h hs ho => C7 (A := qe.1) hs (AW l) rfl (DQ.2 rfl)) H2) ?_
  refine HL.AK (AD.trans (b := AI tb 52 (FB jb q s x) :: D3 jb q 32 m s.ep (32 + s.k) (s.Ls.map AW) :: (C6 s.c x ++ [BV q s.S [], row qe.1 5 1 (AW l).length qe.2 ((AW l).map AU), AI b5 49 (B3 c2 qd), row qd.1.1 83 3 c2.2.2.2.1.length qd.1.2 (c2.2.2.2.1.flatMap CJ), row qd.2.1.1 147 3 c2.2.2.2.2.1.length qd.2.1.2 (c2.2.2.2.2.1.flatMap BJ), row qd.2.2.1 149 3 c2.2.2.2.2.2.length qd.2.2.2 (c2.2.2.2.2.2.flatMap BW)])) Z8 (MW jb x)) ?_
  have h1 := OR h hep
  obtain ⟨s1, hs1⟩ : ∃ s1, s1 = H8 s := ⟨_, rfl⟩
  have hs1k : s1.k = 0 := by rw [hs1]; rfl
  have hs1c : s1.c = s.c := by rw [hs1]; rfl
  have hs1L : s1.Ls = [] := by rw [hs1]; rfl
  have hs1e : s1.ep = s.ep + 1 := by rw [hs1]; rfl
  rw [← hs1] at h1
  have hl1 := h1.len
  refine zs rfl <| zn <| AG <| zg <| zm rfl <| zv (CO rfl rfl) <| zn <| GR rfl (rfl) <| AG <| zg <| zm rfl <| B2 Tryz.call33 rfl rfl (fun w1 H1 => AH.LA (G2 tb q m s) (BV q s.S []) H1 fun D' _ _ H2 => jQ D' w1 tb q m s h hm2 hep H2) ?_
  rw [← hs1]
  refine zs rfl <| zn <| zg <| zm rfl <| zv (CG rfl rfl) <| zn <| CP rfl ((fun h => h rfl)) <| zk <| HC.exs ?_
  rintro ⟨jb2, q2⟩
  refine HC.AK (l' := AI tb 52 (FB jb2 q s1 q2) :: D3 jb2 q 32 m s1.ep (32 + s1.k) (s1.Ls.map AW) :: (C6 s1.c q2 ++ [BV q s1.S [], row qe.1 5 1 (AW l).length qe.2 ((AW l).map AU), AI b5 49 (B3 c2 qd), row qd.1.1 83 3 c2.2.2.2.1.length qd.1.2 (c2.2.2.2.1.flatMap CJ), row qd.2.1.1 147 3 c2.2.2.2.2.1.length qd.2.1.2 (c2.2.2.2.2.1.flatMap BJ), row qd.2.2.1 149 3 c2.2.2.2.2.2.length qd.2.2.2 (c2.2.2.2.2.2.flatMap BW)])) (fun _ h => h) ?_
  refine AR <| zm rfl <| zv (AY rfl) <| zf rfl <| zl rfl rfl <| zm rfl <| ?_
  by_cases hfit2 : n ≤ m - 32
  ·obtain ⟨sN, hsN⟩ : ∃ sN, sN = LD s1 l := ⟨_, rfl⟩
   have hc : EC m s l = (0, sN) := by unfold EC; rw [hed, if_neg (fun h => h rfl), if_neg (fun h => h hok), hn, if_neg hfit, if_pos hfit2, hsN, hs1]
   have hS' : sN.S = D7 s1.S (32 + s1.k) (C1 (EY s1.ep (s1.Ls.map AW).length (AW l))) := by rw [hsN, List.length_map]; rfl
   have hL' : sN.Ls.map AW = s1.Ls.map AW ++ [AW l] := by rw [hsN]; show (s1.Ls ++ [l]).map AW = _; rw [List.map_append]; rfl
   have hk' : 32 + sN.k = 32 + s1.k + n := by rw [hsN]; show 32 + (s1.k + DG (AW l).length) = _; omega
   have hcN : sN.c = c2 := by rw [hsN, hc2]; show (D9 s1.c l).1 = _; rw [hs1c]
   have heN : sN.ep = s1.ep := by rw [hsN]; rfl
   rw [hc]
   subst hcN
   refine B2 Tryz.call60 rfl rfl (fun w1 H1 => AH.LA (D3 jb2 q 32 m s1.ep (32 + s1.k) (s1.Ls.map AW)) (BV q s1.S []) H1 fun D' _ hin H2 => TJ D' w1 jb2 q 32 m s1.ep (32 + s1.k) (s1.Ls.map AW) _ s1.S (AW l) n (32 + sN.k) (sN.Ls.map AW) sN.S hn hk' hL' hS' AA AA AA AA AA AA S4 (hin _ fun h hs ho => C7 (A := qe.1) hs (AW l) rfl (DQ.2 rfl)) H2) ?_
   rw [← heN]
   refine zs rfl <| zn <| AG <| zg <| zm rfl <| zv (CG rfl rfl) <| zn <| CP rfl ((fun h => h rfl)) <| zk <| zg <| zm rfl <| AZ (FV rfl rfl) rfl <| zv (AY rfl) <| zf rfl <| ?_
   refine A6 (QN (FB jb2 q sN qd) rfl rfl rfl (by simp) CL VM) rfl rfl ?_
   refine zn <| zg <| zs rfl <| AS <| zt <| zq <| ?_
   exact zz rfl rfl fun w' H' => ⟨rfl, H'.AK (AD.trans (b := AI tb 52 (FB jb2 q sN qd) :: D3 jb2 q 32 m sN.ep (32 + sN.k) (sN.Ls.map AW) :: (C6 sN.c qd ++ [BV q sN.S []])) Z8 (MW (s := sN) jb2 qd))⟩
  have hc : EC m s l = (12, s1) := by unfold EC; rw [hed, if_neg (fun h => h rfl), if_neg (fun h => h hok), hn, if_neg hfit, if_neg hfit2, hs1]
  rw [hc]
  refine B2 Tryz.call60 rfl rfl (fun w1 => zp (D3 jb2 q 32 m s1.ep (32 + s1.k) (s1.Ls.map AW)) fun D' _ hin H2 => TC D' w1 jb2 q 32 m s1.ep (32 + s1.k) (s1.Ls.map AW) _ (AW l) AA n hn AA AA AA AA S4 (hin _ fun h hs ho => C7 (A := qe.1) hs (AW l) rfl (DQ.2 rfl)) H2) ?_
  refine zs rfl <| zn <| AG <| zg <| zm rfl <| zv (CG rfl rfl) <| zn <| GR rfl (AF) ?_
  refine zg <| zm rfl <| zs rfl <| zn <| zq <| zr <| ?_
  exact zz rfl rfl fun w' H' => ⟨rfl, H'.AK (AD.trans (b := AI tb 52 (FB jb2 q s1 q2) :: D3 jb2 q 32 m s1.ep (32 + s1.k) (s1.Ls.map AW) :: (C6 s1.c q2 ++ [BV q s1.S []])) Z8 (MW jb2 q2))⟩
 have hc : EC m s l = (11, s) := by unfold EC; rw [hed, if_neg (fun h => h rfl), if_pos hok]
 rw [hc]
 refine zk <| zg <| zm rfl <| CQ (σ := Option Addr × Nat) Tryz.call59 rfl rfl (fun w1 => zu fun D' hold _ _ => cK D' w1 _ l hl32 hok (hold _ HA)) ?_
 intro qe
 try rw [List.nil_append]
 refine zm rfl <| zx rfl rfl <| zx rfl rfl <| zs rfl <| zs rfl <| AS <| zt <| AG <| zg <| zm rfl <| zv (CG rfl rfl) <| zn <| GR rfl (AF) ?_
 refine zg <| zm rfl <| zs rfl <| zn <| zq <| zr <| ?_
 exact zz rfl rfl fun w' H' => ⟨rfl, H'.AK (AD.trans (b := AI tb 52 (FB jb q s x) :: D3 jb q 32 m s.ep (32 + s.k) (s.Ls.map AW) :: (C6 s.c x ++ [BV q s.S []])) Z8 (MW jb x))⟩
def gC (tb q m : Nat) (s : E1) (jb : Nat) (x : DA) (_ : Unit) : List AQ := [AI tb 52 (FB jb q s x), D3 jb q 32 m s.ep (32 + s.k) (s.Ls.map AW)]
def O4 (tb q m : Nat) (s : E1) (jb : Nat) (x : DA) : AQ := GQ (gC tb q m s jb x)
theorem W8 {tb q m : Nat} {s : E1} {jb : Nat} {x : DA} {l : List AQ} : AD (AI tb 52 (FB jb q s x) :: D3 jb q 32 m s.ep (32 + s.k) (s.Ls.map AW) :: l) (O4 tb q m s jb x :: l) := AD.GQ (L := gC tb q m s jb x) (l := l) ()
set_option maxHeartbeats 1000000 in
theorem pX (tb q m jb : Nat) (x : DA) (s : E1) (h : SI m s) (hm2 : m ≤ 100000) (hep : s.ep < 4294967290) (HK : ER D w s.c (.slice x.1.1 s.c.2.2.2.1.length x.1.2) (.slice x.2.1.1 s.c.2.2.2.2.1.length x.2.1.2) (.slice x.2.2.1 s.c.2.2.2.2.2.length x.2.2.2)) (H : AH D w w [O4 tb q m s jb x, BV q s.S []]) : Calls Tryz.prog 33 #[.pointer (some ⟨tb, 0, none⟩)] w fun e w' => e = .returned (.int .i64 0) ∧ AH D w w' [O4 tb q m (H8 s) jb x, BV q (H8 s).S []] := by
 have hlen := h.len
 have hm := h.m40
 have hsm := NS h.gc
 obtain ⟨s2, hs2⟩ : ∃ s2, s2 = H8 s := ⟨_, rfl⟩
 have h1 : s2.S = FK s.S (s.ep + 1) (C8 s.c) := by rw [hs2]; rfl
 have h2 : s2.ep = s.ep + 1 := by rw [hs2]; rfl
 have h3 : s2.c = s.c := by rw [hs2]; rfl
 have h4 : s2.k = 0 := by rw [hs2]; rfl
 have h5 : s2.Ls = [] := by rw [hs2]; rfl
 have hr : ∀ jb, D3 jb q 32 m s2.ep (32 + s2.k) (s2.Ls.map AW) = D3 jb q 32 m s2.ep 32 [] := fun jb => by rw [h4, h5]; rfl
 rw [← hs2]
 refine BZ (vs := [.pointer (some ⟨tb, 0, none⟩)]) Tryz.func33 rfl _ Tryz.ntmps33 rfl H ?_
 simp only [BX, Nat.zero_add]
 refine HC.exs ?_
 intro _
 refine HC.AK (l' := AI tb 52 (FB jb q s x) :: D3 jb q 32 m s.ep (32 + s.k) (s.Ls.map AW) :: [BV q s.S []]) (fun _ h => h) ?_
 refine zg <| zs rfl <| zn <| AG <| AR <| zm rfl <| zv (AY rfl) <| zf rfl <| ?_
 refine AZ (MI (vs := B3 s.c x) rfl rfl) rfl <| CQ (σ := Option Addr × Nat) Tryz.call51 rfl rfl (fun w1 => zu fun D' hold _ _ => WJ D' w1 s.c _ _ _ h.gc (HK.hold hold)) ?_
 intro qb
 try rw [List.nil_append]
 refine zm rfl <| zx rfl rfl <| zx rfl rfl <| zs rfl <| zs rfl <| AS <| zt <| AG <| AG <| EF [AI tb 52 (FB jb q s x)] mixed 12 rfl ?_
 refine AE 0 rfl (AO rfl) rfl <| AE 1 rfl (AY rfl) rfl <| AE 2 rfl (AP rfl) rfl <| AE 3 rfl (zw rfl rfl) rfl <| AE 4 rfl (AO rfl) rfl <| AE 5 rfl (AY rfl) rfl <| AE 6 rfl (AP rfl) rfl <| AE 7 rfl (zw rfl rfl) rfl <| AE 9 rfl (AO rfl) rfl <| AL 8 AB <| CW rfl (BM (m := ((s.ep + 1 : Nat) : Int)) rfl rfl ((wrap_u32 AA).trans AA)) rfl ?_
 refine AL 10 AB <| CY rfl Tryz.call52 rfl (fun w1 => zp (BV q s.S []) fun D' _ hin H2 => (W6 D' w1 q s.S (s.ep + 1) _ (C8 s.c) AA AA AA hsm (hin _ fun h hs ho => C7 (A := qb.1) hs (C8 s.c) rfl (DQ.2 rfl)) H2).mono fun e w' ⟨he, H'⟩ => ⟨he, show AH D' w1 w' [BV q s2.S []] by rw [h1]; exact H'⟩) ?_
 refine AE 11 rfl (DH rfl) rfl <| BY AB <| zt <| zg <| zm rfl <| zv (CG rfl rfl) <| ?_
 refine zn <| CP rfl ((fun h => h rfl)) <| zk <| zg <| zm rfl <| zv (AY rfl) <| zf rfl <| zl rfl rfl <| ?_
 refine AZ (BM (m := ((s.ep + 1 : Nat) : Int)) rfl rfl ((wrap_u32 AA).trans AA)) rfl ?_
 refine zv (AY rfl) <| zf rfl <| A6 (DN rfl rfl rfl rfl rfl) rfl rfl <| zn <| AG <| ?_
 rw [← h2, ← h3]
 refine HC.AK (l' := AI tb 52 (FB jb q s2 x) :: BV q s2.S [] :: [D3 jb q 32 m s.ep (32 + s.k) (s.Ls.map AW)]) Z8 ?_
 refine EF [AI tb 52 (FB jb q s2 x)] mixed 9 rfl ?_
 refine AE 0 rfl (AO rfl) rfl <| AE 1 rfl (AY rfl) rfl <| AE 2 rfl (AP rfl) rfl <| AE 3 rfl (zw rfl rfl) rfl <| AE 4 rfl (AO rfl) rfl <| AE 5 rfl (AY rfl) rfl <| AE 6 rfl (AP rfl) rfl <| AE 7 rfl (zw rfl rfl) rfl <| AL 8 AB <| CY rfl Tryz.call71 rfl (fun w1 => zp (D3 jb q 32 m s.ep (32 + s.k) (s.Ls.map AW)) fun D' _ _ H2 => ZG D' w1 jb q 32 m s.ep (32 + s.k) (s.Ls.map AW) s2.ep H2) ?_
 refine BY AB <| zt <| zg <| zs rfl <| AS <| ?_
 refine zt <| zq <| ?_
 exact zz rfl rfl fun w' H' => ⟨rfl, H'.AK (AD.trans (b := AI tb 52 (FB jb q s2 x) :: D3 jb q 32 m s2.ep 32 [] :: [BV q s2.S []]) Z8 (by rw [← hr]; exact W8 (s := s2)))⟩
set_option maxHeartbeats 2000000 in
theorem j6 (tb q m jb : Nat) (x : DA) (s : E1) (v : Value) (l : List C5) (h : SI m s) (hm2 : m ≤ 100000) (hep : s.ep < 4294967290) (hll : l.length ≤ 1000000) (HA : Old D w (AX.rep l [v])) (HK : ER D w s.c (.slice x.1.1 s.c.2.2.2.1.length x.1.2) (.slice x.2.1.1 s.c.2.2.2.2.1.length x.2.1.2) (.slice x.2.2.1 s.c.2.2.2.2.2.length x.2.2.2)) (H : AH D w w [O4 tb q m s jb x, BV q s.S []]) :
  Calls Tryz.prog 20 #[.pointer (some ⟨tb, 0, none⟩), v] w fun e w' => e = .returned (.int .i64 (EC m s l).1) ∧ AH D w w' (if (EC m s l).1 = 0 then [G2 tb q m (EC m s l).2, BV q (EC m s l).2.S []] else []) := by
 obtain ⟨Al, cl, rfl, _, _, _, hfl⟩ := HA.EG
 have hlen := h.len
 have hm := h.m40
 have hk := h.KS
 have hmany := h.many
 have hml : (s.Ls.map AW).length = s.Ls.length := List.length_map _
 obtain ⟨c2, er, hed⟩ : ∃ c2 er, D9 s.c l = (c2, er) := ⟨_, _, rfl⟩
 refine BZ (vs := [.pointer (some ⟨tb, 0, none⟩), .slice Al l.length cl]) Tryz.func20 rfl _ Tryz.ntmps20 rfl H ?_
 simp only [BX, Nat.zero_add]
 refine HC.exs ?_
 intro _
 refine HC.AK (l' := AI tb 52 (FB jb q s x) :: D3 jb q 32 m s.ep (32 + s.k) (s.Ls.map AW) :: [BV q s.S []]) (fun _ h => h) ?_
 refine zg <| zs rfl <| zn <| AG <| AR <| zm rfl <| zv (AY rfl) <| zf rfl <| ?_
 refine AZ (MI (vs := B3 s.c x) rfl rfl) rfl <| zm rfl <| CQ (σ := DA) Tryz.call30 rfl rfl (fun w1 => zu fun D' hold _ _ => UB D' w1 s.c _ _ _ _ l c2 er hed hll (HK.hold hold) (hold _ HA)) ?_
 intro qd
 try rw [List.nil_append]
 refine zm rfl <| zx rfl rfl <| zx rfl rfl <| AV (B9) rfl rfl rfl fun b5 =>  ?_
 refine A6 (CV (vs := B3 c2 qd) rfl rfl rfl (by simp) CL) rfl rfl ?_
 refine zs rfl <| zn <| AG <| zg <| zm rfl <| zv (CG rfl rfl) <| zn <| BP rfl (fun he => ?_) (fun he => ?_)
 ·have hc : EC m s l = (er, s) := by unfold EC; rw [hed, if_pos he]
  refine zg <| zm rfl <| zs rfl <| zn <| zq <| zr <| ?_
  exact zz rfl rfl fun w' H' => ⟨by rw [hc]; rfl, by rw [hc]; show AH D w w' (if er = 0 then _ else []); rw [if_neg he]; exact H'.AK (AD.nil _)⟩
 have he : er = 0 := Classical.not_not.1 he
 subst he
 have h0 : (D9 s.c l).2 = 0 := by rw [hed]
 have hl32 : l.length ≤ 32 := (SU h0).2.1
 have hsm := OO hl32
 have hc2 : c2 = (D9 s.c l).1 := by rw [hed]
 by_cases hok : G0 l
 ·obtain ⟨n, hn⟩ : ∃ n, DG (AW l).length = n := ⟨_, rfl⟩
  refine zk <| zg <| zm rfl <| CQ (σ := Option Addr × Nat) Tryz.call59 rfl rfl (fun w1 => zu fun D' hold _ _ => eD D' w1 _ l hok (hold _ HA)) ?_
  intro qe
  try rw [List.nil_append]
  refine zm rfl <| zx rfl rfl <| zx rfl rfl <| zs rfl <| zs rfl <| AS <| zt <| AG <| zg <| zm rfl <| zv (CG rfl rfl) <| zn <| CP rfl ((fun h => h rfl)) <| zk <| zg <| zm rfl <| zv (AY rfl) <| zf rfl <| zl rfl rfl <| zm rfl <| ?_
  by_cases hfit : n ≤ m - 32 - s.k
  ·obtain ⟨sN, hsN⟩ : ∃ sN, sN = LD s l := ⟨_, rfl⟩
   have hc : EC m s l = (0, sN) := by unfold EC; rw [hed, if_neg (fun h => h rfl), if_neg (fun h => h hok), hn, if_pos hfit, hsN]
   have hS' : sN.S = D7 s.S (32 + s.k) (C1 (EY s.ep (s.Ls.map AW).length (AW l))) := by rw [hsN, hml]; rfl
   have hL' : sN.Ls.map AW = s.Ls.map AW ++ [AW l] := by rw [hsN]; show (s.Ls ++ [l]).map AW = _; rw [List.map_append]; rfl
   have hk' : 32 + sN.k = 32 + s.k + n := by rw [hsN]; show 32 + (s.k + DG (AW l).length) = _; omega
   have hcN : sN.c = c2 := by rw [hsN, hc2]; rfl
   have heN : sN.ep = s.ep := by rw [hsN]; rfl
   rw [hc]
   subst hcN
   refine B2 Tryz.call60 rfl rfl (fun w1 H1 => AH.LA (D3 jb q 32 m s.ep (32 + s.k) (s.Ls.map AW)) (BV q s.S []) H1 fun D' _ hin H2 => TJ D' w1 jb q 32 m s.ep (32 + s.k) (s.Ls.map AW) _ s.S (AW l) n (32 + sN.k) (sN.Ls.map AW) sN.S hn hk' hL' hS' AA AA AA AA AA AA AA (hin _ fun h hs ho => C7 (A := qe.1) hs (AW l) rfl (DQ.2 rfl)) H2) ?_
   rw [← heN]
   obtain ⟨jb2, hjb2⟩ : ∃ x, x = jb := ⟨_, rfl⟩
   rw [← hjb2]
   refine zs rfl <| zn <| AG <| zg <| zm rfl <| zv (CO rfl rfl) <| zn <| CP rfl (AF) ?_
   refine zk <| AG <| zg <| zm rfl <| zv (CG rfl rfl) <| zn <| CP rfl ((fun h => h rfl)) <| zk <| zg <| zm rfl <| AZ (FV rfl rfl) rfl <| zv (AY rfl) <| zf rfl <| ?_
   refine A6 (QN (FB jb2 q sN qd) rfl rfl rfl (by simp) CL VM) rfl rfl ?_
   refine zn <| zg <| zs rfl <| AS <| zt <| zq <| ?_
   exact zz rfl rfl fun w' H' => ⟨rfl, by show AH D w w' (if (0 : Int) = 0 then [G2 tb q m sN, BV q sN.S []] else []); rw [if_pos rfl]; exact H'.AK (AD.trans (b := AI tb 52 (FB jb2 q sN qd) :: D3 jb2 q 32 m sN.ep (32 + sN.k) (sN.Ls.map AW) :: (C6 sN.c qd ++ [BV q sN.S []])) Z8 (MW (s := sN) jb2 qd))⟩
  refine B2 Tryz.call60 rfl rfl (fun w1 => zp (D3 jb q 32 m s.ep (32 + s.k) (s.Ls.map AW)) fun D' _ hin H2 => TC D' w1 jb q 32 m s.ep (32 + s.k) (s.Ls.map AW) _ (AW l) AA n hn AA AA AA AA AA (hin _ fun h hs ho => C7 (A := qe.1) hs (AW l) rfl (DQ.2 rfl)) H2) ?_
  refine HL.AK (AD.trans (b := AI tb 52 (FB jb q s x) :: D3 jb q 32 m s.ep (32 + s.k) (s.Ls.map AW) :: ([BV q s.S [], row qe.1 5 1 (AW l).length qe.2 ((AW l).map AU), AI b5 49 (B3 c2 qd), row qd.1.1 83 3 c2.2.2.2.1.length qd.1.2 (c2.2.2.2.1.flatMap CJ), row qd.2.1.1 147 3 c2.2.2.2.2.1.length qd.2.1.2 (c2.2.2.2.2.1.flatMap BJ), row qd.2.2.1 149 3 c2.2.2.2.2.2.length qd.2.2.2 (c2.2.2.2.2.2.flatMap BW)])) Z8 W8) ?_
  have h1 := OR h hep
  obtain ⟨s1, hs1⟩ : ∃ s1, s1 = H8 s := ⟨_, rfl⟩
  have hs1k : s1.k = 0 := by rw [hs1]; rfl
  have hs1c : s1.c = s.c := by rw [hs1]; rfl
  have hs1L : s1.Ls = [] := by rw [hs1]; rfl
  have hs1e : s1.ep = s.ep + 1 := by rw [hs1]; rfl
  rw [← hs1] at h1
  have hl1 := h1.len
  refine zs rfl <| zn <| AG <| zg <| zm rfl <| zv (CO rfl rfl) <| zn <| GR rfl (rfl) <| AG <| zg <| zm rfl <| B2 Tryz.call33 rfl rfl (fun w1 H1 => AH.LA (O4 tb q m s jb x) (BV q s.S []) H1 fun D' hold _ H2 => pX D' w1 tb q m jb x s h hm2 hep (HK.hold hold) H2) ?_
  rw [← hs1]
  refine zs rfl <| zn <| zg <| zm rfl <| zv (CG rfl rfl) <| zn <| CP rfl ((fun h => h rfl)) <| zk <| HC.exs ?_
  intro _
  obtain ⟨jb2, hjb2⟩ : ∃ y, y = jb := ⟨_, rfl⟩
  obtain ⟨q2, hq2⟩ : ∃ y, y = x := ⟨_, rfl⟩
  refine HC.AK (l' := AI tb 52 (FB jb2 q s1 q2) :: D3 jb2 q 32 m s1.ep (32 + s1.k) (s1.Ls.map AW) :: ([BV q s1.S [], row qe.1 5 1 (AW l).length qe.2 ((AW l).map AU), AI b5 49 (B3 c2 qd), row qd.1.1 83 3 c2.2.2.2.1.length qd.1.2 (c2.2.2.2.1.flatMap CJ), row qd.2.1.1 147 3 c2.2.2.2.2.1.length qd.2.1.2 (c2.2.2.2.2.1.flatMap BJ), row qd.2.2.1 149 3 c2.2.2.2.2.2.length qd.2.2.2 (c2.2.2.2.2.2.flatMap BW)])) (by rw [hjb2, hq2]; exact fun _ h => h) ?_
  refine AR <| zm rfl <| zv (AY rfl) <| zf rfl <| zl rfl rfl <| zm rfl <| ?_
  by_cases hfit2 : n ≤ m - 32
  ·obtain ⟨sN, hsN⟩ : ∃ sN, sN = LD s1 l := ⟨_, rfl⟩
   have hc : EC m s l = (0, sN) := by unfold EC; rw [hed, if_neg (fun h => h rfl), if_neg (fun h => h hok), hn, if_neg hfit, if_pos hfit2, hsN, hs1]
   have hS' : sN.S = D7 s1.S (32 + s1.k) (C1 (EY s1.ep (s1.Ls.map AW).length (AW l))) := by rw [hsN, List.length_map]; rfl
   have hL' : sN.Ls.map AW = s1.Ls.map AW ++ [AW l] := by rw [hsN]; show (s1.Ls ++ [l]).map AW = _; rw [List.map_append]; rfl
   have hk' : 32 + sN.k = 32 + s1.k + n := by rw [hsN]; show 32 + (s1.k + DG (AW l).length) = _; omega
   have hcN : sN.c = c2 := by rw [hsN, hc2]; show (D9 s1.c l).1 = _; rw [hs1c]
   have heN : sN.ep = s1.ep := by rw [hsN]; rfl
   rw [hc]
   subst hcN
   refine B2 Tryz.call60 rfl rfl (fun w1 H1 => AH.LA (D3 jb2 q 32 m s1.ep (32 + s1.k) (s1.Ls.map AW)) (BV q s1.S []) H1 fun D' _ hin H2 => TJ D' w1 jb2 q 32 m s1.ep (32 + s1.k) (s1.Ls.map AW) _ s1.S (AW l) n (32 + sN.k) (sN.Ls.map AW) sN.S hn hk' hL' hS' AA AA AA AA AA AA S4 (hin _ fun h hs ho => C7 (A := qe.1) hs (AW l) rfl (DQ.2 rfl)) H2) ?_
   rw [← heN]
   refine zs rfl <| zn <| AG <| zg <| zm rfl <| zv (CG rfl rfl) <| zn <| CP rfl ((fun h => h rfl)) <| zk <| zg <| zm rfl <| AZ (FV rfl rfl) rfl <| zv (AY rfl) <| zf rfl <| ?_
   refine A6 (QN (FB jb2 q sN qd) rfl rfl rfl (by simp) CL VM) rfl rfl ?_
   refine zn <| zg <| zs rfl <| AS <| zt <| zq <| ?_
   exact zz rfl rfl fun w' H' => ⟨rfl, by show AH D w w' (if (0 : Int) = 0 then [G2 tb q m sN, BV q sN.S []] else []); rw [if_pos rfl]; exact H'.AK (AD.trans (b := AI tb 52 (FB jb2 q sN qd) :: D3 jb2 q 32 m sN.ep (32 + sN.k) (sN.Ls.map AW) :: (C6 sN.c qd ++ [BV q sN.S []])) Z8 (MW (s := sN) jb2 qd))⟩
  have hc : EC m s l = (12, s1) := by unfold EC; rw [hed, if_neg (fun h => h rfl), if_neg (fun h => h hok), hn, if_neg hfit, if_neg hfit2, hs1]
  rw [hc]
  refine B2 Tryz.call60 rfl rfl (fun w1 => zp (D3 jb2 q 32 m s1.ep (32 + s1.k) (s1.Ls.map AW)) fun D' _ hin H2 => TC D' w1 jb2 q 32 m s1.ep (32 + s1.k) (s1.Ls.map AW) _ (AW l) AA n hn AA AA AA AA S4 (hin _ fun h hs ho => C7 (A := qe.1) hs (AW l) rfl (DQ.2 rfl)) H2) ?_
  refine zs rfl <| zn <| AG <| zg <| zm rfl <| zv (CG rfl rfl) <| zn <| GR rfl (AF) ?_
  refine zg <| zm rfl <| zs rfl <| zn <| zq <| zr <| ?_
  exact zz rfl rfl fun w' H' => ⟨rfl, by show AH D w w' (if (12 : Int) = 0 then _ else []); rw [if_neg AF]; exact H'.AK (AD.nil _)⟩
 have hc : EC m s l = (11, s) := by unfold EC; rw [hed, if_neg (fun h => h rfl), if_pos hok]
 rw [hc]
 refine zk <| zg <| zm rfl <| CQ (σ := Option Addr × Nat) Tryz.call59 rfl rfl (fun w1 => zu fun D' hold _ _ => cK D' w1 _ l hl32 hok (hold _ HA)) ?_
 intro qe
 try rw [List.nil_append]
 refine zm rfl <| zx rfl rfl <| zx rfl rfl <| zs rfl <| zs rfl <| AS <| zt <| AG <| zg <| zm rfl <| zv (CG rfl rfl) <| zn <| GR rfl (AF) ?_
 refine zg <| zm rfl <| zs rfl <| zn <| zq <| zr <| ?_
 exact zz rfl rfl fun w' H' => ⟨rfl, by show AH D w w' (if (11 : Int) = 0 then _ else []); rw [if_neg AF]; exact H'.AK (AD.nil _)⟩
end Go.Proofs.YtjlolpmmpafjeaaGreat
